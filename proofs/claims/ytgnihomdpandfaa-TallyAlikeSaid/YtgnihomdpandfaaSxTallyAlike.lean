/-
  TallyAlike tells true, for every input.
-/
import Derived.Test.YtgnihomdpandfaaSxTallyNum
import Derived.Test.YtgnihomdpandfaaSxZone2
namespace Go.Proofs.Ytgnihomdpandfaa.X
open Go Go.SX Go.RowKit
set_option linter.unusedVariables false
set_option linter.unusedSimpArgs false








/-- a count out of any number -/
def clF (M x : Int) : Int := if M < (if x < 0 then 0 else x) then M else (if x < 0 then 0 else x)
theorem clF_rng {M x : Int} (h : 0 ≤ M) : 0 ≤ clF M x ∧ clF M x ≤ M := by unfold clF; (repeat' split) <;> omega
theorem inC_map {M : Int} (h : 0 ≤ M) (l : List Int) : inC M (l.map (clF M)) := by
  intro y hy
  obtain ⟨x, _, rfl⟩ := List.mem_map.1 hy
  exact clF_rng h
theorem map_snoc {M : Int} {L : List Int} {i : Int} (h0 : 0 ≤ i) (h : i < (L.length : Int)) : (L.take (i + 1).toNat).map (clF M) = (L.take i.toNat).map (clF M) ++ [clF M (L.getD i.toNat 0)] := by
  rw [take_snoc h0 h, List.map_append]; rfl
theorem getD_map {M : Int} {L : List Int} {i : Int} (h0 : 0 ≤ i) (h : i < (L.length : Int)) : (L.map (clF M)).getD i.toNat 0 = clF M (L.getD i.toNat 0) := by
  have hk : i.toNat < L.length := by omega
  simp [List.getD, hk]
theorem cls_pos {q v : Int} (h : 0 < q) (hv : v = 0) : clsN q v = 4 := by
  subst hv; unfold clsN; rw [if_pos h, if_pos (by omega), if_pos (by omega)]; rfl
theorem cls_zero {d v : Int} (hv : v = 0) : (clsZ d v = 0 ↔ d = 0) ∧ (0 < d → clsZ d v = 4) ∧ (d < 0 → clsZ d v = -4) := by
  have hp : d ≠ 0 → 0 < d * d := fun h => by
    rcases Int.lt_or_gt_of_ne h with h | h
    · exact Int.mul_pos_of_neg_of_neg h h
    · exact Int.mul_pos h h
  unfold clsZ
  by_cases h0 : d = 0
  · rw [if_pos h0]; exact ⟨⟨fun _ => h0, fun _ => rfl⟩, fun h => by omega, fun h => by omega⟩
  · rw [if_neg h0, cls_pos (hp h0) hv]
    refine ⟨⟨fun h => ?_, fun h => absurd h h0⟩, fun h => ?_, fun h => ?_⟩
    · split at h <;> omega
    · rw [if_neg (by omega)]
    · rw [if_pos h]
/-- where nothing was counted, or all units were -/
theorem alike_end {s n u k : Int} (hs : 1 ≤ s) (hn : 1 ≤ n) : (u = 0 → (clsZ (pDev 2 s n u k) (pVar 2 s n u) = 0 ↔ k = 0) ∧ (0 ≤ k → ¬ k = 0 → clsZ (pDev 2 s n u k) (pVar 2 s n u) = 4)) ∧ (u = n * s → (clsZ (pDev 2 s n u k) (pVar 2 s n u) = 0 ↔ k = s) ∧ (k ≤ s → ¬ k = s → clsZ (pDev 2 s n u k) (pVar 2 s n u) = -4)) := by
  have h1 : 1 ≤ n * s := Int.mul_le_mul (a := 1) (b := 1) hn hs (by omega) (by omega)
  have e1 : pDev 2 s n u k = k * (n * s) - u * s := by unfold pDev; rw [if_neg (by omega)]
  have e2 : pVar 2 s n u = u * (n * s - u) * s := by unfold pVar; rw [if_neg (by omega)]
  rw [e1, e2]
  refine ⟨fun hu => ?_, fun hu => ?_⟩
  · subst hu
    have z : (0 : Int) * (n * s - 0) * s = 0 := by rw [Int.zero_mul, Int.zero_mul]
    obtain ⟨c1, c2, c3⟩ := cls_zero (d := k * (n * s) - 0 * s) z
    have e : k * (n * s) - 0 * s = k * (n * s) := by rw [Int.zero_mul, Int.sub_zero]
    rw [e] at c1 c2 c3 ⊢
    refine ⟨c1.trans ?_, fun h0 h => c2 (Int.mul_pos (by omega) (by omega))⟩
    rw [Int.mul_eq_zero]
    omega
  · have z : u * (n * s - u) * s = 0 := by rw [hu, Int.sub_self, Int.mul_zero, Int.zero_mul]
    have e : k * (n * s) - u * s = (k - s) * (n * s) := by rw [hu, Int.sub_mul, Int.mul_comm s (n * s)]
    obtain ⟨c1, c2, c3⟩ := cls_zero (d := k * (n * s) - u * s) z
    rw [e] at c1 c2 c3 ⊢
    refine ⟨c1.trans ?_, fun h0 h => c3 (Int.mul_neg_of_neg_of_pos (by omega) (by omega))⟩
    rw [Int.mul_eq_zero]
    omega
theorem inI_map {M : Int} (h : 0 ≤ M) (hM : M ≤ 1000000) (l : List Int) : InI (l.map (clF M)) := inC_I hM (inC_map h l)
def ltalike_sp : SpecSh := { args := [(.int .i64 (.z 0)), (.lst 0), (.int .i64 (.z 0))], res := (.bool .f), sh := [.b] }
set_option maxRecDepth 100000 in
def ltalike_tree : Tree :=
.lett (.rem (.v 0) (.z 1000)) <|
.lett (.add (.v 3) (.z 1000)) <|
.lett (.mod (.v 4) (.z 1000)) <|
.lett (.add (.z 1) (.v 5)) <|
.call 38 [.i (some (2, 5)), .i (some (1, 1000)), .i (some (0, 0)), .i (some (0, 0)), .i (some (0, 0))] [.i (.z 2), .i (.v 6)] <|
.lett (.len 1) <|
.lett (.ite (.cmp .lt (.z 25) (.v 12)) (.z 25) (.v 12)) <|
.ite (.cmp .le (.v 13) (.v 12)) (.letl (.sub 1 (.z 0) (.v 13)) <|
.lett (.len 14) <|
.loop [.i (some (0, 25)), .i (some (2, 5)), .i (some (1, 1000)), .i (some (0, 25)), .i (some (0, 25000000)), .l] [.i (.z 0), .i (.v 7), .i (.v 8), .i (.v 9), .i (.v 10), .l (.nil)] <|
.ite (.cmp .lt (.v 16) (.v 15)) (.lett (.nth 14 (.v 16)) <|
.lett (.ite (.cmp .lt (.v 22) (.z 0)) (.z 0) (.v 22)) <|
.lett (.ite (.cmp .lt (.v 6) (.v 23)) (.v 6) (.v 23)) <|
.call 39 [.i (some (2, 5)), .i (some (1, 1000)), .i (some (0, 25)), .i (some (0, 25000000)), .i (some (0, 0))] [.i (.v 17), .i (.v 18), .i (.v 19), .i (.v 20), .i (.v 24)] <|
.lett (.len 21) <|
.ite (.cmp .le (.v 30) (.z 100000)) (.letl (.app 21 [.v 24]) <|
.lett (.add (.v 16) (.z 1)) <|
.again 0 [.i (.v 32), .i (.v 25), .i (.v 26), .i (.v 27), .i (.v 28), .l (.v 31)]) <|
.bad 113) <|
.lett (.rem (.v 0) (.z 1000)) <|
.lett (.add (.v 22) (.z 1000)) <|
.lett (.mod (.v 23) (.z 1000)) <|
.lett (.add (.z 1) (.v 24)) <|
.call 38 [.i (some (2, 5)), .i (some (1, 1000)), .i (some (0, 0)), .i (some (0, 0)), .i (some (0, 0))] [.i (.z 3), .i (.v 25)] <|
.lett (.ite (.cmp .lt (.z 25) (.v 12)) (.z 25) (.v 12)) <|
.ite (.cmp .le (.v 31) (.v 12)) (.letl (.sub 1 (.z 0) (.v 31)) <|
.lett (.len 32) <|
.loop [.i (some (0, 25)), .i (some (2, 5)), .i (some (1, 1000)), .i (some (0, 25)), .i (some (0, 25000000)), .l] [.i (.z 0), .i (.v 26), .i (.v 27), .i (.v 28), .i (.v 29), .l (.nil)] <|
.ite (.cmp .lt (.v 34) (.v 33)) (.lett (.nth 32 (.v 34)) <|
.lett (.ite (.cmp .lt (.v 40) (.z 0)) (.z 0) (.v 40)) <|
.lett (.ite (.cmp .lt (.v 25) (.v 41)) (.v 25) (.v 41)) <|
.call 39 [.i (some (2, 5)), .i (some (1, 1000)), .i (some (0, 25)), .i (some (0, 25000000)), .i (some (0, 0))] [.i (.v 35), .i (.v 36), .i (.v 37), .i (.v 38), .i (.v 42)] <|
.lett (.len 39) <|
.ite (.cmp .le (.v 48) (.z 100000)) (.letl (.app 39 [.v 42]) <|
.lett (.add (.v 34) (.z 1)) <|
.again 1 [.i (.v 50), .i (.v 43), .i (.v 44), .i (.v 45), .i (.v 46), .l (.v 49)]) <|
.bad 113) <|
.lett (.rem (.v 0) (.z 1000)) <|
.lett (.add (.v 40) (.z 1000)) <|
.lett (.mod (.v 41) (.z 1000)) <|
.lett (.add (.z 1) (.v 42)) <|
.call 38 [.i (some (2, 5)), .i (some (1, 1000)), .i (some (0, 0)), .i (some (0, 0)), .i (some (0, 0))] [.i (.z 4), .i (.z 1)] <|
.lett (.ite (.cmp .lt (.z 25) (.v 12)) (.z 25) (.v 12)) <|
.ite (.cmp .le (.v 49) (.v 12)) (.letl (.sub 1 (.z 0) (.v 49)) <|
.lett (.len 50) <|
.loop [.i (some (0, 25)), .i (some (2, 5)), .i (some (1, 1000)), .i (some (0, 25)), .i (some (0, 25000000)), .l] [.i (.z 0), .i (.v 44), .i (.v 45), .i (.v 46), .i (.v 47), .l (.nil)] <|
.ite (.cmp .lt (.v 52) (.v 51)) (.lett (.nth 50 (.v 52)) <|
.lett (.ite (.cmp .lt (.v 58) (.z 0)) (.z 0) (.v 58)) <|
.lett (.ite (.cmp .lt (.z 1000000) (.v 59)) (.z 1000000) (.v 59)) <|
.call 39 [.i (some (2, 5)), .i (some (1, 1000)), .i (some (0, 25)), .i (some (0, 25000000)), .i (some (0, 0))] [.i (.v 53), .i (.v 54), .i (.v 55), .i (.v 56), .i (.v 60)] <|
.lett (.len 57) <|
.ite (.cmp .le (.v 66) (.z 100000)) (.letl (.app 57 [.v 60]) <|
.lett (.add (.v 52) (.z 1)) <|
.again 2 [.i (.v 68), .i (.v 61), .i (.v 62), .i (.v 63), .i (.v 64), .l (.v 67)]) <|
.bad 113) <|
.lett (.rem (.v 0) (.z 1000)) <|
.lett (.add (.v 58) (.z 1000)) <|
.lett (.mod (.v 59) (.z 1000)) <|
.lett (.add (.z 1) (.v 60)) <|
.call 38 [.i (some (2, 5)), .i (some (1, 1000)), .i (some (0, 0)), .i (some (0, 0)), .i (some (0, 0))] [.i (.z 5), .i (.v 61)] <|
.lett (.ite (.cmp .lt (.z 25) (.v 12)) (.z 25) (.v 12)) <|
.ite (.cmp .le (.v 67) (.v 12)) (.letl (.sub 1 (.z 0) (.v 67)) <|
.lett (.len 68) <|
.loop [.i (some (0, 25)), .i (some (2, 5)), .i (some (1, 1000)), .i (some (0, 25)), .i (some (0, 25000000)), .l] [.i (.z 0), .i (.v 62), .i (.v 63), .i (.v 64), .i (.v 65), .l (.nil)] <|
.ite (.cmp .lt (.v 70) (.v 69)) (.lett (.nth 68 (.v 70)) <|
.lett (.ite (.cmp .lt (.v 76) (.z 0)) (.z 0) (.v 76)) <|
.lett (.ite (.cmp .lt (.z 1000000) (.v 77)) (.z 1000000) (.v 77)) <|
.call 39 [.i (some (2, 5)), .i (some (1, 1000)), .i (some (0, 25)), .i (some (0, 25000000)), .i (some (0, 0))] [.i (.v 71), .i (.v 72), .i (.v 73), .i (.v 74), .i (.v 78)] <|
.lett (.len 75) <|
.ite (.cmp .le (.v 84) (.z 100000)) (.letl (.app 75 [.v 78]) <|
.lett (.add (.v 70) (.z 1)) <|
.again 3 [.i (.v 86), .i (.v 79), .i (.v 80), .i (.v 81), .i (.v 82), .l (.v 85)]) <|
.bad 113) <|
.call 12 [.b] [] <|
.ite (.not (.v 76)) (.ret (.bool .f)) <|
.lett (.ite (.cmp .lt (.v 2) (.z 0)) (.z 0) (.v 2)) <|
.lett (.ite (.cmp .lt (.v 18) (.v 77)) (.v 18) (.v 77)) <|
.lett (.ite (.cmp .lt (.v 2) (.z 0)) (.z 0) (.v 2)) <|
.lett (.ite (.cmp .lt (.z 1000000) (.v 79)) (.z 1000000) (.v 79)) <|
.call 13 [.i (some ((-9223372036854775808), 9223372036854775807)), .i (some ((-9223372036854775808), 9223372036854775807)), .i (some ((-9223372036854775808), 9223372036854775807)), .i (some (0, 18446744073709551615)), .i (some (0, 18446744073709551615)), .i (some ((-9223372036854775808), 9223372036854775807))] [.i (.v 17), .i (.v 18), .i (.v 19), .i (.v 20), .i (.v 78)] <|
.call 13 [.i (some ((-9223372036854775808), 9223372036854775807)), .i (some ((-9223372036854775808), 9223372036854775807)), .i (some ((-9223372036854775808), 9223372036854775807)), .i (some (0, 18446744073709551615)), .i (some (0, 18446744073709551615)), .i (some ((-9223372036854775808), 9223372036854775807))] [.i (.v 35), .i (.v 36), .i (.v 37), .i (.v 38), .i (.v 78)] <|
.call 13 [.i (some ((-9223372036854775808), 9223372036854775807)), .i (some ((-9223372036854775808), 9223372036854775807)), .i (some ((-9223372036854775808), 9223372036854775807)), .i (some (0, 18446744073709551615)), .i (some (0, 18446744073709551615)), .i (some ((-9223372036854775808), 9223372036854775807))] [.i (.v 53), .i (.v 54), .i (.v 55), .i (.v 56), .i (.v 80)] <|
.call 13 [.i (some ((-9223372036854775808), 9223372036854775807)), .i (some ((-9223372036854775808), 9223372036854775807)), .i (some ((-9223372036854775808), 9223372036854775807)), .i (some (0, 18446744073709551615)), .i (some (0, 18446744073709551615)), .i (some ((-9223372036854775808), 9223372036854775807))] [.i (.v 71), .i (.v 72), .i (.v 73), .i (.v 74), .i (.v 80)] <|
.lett (.len 21) <|
.ite (.cmp .eq (.v 105) (.z 0)) (.ite (.cmp .eq (.v 86) (.z 12)) (.ite (.cmp .eq (.v 92) (.z 12)) (.ite (.cmp .eq (.v 98) (.z 12)) (.ret (.bool (.cmp .eq (.v 104) (.z 12)))) <|
.ret (.bool .f)) <|
.ret (.bool .f)) <|
.ret (.bool .f)) <|
.loop [.i (some (0, 25)), .i (some (0, 25000000))] [.i (.z 0), .i (.z 0)] <|
.ite (.cmp .lt (.v 106) (.v 105)) (.lett (.nth 21 (.v 106)) <|
.lett (.len 57) <|
.ite (.cmp .lt (.v 106) (.v 109)) (.lett (.nth 57 (.v 106)) <|
.ite (.not (.cmp .eq (.v 108) (.v 110))) (.lett (.nth 57 (.v 106)) <|
.ite (.cmp .le (.v 111) (.v 18)) (.ret (.bool .f)) <|
.lett (.addw .i64 (.v 107) (.v 108)) <|
.lett (.add (.v 106) (.z 1)) <|
.again 4 [.i (.v 113), .i (.v 112)]) <|
.lett (.addw .i64 (.v 107) (.v 108)) <|
.lett (.add (.v 106) (.z 1)) <|
.again 4 [.i (.v 112), .i (.v 111)]) <|
.bad 35) <|
.call 21 [.i (some ((-4), 4)), .i (some (0, 0))] [.i (.v 83), .i (.v 84), .i (.v 85)] <|
.call 21 [.i (some ((-4), 4)), .i (some (0, 0))] [.i (.v 89), .i (.v 90), .i (.v 91)] <|
.call 21 [.i (some ((-4), 4)), .i (some (0, 0))] [.i (.v 95), .i (.v 96), .i (.v 97)] <|
.call 21 [.i (some ((-4), 4)), .i (some (0, 0))] [.i (.v 101), .i (.v 102), .i (.v 103)] <|
.ite (.not (.cmp .eq (.v 86) (.z 0))) (.ret (.bool .f)) <|
.ite (.not (.cmp .eq (.v 92) (.z 0))) (.ret (.bool .f)) <|
.ite (.not (.cmp .eq (.v 98) (.z 0))) (.ret (.bool .f)) <|
.ite (.not (.cmp .eq (.v 104) (.z 0))) (.ret (.bool .f)) <|
.ite (.not (.cmp .eq (.v 108) (.v 110))) (.ret (.bool .f)) <|
.ite (.not (.cmp .eq (.v 112) (.v 114))) (.ret (.bool .f)) <|
.ite (.cmp .eq (.v 107) (.z 0)) (.ite (.eqv (.cmp .eq (.v 108) (.z 0)) (.cmp .eq (.v 78) (.z 0))) (.ite (.cmp .eq (.v 78) (.z 0)) (.ret (.bool .t)) <|
.ret (.bool (.cmp .eq (.v 108) (.z 4)))) <|
.ret (.bool .f)) <|
.lett (.mul (.v 105) (.v 18)) <|
.ite (.cmp .eq (.v 107) (.v 116)) (.ite (.eqv (.cmp .eq (.v 108) (.z 0)) (.cmp .eq (.v 78) (.v 18))) (.ite (.cmp .eq (.v 78) (.v 18)) (.ret (.bool .t)) <|
.ret (.bool (.cmp .eq (.v 108) (.z (-4))))) <|
.ret (.bool .f)) <|
.ret (.bool .t)) <|
.bad 120) <|
.bad 120) <|
.bad 120) <|
.bad 120
noncomputable def ltalike_cx : Ctx := { tys := tys, fns := fns, sps := [(38, tnew_sp), (39, ttake_sp), (13, tpoint_sp), (12, talive_sp), (21, zClass_sp)], anns := [((11, 12), { slots := [47], cells := [], ivs := [some (0, 25), some (2, 5), some (1, 1000), some (0, 25), some (0, 25000000)], lsts := [12], elem := 3, pc := [(9, 0), (9, 1), (9, 2), (9, 3)] }), ((6, 17), { slots := [137, 29], cells := [], ivs := [some (0, 25), some (0, 25000000)] })], trys := [] }
def ltalike_ivs : List (Option (Int × Int)) := [some ((-9223372036854775808), 9223372036854775807), none, some ((-9223372036854775808), 9223372036854775807)]
set_option maxRecDepth 100000 in
theorem ltalike_walk : runFn ltalike_cx 3000 6 Try.f6 ltalike_sp.args ltalike_ivs = ltalike_tree := by kernel_rfl
noncomputable def ltalike_M : Nat → SpecSem
  | 38 => tnew_sem
  | 39 => ttake_sem
  | 13 => tpoint_sem
  | 12 => talive_sem
  | 21 => zClass_sem
  | _ => noSem
theorem ltalike_M38 : ltalike_M 38 = tnew_sem := rfl
theorem ltalike_M39 : ltalike_M 39 = ttake_sem := rfl
theorem ltalike_M13 : ltalike_M 13 = tpoint_sem := rfl
theorem ltalike_M12 : ltalike_M 12 = talive_sem := rfl
theorem ltalike_M21 : ltalike_M 21 = zClass_sem := rfl
theorem ltalike_cxok : CxOK Try.prog ltalike_cx ltalike_M := ⟨tysOK, fnsOK, spCons tnew_ok <| spCons ttake_ok <| spCons tpoint_ok <| spCons talive_ok <| spCons zClass_ok <| fun _ _ h => spNil h, mixedOK, fun _ _ h => trNil h⟩
set_option maxRecDepth 100000 in
set_option maxHeartbeats 8000000 in
theorem ltalike_den (R RP : Value → Prop) (F : Ex → St → Js → Env → Prop) (x0 : Int) (x1 : List Int) (x2 : Int) : Tree.den ltalike_M R RP F ltalike_tree [] [(.i x0), (.l x1), (.i x2)] = (
  ∀ x3 : Int, x3 = (Int.tmod x0 (1000 : Int)) →
∀ x4 : Int, x4 = (x3 + (1000 : Int)) →
∀ x5 : Int, x5 = (x4 % (1000 : Int)) →
∀ x6 : Int, x6 = ((1 : Int) + x5) →
(tnew_sem.pre [(.i (2 : Int)), (.i x6)]) ∧ (
∀ x7 : Int, x7 = (Cv.int (Env.get (tnew_sem.out [(.i (2 : Int)), (.i x6)]) 0)) → (2 : Int) ≤ x7 → x7 ≤ (5 : Int) →
∀ x8 : Int, x8 = (Cv.int (Env.get (tnew_sem.out [(.i (2 : Int)), (.i x6)]) 1)) → (1 : Int) ≤ x8 → x8 ≤ (1000 : Int) →
∀ x9 : Int, x9 = (Cv.int (Env.get (tnew_sem.out [(.i (2 : Int)), (.i x6)]) 2)) → (0 : Int) ≤ x9 → x9 ≤ (0 : Int) →
∀ x10 : Int, x10 = (Cv.int (Env.get (tnew_sem.out [(.i (2 : Int)), (.i x6)]) 3)) → (0 : Int) ≤ x10 → x10 ≤ (0 : Int) →
∀ x11 : Int, x11 = (Cv.int (Env.get (tnew_sem.out [(.i (2 : Int)), (.i x6)]) 4)) → (0 : Int) ≤ x11 → x11 ≤ (0 : Int) →
∀ x12 : Int, x12 = ((List.length x1 : Int)) →
∀ x13 : Int, x13 = (if (Cmp.den .lt (25 : Int) x12) = true then (25 : Int) else x12) →
((Cmp.den .le x13 x12) = true → ∀ x14 : List Int, x14 = (List.take (Int.toNat x13 - Int.toNat (0 : Int)) (List.drop (Int.toNat (0 : Int)) x1)) →
∀ x15 : Int, x15 = ((List.length x14 : Int)) →
∃ (I0 : List Cv → Prop) (mu0 : List Cv → Nat), Fits [.i (some ((0), (25))), .i (some ((2), (5))), .i (some ((1), (1000))), .i (some ((0), (25))), .i (some ((0), (25000000))), .l] [(.i (0 : Int)), (.i x7), (.i x8), (.i x9), (.i x10), (.l (([] : List Int)))] ∧ I0 [(.i (0 : Int)), (.i x7), (.i x8), (.i x9), (.i x10), (.l (([] : List Int)))] ∧ (
∀ x16 : Int, (0 : Int) ≤ x16 → x16 ≤ (25 : Int) → ∀ x17 : Int, (2 : Int) ≤ x17 → x17 ≤ (5 : Int) → ∀ x18 : Int, (1 : Int) ≤ x18 → x18 ≤ (1000 : Int) → ∀ x19 : Int, (0 : Int) ≤ x19 → x19 ≤ (25 : Int) → ∀ x20 : Int, (0 : Int) ≤ x20 → x20 ≤ (25000000 : Int) → ∀ x21 : List Int, InI x21 → I0 [.i x16, .i x17, .i x18, .i x19, .i x20, .l x21] →
((Cmp.den .lt x16 x15) = true → ∀ x22 : Int, x22 = (List.getD x14 (Int.toNat x16) 0) →
∀ x23 : Int, x23 = (if (Cmp.den .lt x22 (0 : Int)) = true then (0 : Int) else x22) →
∀ x24 : Int, x24 = (if (Cmp.den .lt x6 x23) = true then x6 else x23) →
(ttake_sem.pre [(.i x17), (.i x18), (.i x19), (.i x20), (.i x24)]) ∧ (
∀ x25 : Int, x25 = (Cv.int (Env.get (ttake_sem.out [(.i x17), (.i x18), (.i x19), (.i x20), (.i x24)]) 0)) → (2 : Int) ≤ x25 → x25 ≤ (5 : Int) →
∀ x26 : Int, x26 = (Cv.int (Env.get (ttake_sem.out [(.i x17), (.i x18), (.i x19), (.i x20), (.i x24)]) 1)) → (1 : Int) ≤ x26 → x26 ≤ (1000 : Int) →
∀ x27 : Int, x27 = (Cv.int (Env.get (ttake_sem.out [(.i x17), (.i x18), (.i x19), (.i x20), (.i x24)]) 2)) → (0 : Int) ≤ x27 → x27 ≤ (25 : Int) →
∀ x28 : Int, x28 = (Cv.int (Env.get (ttake_sem.out [(.i x17), (.i x18), (.i x19), (.i x20), (.i x24)]) 3)) → (0 : Int) ≤ x28 → x28 ≤ (25000000 : Int) →
∀ x29 : Int, x29 = (Cv.int (Env.get (ttake_sem.out [(.i x17), (.i x18), (.i x19), (.i x20), (.i x24)]) 4)) → (0 : Int) ≤ x29 → x29 ≤ (0 : Int) →
∀ x30 : Int, x30 = ((List.length x21 : Int)) →
((Cmp.den .le x30 (100000 : Int)) = true → ∀ x31 : List Int, x31 = (x21 ++ ([x24] : List Int)) →
∀ x32 : Int, x32 = (x16 + (1 : Int)) →
Fits [.i (some ((0), (25))), .i (some ((2), (5))), .i (some ((1), (1000))), .i (some ((0), (25))), .i (some ((0), (25000000))), .l] [(.i x32), (.i x25), (.i x26), (.i x27), (.i x28), (.l (x31))] ∧ I0 [(.i x32), (.i x25), (.i x26), (.i x27), (.i x28), (.l (x31))] ∧ mu0 [(.i x32), (.i x25), (.i x26), (.i x27), (.i x28), (.l (x31))] < mu0 [.i x16, .i x17, .i x18, .i x19, .i x20, .l x21]) ∧ ((Cmp.den .le x30 (100000 : Int)) = false → False))) ∧ ((Cmp.den .lt x16 x15) = false → ∀ x22 : Int, x22 = (Int.tmod x0 (1000 : Int)) →
∀ x23 : Int, x23 = (x22 + (1000 : Int)) →
∀ x24 : Int, x24 = (x23 % (1000 : Int)) →
∀ x25 : Int, x25 = ((1 : Int) + x24) →
(tnew_sem.pre [(.i (3 : Int)), (.i x25)]) ∧ (
∀ x26 : Int, x26 = (Cv.int (Env.get (tnew_sem.out [(.i (3 : Int)), (.i x25)]) 0)) → (2 : Int) ≤ x26 → x26 ≤ (5 : Int) →
∀ x27 : Int, x27 = (Cv.int (Env.get (tnew_sem.out [(.i (3 : Int)), (.i x25)]) 1)) → (1 : Int) ≤ x27 → x27 ≤ (1000 : Int) →
∀ x28 : Int, x28 = (Cv.int (Env.get (tnew_sem.out [(.i (3 : Int)), (.i x25)]) 2)) → (0 : Int) ≤ x28 → x28 ≤ (0 : Int) →
∀ x29 : Int, x29 = (Cv.int (Env.get (tnew_sem.out [(.i (3 : Int)), (.i x25)]) 3)) → (0 : Int) ≤ x29 → x29 ≤ (0 : Int) →
∀ x30 : Int, x30 = (Cv.int (Env.get (tnew_sem.out [(.i (3 : Int)), (.i x25)]) 4)) → (0 : Int) ≤ x30 → x30 ≤ (0 : Int) →
∀ x31 : Int, x31 = (if (Cmp.den .lt (25 : Int) x12) = true then (25 : Int) else x12) →
((Cmp.den .le x31 x12) = true → ∀ x32 : List Int, x32 = (List.take (Int.toNat x31 - Int.toNat (0 : Int)) (List.drop (Int.toNat (0 : Int)) x1)) →
∀ x33 : Int, x33 = ((List.length x32 : Int)) →
∃ (I1 : List Cv → Prop) (mu1 : List Cv → Nat), Fits [.i (some ((0), (25))), .i (some ((2), (5))), .i (some ((1), (1000))), .i (some ((0), (25))), .i (some ((0), (25000000))), .l] [(.i (0 : Int)), (.i x26), (.i x27), (.i x28), (.i x29), (.l (([] : List Int)))] ∧ I1 [(.i (0 : Int)), (.i x26), (.i x27), (.i x28), (.i x29), (.l (([] : List Int)))] ∧ (
∀ x34 : Int, (0 : Int) ≤ x34 → x34 ≤ (25 : Int) → ∀ x35 : Int, (2 : Int) ≤ x35 → x35 ≤ (5 : Int) → ∀ x36 : Int, (1 : Int) ≤ x36 → x36 ≤ (1000 : Int) → ∀ x37 : Int, (0 : Int) ≤ x37 → x37 ≤ (25 : Int) → ∀ x38 : Int, (0 : Int) ≤ x38 → x38 ≤ (25000000 : Int) → ∀ x39 : List Int, InI x39 → I1 [.i x34, .i x35, .i x36, .i x37, .i x38, .l x39] →
((Cmp.den .lt x34 x33) = true → ∀ x40 : Int, x40 = (List.getD x32 (Int.toNat x34) 0) →
∀ x41 : Int, x41 = (if (Cmp.den .lt x40 (0 : Int)) = true then (0 : Int) else x40) →
∀ x42 : Int, x42 = (if (Cmp.den .lt x25 x41) = true then x25 else x41) →
(ttake_sem.pre [(.i x35), (.i x36), (.i x37), (.i x38), (.i x42)]) ∧ (
∀ x43 : Int, x43 = (Cv.int (Env.get (ttake_sem.out [(.i x35), (.i x36), (.i x37), (.i x38), (.i x42)]) 0)) → (2 : Int) ≤ x43 → x43 ≤ (5 : Int) →
∀ x44 : Int, x44 = (Cv.int (Env.get (ttake_sem.out [(.i x35), (.i x36), (.i x37), (.i x38), (.i x42)]) 1)) → (1 : Int) ≤ x44 → x44 ≤ (1000 : Int) →
∀ x45 : Int, x45 = (Cv.int (Env.get (ttake_sem.out [(.i x35), (.i x36), (.i x37), (.i x38), (.i x42)]) 2)) → (0 : Int) ≤ x45 → x45 ≤ (25 : Int) →
∀ x46 : Int, x46 = (Cv.int (Env.get (ttake_sem.out [(.i x35), (.i x36), (.i x37), (.i x38), (.i x42)]) 3)) → (0 : Int) ≤ x46 → x46 ≤ (25000000 : Int) →
∀ x47 : Int, x47 = (Cv.int (Env.get (ttake_sem.out [(.i x35), (.i x36), (.i x37), (.i x38), (.i x42)]) 4)) → (0 : Int) ≤ x47 → x47 ≤ (0 : Int) →
∀ x48 : Int, x48 = ((List.length x39 : Int)) →
((Cmp.den .le x48 (100000 : Int)) = true → ∀ x49 : List Int, x49 = (x39 ++ ([x42] : List Int)) →
∀ x50 : Int, x50 = (x34 + (1 : Int)) →
Fits [.i (some ((0), (25))), .i (some ((2), (5))), .i (some ((1), (1000))), .i (some ((0), (25))), .i (some ((0), (25000000))), .l] [(.i x50), (.i x43), (.i x44), (.i x45), (.i x46), (.l (x49))] ∧ I1 [(.i x50), (.i x43), (.i x44), (.i x45), (.i x46), (.l (x49))] ∧ mu1 [(.i x50), (.i x43), (.i x44), (.i x45), (.i x46), (.l (x49))] < mu1 [.i x34, .i x35, .i x36, .i x37, .i x38, .l x39]) ∧ ((Cmp.den .le x48 (100000 : Int)) = false → False))) ∧ ((Cmp.den .lt x34 x33) = false → ∀ x40 : Int, x40 = (Int.tmod x0 (1000 : Int)) →
∀ x41 : Int, x41 = (x40 + (1000 : Int)) →
∀ x42 : Int, x42 = (x41 % (1000 : Int)) →
∀ x43 : Int, x43 = ((1 : Int) + x42) →
(tnew_sem.pre [(.i (4 : Int)), (.i (1 : Int))]) ∧ (
∀ x44 : Int, x44 = (Cv.int (Env.get (tnew_sem.out [(.i (4 : Int)), (.i (1 : Int))]) 0)) → (2 : Int) ≤ x44 → x44 ≤ (5 : Int) →
∀ x45 : Int, x45 = (Cv.int (Env.get (tnew_sem.out [(.i (4 : Int)), (.i (1 : Int))]) 1)) → (1 : Int) ≤ x45 → x45 ≤ (1000 : Int) →
∀ x46 : Int, x46 = (Cv.int (Env.get (tnew_sem.out [(.i (4 : Int)), (.i (1 : Int))]) 2)) → (0 : Int) ≤ x46 → x46 ≤ (0 : Int) →
∀ x47 : Int, x47 = (Cv.int (Env.get (tnew_sem.out [(.i (4 : Int)), (.i (1 : Int))]) 3)) → (0 : Int) ≤ x47 → x47 ≤ (0 : Int) →
∀ x48 : Int, x48 = (Cv.int (Env.get (tnew_sem.out [(.i (4 : Int)), (.i (1 : Int))]) 4)) → (0 : Int) ≤ x48 → x48 ≤ (0 : Int) →
∀ x49 : Int, x49 = (if (Cmp.den .lt (25 : Int) x12) = true then (25 : Int) else x12) →
((Cmp.den .le x49 x12) = true → ∀ x50 : List Int, x50 = (List.take (Int.toNat x49 - Int.toNat (0 : Int)) (List.drop (Int.toNat (0 : Int)) x1)) →
∀ x51 : Int, x51 = ((List.length x50 : Int)) →
∃ (I2 : List Cv → Prop) (mu2 : List Cv → Nat), Fits [.i (some ((0), (25))), .i (some ((2), (5))), .i (some ((1), (1000))), .i (some ((0), (25))), .i (some ((0), (25000000))), .l] [(.i (0 : Int)), (.i x44), (.i x45), (.i x46), (.i x47), (.l (([] : List Int)))] ∧ I2 [(.i (0 : Int)), (.i x44), (.i x45), (.i x46), (.i x47), (.l (([] : List Int)))] ∧ (
∀ x52 : Int, (0 : Int) ≤ x52 → x52 ≤ (25 : Int) → ∀ x53 : Int, (2 : Int) ≤ x53 → x53 ≤ (5 : Int) → ∀ x54 : Int, (1 : Int) ≤ x54 → x54 ≤ (1000 : Int) → ∀ x55 : Int, (0 : Int) ≤ x55 → x55 ≤ (25 : Int) → ∀ x56 : Int, (0 : Int) ≤ x56 → x56 ≤ (25000000 : Int) → ∀ x57 : List Int, InI x57 → I2 [.i x52, .i x53, .i x54, .i x55, .i x56, .l x57] →
((Cmp.den .lt x52 x51) = true → ∀ x58 : Int, x58 = (List.getD x50 (Int.toNat x52) 0) →
∀ x59 : Int, x59 = (if (Cmp.den .lt x58 (0 : Int)) = true then (0 : Int) else x58) →
∀ x60 : Int, x60 = (if (Cmp.den .lt (1000000 : Int) x59) = true then (1000000 : Int) else x59) →
(ttake_sem.pre [(.i x53), (.i x54), (.i x55), (.i x56), (.i x60)]) ∧ (
∀ x61 : Int, x61 = (Cv.int (Env.get (ttake_sem.out [(.i x53), (.i x54), (.i x55), (.i x56), (.i x60)]) 0)) → (2 : Int) ≤ x61 → x61 ≤ (5 : Int) →
∀ x62 : Int, x62 = (Cv.int (Env.get (ttake_sem.out [(.i x53), (.i x54), (.i x55), (.i x56), (.i x60)]) 1)) → (1 : Int) ≤ x62 → x62 ≤ (1000 : Int) →
∀ x63 : Int, x63 = (Cv.int (Env.get (ttake_sem.out [(.i x53), (.i x54), (.i x55), (.i x56), (.i x60)]) 2)) → (0 : Int) ≤ x63 → x63 ≤ (25 : Int) →
∀ x64 : Int, x64 = (Cv.int (Env.get (ttake_sem.out [(.i x53), (.i x54), (.i x55), (.i x56), (.i x60)]) 3)) → (0 : Int) ≤ x64 → x64 ≤ (25000000 : Int) →
∀ x65 : Int, x65 = (Cv.int (Env.get (ttake_sem.out [(.i x53), (.i x54), (.i x55), (.i x56), (.i x60)]) 4)) → (0 : Int) ≤ x65 → x65 ≤ (0 : Int) →
∀ x66 : Int, x66 = ((List.length x57 : Int)) →
((Cmp.den .le x66 (100000 : Int)) = true → ∀ x67 : List Int, x67 = (x57 ++ ([x60] : List Int)) →
∀ x68 : Int, x68 = (x52 + (1 : Int)) →
Fits [.i (some ((0), (25))), .i (some ((2), (5))), .i (some ((1), (1000))), .i (some ((0), (25))), .i (some ((0), (25000000))), .l] [(.i x68), (.i x61), (.i x62), (.i x63), (.i x64), (.l (x67))] ∧ I2 [(.i x68), (.i x61), (.i x62), (.i x63), (.i x64), (.l (x67))] ∧ mu2 [(.i x68), (.i x61), (.i x62), (.i x63), (.i x64), (.l (x67))] < mu2 [.i x52, .i x53, .i x54, .i x55, .i x56, .l x57]) ∧ ((Cmp.den .le x66 (100000 : Int)) = false → False))) ∧ ((Cmp.den .lt x52 x51) = false → ∀ x58 : Int, x58 = (Int.tmod x0 (1000 : Int)) →
∀ x59 : Int, x59 = (x58 + (1000 : Int)) →
∀ x60 : Int, x60 = (x59 % (1000 : Int)) →
∀ x61 : Int, x61 = ((1 : Int) + x60) →
(tnew_sem.pre [(.i (5 : Int)), (.i x61)]) ∧ (
∀ x62 : Int, x62 = (Cv.int (Env.get (tnew_sem.out [(.i (5 : Int)), (.i x61)]) 0)) → (2 : Int) ≤ x62 → x62 ≤ (5 : Int) →
∀ x63 : Int, x63 = (Cv.int (Env.get (tnew_sem.out [(.i (5 : Int)), (.i x61)]) 1)) → (1 : Int) ≤ x63 → x63 ≤ (1000 : Int) →
∀ x64 : Int, x64 = (Cv.int (Env.get (tnew_sem.out [(.i (5 : Int)), (.i x61)]) 2)) → (0 : Int) ≤ x64 → x64 ≤ (0 : Int) →
∀ x65 : Int, x65 = (Cv.int (Env.get (tnew_sem.out [(.i (5 : Int)), (.i x61)]) 3)) → (0 : Int) ≤ x65 → x65 ≤ (0 : Int) →
∀ x66 : Int, x66 = (Cv.int (Env.get (tnew_sem.out [(.i (5 : Int)), (.i x61)]) 4)) → (0 : Int) ≤ x66 → x66 ≤ (0 : Int) →
∀ x67 : Int, x67 = (if (Cmp.den .lt (25 : Int) x12) = true then (25 : Int) else x12) →
((Cmp.den .le x67 x12) = true → ∀ x68 : List Int, x68 = (List.take (Int.toNat x67 - Int.toNat (0 : Int)) (List.drop (Int.toNat (0 : Int)) x1)) →
∀ x69 : Int, x69 = ((List.length x68 : Int)) →
∃ (I3 : List Cv → Prop) (mu3 : List Cv → Nat), Fits [.i (some ((0), (25))), .i (some ((2), (5))), .i (some ((1), (1000))), .i (some ((0), (25))), .i (some ((0), (25000000))), .l] [(.i (0 : Int)), (.i x62), (.i x63), (.i x64), (.i x65), (.l (([] : List Int)))] ∧ I3 [(.i (0 : Int)), (.i x62), (.i x63), (.i x64), (.i x65), (.l (([] : List Int)))] ∧ (
∀ x70 : Int, (0 : Int) ≤ x70 → x70 ≤ (25 : Int) → ∀ x71 : Int, (2 : Int) ≤ x71 → x71 ≤ (5 : Int) → ∀ x72 : Int, (1 : Int) ≤ x72 → x72 ≤ (1000 : Int) → ∀ x73 : Int, (0 : Int) ≤ x73 → x73 ≤ (25 : Int) → ∀ x74 : Int, (0 : Int) ≤ x74 → x74 ≤ (25000000 : Int) → ∀ x75 : List Int, InI x75 → I3 [.i x70, .i x71, .i x72, .i x73, .i x74, .l x75] →
((Cmp.den .lt x70 x69) = true → ∀ x76 : Int, x76 = (List.getD x68 (Int.toNat x70) 0) →
∀ x77 : Int, x77 = (if (Cmp.den .lt x76 (0 : Int)) = true then (0 : Int) else x76) →
∀ x78 : Int, x78 = (if (Cmp.den .lt (1000000 : Int) x77) = true then (1000000 : Int) else x77) →
(ttake_sem.pre [(.i x71), (.i x72), (.i x73), (.i x74), (.i x78)]) ∧ (
∀ x79 : Int, x79 = (Cv.int (Env.get (ttake_sem.out [(.i x71), (.i x72), (.i x73), (.i x74), (.i x78)]) 0)) → (2 : Int) ≤ x79 → x79 ≤ (5 : Int) →
∀ x80 : Int, x80 = (Cv.int (Env.get (ttake_sem.out [(.i x71), (.i x72), (.i x73), (.i x74), (.i x78)]) 1)) → (1 : Int) ≤ x80 → x80 ≤ (1000 : Int) →
∀ x81 : Int, x81 = (Cv.int (Env.get (ttake_sem.out [(.i x71), (.i x72), (.i x73), (.i x74), (.i x78)]) 2)) → (0 : Int) ≤ x81 → x81 ≤ (25 : Int) →
∀ x82 : Int, x82 = (Cv.int (Env.get (ttake_sem.out [(.i x71), (.i x72), (.i x73), (.i x74), (.i x78)]) 3)) → (0 : Int) ≤ x82 → x82 ≤ (25000000 : Int) →
∀ x83 : Int, x83 = (Cv.int (Env.get (ttake_sem.out [(.i x71), (.i x72), (.i x73), (.i x74), (.i x78)]) 4)) → (0 : Int) ≤ x83 → x83 ≤ (0 : Int) →
∀ x84 : Int, x84 = ((List.length x75 : Int)) →
((Cmp.den .le x84 (100000 : Int)) = true → ∀ x85 : List Int, x85 = (x75 ++ ([x78] : List Int)) →
∀ x86 : Int, x86 = (x70 + (1 : Int)) →
Fits [.i (some ((0), (25))), .i (some ((2), (5))), .i (some ((1), (1000))), .i (some ((0), (25))), .i (some ((0), (25000000))), .l] [(.i x86), (.i x79), (.i x80), (.i x81), (.i x82), (.l (x85))] ∧ I3 [(.i x86), (.i x79), (.i x80), (.i x81), (.i x82), (.l (x85))] ∧ mu3 [(.i x86), (.i x79), (.i x80), (.i x81), (.i x82), (.l (x85))] < mu3 [.i x70, .i x71, .i x72, .i x73, .i x74, .l x75]) ∧ ((Cmp.den .le x84 (100000 : Int)) = false → False))) ∧ ((Cmp.den .lt x70 x69) = false → (talive_sem.pre []) ∧ (
((!(Cv.bool (Env.get (talive_sem.out []) 0))) = true → R (Value.bool false)) ∧ ((!(Cv.bool (Env.get (talive_sem.out []) 0))) = false → ∀ x77 : Int, x77 = (if (Cmp.den .lt x2 (0 : Int)) = true then (0 : Int) else x2) →
∀ x78 : Int, x78 = (if (Cmp.den .lt x18 x77) = true then x18 else x77) →
∀ x79 : Int, x79 = (if (Cmp.den .lt x2 (0 : Int)) = true then (0 : Int) else x2) →
∀ x80 : Int, x80 = (if (Cmp.den .lt (1000000 : Int) x79) = true then (1000000 : Int) else x79) →
(tpoint_sem.pre [(.i x17), (.i x18), (.i x19), (.i x20), (.i x78)]) ∧ (
∀ x81 : Int, x81 = (Cv.int (Env.get (tpoint_sem.out [(.i x17), (.i x18), (.i x19), (.i x20), (.i x78)]) 0)) → (-9223372036854775808 : Int) ≤ x81 → x81 ≤ (9223372036854775807 : Int) →
∀ x82 : Int, x82 = (Cv.int (Env.get (tpoint_sem.out [(.i x17), (.i x18), (.i x19), (.i x20), (.i x78)]) 1)) → (-9223372036854775808 : Int) ≤ x82 → x82 ≤ (9223372036854775807 : Int) →
∀ x83 : Int, x83 = (Cv.int (Env.get (tpoint_sem.out [(.i x17), (.i x18), (.i x19), (.i x20), (.i x78)]) 2)) → (-9223372036854775808 : Int) ≤ x83 → x83 ≤ (9223372036854775807 : Int) →
∀ x84 : Int, x84 = (Cv.int (Env.get (tpoint_sem.out [(.i x17), (.i x18), (.i x19), (.i x20), (.i x78)]) 3)) → (0 : Int) ≤ x84 → x84 ≤ (18446744073709551615 : Int) →
∀ x85 : Int, x85 = (Cv.int (Env.get (tpoint_sem.out [(.i x17), (.i x18), (.i x19), (.i x20), (.i x78)]) 4)) → (0 : Int) ≤ x85 → x85 ≤ (18446744073709551615 : Int) →
∀ x86 : Int, x86 = (Cv.int (Env.get (tpoint_sem.out [(.i x17), (.i x18), (.i x19), (.i x20), (.i x78)]) 5)) → (-9223372036854775808 : Int) ≤ x86 → x86 ≤ (9223372036854775807 : Int) →
(tpoint_sem.pre [(.i x35), (.i x36), (.i x37), (.i x38), (.i x78)]) ∧ (
∀ x87 : Int, x87 = (Cv.int (Env.get (tpoint_sem.out [(.i x35), (.i x36), (.i x37), (.i x38), (.i x78)]) 0)) → (-9223372036854775808 : Int) ≤ x87 → x87 ≤ (9223372036854775807 : Int) →
∀ x88 : Int, x88 = (Cv.int (Env.get (tpoint_sem.out [(.i x35), (.i x36), (.i x37), (.i x38), (.i x78)]) 1)) → (-9223372036854775808 : Int) ≤ x88 → x88 ≤ (9223372036854775807 : Int) →
∀ x89 : Int, x89 = (Cv.int (Env.get (tpoint_sem.out [(.i x35), (.i x36), (.i x37), (.i x38), (.i x78)]) 2)) → (-9223372036854775808 : Int) ≤ x89 → x89 ≤ (9223372036854775807 : Int) →
∀ x90 : Int, x90 = (Cv.int (Env.get (tpoint_sem.out [(.i x35), (.i x36), (.i x37), (.i x38), (.i x78)]) 3)) → (0 : Int) ≤ x90 → x90 ≤ (18446744073709551615 : Int) →
∀ x91 : Int, x91 = (Cv.int (Env.get (tpoint_sem.out [(.i x35), (.i x36), (.i x37), (.i x38), (.i x78)]) 4)) → (0 : Int) ≤ x91 → x91 ≤ (18446744073709551615 : Int) →
∀ x92 : Int, x92 = (Cv.int (Env.get (tpoint_sem.out [(.i x35), (.i x36), (.i x37), (.i x38), (.i x78)]) 5)) → (-9223372036854775808 : Int) ≤ x92 → x92 ≤ (9223372036854775807 : Int) →
(tpoint_sem.pre [(.i x53), (.i x54), (.i x55), (.i x56), (.i x80)]) ∧ (
∀ x93 : Int, x93 = (Cv.int (Env.get (tpoint_sem.out [(.i x53), (.i x54), (.i x55), (.i x56), (.i x80)]) 0)) → (-9223372036854775808 : Int) ≤ x93 → x93 ≤ (9223372036854775807 : Int) →
∀ x94 : Int, x94 = (Cv.int (Env.get (tpoint_sem.out [(.i x53), (.i x54), (.i x55), (.i x56), (.i x80)]) 1)) → (-9223372036854775808 : Int) ≤ x94 → x94 ≤ (9223372036854775807 : Int) →
∀ x95 : Int, x95 = (Cv.int (Env.get (tpoint_sem.out [(.i x53), (.i x54), (.i x55), (.i x56), (.i x80)]) 2)) → (-9223372036854775808 : Int) ≤ x95 → x95 ≤ (9223372036854775807 : Int) →
∀ x96 : Int, x96 = (Cv.int (Env.get (tpoint_sem.out [(.i x53), (.i x54), (.i x55), (.i x56), (.i x80)]) 3)) → (0 : Int) ≤ x96 → x96 ≤ (18446744073709551615 : Int) →
∀ x97 : Int, x97 = (Cv.int (Env.get (tpoint_sem.out [(.i x53), (.i x54), (.i x55), (.i x56), (.i x80)]) 4)) → (0 : Int) ≤ x97 → x97 ≤ (18446744073709551615 : Int) →
∀ x98 : Int, x98 = (Cv.int (Env.get (tpoint_sem.out [(.i x53), (.i x54), (.i x55), (.i x56), (.i x80)]) 5)) → (-9223372036854775808 : Int) ≤ x98 → x98 ≤ (9223372036854775807 : Int) →
(tpoint_sem.pre [(.i x71), (.i x72), (.i x73), (.i x74), (.i x80)]) ∧ (
∀ x99 : Int, x99 = (Cv.int (Env.get (tpoint_sem.out [(.i x71), (.i x72), (.i x73), (.i x74), (.i x80)]) 0)) → (-9223372036854775808 : Int) ≤ x99 → x99 ≤ (9223372036854775807 : Int) →
∀ x100 : Int, x100 = (Cv.int (Env.get (tpoint_sem.out [(.i x71), (.i x72), (.i x73), (.i x74), (.i x80)]) 1)) → (-9223372036854775808 : Int) ≤ x100 → x100 ≤ (9223372036854775807 : Int) →
∀ x101 : Int, x101 = (Cv.int (Env.get (tpoint_sem.out [(.i x71), (.i x72), (.i x73), (.i x74), (.i x80)]) 2)) → (-9223372036854775808 : Int) ≤ x101 → x101 ≤ (9223372036854775807 : Int) →
∀ x102 : Int, x102 = (Cv.int (Env.get (tpoint_sem.out [(.i x71), (.i x72), (.i x73), (.i x74), (.i x80)]) 3)) → (0 : Int) ≤ x102 → x102 ≤ (18446744073709551615 : Int) →
∀ x103 : Int, x103 = (Cv.int (Env.get (tpoint_sem.out [(.i x71), (.i x72), (.i x73), (.i x74), (.i x80)]) 4)) → (0 : Int) ≤ x103 → x103 ≤ (18446744073709551615 : Int) →
∀ x104 : Int, x104 = (Cv.int (Env.get (tpoint_sem.out [(.i x71), (.i x72), (.i x73), (.i x74), (.i x80)]) 5)) → (-9223372036854775808 : Int) ≤ x104 → x104 ≤ (9223372036854775807 : Int) →
∀ x105 : Int, x105 = ((List.length x21 : Int)) →
((Cmp.den .eq x105 (0 : Int)) = true → ((Cmp.den .eq x86 (12 : Int)) = true → ((Cmp.den .eq x92 (12 : Int)) = true → ((Cmp.den .eq x98 (12 : Int)) = true → R (Value.bool (Cmp.den .eq x104 (12 : Int)))) ∧ ((Cmp.den .eq x98 (12 : Int)) = false → R (Value.bool false))) ∧ ((Cmp.den .eq x92 (12 : Int)) = false → R (Value.bool false))) ∧ ((Cmp.den .eq x86 (12 : Int)) = false → R (Value.bool false))) ∧ ((Cmp.den .eq x105 (0 : Int)) = false → ∃ (I4 : List Cv → Prop) (mu4 : List Cv → Nat), Fits [.i (some ((0), (25))), .i (some ((0), (25000000)))] [(.i (0 : Int)), (.i (0 : Int))] ∧ I4 [(.i (0 : Int)), (.i (0 : Int))] ∧ (
∀ x106 : Int, (0 : Int) ≤ x106 → x106 ≤ (25 : Int) → ∀ x107 : Int, (0 : Int) ≤ x107 → x107 ≤ (25000000 : Int) → I4 [.i x106, .i x107] →
((Cmp.den .lt x106 x105) = true → ∀ x108 : Int, x108 = (List.getD x21 (Int.toNat x106) 0) →
∀ x109 : Int, x109 = ((List.length x57 : Int)) →
((Cmp.den .lt x106 x109) = true → ∀ x110 : Int, x110 = (List.getD x57 (Int.toNat x106) 0) →
((!(Cmp.den .eq x108 x110)) = true → ∀ x111 : Int, x111 = (List.getD x57 (Int.toNat x106) 0) →
((Cmp.den .le x111 x18) = true → R (Value.bool false)) ∧ ((Cmp.den .le x111 x18) = false → ∀ x112 : Int, x112 = (IntKind.i64.wrap (x107 + x108)) →
∀ x113 : Int, x113 = (x106 + (1 : Int)) →
Fits [.i (some ((0), (25))), .i (some ((0), (25000000)))] [(.i x113), (.i x112)] ∧ I4 [(.i x113), (.i x112)] ∧ mu4 [(.i x113), (.i x112)] < mu4 [.i x106, .i x107])) ∧ ((!(Cmp.den .eq x108 x110)) = false → ∀ x111 : Int, x111 = (IntKind.i64.wrap (x107 + x108)) →
∀ x112 : Int, x112 = (x106 + (1 : Int)) →
Fits [.i (some ((0), (25))), .i (some ((0), (25000000)))] [(.i x112), (.i x111)] ∧ I4 [(.i x112), (.i x111)] ∧ mu4 [(.i x112), (.i x111)] < mu4 [.i x106, .i x107])) ∧ ((Cmp.den .lt x106 x109) = false → False)) ∧ ((Cmp.den .lt x106 x105) = false → (zClass_sem.pre [(.i x83), (.i x84), (.i x85)]) ∧ (
∀ x108 : Int, x108 = (Cv.int (Env.get (zClass_sem.out [(.i x83), (.i x84), (.i x85)]) 0)) → (-4 : Int) ≤ x108 → x108 ≤ (4 : Int) →
∀ x109 : Int, x109 = (Cv.int (Env.get (zClass_sem.out [(.i x83), (.i x84), (.i x85)]) 1)) → (0 : Int) ≤ x109 → x109 ≤ (0 : Int) →
(zClass_sem.pre [(.i x89), (.i x90), (.i x91)]) ∧ (
∀ x110 : Int, x110 = (Cv.int (Env.get (zClass_sem.out [(.i x89), (.i x90), (.i x91)]) 0)) → (-4 : Int) ≤ x110 → x110 ≤ (4 : Int) →
∀ x111 : Int, x111 = (Cv.int (Env.get (zClass_sem.out [(.i x89), (.i x90), (.i x91)]) 1)) → (0 : Int) ≤ x111 → x111 ≤ (0 : Int) →
(zClass_sem.pre [(.i x95), (.i x96), (.i x97)]) ∧ (
∀ x112 : Int, x112 = (Cv.int (Env.get (zClass_sem.out [(.i x95), (.i x96), (.i x97)]) 0)) → (-4 : Int) ≤ x112 → x112 ≤ (4 : Int) →
∀ x113 : Int, x113 = (Cv.int (Env.get (zClass_sem.out [(.i x95), (.i x96), (.i x97)]) 1)) → (0 : Int) ≤ x113 → x113 ≤ (0 : Int) →
(zClass_sem.pre [(.i x101), (.i x102), (.i x103)]) ∧ (
∀ x114 : Int, x114 = (Cv.int (Env.get (zClass_sem.out [(.i x101), (.i x102), (.i x103)]) 0)) → (-4 : Int) ≤ x114 → x114 ≤ (4 : Int) →
∀ x115 : Int, x115 = (Cv.int (Env.get (zClass_sem.out [(.i x101), (.i x102), (.i x103)]) 1)) → (0 : Int) ≤ x115 → x115 ≤ (0 : Int) →
((!(Cmp.den .eq x86 (0 : Int))) = true → R (Value.bool false)) ∧ ((!(Cmp.den .eq x86 (0 : Int))) = false → ((!(Cmp.den .eq x92 (0 : Int))) = true → R (Value.bool false)) ∧ ((!(Cmp.den .eq x92 (0 : Int))) = false → ((!(Cmp.den .eq x98 (0 : Int))) = true → R (Value.bool false)) ∧ ((!(Cmp.den .eq x98 (0 : Int))) = false → ((!(Cmp.den .eq x104 (0 : Int))) = true → R (Value.bool false)) ∧ ((!(Cmp.den .eq x104 (0 : Int))) = false → ((!(Cmp.den .eq x108 x110)) = true → R (Value.bool false)) ∧ ((!(Cmp.den .eq x108 x110)) = false → ((!(Cmp.den .eq x112 x114)) = true → R (Value.bool false)) ∧ ((!(Cmp.den .eq x112 x114)) = false → ((Cmp.den .eq x107 (0 : Int)) = true → (((Cmp.den .eq x108 (0 : Int)) == (Cmp.den .eq x78 (0 : Int))) = true → ((Cmp.den .eq x78 (0 : Int)) = true → R (Value.bool true)) ∧ ((Cmp.den .eq x78 (0 : Int)) = false → R (Value.bool (Cmp.den .eq x108 (4 : Int))))) ∧ (((Cmp.den .eq x108 (0 : Int)) == (Cmp.den .eq x78 (0 : Int))) = false → R (Value.bool false))) ∧ ((Cmp.den .eq x107 (0 : Int)) = false → ∀ x116 : Int, x116 = (x105 * x18) →
((Cmp.den .eq x107 x116) = true → (((Cmp.den .eq x108 (0 : Int)) == (Cmp.den .eq x78 x18)) = true → ((Cmp.den .eq x78 x18) = true → R (Value.bool true)) ∧ ((Cmp.den .eq x78 x18) = false → R (Value.bool (Cmp.den .eq x108 (-4 : Int))))) ∧ (((Cmp.den .eq x108 (0 : Int)) == (Cmp.den .eq x78 x18)) = false → R (Value.bool false))) ∧ ((Cmp.den .eq x107 x116) = false → R (Value.bool true))))))))))))))))))))))))) ∧ ((Cmp.den .le x67 x12) = false → False))))) ∧ ((Cmp.den .le x49 x12) = false → False))))) ∧ ((Cmp.den .le x31 x12) = false → False))))) ∧ ((Cmp.den .le x13 x12) = false → False))) := by kernel_rfl

def ltalike_sem : SpecSem := { pre := fun cs => match cs with | [.i a, .l xs, .i d] => IsI a ∧ InI xs ∧ IsI d | _ => False, out := fun cs => match cs with | [.i a, .l xs, .i d] => [.b true] | _ => [] }
set_option maxRecDepth 10000 in
set_option maxHeartbeats 16000000 in
theorem ltalike_ok : SpecOK Try.prog 6 ltalike_sp ltalike_sem := by
  refine spec_of_tree ltalike_cxok Try.func6 (by kernel_rfl) (by kernel_rfl) ltalike_walk rfl ?_
  intro cs hpre
  match cs, hpre with
  | [.i a, .l xs, .i d], ⟨j_a, j_xs, j_d⟩ =>
    have h_a := j_a
    unfold IsI at h_a
    have h_d := j_d
    unfold IsI at h_d
    refine ⟨rfl, IvsB.ok (by simp only [ltalike_ivs, IvsB, Cv.int, and_true, j_xs, true_and] <;> omega), ?_, ?_⟩
    · simp only [ltalike_sem, ltalike_sp, Fits]
    · rw [ltalike_den]
      simp (config := { maxSteps := 4000000 }) only [ltalike_sem, ltalike_sp, ltalike_den, tnew_sem, ttake_sem, tpoint_sem, talive_sem, zClass_sem, Tree.den, LE.den, Cv.list, placeA, List.getElem?_cons_zero, List.getElem?_cons_succ, IE.den, BE.den, At.den, CA.den, Env.get, Cv.int, Cv.bool, List.cons_append, List.nil_append, List.map_cons, List.map_nil, bindRes, bindEq, Fits, SV.den, denL, place, placeL, eq_t, eq_f, lt_t, lt_f, le_t, le_f, beq_iff_eq, beq_eq_false_iff_ne, ne_eq, reduceCtorEq, b_dec, decide_eq_true_eq, decide_eq_false_iff_not, Bool.not_eq_false', Bool.or_eq_true, Bool.or_eq_false_iff, Bool.and_eq_false_iff, true_iff, false_iff, Bool.false_eq_true, Bool.not_eq_true', Bool.and_eq_true, Bool.not_true, Bool.not_false, List.cons.injEq, Cv.i.injEq, Cv.b.injEq, and_true, true_and, agg_inj, tup_inj, Value.int.injEq, Value.bool.injEq]
      have tb := tm_rng (x := a) (m := 1000) (by omega)
      intro x3 e3 x4 e4 x5 e5 x6 e6
      have hs6 : 1 ≤ x6 ∧ x6 ≤ 1000 := by omega
      have z6 : 1 + (a.tmod 1000 + 1000) % 1000 = x6 := by rw [e6, e5, e4, e3]
      clear e6 e5 e4 e3
      have j6 : IsI x6 := ⟨by omega, by omega⟩
      have j0 : IsI 0 := ⟨by omega, by omega⟩
      have S2 : TSizes 2 x6 := ⟨by omega, by omega, by omega, by omega, by omega⟩
      have S3 : TSizes 3 x6 := ⟨by omega, by omega, by omega, by omega, by omega⟩
      have S4 : TSizes 4 1 := ⟨by omega, by omega, by omega, by omega, by omega⟩
      have S5 : TSizes 5 x6 := ⟨by omega, by omega, by omega, by omega, by omega⟩
      have M2 : most 2 x6 = x6 := most_lo (by omega)
      have M3 : most 3 x6 = x6 := most_lo (by omega)
      have M4 : most 4 1 = 1000000 := most_hi (by omega)
      have M5 : most 5 x6 = 1000000 := most_hi (by omega)
      have J2 : IsI 2 := ⟨by omega, by omega⟩
      have J3 : IsI 3 := ⟨by omega, by omega⟩
      have J4 : IsI 4 := ⟨by omega, by omega⟩
      have J5 : IsI 5 := ⟨by omega, by omega⟩
      have J1 : IsI 1 := ⟨by omega, by omega⟩
      refine ⟨⟨J2, j6, S2⟩, ?_⟩
      intro x7 e7 _ _ x8 e8 _ _ x9 e9 _ _ x10 e10 _ _ x11 e11 _ _
      have e8 := e8.symm
      subst e7 e8 e9 e10 e11
      intro x12 e12
      intro x13 e13
      refine ⟨fun hle => ?_, fun h => by split at e13 <;> omega⟩
      intro x14 e14 x15 e15
      have h15 : x15 ≤ 25 := by
        have k1 := List.length_take_le (x13.toNat - Int.toNat 0) (List.drop (Int.toNat 0) xs)
        rw [← e14] at k1
        have k2 : x13 ≤ 25 := by split at e13 <;> omega
        have k3 : x13.toNat - Int.toNat 0 ≤ 25 := by omega
        omega
      clear hle
      refine ⟨fun vs => match vs with | [.i i, .i k', .i s', .i m, .i u, .l cs] => k' = 2 ∧ x6 = s' ∧ i = m ∧ u = sumL cs ∧ cs = (x14.take i.toNat).map (clF x6) ∧ i ≤ x15 | _ => False, fun vs => match vs with | .i i :: _ => (x15 - i).toNat | _ => 0, ⟨by omega, by omega, by omega, by omega, by omega, by omega, by omega, by omega, by omega, by omega, (fun _ h => nomatch h)⟩, ⟨rfl, rfl, rfl, rfl, rfl, by omega⟩, ?_⟩
      intro x16 l16 g16 x17 l17 g17 x18 l18 g18 x19 l19 g19 x20 l20 g20 x21 h21 hI
      obtain ⟨i1, i2, i3, i4, i5, i6⟩ : x17 = 2 ∧ x6 = x18 ∧ x16 = x19 ∧ x20 = sumL x21 ∧ x21 = (x14.take x16.toNat).map (clF x6) ∧ x16 ≤ x15 := hI
      subst i1 i2 i3 i4
      have ic : inC x6 x21 := by rw [i5]; exact inC_map (by omega) _
      have il : (x21.length : Int) = x16 := by rw [i5, List.length_map, List.length_take]; omega
      have iu := inC_sum ic
      refine ⟨fun hlt => ?_, fun hge => ?_⟩
      · intro x22 e22 x23 e23 x24 e24
        have z22 : x24 = clF x6 x22 := by rw [e24, e23]; rfl
        have r22 := clF_rng (M := x6) (x := x22) (by omega)
        rw [← z22] at r22
        have hMay : TMay 2 x6 x16 (sumL x21) x24 := ⟨⟨S2, by omega, by omega, iu.1, by rw [M2, ← il]; exact iu.2⟩, by unfold TCount; rw [M2]; exact r22⟩
        refine ⟨⟨J2, j6, ⟨by omega, by omega⟩, ⟨by omega, by omega⟩, ⟨by omega, by omega⟩, hMay, by omega⟩, ?_⟩
        intro x25 f1 _ _ x26 f2 _ _ x27 f3 fl3 fg3 x28 f4 fl4 fg4 x29 f5 _ _ x30 f6
        refine ⟨fun _ => ?_, fun h => by omega⟩
        intro x31 f7 x32 f8
        have f2 := f2.symm
        subst f1 f2
        have f9 : x31 = (x14.take (x16 + 1).toNat).map (clF x6) := by rw [f7, map_snoc l16 (by omega), ← i5, ← e22, ← z22]
        exact ⟨⟨by omega, by omega, by omega, by omega, by omega, by omega, by omega, by omega, by omega, by omega, by rw [f9]; exact inI_map (by omega) (by omega) _⟩, ⟨rfl, rfl, by omega, by rw [f7, sumL_snoc]; exact f4, by rw [f8]; exact f9, by omega⟩, by show (x15 - x32).toNat < (x15 - x16).toNat; omega⟩
      · have z16 : x15 = x16 := by omega
        subst z16
        have c0 : x21 = x14.map (clF x6) := by rw [i5, List.take_of_length_le (by omega)]
        clear i5 i6 hge
        have ic0 := ic
        have il0 := il
        have iu0 := iu
        clear ic il iu
        intro x22 e22 x23 e23 x24 e24 x25 e25
        have z25 : x6 = x25 := by rw [e25, e24, e23, e22]; exact z6.symm
        clear e25 e24 e23 e22
        subst z25
        refine ⟨⟨J3, j6, S3⟩, ?_⟩
        intro x26 e26 _ _ x27 e27 _ _ x28 e28 _ _ x29 e29 _ _ x30 e30 _ _
        have e27 := e27.symm
        subst e26 e27 e28 e29 e30
        intro x31 e31
        refine ⟨fun hle => ?_, fun h => by split at e31 <;> omega⟩
        intro x32 e32 x33 e33
        have z32 : x14 = x32 := by rw [e32, e14, e31, e13]
        clear e32 hle
        subst z32
        have z33 : x15 = x33 := by rw [e33, e15]
        clear e33
        subst z33
        refine ⟨fun vs => match vs with | [.i i, .i k', .i s', .i m, .i u, .l cs] => k' = 3 ∧ x6 = s' ∧ i = m ∧ u = sumL cs ∧ cs = (x14.take i.toNat).map (clF x6) ∧ i ≤ x15 | _ => False, fun vs => match vs with | .i i :: _ => (x15 - i).toNat | _ => 0, ⟨by omega, by omega, by omega, by omega, by omega, by omega, by omega, by omega, by omega, by omega, (fun _ h => nomatch h)⟩, ⟨rfl, rfl, rfl, rfl, rfl, by omega⟩, ?_⟩
        intro x34 l34 g34 x35 l35 g35 x36 l36 g36 x37 l37 g37 x38 l38 g38 x39 h39 hI
        obtain ⟨i1, i2, i3, i4, i5, i6⟩ : x35 = 3 ∧ x6 = x36 ∧ x34 = x37 ∧ x38 = sumL x39 ∧ x39 = (x14.take x34.toNat).map (clF x6) ∧ x34 ≤ x15 := hI
        subst i1 i2 i3 i4
        have ic : inC x6 x39 := by rw [i5]; exact inC_map (by omega) _
        have il : (x39.length : Int) = x34 := by rw [i5, List.length_map, List.length_take]; omega
        have iu := inC_sum ic
        refine ⟨fun hlt => ?_, fun hge => ?_⟩
        · intro x40 e40 x41 e41 x42 e42
          have z40 : x42 = clF x6 x40 := by rw [e42, e41]; rfl
          have r40 := clF_rng (M := x6) (x := x40) (by omega)
          rw [← z40] at r40
          have hMay : TMay 3 x6 x34 (sumL x39) x42 := ⟨⟨S3, by omega, by omega, iu.1, by rw [M3, ← il]; exact iu.2⟩, by unfold TCount; rw [M3]; exact r40⟩
          refine ⟨⟨J3, j6, ⟨by omega, by omega⟩, ⟨by omega, by omega⟩, ⟨by omega, by omega⟩, hMay, by omega⟩, ?_⟩
          intro x43 f1 _ _ x44 f2 _ _ x45 f3 fl3 fg3 x46 f4 fl4 fg4 x47 f5 _ _ x48 f6
          refine ⟨fun _ => ?_, fun h => by omega⟩
          intro x49 f7 x50 f8
          have f2 := f2.symm
          subst f1 f2
          have f9 : x49 = (x14.take (x34 + 1).toNat).map (clF x6) := by rw [f7, map_snoc l34 (by omega), ← i5, ← e40, ← z40]
          exact ⟨⟨by omega, by omega, by omega, by omega, by omega, by omega, by omega, by omega, by omega, by omega, by rw [f9]; exact inI_map (by omega) (by omega) _⟩, ⟨rfl, rfl, by omega, by rw [f7, sumL_snoc]; exact f4, by rw [f8]; exact f9, by omega⟩, by show (x15 - x50).toNat < (x15 - x34).toNat; omega⟩
        · have z34 : x15 = x34 := by omega
          subst z34
          have c1 : x39 = x14.map (clF x6) := by rw [i5, List.take_of_length_le (by omega)]
          clear i5 i6 hge
          clear ic il iu
          intro x40 e40 x41 e41 x42 e42 x43 e43
          have z43 : x6 = x43 := by rw [e43, e42, e41, e40]; exact z6.symm
          clear e43 e42 e41 e40
          subst z43
          refine ⟨⟨J4, J1, S4⟩, ?_⟩
          intro x44 e44 _ _ x45 e45 _ _ x46 e46 _ _ x47 e47 _ _ x48 e48 _ _
          subst e44 e45 e46 e47 e48
          intro x49 e49
          refine ⟨fun hle => ?_, fun h => by split at e49 <;> omega⟩
          intro x50 e50 x51 e51
          have z50 : x14 = x50 := by rw [e50, e14, e49, e13]
          clear e50 hle
          subst z50
          have z51 : x15 = x51 := by rw [e51, e15]
          clear e51
          subst z51
          refine ⟨fun vs => match vs with | [.i i, .i k', .i s', .i m, .i u, .l cs] => k' = 4 ∧ s' = 1 ∧ i = m ∧ u = sumL cs ∧ cs = (x14.take i.toNat).map (clF 1000000) ∧ i ≤ x15 | _ => False, fun vs => match vs with | .i i :: _ => (x15 - i).toNat | _ => 0, ⟨by omega, by omega, by omega, by omega, by omega, by omega, by omega, by omega, by omega, by omega, (fun _ h => nomatch h)⟩, ⟨rfl, rfl, rfl, rfl, rfl, by omega⟩, ?_⟩
          intro x52 l52 g52 x53 l53 g53 x54 l54 g54 x55 l55 g55 x56 l56 g56 x57 h57 hI
          obtain ⟨i1, i2, i3, i4, i5, i6⟩ : x53 = 4 ∧ x54 = 1 ∧ x52 = x55 ∧ x56 = sumL x57 ∧ x57 = (x14.take x52.toNat).map (clF 1000000) ∧ x52 ≤ x15 := hI
          subst i1 i2 i3 i4
          have ic : inC 1000000 x57 := by rw [i5]; exact inC_map (by omega) _
          have il : (x57.length : Int) = x52 := by rw [i5, List.length_map, List.length_take]; omega
          have iu := inC_sum ic
          refine ⟨fun hlt => ?_, fun hge => ?_⟩
          · intro x58 e58 x59 e59 x60 e60
            have z58 : x60 = clF 1000000 x58 := by rw [e60, e59]; rfl
            have r58 := clF_rng (M := 1000000) (x := x58) (by omega)
            rw [← z58] at r58
            have hMay : TMay 4 1 x52 (sumL x57) x60 := ⟨⟨S4, by omega, by omega, iu.1, by rw [M4, ← il]; exact iu.2⟩, by unfold TCount; rw [M4]; exact r58⟩
            refine ⟨⟨J4, J1, ⟨by omega, by omega⟩, ⟨by omega, by omega⟩, ⟨by omega, by omega⟩, hMay, by omega⟩, ?_⟩
            intro x61 f1 _ _ x62 f2 _ _ x63 f3 fl3 fg3 x64 f4 fl4 fg4 x65 f5 _ _ x66 f6
            refine ⟨fun _ => ?_, fun h => by omega⟩
            intro x67 f7 x68 f8
            subst f1 f2
            have f9 : x67 = (x14.take (x52 + 1).toNat).map (clF 1000000) := by rw [f7, map_snoc l52 (by omega), ← i5, ← e58, ← z58]
            exact ⟨⟨by omega, by omega, by omega, by omega, by omega, by omega, by omega, by omega, by omega, by omega, by rw [f9]; exact inI_map (by omega) (by omega) _⟩, ⟨rfl, rfl, by omega, by rw [f7, sumL_snoc]; exact f4, by rw [f8]; exact f9, by omega⟩, by show (x15 - x68).toNat < (x15 - x52).toNat; omega⟩
          · have z52 : x15 = x52 := by omega
            subst z52
            have c2 : x57 = x14.map (clF 1000000) := by rw [i5, List.take_of_length_le (by omega)]
            clear i5 i6 hge
            clear ic il iu
            intro x58 e58 x59 e59 x60 e60 x61 e61
            have z61 : x6 = x61 := by rw [e61, e60, e59, e58]; exact z6.symm
            clear e61 e60 e59 e58
            subst z61
            refine ⟨⟨J5, j6, S5⟩, ?_⟩
            intro x62 e62 _ _ x63 e63 _ _ x64 e64 _ _ x65 e65 _ _ x66 e66 _ _
            have e63 := e63.symm
            subst e62 e63 e64 e65 e66
            intro x67 e67
            refine ⟨fun hle => ?_, fun h => by split at e67 <;> omega⟩
            intro x68 e68 x69 e69
            have z68 : x14 = x68 := by rw [e68, e14, e67, e13]
            clear e68 hle
            subst z68
            have z69 : x15 = x69 := by rw [e69, e15]
            clear e69
            subst z69
            refine ⟨fun vs => match vs with | [.i i, .i k', .i s', .i m, .i u, .l cs] => k' = 5 ∧ x6 = s' ∧ i = m ∧ u = sumL cs ∧ cs = (x14.take i.toNat).map (clF 1000000) ∧ i ≤ x15 | _ => False, fun vs => match vs with | .i i :: _ => (x15 - i).toNat | _ => 0, ⟨by omega, by omega, by omega, by omega, by omega, by omega, by omega, by omega, by omega, by omega, (fun _ h => nomatch h)⟩, ⟨rfl, rfl, rfl, rfl, rfl, by omega⟩, ?_⟩
            intro x70 l70 g70 x71 l71 g71 x72 l72 g72 x73 l73 g73 x74 l74 g74 x75 h75 hI
            obtain ⟨i1, i2, i3, i4, i5, i6⟩ : x71 = 5 ∧ x6 = x72 ∧ x70 = x73 ∧ x74 = sumL x75 ∧ x75 = (x14.take x70.toNat).map (clF 1000000) ∧ x70 ≤ x15 := hI
            subst i1 i2 i3 i4
            have ic : inC 1000000 x75 := by rw [i5]; exact inC_map (by omega) _
            have il : (x75.length : Int) = x70 := by rw [i5, List.length_map, List.length_take]; omega
            have iu := inC_sum ic
            refine ⟨fun hlt => ?_, fun hge => ?_⟩
            · intro x76 e76 x77 e77 x78 e78
              have z76 : x78 = clF 1000000 x76 := by rw [e78, e77]; rfl
              have r76 := clF_rng (M := 1000000) (x := x76) (by omega)
              rw [← z76] at r76
              have hMay : TMay 5 x6 x70 (sumL x75) x78 := ⟨⟨S5, by omega, by omega, iu.1, by rw [M5, ← il]; exact iu.2⟩, by unfold TCount; rw [M5]; exact r76⟩
              refine ⟨⟨J5, j6, ⟨by omega, by omega⟩, ⟨by omega, by omega⟩, ⟨by omega, by omega⟩, hMay, by omega⟩, ?_⟩
              intro x79 f1 _ _ x80 f2 _ _ x81 f3 fl3 fg3 x82 f4 fl4 fg4 x83 f5 _ _ x84 f6
              refine ⟨fun _ => ?_, fun h => by omega⟩
              intro x85 f7 x86 f8
              have f2 := f2.symm
              subst f1 f2
              have f9 : x85 = (x14.take (x70 + 1).toNat).map (clF 1000000) := by rw [f7, map_snoc l70 (by omega), ← i5, ← e76, ← z76]
              exact ⟨⟨by omega, by omega, by omega, by omega, by omega, by omega, by omega, by omega, by omega, by omega, by rw [f9]; exact inI_map (by omega) (by omega) _⟩, ⟨rfl, rfl, by omega, by rw [f7, sumL_snoc]; exact f4, by rw [f8]; exact f9, by omega⟩, by show (x15 - x86).toNat < (x15 - x70).toNat; omega⟩
            · have z70 : x15 = x70 := by omega
              subst z70
              have c3 : x75 = x14.map (clF 1000000) := by rw [i5, List.take_of_length_le (by omega)]
              clear i5 i6 hge
              clear ic il iu
              have ic2 : inC 1000000 x57 := by rw [c2]; exact inC_map (by omega) _
              have il2 : (x57.length : Int) = x15 := by rw [c2, List.length_map]; exact e15.symm
              have iu2 := inC_sum ic2
              have c1' : x21 = x39 := by rw [c1, c0]
              have c3' : x57 = x75 := by rw [c3, c2]
              clear c1 c3
              subst c1' c3'
              refine ⟨fun h => h.elim, fun _ => ?_⟩
              intro x77 e77 x78 e78 x79 e79 x80 e80
              have z78 : x78 = clF x6 d := by rw [e78, e77]; rfl
              have z80 : x80 = clF 1000000 d := by rw [e80, e79]; rfl
              have r78 := clF_rng (M := x6) (x := d) (by omega)
              have r80 := clF_rng (M := 1000000) (x := d) (by omega)
              rw [← z78] at r78
              rw [← z80] at r80
              have A2 : TMay 2 x6 x15 (sumL x21) x78 := ⟨⟨S2, by omega, by omega, iu0.1, by rw [M2, ← il0]; exact iu0.2⟩, by unfold TCount; rw [M2]; exact r78⟩
              have A3 : TMay 3 x6 x15 (sumL x21) x78 := ⟨⟨S3, by omega, by omega, iu0.1, by rw [M3, ← il0]; exact iu0.2⟩, by unfold TCount; rw [M3]; exact r78⟩
              have A4 : TMay 4 1 x15 (sumL x57) x80 := ⟨⟨S4, by omega, by omega, iu2.1, by rw [M4, ← il2]; exact iu2.2⟩, by unfold TCount; rw [M4]; exact r80⟩
              have A5 : TMay 5 x6 x15 (sumL x57) x80 := ⟨⟨S5, by omega, by omega, iu2.1, by rw [M5, ← il2]; exact iu2.2⟩, by unfold TCount; rw [M5]; exact r80⟩
              have F2 := pt_fits A2
              have F4 := pt_fits A4
              have mg2 := tmay_rng A2
              have mg4 := tmay_rng A4
              have p1 : pDev 3 x6 x15 (sumL x21) x78 = pDev 2 x6 x15 (sumL x21) x78 := by simp [pDev]
              have p2 : pVar 3 x6 x15 (sumL x21) = pVar 2 x6 x15 (sumL x21) := by simp [pVar]
              have p3 : pDev 5 x6 x15 (sumL x57) x80 = pDev 4 1 x15 (sumL x57) x80 := by simp [pDev]
              have p4 : pVar 5 x6 x15 (sumL x57) = pVar 4 1 x15 (sumL x57) := by simp [pVar]
              have N1 : IsI x15 := ⟨by omega, by omega⟩
              have N2 : IsI (sumL x21) := ⟨by omega, by omega⟩
              have N3 : IsI (sumL x57) := ⟨by omega, by omega⟩
              have N4 : IsI x78 := ⟨by omega, by omega⟩
              have N5 : IsI x80 := ⟨by omega, by omega⟩
              have z12 : ((12 : Int) = 0) = False := by simp
              have z13 : ((0 : Int) = 12) = False := by simp
              clear e77 e78 e79 e80 z78 z80
              by_cases hm : x15 = 0
              · have A2' := A2; have A3' := A3; have A4' := A4; have A5' := A5; have N1' := N1
                rw [hm] at A2' A3' A4' A5' N1'
                simp only [A2', A3', A4', A5', il0, hm, j6, J1, J2, J3, J4, J5, N1', N2, N3, N4, N5, z12, z13, forall_eq, eq_self, ne_eq, f00, if_true, if_false, true_and, and_true, false_and, and_false, true_or, or_true, false_or, or_false, true_iff, iff_true, false_iff, iff_false, not_true_eq_false, not_false_eq_true, true_implies, false_implies, implies_true, forall_const, decide_true, decide_false, reduceCtorEq]
              · have ae := alike_end (s := x6) (n := x15) (u := sumL x21) (k := x78) hs6.1 (by omega)
                have U0 : IsU 0 := ⟨by omega, by omega⟩
                have U1 : (0 : Int) < 1152921504606846976 := by omega
                simp only [A2, A3, A4, A5, il0, il2, hm, p1, p2, p3, p4, F2.2.2.1, F2.2.2.2.1, F4.2.2.1, F4.2.2.2.1, U0, U1, j6, J1, J2, J3, J4, J5, N1, N2, N3, N4, N5, z12, z13, val0, forall_eq, eq_self, ne_eq, f00, if_true, if_false, true_and, and_true, false_and, and_false, true_or, or_true, false_or, or_false, true_iff, iff_true, false_iff, iff_false, not_true_eq_false, not_false_eq_true, true_implies, false_implies, implies_true, forall_const, decide_true, decide_false, reduceCtorEq]
                intros
                refine ⟨fun vs => match vs with | [.i i, .i t] => t = sumL (x21.take i.toNat) ∧ i ≤ x15 | _ => False, fun vs => match vs with | .i i :: _ => (x15 - i).toNat | _ => 0, by omega, ⟨rfl, by omega⟩, ?_⟩
                intro x106 l106 g106 x107 l107 g107 hI
                obtain ⟨j1, j2⟩ : x107 = sumL (x21.take x106.toNat) ∧ x106 ≤ x15 := hI
                refine ⟨fun hlt => ?_, fun hge => ?_⟩
                · refine ⟨fun _ => ?_, fun h => by omega⟩
                  have ht := take_snoc l106 (show x106 < (x21.length : Int) by omega)
                  have g1 : x21.getD x106.toNat 0 = clF x6 (x14.getD x106.toNat 0) := by rw [c0]; exact getD_map l106 (by omega)
                  have g2 : x57.getD x106.toNat 0 = clF 1000000 (x14.getD x106.toNat 0) := by rw [c2]; exact getD_map l106 (by omega)
                  have r1 := clF_rng (M := x6) (x := x14.getD x106.toNat 0) (by omega)
                  have tk : inC x6 (x21.take (x106 + 1).toNat) := fun y hy => ic0 y (List.mem_of_mem_take hy)
                  have tu := inC_sum tk
                  have tl : ((x21.take (x106 + 1).toNat).length : Int) = x106 + 1 := by rw [List.length_take]; omega
                  have tb : ((x21.take (x106 + 1).toNat).length : Int) * x6 ≤ 25 * 1000 := Int.mul_le_mul (by omega) hs6.2 (by omega) (by omega)
                  have su : sumL (x21.take (x106 + 1).toNat) = x107 + x21.getD x106.toNat 0 := by rw [ht, sumL_snoc, j1]
                  have w1 : IntKind.i64.wrap (x107 + x21.getD x106.toNat 0) = x107 + x21.getD x106.toNat 0 := w64 (by omega) (by omega)
                  have fin : (0 ≤ x106 + 1 ∧ x106 + 1 ≤ 25 ∧ 0 ≤ x107 + x21.getD x106.toNat 0 ∧ x107 + x21.getD x106.toNat 0 ≤ 25000000) ∧ (x107 + x21.getD x106.toNat 0 = sumL (x21.take (x106 + 1).toNat) ∧ x106 + 1 ≤ x15) ∧ (x15 - (x106 + 1)).toNat < (x15 - x106).toNat := ⟨⟨by omega, by omega, by omega, by omega⟩, ⟨su.symm, by omega⟩, by omega⟩
                  rw [w1]
                  refine ⟨fun hne => ⟨fun hle => ?_, fun _ => fin⟩, fun _ => fin⟩
                  rw [g1, g2] at hne
                  rw [g2] at hle
                  refine hne ?_
                  clear tu tb su w1 fin g1 g2 r1 ae F2 F4
                  generalize x14.getD x106.toNat 0 = y at *
                  unfold clF at hle ⊢
                  (repeat' split) <;> (repeat' split at hle) <;> omega
                · have tk : x21.take x106.toNat = x21 := List.take_of_length_le (by omega)
                  rw [tk] at j1
                  subst j1
                  simp only [cEq]
                  generalize clsZ (pDev 2 x6 x15 (sumL x21) x78) (pVar 2 x6 x15 (sumL x21)) = C at *
                  intros
                  refine ⟨fun hu => ?_, fun _ hu => ?_⟩
                  · obtain ⟨a1, a2⟩ := ae.1 hu
                    exact ⟨fun _ h => a2 r78.1 h, fun h => h a1⟩
                  · obtain ⟨a1, a2⟩ := ae.2 hu
                    exact ⟨fun _ h => a2 r78.2 h, fun h => h a1⟩
end Go.Proofs.Ytgnihomdpandfaa.X
