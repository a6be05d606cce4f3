/-
  EwmaHolds tells true, for every input.
-/
import Derived.Test.YtlhmhcjpdpakkaaSxEwmaHnum
namespace Go.Proofs.Ytlhmhcjpdpakkaa.X
open Go Go.SX Go.RowKit
set_option linter.unusedVariables false
set_option linter.unusedSimpArgs false







theorem gap_step {w x zl zh : Int} (hw : 1 ≤ w ∧ w ≤ 99) (h : zl ≤ zh) : nxB w x zh - nxA w x zl ≤ zh - zl + 1 := by
  unfold nxA nxB
  rw [dn_pos (by omega), up_pos (by omega)]
  have e : (100 - w) * zh = (100 - w) * zl + (100 - w) * (zh - zl) := by rw [← Int.mul_add]; congr 1; omega
  have p : (100 - w) * (zh - zl) ≤ 99 * (zh - zl) := mm (by omega) (by omega)
  rw [e]
  generalize (100 - w) * (zh - zl) = P at *
  generalize w * x * 1000 = K at *
  generalize (100 - w) * zl = Q at *
  omega
theorem mul_rng {a K : Int} (ha : -1000000000 ≤ a ∧ a ≤ 1000000000) (hK : 1 ≤ K ∧ K ≤ 100000000) : -100000000000000000 ≤ a * K ∧ a * K ≤ 100000000000000000 := by
  have a1 := mm (c := K) ha.1 (by omega)
  have a2 := mm (c := K) ha.2 (by omega)
  omega
def lehold_sp : SpecSh := { args := [(.int .i64 (.z 0)), (.int .i64 (.z 0)), (.int .i64 (.z 0)), (.lst 0)], res := (.bool .f), sh := [.b] }
set_option maxRecDepth 100000 in
def lehold_tree : Tree :=
.lett (.len 3) <|
.lett (.ite (.cmp .lt (.z 4) (.v 4)) (.z 4) (.v 4)) <|
.ite (.cmp .le (.v 5) (.v 4)) (.letl (.sub 3 (.z 0) (.v 5)) <|
.lett (.len 6) <|
.loop [.i (some (0, 4)), .l] [.i (.z 0), .l (.nil)] <|
.ite (.cmp .lt (.v 8) (.v 7)) (.lett (.nth 6 (.v 8)) <|
.lett (.ite (.cmp .lt (.v 10) (.z (-100000))) (.z (-100000)) (.v 10)) <|
.lett (.ite (.cmp .lt (.z 100000) (.v 11)) (.z 100000) (.v 11)) <|
.lett (.len 9) <|
.ite (.cmp .le (.v 13) (.z 100000)) (.letl (.app 9 [.v 12]) <|
.lett (.add (.v 8) (.z 1)) <|
.again 0 [.i (.v 15), .l (.v 14)]) <|
.bad 113) <|
.lett (.rem (.v 0) (.z 100001)) <|
.lett (.rem (.v 1) (.z 99)) <|
.lett (.add (.v 11) (.z 99)) <|
.lett (.mod (.v 12) (.z 99)) <|
.lett (.add (.z 1) (.v 13)) <|
.lett (.rem (.v 2) (.z 1000000)) <|
.lett (.add (.v 15) (.z 1000000)) <|
.lett (.mod (.v 16) (.z 1000000)) <|
.lett (.add (.z 1) (.v 17)) <|
.call 133 [.i (some ((-9223372036854775808), 9223372036854775807)), .i (some ((-9223372036854775808), 9223372036854775807)), .i (some ((-9223372036854775808), 9223372036854775807)), .i (some ((-9223372036854775808), 9223372036854775807)), .i (some ((-9223372036854775808), 9223372036854775807)), .i (some ((-9223372036854775808), 9223372036854775807)), .i (some ((-9223372036854775808), 9223372036854775807)), .i (some ((-9223372036854775808), 9223372036854775807)), .i (some ((-9223372036854775808), 9223372036854775807))] [.i (.v 10), .i (.v 14), .i (.v 18)] <|
.ite (.not (.cmp .eq (.v 27) (.z 0))) (.ret (.bool .f)) <|
.call 70 [.b] [] <|
.ite (.not (.v 28)) (.ret (.bool .f)) <|
.lett (.mulw .i64 (.z 1000) (.v 19)) <|
.lett (.len 9) <|
.loop [.i (some (0, 4)), .i (some ((-10000000000000000), 10000000000000000)), .i (some (1, 100000000)), .i (some (1, 10000000000000000)), .i (some ((-1000000), 1000000)), .i (some (1, 99)), .i (some (1, 1000000)), .i (some (0, 1000000000)), .i (some ((-1000000000), 1000000000)), .i (some ((-1000000000), 1000000000)), .i (some (0, 1000000)), .i (some (0, 1000000))] [.i (.z 0), .i (.v 29), .i (.z 1), .i (.z 1), .i (.v 19), .i (.v 20), .i (.v 21), .i (.v 22), .i (.v 23), .i (.v 24), .i (.v 25), .i (.v 26)] <|
.ite (.cmp .lt (.v 31) (.v 30)) (.lett (.nth 9 (.v 31)) <|
.call 71 [.i (some ((-9223372036854775808), 9223372036854775807)), .i (some ((-9223372036854775808), 9223372036854775807)), .i (some ((-9223372036854775808), 9223372036854775807)), .i (some ((-9223372036854775808), 9223372036854775807)), .i (some ((-9223372036854775808), 9223372036854775807)), .i (some ((-9223372036854775808), 9223372036854775807)), .i (some ((-9223372036854775808), 9223372036854775807)), .i (some ((-9223372036854775808), 9223372036854775807)), .b, .i (some ((-9223372036854775808), 9223372036854775807))] [.i (.v 35), .i (.v 36), .i (.v 37), .i (.v 38), .i (.v 39), .i (.v 40), .i (.v 41), .i (.v 42), .i (.v 43)] <|
.ite (.not (.cmp .eq (.v 53) (.z 0))) (.ret (.bool .f)) <|
.ite (.v 52) (.ret (.bool .f)) <|
.lett (.mulw .i64 (.v 20) (.v 43)) <|
.lett (.mulw .i64 (.v 54) (.z 1000)) <|
.lett (.mulw .i64 (.v 55) (.v 33)) <|
.lett (.subw .i64 (.z 100) (.v 20)) <|
.lett (.mulw .i64 (.v 57) (.v 32)) <|
.lett (.addw .i64 (.v 56) (.v 58)) <|
.lett (.mul (.v 33) (.z 100)) <|
.lett (.subw .i64 (.z 100) (.v 20)) <|
.lett (.subw .i64 (.z 100) (.v 20)) <|
.lett (.mulw .i64 (.v 61) (.v 62)) <|
.lett (.wrap .u64 (.v 63)) <|
.lett (.mulw .u64 (.v 34) (.v 64)) <|
.ite (.cmp .lt (.v 48) (.z (-1000000000))) (.ret (.bool .f)) <|
.ite (.cmp .lt (.z 1000000000) (.v 49)) (.ret (.bool .f)) <|
.ite (.cmp .lt (.v 50) (.z 0)) (.ret (.bool .f)) <|
.ite (.cmp .lt (.z 1000000) (.v 51)) (.ret (.bool .f)) <|
.lett (.mulw .i64 (.v 48) (.v 60)) <|
.ite (.cmp .lt (.v 59) (.v 66)) (.ret (.bool .f)) <|
.lett (.mulw .i64 (.v 49) (.v 60)) <|
.ite (.cmp .lt (.v 67) (.v 59)) (.ret (.bool .f)) <|
.lett (.mulw .u64 (.v 60) (.v 60)) <|
.call 82 [.i (some (0, 18446744073709551615)), .i (some (0, 18446744073709551615))] [.i (.v 65), .i (.z 1000000)] <|
.call 82 [.i (some (0, 18446744073709551615)), .i (some (0, 18446744073709551615))] [.i (.v 50), .i (.v 68)] <|
.call 83 [.b] [.i (.v 69), .i (.v 70), .i (.v 71), .i (.v 72)] <|
.ite (.v 73) (.ret (.bool .f)) <|
.lett (.wrap .u64 (.v 51)) <|
.call 82 [.i (some (0, 18446744073709551615)), .i (some (0, 18446744073709551615))] [.i (.v 74), .i (.v 68)] <|
.call 83 [.b] [.i (.v 75), .i (.v 76), .i (.v 69), .i (.v 70)] <|
.ite (.v 77) (.ret (.bool .f)) <|
.lett (.mulw .i64 (.z 1000) (.v 44)) <|
.lett (.mulw .i64 (.v 78) (.v 60)) <|
.lett (.subw .i64 (.v 59) (.v 79)) <|
.lett (.mulw .i64 (.z 1000) (.v 44)) <|
.lett (.mulw .i64 (.v 81) (.v 60)) <|
.lett (.subw .i64 (.v 82) (.v 59)) <|
.lett (.ite (.cmp .lt (.v 80) (.v 83)) (.v 83) (.v 80)) <|
.lett (.wrap .u64 (.v 84)) <|
.call 82 [.i (some (0, 18446744073709551615)), .i (some (0, 18446744073709551615))] [.i (.v 85), .i (.v 85)] <|
.lett (.subw .i64 (.z 200) (.v 20)) <|
.lett (.wrap .u64 (.v 88)) <|
.call 84 [.i (some (0, 18446744073709551615)), .i (some (0, 18446744073709551615)), .b] [.i (.v 86), .i (.v 87), .i (.z 0), .i (.v 89)] <|
.lett (.mulw .i64 (.z 9) (.v 20)) <|
.lett (.mulw .i64 (.v 93) (.z 1000000)) <|
.lett (.wrap .u64 (.v 94)) <|
.lett (.wrap .u64 (.v 46)) <|
.lett (.wrap .u64 (.v 46)) <|
.lett (.mulw .u64 (.v 96) (.v 97)) <|
.call 82 [.i (some (0, 18446744073709551615)), .i (some (0, 18446744073709551615))] [.i (.v 95), .i (.v 98)] <|
.lett (.subw .u64 (.v 68) (.v 65)) <|
.call 84 [.i (some (0, 18446744073709551615)), .i (some (0, 18446744073709551615)), .b] [.i (.v 99), .i (.v 100), .i (.z 0), .i (.v 101)] <|
.call 78 [.i (some ((-9223372036854775808), 9223372036854775807)), .i (some ((-9223372036854775808), 9223372036854775807))] [.i (.v 44), .i (.v 45), .i (.v 46), .i (.v 47), .i (.v 48), .i (.v 49), .i (.v 50), .i (.v 51)] <|
.ite (.not (.cmp .eq (.v 106) (.z 0))) (.ret (.bool .f)) <|
.ite (.cmp .eq (.v 105) (.z 1)) (.call 83 [.b] [.i (.v 102), .i (.v 103), .i (.v 90), .i (.v 91)] <|
.ite (.not (.v 107)) (.ret (.bool .f)) <|
.lett (.add (.v 31) (.z 1)) <|
.again 1 [.i (.v 108), .i (.v 59), .i (.v 60), .i (.v 65), .i (.v 44), .i (.v 45), .i (.v 46), .i (.v 47), .i (.v 48), .i (.v 49), .i (.v 50), .i (.v 51)]) <|
.ite (.cmp .eq (.v 105) (.z 0)) (.call 83 [.b] [.i (.v 102), .i (.v 103), .i (.v 90), .i (.v 91)] <|
.ite (.v 107) (.ret (.bool .f)) <|
.lett (.add (.v 31) (.z 1)) <|
.again 1 [.i (.v 108), .i (.v 59), .i (.v 60), .i (.v 65), .i (.v 44), .i (.v 45), .i (.v 46), .i (.v 47), .i (.v 48), .i (.v 49), .i (.v 50), .i (.v 51)]) <|
.lett (.add (.v 31) (.z 1)) <|
.again 1 [.i (.v 107), .i (.v 59), .i (.v 60), .i (.v 65), .i (.v 44), .i (.v 45), .i (.v 46), .i (.v 47), .i (.v 48), .i (.v 49), .i (.v 50), .i (.v 51)]) <|
.ret (.bool .t)) <|
.bad 120
noncomputable def lehold_cx : Ctx := { tys := tys, fns := fns, sps := [(82, mul_sp), (83, less_sp), (84, times_sp), (133, enew_sp), (71, enext_sp), (78, everd_sp), (70, eal_sp)], anns := [((19, 7), { slots := [50, 11, 12, 13], cells := [(5, 0), (5, 1), (5, 2), (5, 3), (5, 4), (5, 5), (5, 6), (5, 7)], ivs := [some (0, 4), some ((-10000000000000000), 10000000000000000), some (1, 100000000), some (1, 10000000000000000), some ((-1000000), 1000000), some (1, 99), some (1, 1000000), some (0, 1000000000), some ((-1000000000), 1000000000), some ((-1000000000), 1000000000), some (0, 1000000), some (0, 1000000)] }), ((69, 3), { slots := [25], cells := [], ivs := [some (0, 4)], lsts := [13], elem := 3 })], trys := [] }
def lehold_ivs : List (Option (Int × Int)) := [some ((-9223372036854775808), 9223372036854775807), some ((-9223372036854775808), 9223372036854775807), some ((-9223372036854775808), 9223372036854775807), none]
set_option maxRecDepth 100000 in
theorem lehold_walk : runFn lehold_cx 3000 19 Try.f19 lehold_sp.args lehold_ivs = lehold_tree := by kernel_rfl
noncomputable def lehold_M : Nat → SpecSem
  | 82 => mul_sem
  | 83 => less_sem
  | 84 => times_sem
  | 133 => enew_sem
  | 71 => enext_sem
  | 78 => everd_sem
  | 70 => eal_sem
  | _ => noSem
theorem lehold_M82 : lehold_M 82 = mul_sem := rfl
theorem lehold_M83 : lehold_M 83 = less_sem := rfl
theorem lehold_M84 : lehold_M 84 = times_sem := rfl
theorem lehold_M133 : lehold_M 133 = enew_sem := rfl
theorem lehold_M71 : lehold_M 71 = enext_sem := rfl
theorem lehold_M78 : lehold_M 78 = everd_sem := rfl
theorem lehold_M70 : lehold_M 70 = eal_sem := rfl
theorem lehold_cxok : CxOK Try.prog lehold_cx lehold_M := ⟨tysOK, fnsOK, spCons mul_ok <| spCons less_ok <| spCons times_ok <| spCons enew_ok <| spCons enext_ok <| spCons everd_ok <| spCons eal_ok <| fun _ _ h => spNil h, mixedOK, fun _ _ h => trNil h⟩
set_option maxRecDepth 100000 in
set_option maxHeartbeats 8000000 in
theorem lehold_den (R RP : Value → Prop) (F : Ex → St → Js → Env → Prop) (x0 : Int) (x1 : Int) (x2 : Int) (x3 : List Int) : Tree.den lehold_M R RP F lehold_tree [] [(.i x0), (.i x1), (.i x2), (.l x3)] = (
  ∀ x4 : Int, x4 = ((List.length x3 : Int)) →
∀ x5 : Int, x5 = (if (Cmp.den .lt (4 : Int) x4) = true then (4 : Int) else x4) →
((Cmp.den .le x5 x4) = true → ∀ x6 : List Int, x6 = (List.take (Int.toNat x5 - Int.toNat (0 : Int)) (List.drop (Int.toNat (0 : Int)) x3)) →
∀ x7 : Int, x7 = ((List.length x6 : Int)) →
∃ (I0 : List Cv → Prop) (mu0 : List Cv → Nat), Fits [.i (some ((0), (4))), .l] [(.i (0 : Int)), (.l (([] : List Int)))] ∧ I0 [(.i (0 : Int)), (.l (([] : List Int)))] ∧ (
∀ x8 : Int, (0 : Int) ≤ x8 → x8 ≤ (4 : Int) → ∀ x9 : List Int, InI x9 → I0 [.i x8, .l x9] →
((Cmp.den .lt x8 x7) = true → ∀ x10 : Int, x10 = (List.getD x6 (Int.toNat x8) 0) →
∀ x11 : Int, x11 = (if (Cmp.den .lt x10 (-100000 : Int)) = true then (-100000 : Int) else x10) →
∀ x12 : Int, x12 = (if (Cmp.den .lt (100000 : Int) x11) = true then (100000 : Int) else x11) →
∀ x13 : Int, x13 = ((List.length x9 : Int)) →
((Cmp.den .le x13 (100000 : Int)) = true → ∀ x14 : List Int, x14 = (x9 ++ ([x12] : List Int)) →
∀ x15 : Int, x15 = (x8 + (1 : Int)) →
Fits [.i (some ((0), (4))), .l] [(.i x15), (.l (x14))] ∧ I0 [(.i x15), (.l (x14))] ∧ mu0 [(.i x15), (.l (x14))] < mu0 [.i x8, .l x9]) ∧ ((Cmp.den .le x13 (100000 : Int)) = false → False)) ∧ ((Cmp.den .lt x8 x7) = false → ∀ x10 : Int, x10 = (Int.tmod x0 (100001 : Int)) →
∀ x11 : Int, x11 = (Int.tmod x1 (99 : Int)) →
∀ x12 : Int, x12 = (x11 + (99 : Int)) →
∀ x13 : Int, x13 = (x12 % (99 : Int)) →
∀ x14 : Int, x14 = ((1 : Int) + x13) →
∀ x15 : Int, x15 = (Int.tmod x2 (1000000 : Int)) →
∀ x16 : Int, x16 = (x15 + (1000000 : Int)) →
∀ x17 : Int, x17 = (x16 % (1000000 : Int)) →
∀ x18 : Int, x18 = ((1 : Int) + x17) →
(enew_sem.pre [(.i x10), (.i x14), (.i x18)]) ∧ (
∀ x19 : Int, x19 = (Cv.int (Env.get (enew_sem.out [(.i x10), (.i x14), (.i x18)]) 0)) → (-9223372036854775808 : Int) ≤ x19 → x19 ≤ (9223372036854775807 : Int) →
∀ x20 : Int, x20 = (Cv.int (Env.get (enew_sem.out [(.i x10), (.i x14), (.i x18)]) 1)) → (-9223372036854775808 : Int) ≤ x20 → x20 ≤ (9223372036854775807 : Int) →
∀ x21 : Int, x21 = (Cv.int (Env.get (enew_sem.out [(.i x10), (.i x14), (.i x18)]) 2)) → (-9223372036854775808 : Int) ≤ x21 → x21 ≤ (9223372036854775807 : Int) →
∀ x22 : Int, x22 = (Cv.int (Env.get (enew_sem.out [(.i x10), (.i x14), (.i x18)]) 3)) → (-9223372036854775808 : Int) ≤ x22 → x22 ≤ (9223372036854775807 : Int) →
∀ x23 : Int, x23 = (Cv.int (Env.get (enew_sem.out [(.i x10), (.i x14), (.i x18)]) 4)) → (-9223372036854775808 : Int) ≤ x23 → x23 ≤ (9223372036854775807 : Int) →
∀ x24 : Int, x24 = (Cv.int (Env.get (enew_sem.out [(.i x10), (.i x14), (.i x18)]) 5)) → (-9223372036854775808 : Int) ≤ x24 → x24 ≤ (9223372036854775807 : Int) →
∀ x25 : Int, x25 = (Cv.int (Env.get (enew_sem.out [(.i x10), (.i x14), (.i x18)]) 6)) → (-9223372036854775808 : Int) ≤ x25 → x25 ≤ (9223372036854775807 : Int) →
∀ x26 : Int, x26 = (Cv.int (Env.get (enew_sem.out [(.i x10), (.i x14), (.i x18)]) 7)) → (-9223372036854775808 : Int) ≤ x26 → x26 ≤ (9223372036854775807 : Int) →
∀ x27 : Int, x27 = (Cv.int (Env.get (enew_sem.out [(.i x10), (.i x14), (.i x18)]) 8)) → (-9223372036854775808 : Int) ≤ x27 → x27 ≤ (9223372036854775807 : Int) →
((!(Cmp.den .eq x27 (0 : Int))) = true → R (Value.bool false)) ∧ ((!(Cmp.den .eq x27 (0 : Int))) = false → (eal_sem.pre []) ∧ (
((!(Cv.bool (Env.get (eal_sem.out []) 0))) = true → R (Value.bool false)) ∧ ((!(Cv.bool (Env.get (eal_sem.out []) 0))) = false → ∀ x29 : Int, x29 = (IntKind.i64.wrap ((1000 : Int) * x19)) →
∀ x30 : Int, x30 = ((List.length x9 : Int)) →
∃ (I1 : List Cv → Prop) (mu1 : List Cv → Nat), Fits [.i (some ((0), (4))), .i (some ((-10000000000000000), (10000000000000000))), .i (some ((1), (100000000))), .i (some ((1), (10000000000000000))), .i (some ((-1000000), (1000000))), .i (some ((1), (99))), .i (some ((1), (1000000))), .i (some ((0), (1000000000))), .i (some ((-1000000000), (1000000000))), .i (some ((-1000000000), (1000000000))), .i (some ((0), (1000000))), .i (some ((0), (1000000)))] [(.i (0 : Int)), (.i x29), (.i (1 : Int)), (.i (1 : Int)), (.i x19), (.i x20), (.i x21), (.i x22), (.i x23), (.i x24), (.i x25), (.i x26)] ∧ I1 [(.i (0 : Int)), (.i x29), (.i (1 : Int)), (.i (1 : Int)), (.i x19), (.i x20), (.i x21), (.i x22), (.i x23), (.i x24), (.i x25), (.i x26)] ∧ (
∀ x31 : Int, (0 : Int) ≤ x31 → x31 ≤ (4 : Int) → ∀ x32 : Int, (-10000000000000000 : Int) ≤ x32 → x32 ≤ (10000000000000000 : Int) → ∀ x33 : Int, (1 : Int) ≤ x33 → x33 ≤ (100000000 : Int) → ∀ x34 : Int, (1 : Int) ≤ x34 → x34 ≤ (10000000000000000 : Int) → ∀ x35 : Int, (-1000000 : Int) ≤ x35 → x35 ≤ (1000000 : Int) → ∀ x36 : Int, (1 : Int) ≤ x36 → x36 ≤ (99 : Int) → ∀ x37 : Int, (1 : Int) ≤ x37 → x37 ≤ (1000000 : Int) → ∀ x38 : Int, (0 : Int) ≤ x38 → x38 ≤ (1000000000 : Int) → ∀ x39 : Int, (-1000000000 : Int) ≤ x39 → x39 ≤ (1000000000 : Int) → ∀ x40 : Int, (-1000000000 : Int) ≤ x40 → x40 ≤ (1000000000 : Int) → ∀ x41 : Int, (0 : Int) ≤ x41 → x41 ≤ (1000000 : Int) → ∀ x42 : Int, (0 : Int) ≤ x42 → x42 ≤ (1000000 : Int) → I1 [.i x31, .i x32, .i x33, .i x34, .i x35, .i x36, .i x37, .i x38, .i x39, .i x40, .i x41, .i x42] →
((Cmp.den .lt x31 x30) = true → ∀ x43 : Int, x43 = (List.getD x9 (Int.toNat x31) 0) →
(enext_sem.pre [(.i x35), (.i x36), (.i x37), (.i x38), (.i x39), (.i x40), (.i x41), (.i x42), (.i x43)]) ∧ (
∀ x44 : Int, x44 = (Cv.int (Env.get (enext_sem.out [(.i x35), (.i x36), (.i x37), (.i x38), (.i x39), (.i x40), (.i x41), (.i x42), (.i x43)]) 0)) → (-9223372036854775808 : Int) ≤ x44 → x44 ≤ (9223372036854775807 : Int) →
∀ x45 : Int, x45 = (Cv.int (Env.get (enext_sem.out [(.i x35), (.i x36), (.i x37), (.i x38), (.i x39), (.i x40), (.i x41), (.i x42), (.i x43)]) 1)) → (-9223372036854775808 : Int) ≤ x45 → x45 ≤ (9223372036854775807 : Int) →
∀ x46 : Int, x46 = (Cv.int (Env.get (enext_sem.out [(.i x35), (.i x36), (.i x37), (.i x38), (.i x39), (.i x40), (.i x41), (.i x42), (.i x43)]) 2)) → (-9223372036854775808 : Int) ≤ x46 → x46 ≤ (9223372036854775807 : Int) →
∀ x47 : Int, x47 = (Cv.int (Env.get (enext_sem.out [(.i x35), (.i x36), (.i x37), (.i x38), (.i x39), (.i x40), (.i x41), (.i x42), (.i x43)]) 3)) → (-9223372036854775808 : Int) ≤ x47 → x47 ≤ (9223372036854775807 : Int) →
∀ x48 : Int, x48 = (Cv.int (Env.get (enext_sem.out [(.i x35), (.i x36), (.i x37), (.i x38), (.i x39), (.i x40), (.i x41), (.i x42), (.i x43)]) 4)) → (-9223372036854775808 : Int) ≤ x48 → x48 ≤ (9223372036854775807 : Int) →
∀ x49 : Int, x49 = (Cv.int (Env.get (enext_sem.out [(.i x35), (.i x36), (.i x37), (.i x38), (.i x39), (.i x40), (.i x41), (.i x42), (.i x43)]) 5)) → (-9223372036854775808 : Int) ≤ x49 → x49 ≤ (9223372036854775807 : Int) →
∀ x50 : Int, x50 = (Cv.int (Env.get (enext_sem.out [(.i x35), (.i x36), (.i x37), (.i x38), (.i x39), (.i x40), (.i x41), (.i x42), (.i x43)]) 6)) → (-9223372036854775808 : Int) ≤ x50 → x50 ≤ (9223372036854775807 : Int) →
∀ x51 : Int, x51 = (Cv.int (Env.get (enext_sem.out [(.i x35), (.i x36), (.i x37), (.i x38), (.i x39), (.i x40), (.i x41), (.i x42), (.i x43)]) 7)) → (-9223372036854775808 : Int) ≤ x51 → x51 ≤ (9223372036854775807 : Int) →
∀ x53 : Int, x53 = (Cv.int (Env.get (enext_sem.out [(.i x35), (.i x36), (.i x37), (.i x38), (.i x39), (.i x40), (.i x41), (.i x42), (.i x43)]) 9)) → (-9223372036854775808 : Int) ≤ x53 → x53 ≤ (9223372036854775807 : Int) →
((!(Cmp.den .eq x53 (0 : Int))) = true → R (Value.bool false)) ∧ ((!(Cmp.den .eq x53 (0 : Int))) = false → ((Cv.bool (Env.get (enext_sem.out [(.i x35), (.i x36), (.i x37), (.i x38), (.i x39), (.i x40), (.i x41), (.i x42), (.i x43)]) 8)) = true → R (Value.bool false)) ∧ ((Cv.bool (Env.get (enext_sem.out [(.i x35), (.i x36), (.i x37), (.i x38), (.i x39), (.i x40), (.i x41), (.i x42), (.i x43)]) 8)) = false → ∀ x54 : Int, x54 = (IntKind.i64.wrap (x20 * x43)) →
∀ x55 : Int, x55 = (IntKind.i64.wrap (x54 * (1000 : Int))) →
∀ x56 : Int, x56 = (IntKind.i64.wrap (x55 * x33)) →
∀ x57 : Int, x57 = (IntKind.i64.wrap ((100 : Int) - x20)) →
∀ x58 : Int, x58 = (IntKind.i64.wrap (x57 * x32)) →
∀ x59 : Int, x59 = (IntKind.i64.wrap (x56 + x58)) →
∀ x60 : Int, x60 = (x33 * (100 : Int)) →
∀ x61 : Int, x61 = (IntKind.i64.wrap ((100 : Int) - x20)) →
∀ x62 : Int, x62 = (IntKind.i64.wrap ((100 : Int) - x20)) →
∀ x63 : Int, x63 = (IntKind.i64.wrap (x61 * x62)) →
∀ x64 : Int, x64 = (IntKind.u64.wrap x63) →
∀ x65 : Int, x65 = (IntKind.u64.wrap (x34 * x64)) →
((Cmp.den .lt x48 (-1000000000 : Int)) = true → R (Value.bool false)) ∧ ((Cmp.den .lt x48 (-1000000000 : Int)) = false → ((Cmp.den .lt (1000000000 : Int) x49) = true → R (Value.bool false)) ∧ ((Cmp.den .lt (1000000000 : Int) x49) = false → ((Cmp.den .lt x50 (0 : Int)) = true → R (Value.bool false)) ∧ ((Cmp.den .lt x50 (0 : Int)) = false → ((Cmp.den .lt (1000000 : Int) x51) = true → R (Value.bool false)) ∧ ((Cmp.den .lt (1000000 : Int) x51) = false → ∀ x66 : Int, x66 = (IntKind.i64.wrap (x48 * x60)) →
((Cmp.den .lt x59 x66) = true → R (Value.bool false)) ∧ ((Cmp.den .lt x59 x66) = false → ∀ x67 : Int, x67 = (IntKind.i64.wrap (x49 * x60)) →
((Cmp.den .lt x67 x59) = true → R (Value.bool false)) ∧ ((Cmp.den .lt x67 x59) = false → ∀ x68 : Int, x68 = (IntKind.u64.wrap (x60 * x60)) →
(mul_sem.pre [(.i x65), (.i (1000000 : Int))]) ∧ (
∀ x69 : Int, x69 = (Cv.int (Env.get (mul_sem.out [(.i x65), (.i (1000000 : Int))]) 0)) → (0 : Int) ≤ x69 → x69 ≤ (18446744073709551615 : Int) →
∀ x70 : Int, x70 = (Cv.int (Env.get (mul_sem.out [(.i x65), (.i (1000000 : Int))]) 1)) → (0 : Int) ≤ x70 → x70 ≤ (18446744073709551615 : Int) →
(mul_sem.pre [(.i x50), (.i x68)]) ∧ (
∀ x71 : Int, x71 = (Cv.int (Env.get (mul_sem.out [(.i x50), (.i x68)]) 0)) → (0 : Int) ≤ x71 → x71 ≤ (18446744073709551615 : Int) →
∀ x72 : Int, x72 = (Cv.int (Env.get (mul_sem.out [(.i x50), (.i x68)]) 1)) → (0 : Int) ≤ x72 → x72 ≤ (18446744073709551615 : Int) →
(less_sem.pre [(.i x69), (.i x70), (.i x71), (.i x72)]) ∧ (
((Cv.bool (Env.get (less_sem.out [(.i x69), (.i x70), (.i x71), (.i x72)]) 0)) = true → R (Value.bool false)) ∧ ((Cv.bool (Env.get (less_sem.out [(.i x69), (.i x70), (.i x71), (.i x72)]) 0)) = false → ∀ x74 : Int, x74 = (IntKind.u64.wrap x51) →
(mul_sem.pre [(.i x74), (.i x68)]) ∧ (
∀ x75 : Int, x75 = (Cv.int (Env.get (mul_sem.out [(.i x74), (.i x68)]) 0)) → (0 : Int) ≤ x75 → x75 ≤ (18446744073709551615 : Int) →
∀ x76 : Int, x76 = (Cv.int (Env.get (mul_sem.out [(.i x74), (.i x68)]) 1)) → (0 : Int) ≤ x76 → x76 ≤ (18446744073709551615 : Int) →
(less_sem.pre [(.i x75), (.i x76), (.i x69), (.i x70)]) ∧ (
((Cv.bool (Env.get (less_sem.out [(.i x75), (.i x76), (.i x69), (.i x70)]) 0)) = true → R (Value.bool false)) ∧ ((Cv.bool (Env.get (less_sem.out [(.i x75), (.i x76), (.i x69), (.i x70)]) 0)) = false → ∀ x78 : Int, x78 = (IntKind.i64.wrap ((1000 : Int) * x44)) →
∀ x79 : Int, x79 = (IntKind.i64.wrap (x78 * x60)) →
∀ x80 : Int, x80 = (IntKind.i64.wrap (x59 - x79)) →
∀ x81 : Int, x81 = (IntKind.i64.wrap ((1000 : Int) * x44)) →
∀ x82 : Int, x82 = (IntKind.i64.wrap (x81 * x60)) →
∀ x83 : Int, x83 = (IntKind.i64.wrap (x82 - x59)) →
∀ x84 : Int, x84 = (if (Cmp.den .lt x80 x83) = true then x83 else x80) →
∀ x85 : Int, x85 = (IntKind.u64.wrap x84) →
(mul_sem.pre [(.i x85), (.i x85)]) ∧ (
∀ x86 : Int, x86 = (Cv.int (Env.get (mul_sem.out [(.i x85), (.i x85)]) 0)) → (0 : Int) ≤ x86 → x86 ≤ (18446744073709551615 : Int) →
∀ x87 : Int, x87 = (Cv.int (Env.get (mul_sem.out [(.i x85), (.i x85)]) 1)) → (0 : Int) ≤ x87 → x87 ≤ (18446744073709551615 : Int) →
∀ x88 : Int, x88 = (IntKind.i64.wrap ((200 : Int) - x20)) →
∀ x89 : Int, x89 = (IntKind.u64.wrap x88) →
(times_sem.pre [(.i x86), (.i x87), (.i (0 : Int)), (.i x89)]) ∧ (
∀ x90 : Int, x90 = (Cv.int (Env.get (times_sem.out [(.i x86), (.i x87), (.i (0 : Int)), (.i x89)]) 0)) → (0 : Int) ≤ x90 → x90 ≤ (18446744073709551615 : Int) →
∀ x91 : Int, x91 = (Cv.int (Env.get (times_sem.out [(.i x86), (.i x87), (.i (0 : Int)), (.i x89)]) 1)) → (0 : Int) ≤ x91 → x91 ≤ (18446744073709551615 : Int) →
∀ x93 : Int, x93 = (IntKind.i64.wrap ((9 : Int) * x20)) →
∀ x94 : Int, x94 = (IntKind.i64.wrap (x93 * (1000000 : Int))) →
∀ x95 : Int, x95 = (IntKind.u64.wrap x94) →
∀ x96 : Int, x96 = (IntKind.u64.wrap x46) →
∀ x97 : Int, x97 = (IntKind.u64.wrap x46) →
∀ x98 : Int, x98 = (IntKind.u64.wrap (x96 * x97)) →
(mul_sem.pre [(.i x95), (.i x98)]) ∧ (
∀ x99 : Int, x99 = (Cv.int (Env.get (mul_sem.out [(.i x95), (.i x98)]) 0)) → (0 : Int) ≤ x99 → x99 ≤ (18446744073709551615 : Int) →
∀ x100 : Int, x100 = (Cv.int (Env.get (mul_sem.out [(.i x95), (.i x98)]) 1)) → (0 : Int) ≤ x100 → x100 ≤ (18446744073709551615 : Int) →
∀ x101 : Int, x101 = (IntKind.u64.wrap (x68 - x65)) →
(times_sem.pre [(.i x99), (.i x100), (.i (0 : Int)), (.i x101)]) ∧ (
∀ x102 : Int, x102 = (Cv.int (Env.get (times_sem.out [(.i x99), (.i x100), (.i (0 : Int)), (.i x101)]) 0)) → (0 : Int) ≤ x102 → x102 ≤ (18446744073709551615 : Int) →
∀ x103 : Int, x103 = (Cv.int (Env.get (times_sem.out [(.i x99), (.i x100), (.i (0 : Int)), (.i x101)]) 1)) → (0 : Int) ≤ x103 → x103 ≤ (18446744073709551615 : Int) →
(everd_sem.pre [(.i x44), (.i x45), (.i x46), (.i x47), (.i x48), (.i x49), (.i x50), (.i x51)]) ∧ (
∀ x105 : Int, x105 = (Cv.int (Env.get (everd_sem.out [(.i x44), (.i x45), (.i x46), (.i x47), (.i x48), (.i x49), (.i x50), (.i x51)]) 0)) → (-9223372036854775808 : Int) ≤ x105 → x105 ≤ (9223372036854775807 : Int) →
∀ x106 : Int, x106 = (Cv.int (Env.get (everd_sem.out [(.i x44), (.i x45), (.i x46), (.i x47), (.i x48), (.i x49), (.i x50), (.i x51)]) 1)) → (-9223372036854775808 : Int) ≤ x106 → x106 ≤ (9223372036854775807 : Int) →
((!(Cmp.den .eq x106 (0 : Int))) = true → R (Value.bool false)) ∧ ((!(Cmp.den .eq x106 (0 : Int))) = false → ((Cmp.den .eq x105 (1 : Int)) = true → (less_sem.pre [(.i x102), (.i x103), (.i x90), (.i x91)]) ∧ (
((!(Cv.bool (Env.get (less_sem.out [(.i x102), (.i x103), (.i x90), (.i x91)]) 0))) = true → R (Value.bool false)) ∧ ((!(Cv.bool (Env.get (less_sem.out [(.i x102), (.i x103), (.i x90), (.i x91)]) 0))) = false → ∀ x108 : Int, x108 = (x31 + (1 : Int)) →
Fits [.i (some ((0), (4))), .i (some ((-10000000000000000), (10000000000000000))), .i (some ((1), (100000000))), .i (some ((1), (10000000000000000))), .i (some ((-1000000), (1000000))), .i (some ((1), (99))), .i (some ((1), (1000000))), .i (some ((0), (1000000000))), .i (some ((-1000000000), (1000000000))), .i (some ((-1000000000), (1000000000))), .i (some ((0), (1000000))), .i (some ((0), (1000000)))] [(.i x108), (.i x59), (.i x60), (.i x65), (.i x44), (.i x45), (.i x46), (.i x47), (.i x48), (.i x49), (.i x50), (.i x51)] ∧ I1 [(.i x108), (.i x59), (.i x60), (.i x65), (.i x44), (.i x45), (.i x46), (.i x47), (.i x48), (.i x49), (.i x50), (.i x51)] ∧ mu1 [(.i x108), (.i x59), (.i x60), (.i x65), (.i x44), (.i x45), (.i x46), (.i x47), (.i x48), (.i x49), (.i x50), (.i x51)] < mu1 [.i x31, .i x32, .i x33, .i x34, .i x35, .i x36, .i x37, .i x38, .i x39, .i x40, .i x41, .i x42]))) ∧ ((Cmp.den .eq x105 (1 : Int)) = false → ((Cmp.den .eq x105 (0 : Int)) = true → (less_sem.pre [(.i x102), (.i x103), (.i x90), (.i x91)]) ∧ (
((Cv.bool (Env.get (less_sem.out [(.i x102), (.i x103), (.i x90), (.i x91)]) 0)) = true → R (Value.bool false)) ∧ ((Cv.bool (Env.get (less_sem.out [(.i x102), (.i x103), (.i x90), (.i x91)]) 0)) = false → ∀ x108 : Int, x108 = (x31 + (1 : Int)) →
Fits [.i (some ((0), (4))), .i (some ((-10000000000000000), (10000000000000000))), .i (some ((1), (100000000))), .i (some ((1), (10000000000000000))), .i (some ((-1000000), (1000000))), .i (some ((1), (99))), .i (some ((1), (1000000))), .i (some ((0), (1000000000))), .i (some ((-1000000000), (1000000000))), .i (some ((-1000000000), (1000000000))), .i (some ((0), (1000000))), .i (some ((0), (1000000)))] [(.i x108), (.i x59), (.i x60), (.i x65), (.i x44), (.i x45), (.i x46), (.i x47), (.i x48), (.i x49), (.i x50), (.i x51)] ∧ I1 [(.i x108), (.i x59), (.i x60), (.i x65), (.i x44), (.i x45), (.i x46), (.i x47), (.i x48), (.i x49), (.i x50), (.i x51)] ∧ mu1 [(.i x108), (.i x59), (.i x60), (.i x65), (.i x44), (.i x45), (.i x46), (.i x47), (.i x48), (.i x49), (.i x50), (.i x51)] < mu1 [.i x31, .i x32, .i x33, .i x34, .i x35, .i x36, .i x37, .i x38, .i x39, .i x40, .i x41, .i x42]))) ∧ ((Cmp.den .eq x105 (0 : Int)) = false → ∀ x107 : Int, x107 = (x31 + (1 : Int)) →
Fits [.i (some ((0), (4))), .i (some ((-10000000000000000), (10000000000000000))), .i (some ((1), (100000000))), .i (some ((1), (10000000000000000))), .i (some ((-1000000), (1000000))), .i (some ((1), (99))), .i (some ((1), (1000000))), .i (some ((0), (1000000000))), .i (some ((-1000000000), (1000000000))), .i (some ((-1000000000), (1000000000))), .i (some ((0), (1000000))), .i (some ((0), (1000000)))] [(.i x107), (.i x59), (.i x60), (.i x65), (.i x44), (.i x45), (.i x46), (.i x47), (.i x48), (.i x49), (.i x50), (.i x51)] ∧ I1 [(.i x107), (.i x59), (.i x60), (.i x65), (.i x44), (.i x45), (.i x46), (.i x47), (.i x48), (.i x49), (.i x50), (.i x51)] ∧ mu1 [(.i x107), (.i x59), (.i x60), (.i x65), (.i x44), (.i x45), (.i x46), (.i x47), (.i x48), (.i x49), (.i x50), (.i x51)] < mu1 [.i x31, .i x32, .i x33, .i x34, .i x35, .i x36, .i x37, .i x38, .i x39, .i x40, .i x41, .i x42]))))))))))))))))))))))))) ∧ ((Cmp.den .lt x31 x30) = false → R (Value.bool true)))))))))) ∧ ((Cmp.den .le x5 x4) = false → False)) := by kernel_rfl

def lehold_sem : SpecSem := { pre := fun cs => match cs with | [.i a, .i b, .i c, .l xs] => IsI a ∧ IsI b ∧ IsI c ∧ InI xs | _ => False, out := fun cs => match cs with | [.i a, .i b, .i c, .l xs] => [.b true] | _ => [] }
set_option maxRecDepth 10000 in
set_option maxHeartbeats 16000000 in
theorem lehold_ok : SpecOK Try.prog 19 lehold_sp lehold_sem := by
  refine spec_of_tree lehold_cxok Try.func19 (by kernel_rfl) (by kernel_rfl) lehold_walk rfl ?_
  intro cs hpre
  match cs, hpre with
  | [.i a, .i b, .i c, .l xs], ⟨j_a, j_b, j_c, j_xs⟩ =>
    have h_a := j_a
    unfold IsI at h_a
    have h_b := j_b
    unfold IsI at h_b
    have h_c := j_c
    unfold IsI at h_c
    refine ⟨rfl, IvsB.ok (by simp only [lehold_ivs, IvsB, Cv.int, and_true, j_xs, true_and] <;> omega), ?_, ?_⟩
    · simp only [lehold_sem, lehold_sp, Fits]
    · rw [lehold_den]
      simp only [lehold_sem, lehold_sp, lehold_den, mul_sem, less_sem, times_sem, enew_sem, enext_sem, everd_sem, eal_sem, Tree.den, LE.den, Cv.list, placeA, List.getElem?_cons_zero, List.getElem?_cons_succ, IE.den, BE.den, At.den, CA.den, Env.get, Cv.int, Cv.bool, List.cons_append, List.nil_append, List.map_cons, List.map_nil, bindRes, bindEq, Fits, SV.den, denL, place, placeL, eq_t, eq_f, lt_t, lt_f, le_t, le_f, beq_iff_eq, beq_eq_false_iff_ne, ne_eq, reduceCtorEq, b_dec, decide_eq_true_eq, decide_eq_false_iff_not, Bool.not_eq_false', Bool.or_eq_true, Bool.or_eq_false_iff, Bool.and_eq_false_iff, true_iff, false_iff, Bool.false_eq_true, Bool.not_eq_true', Bool.and_eq_true, Bool.not_true, Bool.not_false, List.cons.injEq, Cv.i.injEq, Cv.b.injEq, and_true, true_and, agg_inj, tup_inj, Value.int.injEq, Value.bool.injEq]
      intro x4 e4 x5 e5
      refine ⟨fun hle => ?_, fun h => by omega⟩
      intro x6 e6 x7 e7
      have h7 : x7 ≤ 4 := by
        have k1 := List.length_take_le (x5.toNat - Int.toNat 0) (List.drop (Int.toNat 0) xs)
        rw [← e6] at k1
        have k2 : x5 ≤ 4 := by omega
        have k3 : x5.toNat - Int.toNat 0 ≤ 4 := by omega
        omega
      clear e6 e5 e4 hle
      refine ⟨fun vs => match vs with | [.i i, .l ys] => (ys.length : Int) = i ∧ (∀ y ∈ ys, -100000 ≤ y ∧ y ≤ 100000) | _ => False, fun vs => match vs with | [.i i, .l _] => (x7 - i).toNat | _ => 0, ⟨by omega, by omega, fun _ h => nomatch h⟩, ⟨rfl, fun _ h => nomatch h⟩, ?_⟩
      intro x8 l8 g8 x9 hI9 hI
      obtain ⟨hlen, hmem⟩ : (x9.length : Int) = x8 ∧ (∀ y ∈ x9, -100000 ≤ y ∧ y ≤ 100000) := hI
      refine ⟨fun hlt => ?_, fun hge => ?_⟩
      · intro x10 e10 x11 e11 x12 e12 x13 e13
        refine ⟨fun h13 => ?_, fun h13 => by omega⟩
        intro x14 e14 x15 e15
        have r12 : -100000 ≤ x12 ∧ x12 ≤ 100000 := by omega
        have m14 : ∀ y ∈ x14, -100000 ≤ y ∧ y ≤ 100000 := by
          intro y hy
          rw [e14, List.mem_append] at hy
          rcases hy with hy | hy
          · exact hmem y hy
          · rw [List.mem_singleton] at hy; rw [hy]; exact r12
        have n14 : (x14.length : Int) = x15 := by rw [e14, List.length_append, List.length_singleton]; omega
        exact ⟨⟨by omega, by omega, fun y hy => by have := m14 y hy; exact ⟨by omega, by omega⟩⟩, ⟨n14, m14⟩, by show (x7 - x15).toNat < (x7 - x8).toNat; omega⟩
      · intro x10 e10 x11 e11 x12 e12 x13 e13 x14 e14 x15 e15 x16 e16 x17 e17 x18 e18
        have t10 := tm_rng (x := a) (m := 100001) (by omega)
        have t11 := tm_rng (x := b) (m := 99) (by omega)
        have t15 := tm_rng (x := c) (m := 1000000) (by omega)
        rw [← e10] at t10
        rw [← e11] at t11
        rw [← e15] at t15
        have z14 : 1 ≤ x14 ∧ x14 ≤ 99 := by omega
        have z18 : 1 ≤ x18 ∧ x18 ≤ 1000000 := by omega
        clear e10 e11 e12 e13 e14 e15 e16 e17 e18 t11 t15
        have hz : szOK x10 x14 x18 := ⟨by omega, z14, z18⟩
        have j10 : IsI x10 := ⟨by omega, by omega⟩
        have j14 : IsI x14 := ⟨by omega, by omega⟩
        have j18 : IsI x18 := ⟨by omega, by omega⟩
        simp only [hz, j10, j14, j18, forall_eq, f00, eq_self, if_true, if_false, true_and, and_true, false_and, and_false, true_or, or_true, false_or, or_false, true_iff, iff_true, false_iff, iff_false, not_true_eq_false, not_false_eq_true, true_implies, false_implies, implies_true, forall_const, decide_true, decide_false, reduceCtorEq]
        have hL : (x9.length : Int) ≤ 4 := by omega
        clear l8 g8 hge h7 e7 hlen hI9
        intros
        have w0 : IntKind.i64.wrap (1000 * x10) = 1000 * x10 := w64 (by omega) (by omega)
        rw [w0]
        refine ⟨fun vs => match vs with | [.i i, .i m, .i K, .i L, .i T, .i W, .i S, .i N, .i A, .i B, .i C, .i D] => x10 = T ∧ x14 = W ∧ x18 = S ∧ ewOK T W S N A B C D ∧ N = i ∧ B - A ≤ i ∧ ((i = 0 ∧ K = 1) ∨ (i = 1 ∧ K = 100) ∨ (i = 2 ∧ K = 10000) ∨ (i = 3 ∧ K = 1000000) ∨ (i = 4 ∧ K = 100000000)) ∧ (1 ≤ L ∧ L ≤ K * K) ∧ (-(100000000 * K) ≤ m ∧ m ≤ 100000000 * K) ∧ A * K ≤ m ∧ m ≤ B * K ∧ C * (K * K) ≤ L * 1000000 ∧ L * 1000000 ≤ D * (K * K) | _ => False, fun vs => match vs with | .i i :: _ => ((x9.length : Int) - i).toNat | _ => 0, by omega, ⟨rfl, rfl, rfl, ⟨hz, by omega, Or.inl ⟨rfl, by omega, by omega, rfl, rfl⟩⟩, rfl, by omega, Or.inl ⟨rfl, rfl⟩, ⟨by omega, by omega⟩, ⟨by omega, by omega⟩, by omega, by omega, by omega, by omega⟩, ?_⟩
        intro x31 l31 g31 x32 l32 g32 x33 l33 g33 x34 l34 g34 x35 l35 g35 x36 l36 g36 x37 l37 g37 x38 l38 g38 x39 l39 g39 x40 l40 g40 x41 l41 g41 x42 l42 g42 hI hlt
        obtain ⟨y1, y2, y3, ho, hN, hG, hK, hL1, hm, hA, hB, hC, hD⟩ : x10 = x35 ∧ x14 = x36 ∧ x18 = x37 ∧ ewOK x35 x36 x37 x38 x39 x40 x41 x42 ∧ x38 = x31 ∧ x40 - x39 ≤ x31 ∧ ((x31 = 0 ∧ x33 = 1) ∨ (x31 = 1 ∧ x33 = 100) ∨ (x31 = 2 ∧ x33 = 10000) ∨ (x31 = 3 ∧ x33 = 1000000) ∨ (x31 = 4 ∧ x33 = 100000000)) ∧ (1 ≤ x34 ∧ x34 ≤ x33 * x33) ∧ (-(100000000 * x33) ≤ x32 ∧ x32 ≤ 100000000 * x33) ∧ x39 * x33 ≤ x32 ∧ x32 ≤ x40 * x33 ∧ x41 * (x33 * x33) ≤ x34 * 1000000 ∧ x34 * 1000000 ≤ x42 * (x33 * x33) := hI
        have hv : -100000 ≤ x9.getD x31.toNat 0 ∧ x9.getD x31.toNat 0 ≤ 100000 := getD_rng hmem l31 hlt
        generalize x9.getD x31.toNat 0 = v at *
        subst y1 y2 y3
        have hx : -1000000 ≤ v ∧ v ≤ 1000000 := by omega
        have hn : ¬ x38 = 1000000000 := by omega
        have hno : nxOK x10 x14 x18 x38 x39 x40 x41 x42 v := ⟨ho, hx, hn⟩
        have hKr : 1 ≤ x33 ∧ x33 ≤ 1000000 := by omega
        obtain ⟨r1, r2, r3, r4, ⟨r5, r6, r7⟩, r8, r9, r10⟩ := ew_rng2 ho
        obtain ⟨b1, b2, b3, b4, ⟨b5, b6⟩, b7, b8⟩ := hold_mean (w := x14) (v := v) (K := x33) (m := x32) (A := x39) (B := x40) r2 hv hKr hm hA hB
        obtain ⟨c1, c2, c3, c4, c5⟩ := hold_lack (w := x14) (K := x33) (L := x34) (C := x41) (D := x42) r2 hKr hL1 hC hD
        have q1 := nx_rng r2 hx (z := x39) ⟨r5, by omega⟩
        have q2 := nx_rng r2 hx (z := x40) ⟨by omega, r7⟩
        have q3 := nq_rng r2 (q := x41) ⟨r8, by omega⟩
        have q4 := nq_rng r2 (q := x42) ⟨by omega, r10⟩
        have q5 := nq_le (w := x14) r2 (q := x41) (r := x42) r9
        have s1 := nx_le (w := x14) (x := v) r2 r6
        have gp := gap_step (w := x14) (x := v) (zl := x39) (zh := x40) r2 r6
        have hw : ¬ nxW x14 v x39 x40 := by unfold nxW; omega
        have e1 : ewOK x10 x14 x18 (x38 + 1) (nxA x14 v x39) (nxB x14 v x40) (nxC x14 x41) (nxD x14 x42) := ⟨hz, by omega, Or.inr ⟨by omega, s1, q1.1.1, q2.2.2, by omega, q5, q3.1.1, q4.2.2⟩⟩
        have n1 : ¬ x38 + 1 = 0 := by omega
        have jA0 : IsI x39 := ⟨by omega, by omega⟩
        have jB0 : IsI x40 := ⟨by omega, by omega⟩
        have jC0 : IsI x41 := ⟨by omega, by omega⟩
        have jD0 : IsI x42 := ⟨by omega, by omega⟩
        have jN0 : IsI x38 := ⟨by omega, by omega⟩
        have jv : IsI v := ⟨by omega, by omega⟩
        have jA : IsI (nxA x14 v x39) := ⟨by omega, by omega⟩
        have jB : IsI (nxB x14 v x40) := ⟨by omega, by omega⟩
        have jC : IsI (nxC x14 x41) := ⟨by omega, by omega⟩
        have jD : IsI (nxD x14 x42) := ⟨by omega, by omega⟩
        have jN : IsI (x38 + 1) := ⟨by omega, by omega⟩
        have w1 : IntKind.i64.wrap (x14 * v) = x14 * v := w64 (by omega) (by omega)
        have w2 : IntKind.i64.wrap (x14 * v * 1000) = x14 * v * 1000 := w64 (by omega) (by omega)
        have w3 : IntKind.i64.wrap (x14 * v * 1000 * x33) = x14 * v * 1000 * x33 := w64 (by omega) (by omega)
        have w4 : IntKind.i64.wrap (100 - x14) = 100 - x14 := w64 (by omega) (by omega)
        have w5 : IntKind.i64.wrap ((100 - x14) * x32) = (100 - x14) * x32 := w64 (by omega) (by omega)
        have w6 : IntKind.i64.wrap (x14 * v * 1000 * x33 + (100 - x14) * x32) = x14 * v * 1000 * x33 + (100 - x14) * x32 := w64 (by omega) (by omega)
        have w7 : IntKind.i64.wrap ((100 - x14) * (100 - x14)) = (100 - x14) * (100 - x14) := w64 (by omega) (by omega)
        have w8 : IntKind.u64.wrap ((100 - x14) * (100 - x14)) = (100 - x14) * (100 - x14) := wu64 (by omega) (by omega)
        have w9 : IntKind.u64.wrap (x34 * ((100 - x14) * (100 - x14))) = x34 * ((100 - x14) * (100 - x14)) := wu64 (by omega) (by omega)
        have w10 : IntKind.u64.wrap (x33 * 100 * (x33 * 100)) = x33 * 100 * (x33 * 100) := wu64 (by omega) (by omega)
        have d1 := mul_rng (a := nxA x14 v x39) (K := x33 * 100) q1.1 ⟨by omega, by omega⟩
        have d2 := mul_rng (a := nxB x14 v x40) (K := x33 * 100) q2.2 ⟨by omega, by omega⟩
        have w11 : IntKind.i64.wrap (nxA x14 v x39 * (x33 * 100)) = nxA x14 v x39 * (x33 * 100) := w64 (by omega) (by omega)
        have w12 : IntKind.i64.wrap (nxB x14 v x40 * (x33 * 100)) = nxB x14 v x40 * (x33 * 100) := w64 (by omega) (by omega)
        have t1 : (nxA x14 v x39 < -1000000000) = False := eq_false (by omega)
        have t2 : (1000000000 < nxB x14 v x40) = False := eq_false (by omega)
        have t3 : (nxC x14 x41 < 0) = False := eq_false (by omega)
        have t4 : (1000000 < nxD x14 x42) = False := eq_false (by omega)
        have t5 : (x14 * v * 1000 * x33 + (100 - x14) * x32 < nxA x14 v x39 * (x33 * 100)) = False := eq_false (by omega)
        have t6 : (nxB x14 v x40 * (x33 * 100) < x14 * v * 1000 * x33 + (100 - x14) * x32) = False := eq_false (by omega)
        simp only [ho, hno, hx, hn, hw, e1, n1, q1.1.1, q2.2.2, q3.1.1, q4.2.2, b7, b8, w1, w2, w3, w4, w5, w6, w7, w8, w9, w10, w11, w12, t1, t2, t3, t4, t5, t6, j10, j14, j18, jA0, jB0, jC0, jD0, jN0, jv, jA, jB, jC, jD, jN, f00, eq_self, if_true, if_false, true_and, and_true, false_and, and_false, true_or, or_true, false_or, or_false, true_iff, iff_true, false_iff, iff_false, not_true_eq_false, not_false_eq_true, true_implies, false_implies, implies_true, forall_const, decide_true, decide_false, reduceCtorEq]
        generalize x14 * v * 1000 * x33 + (100 - x14) * x32 = M at *
        generalize x34 * ((100 - x14) * (100 - x14)) = L' at *
        generalize hKK : x33 * 100 * (x33 * 100) = KK at *
        have d3 := mul_rng (a := 1000 * x10) (K := x33 * 100) ⟨by omega, by omega⟩ ⟨by omega, by omega⟩
        have hM : -100000000000000000 ≤ M ∧ M ≤ 100000000000000000 := by omega
        have hV := hold_verd (w := x14) (S := x18) (k := x33 * 100) (L := L') (M := M) (T := x10) (A := nxA x14 v x39) (B := nxB x14 v x40) (C := nxC x14 x41) (D := nxD x14 x42) (d := absZ (M - 1000 * x10 * (x33 * 100))) r2 r3 (by omega) b7 b8 (by rw [hKK]; exact c4) (by rw [hKK]; exact c5) q3.1 q4.2 (by unfold absZ; split <;> omega)
        rw [hKK] at hV
        have u1 : IntKind.i64.wrap (1000 * x10 * (x33 * 100)) = 1000 * x10 * (x33 * 100) := w64 (by omega) (by omega)
        have u2 : IntKind.i64.wrap (M - 1000 * x10 * (x33 * 100)) = M - 1000 * x10 * (x33 * 100) := w64 (by omega) (by omega)
        have u3 : IntKind.i64.wrap (1000 * x10 * (x33 * 100) - M) = 1000 * x10 * (x33 * 100) - M := w64 (by omega) (by omega)
        have u4 : (if M - 1000 * x10 * (x33 * 100) < 1000 * x10 * (x33 * 100) - M then 1000 * x10 * (x33 * 100) - M else M - 1000 * x10 * (x33 * 100)) = absZ (M - 1000 * x10 * (x33 * 100)) := by unfold absZ; split <;> split <;> omega
        have hdr : 0 ≤ absZ (M - 1000 * x10 * (x33 * 100)) ∧ absZ (M - 1000 * x10 * (x33 * 100)) ≤ 200000000000000000 := by unfold absZ; split <;> omega
        generalize absZ (M - 1000 * x10 * (x33 * 100)) = d at *
        have hS2 : 1 ≤ x18 * x18 ∧ x18 * x18 ≤ 1000000000000 := (vaZ_rng r2 r3 q3.1).1
        have dq := Int.mul_le_mul (a := d) (b := d) (c := 200000000000000000) (d := 200000000000000000) hdr.2 hdr.2 hdr.1 (by omega)
        have dq0 := Int.mul_nonneg hdr.1 hdr.1
        have fq := Int.mul_le_mul (a := d * d) (b := 200 - x14) (c := 40000000000000000000000000000000000) (d := 199) (by omega) (by omega) (by omega) (by omega)
        have fq0 : 0 ≤ d * d * (200 - x14) := Int.mul_nonneg (by omega) (by omega)
        have lq := Int.mul_le_mul (a := 9 * x14 * 1000000) (b := x18 * x18) (c := 891000000) (d := 1000000000000) (by omega) (by omega) (by omega) (by omega)
        have lq0 : 0 ≤ 9 * x14 * 1000000 * (x18 * x18) := Int.mul_nonneg (by omega) (by omega)
        have mq := Int.mul_le_mul (a := 9 * x14 * 1000000 * (x18 * x18)) (b := KK - L') (c := 891000000000000000000) (d := 10000000000000000) (by omega) (by omega) (by omega) (by omega)
        have mq0 : 0 ≤ 9 * x14 * 1000000 * (x18 * x18) * (KK - L') := Int.mul_nonneg lq0 (by omega)
        have cq := Int.mul_le_mul (a := nxC x14 x41) (b := KK) (c := 1000000) (d := 10000000000000000) (by omega) (by omega) (by omega) (by omega)
        have cq0 : 0 ≤ nxC x14 x41 * KK := Int.mul_nonneg (by omega) (by omega)
        have eq := Int.mul_le_mul (a := nxD x14 x42) (b := KK) (c := 1000000) (d := 10000000000000000) (by omega) (by omega) (by omega) (by omega)
        have eq0 : 0 ≤ nxD x14 x42 * KK := Int.mul_nonneg (by omega) (by omega)
        have z1 : IntKind.u64.wrap d = d := wu64 (by omega) (by omega)
        have z2 : IntKind.u64.wrap (nxD x14 x42) = nxD x14 x42 := wu64 (by omega) (by omega)
        have z3 : IntKind.i64.wrap (200 - x14) = 200 - x14 := w64 (by omega) (by omega)
        have z4 : IntKind.u64.wrap (200 - x14) = 200 - x14 := wu64 (by omega) (by omega)
        have z5 : IntKind.i64.wrap (9 * x14) = 9 * x14 := w64 (by omega) (by omega)
        have z6 : IntKind.i64.wrap (9 * x14 * 1000000) = 9 * x14 * 1000000 := w64 (by omega) (by omega)
        have z7 : IntKind.u64.wrap (9 * x14 * 1000000) = 9 * x14 * 1000000 := wu64 (by omega) (by omega)
        have z8 : IntKind.u64.wrap x18 = x18 := wu64 (by omega) (by omega)
        have z9 : IntKind.u64.wrap (x18 * x18) = x18 * x18 := wu64 (by omega) (by omega)
        have z10 : IntKind.u64.wrap (KK - L') = KK - L' := wu64 (by omega) (by omega)
        have y1 : IsU L' := ⟨by omega, by omega⟩
        have y2 : IsU 1000000 := ⟨by omega, by omega⟩
        have y3 : IsU (nxC x14 x41) := ⟨by omega, by omega⟩
        have y4 : IsU (nxD x14 x42) := ⟨by omega, by omega⟩
        have y5 : IsU KK := ⟨by omega, by omega⟩
        have y6 : IsU d := ⟨by omega, by omega⟩
        have y7 : IsU (200 - x14) := ⟨by omega, by omega⟩
        have y8 : IsU (9 * x14 * 1000000) := ⟨by omega, by omega⟩
        have y9 : IsU (x18 * x18) := ⟨by omega, by omega⟩
        have y10 : IsU (KK - L') := ⟨by omega, by omega⟩
        have y11 : IsU 0 := ⟨by omega, by omega⟩
        have v1 := iu_hi (x := L' * 1000000) (by omega) (by omega)
        have v2 := iu_hi (x := nxC x14 x41 * KK) (by omega) (by omega)
        have v3 := iu_hi (x := nxD x14 x42 * KK) (by omega) (by omega)
        have v4 := iu_hi (x := d * d) (by omega) (by omega)
        have v5 := iu_hi (x := 9 * x14 * 1000000 * (x18 * x18)) (by omega) (by omega)
        have g1 := vq2' (x := d * d * (200 - x14)) (by omega) (by omega)
        have g2 := vq2' (x := 9 * x14 * 1000000 * (x18 * x18) * (KK - L')) (by omega) (by omega)
        have t7 : (L' * 1000000 < nxC x14 x41 * KK) = False := eq_false (by omega)
        have t8 : (nxD x14 x42 * KK < L' * 1000000) = False := eq_false (by omega)
        simp only [w0, u1, u2, u3, u4, z1, z2, z3, z4, z5, z6, z7, z8, z9, z10, y1, y2, y3, y4, y5, y6, y7, y8, y9, y10, y11, v1, v2, v3, v4, v5, vq', val0r, iu_lo, iu_mod, g1, g2, t7, t8, e1, n1, j10, j14, j18, jA, jB, jC, jD, jN, f00, eq_self, if_true, if_false, true_and, and_true, false_and, and_false, true_or, or_true, false_or, or_false, true_iff, iff_true, false_iff, iff_false, not_true_eq_false, not_false_eq_true, true_implies, false_implies, implies_true, forall_const, decide_true, decide_false, reduceCtorEq]
        clear fq fq0 lq lq0 mq mq0 cq cq0 eq eq0 dq dq0 hdr hS2 u1 u2 u3 u4 z1 z2 z3 z4 z5 z6 z7 z8 z9 z10 g1 g2 t1 t2 t3 t4 t5 t6 t7 t8 v1 v2 v3 v4 v5 w1 w2 w3 w4 w5 w6 w7 w8 w9 w10 w11 w12 w0 d1 d2 d3 hM y1 y2 y3 y4 y5 y6 y7 y8 y9 y10 y11 b1 b2 b3 b4 c1 h_a h_b h_c b7 b8 hA hB hC hD hL1 hm
        generalize 9 * x14 * 1000000 * (x18 * x18) * (KK - L') = Lim at *
        generalize d * d * (200 - x14) = Far at *
        generalize veZ x10 (nxA x14 v x39) (nxB x14 v x40) (rcLo x18 x14 (nxD x14 x42)) (rcHi x18 x14 (nxC x14 x41)) = k at *
        have E1 : x38 + 1 = x31 + 1 ∧ nxB x14 v x40 - nxA x14 v x39 ≤ x31 + 1 ∧ (x31 + 1 = 0 ∧ x33 * 100 = 1 ∨ x31 + 1 = 1 ∧ x33 * 100 = 100 ∨ x31 + 1 = 2 ∧ x33 * 100 = 10000 ∨ x31 + 1 = 3 ∧ x33 * 100 = 1000000 ∨ x31 + 1 = 4 ∧ x33 * 100 = 100000000) ∧ (1 ≤ L' ∧ L' ≤ KK) ∧ (-(100000000 * (x33 * 100)) ≤ M ∧ M ≤ 100000000 * (x33 * 100)) ∧ nxC x14 x41 * KK ≤ L' * 1000000 ∧ L' * 1000000 ≤ nxD x14 x42 * KK :=
          ⟨by omega, by omega, by omega, c2, ⟨b5, b6⟩, c4, c5⟩
        have E2 : ((x9.length : Int) - (x31 + 1)).toNat < ((x9.length : Int) - x31).toNat := by omega
        clear hG hK c4 c5 hmem
        obtain ⟨V1, V2⟩ := hV
        intros
        refine ⟨fun h => ⟨fun c => absurd (V1 h) c, fun _ => ⟨?_, E1, E2⟩⟩, fun h => ⟨fun h0 => ⟨fun c => absurd c (V2 h0), fun _ => ⟨?_, E1, E2⟩⟩, fun _ => ⟨?_, E1, E2⟩⟩⟩
        all_goals
          clear E1 E2 V1 V2
          omega
end Go.Proofs.Ytlhmhcjpdpakkaa.X
