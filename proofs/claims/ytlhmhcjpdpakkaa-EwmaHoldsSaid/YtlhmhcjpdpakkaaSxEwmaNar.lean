/-
  EwmaNarrow tells true, for every input.
-/
import Derived.Test.YtlhmhcjpdpakkaaSxEwmaLaw
namespace Go.Proofs.Ytlhmhcjpdpakkaa.X
open Go Go.SX Go.RowKit
set_option linter.unusedVariables false
set_option linter.unusedSimpArgs false




theorem getD_rng {xs : List Int} {a b i : Int} (h : ∀ y ∈ xs, a ≤ y ∧ y ≤ b) (h0 : 0 ≤ i) (h1 : i < xs.length) : a ≤ xs.getD i.toNat 0 ∧ xs.getD i.toNat 0 ≤ b := by
  have hk : i.toNat < xs.length := by omega
  have e : xs.getD i.toNat 0 = xs[i.toNat] := by simp [List.getD, hk]
  rw [e]
  exact h _ (List.getElem_mem hk)
/-- the ends stay near -/
theorem nar_step {w x zl zh : Int} (hw : 1 ≤ w ∧ w ≤ 99) (hz : zl ≤ zh) (hD : (zh - zl) * w ≤ 200) : nxA w x zl ≤ nxB w x zh ∧ (nxB w x zh - nxA w x zl) * w ≤ 200 := by
  unfold nxA nxB
  rw [dn_pos (by omega), up_pos (by omega)]
  have e : (100 - w) * zh = (100 - w) * zl + (100 - w) * (zh - zl) := by rw [← Int.mul_add]; congr 1; omega
  have p : 0 ≤ (100 - w) * (zh - zl) := Int.mul_nonneg (by omega) (by omega)
  rw [e]
  have e2 : (100 - w) * (zh - zl) * w = (100 - w) * ((zh - zl) * w) := Int.mul_assoc ..
  have m1 : (100 - w) * ((zh - zl) * w) ≤ (100 - w) * 200 := Int.mul_le_mul_of_nonneg_left hD (by omega)
  generalize (100 - w) * (zh - zl) = P at *
  generalize w * x * 1000 = K at *
  generalize (100 - w) * zl = Q at *
  refine ⟨by omega, ?_⟩
  have b1 : 100 * (-(-(K + (Q + P)) / 100) - (K + Q) / 100) ≤ P + 198 := by omega
  have b2 := Int.mul_le_mul_of_nonneg_right b1 (show 0 ≤ w by omega)
  generalize -(-(K + (Q + P)) / 100) - (K + Q) / 100 = G at *
  rw [Int.add_mul, Int.mul_assoc] at b2
  generalize G * w = Gw at *
  omega
theorem nar_no {w x zl zh : Int} (hw : 1 ≤ w ∧ w ≤ 99) (hD : (nxB w x zh - nxA w x zl) * w ≤ 200) (h4 : 4 ≤ w) : ¬ nxW w x zl zh := by
  unfold nxW
  intro h
  generalize nxB w x zh - nxA w x zl = G at *
  have := Int.mul_le_mul (a := 65) (b := 4) (c := G) (d := w) (by omega) h4 (by omega) (by omega)
  omega
theorem nq_le {w q r : Int} (hw : 1 ≤ w ∧ w ≤ 99) (h : q ≤ r) : nxC w q ≤ nxD w r := by
  unfold nxC nxD
  have h1 : (100 - w) * (100 - w) * q ≤ (100 - w) * (100 - w) * r := Int.mul_le_mul_of_nonneg_left h (Int.mul_nonneg (by omega) (by omega))
  exact Int.le_trans (dn_mono (by omega) h1) (up_dn0 (by omega)).1
def lenar_sp : SpecSh := { args := [(.int .i64 (.z 0)), (.int .i64 (.z 0)), (.int .i64 (.z 0)), (.lst 0)], res := (.bool .f), sh := [.b] }
set_option maxRecDepth 100000 in
def lenar_tree : Tree :=
.lett (.len 3) <|
.lett (.ite (.cmp .lt (.z 300) (.v 4)) (.z 300) (.v 4)) <|
.ite (.cmp .le (.v 5) (.v 4)) (.letl (.sub 3 (.z 0) (.v 5)) <|
.lett (.len 6) <|
.loop [.i (some (0, 300)), .l] [.i (.z 0), .l (.nil)] <|
.ite (.cmp .lt (.v 8) (.v 7)) (.lett (.nth 6 (.v 8)) <|
.lett (.ite (.cmp .lt (.v 10) (.z (-100000))) (.z (-100000)) (.v 10)) <|
.lett (.ite (.cmp .lt (.z 100000) (.v 11)) (.z 100000) (.v 11)) <|
.lett (.len 9) <|
.ite (.cmp .le (.v 13) (.z 100000)) (.letl (.app 9 [.v 12]) <|
.lett (.add (.v 8) (.z 1)) <|
.again 0 [.i (.v 15), .l (.v 14)]) <|
.bad 113) <|
.lett (.rem (.v 0) (.z 100001)) <|
.lett (.rem (.v 1) (.z 99)) <|
.lett (.add (.v 11) (.z 99)) <|
.lett (.mod (.v 12) (.z 99)) <|
.lett (.add (.z 1) (.v 13)) <|
.lett (.rem (.v 2) (.z 1000000)) <|
.lett (.add (.v 15) (.z 1000000)) <|
.lett (.mod (.v 16) (.z 1000000)) <|
.lett (.add (.z 1) (.v 17)) <|
.call 133 [.i (some ((-9223372036854775808), 9223372036854775807)), .i (some ((-9223372036854775808), 9223372036854775807)), .i (some ((-9223372036854775808), 9223372036854775807)), .i (some ((-9223372036854775808), 9223372036854775807)), .i (some ((-9223372036854775808), 9223372036854775807)), .i (some ((-9223372036854775808), 9223372036854775807)), .i (some ((-9223372036854775808), 9223372036854775807)), .i (some ((-9223372036854775808), 9223372036854775807)), .i (some ((-9223372036854775808), 9223372036854775807))] [.i (.v 10), .i (.v 14), .i (.v 18)] <|
.ite (.not (.cmp .eq (.v 27) (.z 0))) (.ret (.bool .f)) <|
.call 70 [.b] [] <|
.ite (.not (.v 28)) (.ret (.bool .f)) <|
.lett (.len 9) <|
.loop [.i (some (0, 300)), .i (some ((-1000000), 1000000)), .i (some (1, 99)), .i (some (1, 1000000)), .i (some (0, 1000000000)), .i (some ((-1000000000), 1000000000)), .i (some ((-1000000000), 1000000000)), .i (some (0, 1000000)), .i (some (0, 1000000))] [.i (.z 0), .i (.v 19), .i (.v 20), .i (.v 21), .i (.v 22), .i (.v 23), .i (.v 24), .i (.v 25), .i (.v 26)] <|
.ite (.cmp .lt (.v 30) (.v 29)) (.lett (.nth 9 (.v 30)) <|
.call 71 [.i (some ((-9223372036854775808), 9223372036854775807)), .i (some ((-9223372036854775808), 9223372036854775807)), .i (some ((-9223372036854775808), 9223372036854775807)), .i (some ((-9223372036854775808), 9223372036854775807)), .i (some ((-9223372036854775808), 9223372036854775807)), .i (some ((-9223372036854775808), 9223372036854775807)), .i (some ((-9223372036854775808), 9223372036854775807)), .i (some ((-9223372036854775808), 9223372036854775807)), .b, .i (some ((-9223372036854775808), 9223372036854775807))] [.i (.v 31), .i (.v 32), .i (.v 33), .i (.v 34), .i (.v 35), .i (.v 36), .i (.v 37), .i (.v 38), .i (.v 39)] <|
.ite (.not (.cmp .eq (.v 49) (.z 0))) (.ret (.bool .f)) <|
.ite (.v 48) (.ite (.cmp .le (.z 4) (.v 32)) (.ret (.bool .f)) <|
.ite (.not (.and (.cmp .eq (.v 40) (.v 19)) (.and (.cmp .eq (.v 41) (.v 20)) (.and (.cmp .eq (.v 42) (.v 21)) (.and (.cmp .eq (.v 43) (.v 22)) (.and (.cmp .eq (.v 44) (.v 23)) (.and (.cmp .eq (.v 45) (.v 24)) (.and (.cmp .eq (.v 46) (.v 25)) (.cmp .eq (.v 47) (.v 26)))))))))) (.ret (.bool .f)) <|
.ite (.cmp .lt (.v 45) (.v 44)) (.ret (.bool .f)) <|
.lett (.subw .i64 (.v 45) (.v 44)) <|
.ite (.cmp .lt (.z 64) (.v 50)) (.ret (.bool .f)) <|
.lett (.subw .i64 (.v 45) (.v 44)) <|
.lett (.mulw .i64 (.v 51) (.v 41)) <|
.ite (.cmp .lt (.z 200) (.v 52)) (.ret (.bool .f)) <|
.ite (.cmp .lt (.v 47) (.v 46)) (.ret (.bool .f)) <|
.call 72 [.b] [.i (.v 40), .i (.v 41), .i (.v 42), .i (.v 43), .i (.v 44), .i (.v 45), .i (.v 46), .i (.v 47)] <|
.ite (.not (.v 53)) (.ret (.bool .f)) <|
.lett (.add (.v 30) (.z 1)) <|
.ite (.cmp .lt (.v 54) (.v 43)) (.ret (.bool .f)) <|
.lett (.add (.v 30) (.z 1)) <|
.again 1 [.i (.v 55), .i (.v 40), .i (.v 41), .i (.v 42), .i (.v 43), .i (.v 44), .i (.v 45), .i (.v 46), .i (.v 47)]) <|
.lett (.add (.v 34) (.z 1)) <|
.ite (.not (.cmp .eq (.v 43) (.v 50))) (.ret (.bool .f)) <|
.ite (.cmp .lt (.v 45) (.v 44)) (.ret (.bool .f)) <|
.lett (.subw .i64 (.v 45) (.v 44)) <|
.ite (.cmp .lt (.z 64) (.v 51)) (.ret (.bool .f)) <|
.lett (.subw .i64 (.v 45) (.v 44)) <|
.lett (.mulw .i64 (.v 52) (.v 41)) <|
.ite (.cmp .lt (.z 200) (.v 53)) (.ret (.bool .f)) <|
.ite (.cmp .lt (.v 47) (.v 46)) (.ret (.bool .f)) <|
.call 72 [.b] [.i (.v 40), .i (.v 41), .i (.v 42), .i (.v 43), .i (.v 44), .i (.v 45), .i (.v 46), .i (.v 47)] <|
.ite (.not (.v 54)) (.ret (.bool .f)) <|
.lett (.add (.v 30) (.z 1)) <|
.ite (.cmp .lt (.v 55) (.v 43)) (.ret (.bool .f)) <|
.lett (.add (.v 30) (.z 1)) <|
.again 1 [.i (.v 56), .i (.v 40), .i (.v 41), .i (.v 42), .i (.v 43), .i (.v 44), .i (.v 45), .i (.v 46), .i (.v 47)]) <|
.ret (.bool .t)) <|
.bad 120
noncomputable def lenar_cx : Ctx := { tys := tys, fns := fns, sps := [(133, enew_sp), (71, enext_sp), (72, eright_sp), (70, eal_sp)], anns := [((16, 6), { slots := [35], cells := [(5, 0), (5, 1), (5, 2), (5, 3), (5, 4), (5, 5), (5, 6), (5, 7)], ivs := [some (0, 300), some ((-1000000), 1000000), some (1, 99), some (1, 1000000), some (0, 1000000000), some ((-1000000000), 1000000000), some ((-1000000000), 1000000000), some (0, 1000000), some (0, 1000000)] }), ((69, 3), { slots := [25], cells := [], ivs := [some (0, 300)], lsts := [13], elem := 3 })], trys := [] }
def lenar_ivs : List (Option (Int × Int)) := [some ((-9223372036854775808), 9223372036854775807), some ((-9223372036854775808), 9223372036854775807), some ((-9223372036854775808), 9223372036854775807), none]
set_option maxRecDepth 100000 in
theorem lenar_walk : runFn lenar_cx 3000 16 Try.f16 lenar_sp.args lenar_ivs = lenar_tree := by kernel_rfl
noncomputable def lenar_M : Nat → SpecSem
  | 133 => enew_sem
  | 71 => enext_sem
  | 72 => eright_sem
  | 70 => eal_sem
  | _ => noSem
theorem lenar_M133 : lenar_M 133 = enew_sem := rfl
theorem lenar_M71 : lenar_M 71 = enext_sem := rfl
theorem lenar_M72 : lenar_M 72 = eright_sem := rfl
theorem lenar_M70 : lenar_M 70 = eal_sem := rfl
theorem lenar_cxok : CxOK Try.prog lenar_cx lenar_M := ⟨tysOK, fnsOK, spCons enew_ok <| spCons enext_ok <| spCons eright_ok <| spCons eal_ok <| fun _ _ h => spNil h, mixedOK, fun _ _ h => trNil h⟩
set_option maxRecDepth 100000 in
set_option maxHeartbeats 8000000 in
theorem lenar_den (R RP : Value → Prop) (F : Ex → St → Js → Env → Prop) (x0 : Int) (x1 : Int) (x2 : Int) (x3 : List Int) : Tree.den lenar_M R RP F lenar_tree [] [(.i x0), (.i x1), (.i x2), (.l x3)] = (
  ∀ x4 : Int, x4 = ((List.length x3 : Int)) →
∀ x5 : Int, x5 = (if (Cmp.den .lt (300 : Int) x4) = true then (300 : Int) else x4) →
((Cmp.den .le x5 x4) = true → ∀ x6 : List Int, x6 = (List.take (Int.toNat x5 - Int.toNat (0 : Int)) (List.drop (Int.toNat (0 : Int)) x3)) →
∀ x7 : Int, x7 = ((List.length x6 : Int)) →
∃ (I0 : List Cv → Prop) (mu0 : List Cv → Nat), Fits [.i (some ((0), (300))), .l] [(.i (0 : Int)), (.l (([] : List Int)))] ∧ I0 [(.i (0 : Int)), (.l (([] : List Int)))] ∧ (
∀ x8 : Int, (0 : Int) ≤ x8 → x8 ≤ (300 : Int) → ∀ x9 : List Int, InI x9 → I0 [.i x8, .l x9] →
((Cmp.den .lt x8 x7) = true → ∀ x10 : Int, x10 = (List.getD x6 (Int.toNat x8) 0) →
∀ x11 : Int, x11 = (if (Cmp.den .lt x10 (-100000 : Int)) = true then (-100000 : Int) else x10) →
∀ x12 : Int, x12 = (if (Cmp.den .lt (100000 : Int) x11) = true then (100000 : Int) else x11) →
∀ x13 : Int, x13 = ((List.length x9 : Int)) →
((Cmp.den .le x13 (100000 : Int)) = true → ∀ x14 : List Int, x14 = (x9 ++ ([x12] : List Int)) →
∀ x15 : Int, x15 = (x8 + (1 : Int)) →
Fits [.i (some ((0), (300))), .l] [(.i x15), (.l (x14))] ∧ I0 [(.i x15), (.l (x14))] ∧ mu0 [(.i x15), (.l (x14))] < mu0 [.i x8, .l x9]) ∧ ((Cmp.den .le x13 (100000 : Int)) = false → False)) ∧ ((Cmp.den .lt x8 x7) = false → ∀ x10 : Int, x10 = (Int.tmod x0 (100001 : Int)) →
∀ x11 : Int, x11 = (Int.tmod x1 (99 : Int)) →
∀ x12 : Int, x12 = (x11 + (99 : Int)) →
∀ x13 : Int, x13 = (x12 % (99 : Int)) →
∀ x14 : Int, x14 = ((1 : Int) + x13) →
∀ x15 : Int, x15 = (Int.tmod x2 (1000000 : Int)) →
∀ x16 : Int, x16 = (x15 + (1000000 : Int)) →
∀ x17 : Int, x17 = (x16 % (1000000 : Int)) →
∀ x18 : Int, x18 = ((1 : Int) + x17) →
(enew_sem.pre [(.i x10), (.i x14), (.i x18)]) ∧ (
∀ x19 : Int, x19 = (Cv.int (Env.get (enew_sem.out [(.i x10), (.i x14), (.i x18)]) 0)) → (-9223372036854775808 : Int) ≤ x19 → x19 ≤ (9223372036854775807 : Int) →
∀ x20 : Int, x20 = (Cv.int (Env.get (enew_sem.out [(.i x10), (.i x14), (.i x18)]) 1)) → (-9223372036854775808 : Int) ≤ x20 → x20 ≤ (9223372036854775807 : Int) →
∀ x21 : Int, x21 = (Cv.int (Env.get (enew_sem.out [(.i x10), (.i x14), (.i x18)]) 2)) → (-9223372036854775808 : Int) ≤ x21 → x21 ≤ (9223372036854775807 : Int) →
∀ x22 : Int, x22 = (Cv.int (Env.get (enew_sem.out [(.i x10), (.i x14), (.i x18)]) 3)) → (-9223372036854775808 : Int) ≤ x22 → x22 ≤ (9223372036854775807 : Int) →
∀ x23 : Int, x23 = (Cv.int (Env.get (enew_sem.out [(.i x10), (.i x14), (.i x18)]) 4)) → (-9223372036854775808 : Int) ≤ x23 → x23 ≤ (9223372036854775807 : Int) →
∀ x24 : Int, x24 = (Cv.int (Env.get (enew_sem.out [(.i x10), (.i x14), (.i x18)]) 5)) → (-9223372036854775808 : Int) ≤ x24 → x24 ≤ (9223372036854775807 : Int) →
∀ x25 : Int, x25 = (Cv.int (Env.get (enew_sem.out [(.i x10), (.i x14), (.i x18)]) 6)) → (-9223372036854775808 : Int) ≤ x25 → x25 ≤ (9223372036854775807 : Int) →
∀ x26 : Int, x26 = (Cv.int (Env.get (enew_sem.out [(.i x10), (.i x14), (.i x18)]) 7)) → (-9223372036854775808 : Int) ≤ x26 → x26 ≤ (9223372036854775807 : Int) →
∀ x27 : Int, x27 = (Cv.int (Env.get (enew_sem.out [(.i x10), (.i x14), (.i x18)]) 8)) → (-9223372036854775808 : Int) ≤ x27 → x27 ≤ (9223372036854775807 : Int) →
((!(Cmp.den .eq x27 (0 : Int))) = true → R (Value.bool false)) ∧ ((!(Cmp.den .eq x27 (0 : Int))) = false → (eal_sem.pre []) ∧ (
((!(Cv.bool (Env.get (eal_sem.out []) 0))) = true → R (Value.bool false)) ∧ ((!(Cv.bool (Env.get (eal_sem.out []) 0))) = false → ∀ x29 : Int, x29 = ((List.length x9 : Int)) →
∃ (I1 : List Cv → Prop) (mu1 : List Cv → Nat), Fits [.i (some ((0), (300))), .i (some ((-1000000), (1000000))), .i (some ((1), (99))), .i (some ((1), (1000000))), .i (some ((0), (1000000000))), .i (some ((-1000000000), (1000000000))), .i (some ((-1000000000), (1000000000))), .i (some ((0), (1000000))), .i (some ((0), (1000000)))] [(.i (0 : Int)), (.i x19), (.i x20), (.i x21), (.i x22), (.i x23), (.i x24), (.i x25), (.i x26)] ∧ I1 [(.i (0 : Int)), (.i x19), (.i x20), (.i x21), (.i x22), (.i x23), (.i x24), (.i x25), (.i x26)] ∧ (
∀ x30 : Int, (0 : Int) ≤ x30 → x30 ≤ (300 : Int) → ∀ x31 : Int, (-1000000 : Int) ≤ x31 → x31 ≤ (1000000 : Int) → ∀ x32 : Int, (1 : Int) ≤ x32 → x32 ≤ (99 : Int) → ∀ x33 : Int, (1 : Int) ≤ x33 → x33 ≤ (1000000 : Int) → ∀ x34 : Int, (0 : Int) ≤ x34 → x34 ≤ (1000000000 : Int) → ∀ x35 : Int, (-1000000000 : Int) ≤ x35 → x35 ≤ (1000000000 : Int) → ∀ x36 : Int, (-1000000000 : Int) ≤ x36 → x36 ≤ (1000000000 : Int) → ∀ x37 : Int, (0 : Int) ≤ x37 → x37 ≤ (1000000 : Int) → ∀ x38 : Int, (0 : Int) ≤ x38 → x38 ≤ (1000000 : Int) → I1 [.i x30, .i x31, .i x32, .i x33, .i x34, .i x35, .i x36, .i x37, .i x38] →
((Cmp.den .lt x30 x29) = true → ∀ x39 : Int, x39 = (List.getD x9 (Int.toNat x30) 0) →
(enext_sem.pre [(.i x31), (.i x32), (.i x33), (.i x34), (.i x35), (.i x36), (.i x37), (.i x38), (.i x39)]) ∧ (
∀ x40 : Int, x40 = (Cv.int (Env.get (enext_sem.out [(.i x31), (.i x32), (.i x33), (.i x34), (.i x35), (.i x36), (.i x37), (.i x38), (.i x39)]) 0)) → (-9223372036854775808 : Int) ≤ x40 → x40 ≤ (9223372036854775807 : Int) →
∀ x41 : Int, x41 = (Cv.int (Env.get (enext_sem.out [(.i x31), (.i x32), (.i x33), (.i x34), (.i x35), (.i x36), (.i x37), (.i x38), (.i x39)]) 1)) → (-9223372036854775808 : Int) ≤ x41 → x41 ≤ (9223372036854775807 : Int) →
∀ x42 : Int, x42 = (Cv.int (Env.get (enext_sem.out [(.i x31), (.i x32), (.i x33), (.i x34), (.i x35), (.i x36), (.i x37), (.i x38), (.i x39)]) 2)) → (-9223372036854775808 : Int) ≤ x42 → x42 ≤ (9223372036854775807 : Int) →
∀ x43 : Int, x43 = (Cv.int (Env.get (enext_sem.out [(.i x31), (.i x32), (.i x33), (.i x34), (.i x35), (.i x36), (.i x37), (.i x38), (.i x39)]) 3)) → (-9223372036854775808 : Int) ≤ x43 → x43 ≤ (9223372036854775807 : Int) →
∀ x44 : Int, x44 = (Cv.int (Env.get (enext_sem.out [(.i x31), (.i x32), (.i x33), (.i x34), (.i x35), (.i x36), (.i x37), (.i x38), (.i x39)]) 4)) → (-9223372036854775808 : Int) ≤ x44 → x44 ≤ (9223372036854775807 : Int) →
∀ x45 : Int, x45 = (Cv.int (Env.get (enext_sem.out [(.i x31), (.i x32), (.i x33), (.i x34), (.i x35), (.i x36), (.i x37), (.i x38), (.i x39)]) 5)) → (-9223372036854775808 : Int) ≤ x45 → x45 ≤ (9223372036854775807 : Int) →
∀ x46 : Int, x46 = (Cv.int (Env.get (enext_sem.out [(.i x31), (.i x32), (.i x33), (.i x34), (.i x35), (.i x36), (.i x37), (.i x38), (.i x39)]) 6)) → (-9223372036854775808 : Int) ≤ x46 → x46 ≤ (9223372036854775807 : Int) →
∀ x47 : Int, x47 = (Cv.int (Env.get (enext_sem.out [(.i x31), (.i x32), (.i x33), (.i x34), (.i x35), (.i x36), (.i x37), (.i x38), (.i x39)]) 7)) → (-9223372036854775808 : Int) ≤ x47 → x47 ≤ (9223372036854775807 : Int) →
∀ x49 : Int, x49 = (Cv.int (Env.get (enext_sem.out [(.i x31), (.i x32), (.i x33), (.i x34), (.i x35), (.i x36), (.i x37), (.i x38), (.i x39)]) 9)) → (-9223372036854775808 : Int) ≤ x49 → x49 ≤ (9223372036854775807 : Int) →
((!(Cmp.den .eq x49 (0 : Int))) = true → R (Value.bool false)) ∧ ((!(Cmp.den .eq x49 (0 : Int))) = false → ((Cv.bool (Env.get (enext_sem.out [(.i x31), (.i x32), (.i x33), (.i x34), (.i x35), (.i x36), (.i x37), (.i x38), (.i x39)]) 8)) = true → ((Cmp.den .le (4 : Int) x32) = true → R (Value.bool false)) ∧ ((Cmp.den .le (4 : Int) x32) = false → ((!((Cmp.den .eq x40 x19) && ((Cmp.den .eq x41 x20) && ((Cmp.den .eq x42 x21) && ((Cmp.den .eq x43 x22) && ((Cmp.den .eq x44 x23) && ((Cmp.den .eq x45 x24) && ((Cmp.den .eq x46 x25) && (Cmp.den .eq x47 x26))))))))) = true → R (Value.bool false)) ∧ ((!((Cmp.den .eq x40 x19) && ((Cmp.den .eq x41 x20) && ((Cmp.den .eq x42 x21) && ((Cmp.den .eq x43 x22) && ((Cmp.den .eq x44 x23) && ((Cmp.den .eq x45 x24) && ((Cmp.den .eq x46 x25) && (Cmp.den .eq x47 x26))))))))) = false → ((Cmp.den .lt x45 x44) = true → R (Value.bool false)) ∧ ((Cmp.den .lt x45 x44) = false → ∀ x50 : Int, x50 = (IntKind.i64.wrap (x45 - x44)) →
((Cmp.den .lt (64 : Int) x50) = true → R (Value.bool false)) ∧ ((Cmp.den .lt (64 : Int) x50) = false → ∀ x51 : Int, x51 = (IntKind.i64.wrap (x45 - x44)) →
∀ x52 : Int, x52 = (IntKind.i64.wrap (x51 * x41)) →
((Cmp.den .lt (200 : Int) x52) = true → R (Value.bool false)) ∧ ((Cmp.den .lt (200 : Int) x52) = false → ((Cmp.den .lt x47 x46) = true → R (Value.bool false)) ∧ ((Cmp.den .lt x47 x46) = false → (eright_sem.pre [(.i x40), (.i x41), (.i x42), (.i x43), (.i x44), (.i x45), (.i x46), (.i x47)]) ∧ (
((!(Cv.bool (Env.get (eright_sem.out [(.i x40), (.i x41), (.i x42), (.i x43), (.i x44), (.i x45), (.i x46), (.i x47)]) 0))) = true → R (Value.bool false)) ∧ ((!(Cv.bool (Env.get (eright_sem.out [(.i x40), (.i x41), (.i x42), (.i x43), (.i x44), (.i x45), (.i x46), (.i x47)]) 0))) = false → ∀ x54 : Int, x54 = (x30 + (1 : Int)) →
((Cmp.den .lt x54 x43) = true → R (Value.bool false)) ∧ ((Cmp.den .lt x54 x43) = false → ∀ x55 : Int, x55 = (x30 + (1 : Int)) →
Fits [.i (some ((0), (300))), .i (some ((-1000000), (1000000))), .i (some ((1), (99))), .i (some ((1), (1000000))), .i (some ((0), (1000000000))), .i (some ((-1000000000), (1000000000))), .i (some ((-1000000000), (1000000000))), .i (some ((0), (1000000))), .i (some ((0), (1000000)))] [(.i x55), (.i x40), (.i x41), (.i x42), (.i x43), (.i x44), (.i x45), (.i x46), (.i x47)] ∧ I1 [(.i x55), (.i x40), (.i x41), (.i x42), (.i x43), (.i x44), (.i x45), (.i x46), (.i x47)] ∧ mu1 [(.i x55), (.i x40), (.i x41), (.i x42), (.i x43), (.i x44), (.i x45), (.i x46), (.i x47)] < mu1 [.i x30, .i x31, .i x32, .i x33, .i x34, .i x35, .i x36, .i x37, .i x38])))))))))) ∧ ((Cv.bool (Env.get (enext_sem.out [(.i x31), (.i x32), (.i x33), (.i x34), (.i x35), (.i x36), (.i x37), (.i x38), (.i x39)]) 8)) = false → ∀ x50 : Int, x50 = (x34 + (1 : Int)) →
((!(Cmp.den .eq x43 x50)) = true → R (Value.bool false)) ∧ ((!(Cmp.den .eq x43 x50)) = false → ((Cmp.den .lt x45 x44) = true → R (Value.bool false)) ∧ ((Cmp.den .lt x45 x44) = false → ∀ x51 : Int, x51 = (IntKind.i64.wrap (x45 - x44)) →
((Cmp.den .lt (64 : Int) x51) = true → R (Value.bool false)) ∧ ((Cmp.den .lt (64 : Int) x51) = false → ∀ x52 : Int, x52 = (IntKind.i64.wrap (x45 - x44)) →
∀ x53 : Int, x53 = (IntKind.i64.wrap (x52 * x41)) →
((Cmp.den .lt (200 : Int) x53) = true → R (Value.bool false)) ∧ ((Cmp.den .lt (200 : Int) x53) = false → ((Cmp.den .lt x47 x46) = true → R (Value.bool false)) ∧ ((Cmp.den .lt x47 x46) = false → (eright_sem.pre [(.i x40), (.i x41), (.i x42), (.i x43), (.i x44), (.i x45), (.i x46), (.i x47)]) ∧ (
((!(Cv.bool (Env.get (eright_sem.out [(.i x40), (.i x41), (.i x42), (.i x43), (.i x44), (.i x45), (.i x46), (.i x47)]) 0))) = true → R (Value.bool false)) ∧ ((!(Cv.bool (Env.get (eright_sem.out [(.i x40), (.i x41), (.i x42), (.i x43), (.i x44), (.i x45), (.i x46), (.i x47)]) 0))) = false → ∀ x55 : Int, x55 = (x30 + (1 : Int)) →
((Cmp.den .lt x55 x43) = true → R (Value.bool false)) ∧ ((Cmp.den .lt x55 x43) = false → ∀ x56 : Int, x56 = (x30 + (1 : Int)) →
Fits [.i (some ((0), (300))), .i (some ((-1000000), (1000000))), .i (some ((1), (99))), .i (some ((1), (1000000))), .i (some ((0), (1000000000))), .i (some ((-1000000000), (1000000000))), .i (some ((-1000000000), (1000000000))), .i (some ((0), (1000000))), .i (some ((0), (1000000)))] [(.i x56), (.i x40), (.i x41), (.i x42), (.i x43), (.i x44), (.i x45), (.i x46), (.i x47)] ∧ I1 [(.i x56), (.i x40), (.i x41), (.i x42), (.i x43), (.i x44), (.i x45), (.i x46), (.i x47)] ∧ mu1 [(.i x56), (.i x40), (.i x41), (.i x42), (.i x43), (.i x44), (.i x45), (.i x46), (.i x47)] < mu1 [.i x30, .i x31, .i x32, .i x33, .i x34, .i x35, .i x36, .i x37, .i x38])))))))))))) ∧ ((Cmp.den .lt x30 x29) = false → R (Value.bool true)))))))))) ∧ ((Cmp.den .le x5 x4) = false → False)) := by kernel_rfl

def lenar_sem : SpecSem := { pre := fun cs => match cs with | [.i a, .i b, .i c, .l xs] => IsI a ∧ IsI b ∧ IsI c ∧ InI xs | _ => False, out := fun cs => match cs with | [.i a, .i b, .i c, .l xs] => [.b true] | _ => [] }
set_option maxRecDepth 10000 in
set_option maxHeartbeats 16000000 in
theorem lenar_ok : SpecOK Try.prog 16 lenar_sp lenar_sem := by
  refine spec_of_tree lenar_cxok Try.func16 (by kernel_rfl) (by kernel_rfl) lenar_walk rfl ?_
  intro cs hpre
  match cs, hpre with
  | [.i a, .i b, .i c, .l xs], ⟨j_a, j_b, j_c, j_xs⟩ =>
    have h_a := j_a
    unfold IsI at h_a
    have h_b := j_b
    unfold IsI at h_b
    have h_c := j_c
    unfold IsI at h_c
    refine ⟨rfl, IvsB.ok (by simp only [lenar_ivs, IvsB, Cv.int, and_true, j_xs, true_and] <;> omega), ?_, ?_⟩
    · simp only [lenar_sem, lenar_sp, Fits]
    · rw [lenar_den]
      simp only [lenar_sem, lenar_sp, lenar_den, enew_sem, enext_sem, eright_sem, eal_sem, Tree.den, LE.den, Cv.list, placeA, List.getElem?_cons_zero, List.getElem?_cons_succ, IE.den, BE.den, At.den, CA.den, Env.get, Cv.int, Cv.bool, List.cons_append, List.nil_append, List.map_cons, List.map_nil, bindRes, bindEq, Fits, SV.den, denL, place, placeL, eq_t, eq_f, lt_t, lt_f, le_t, le_f, beq_iff_eq, beq_eq_false_iff_ne, ne_eq, reduceCtorEq, b_dec, decide_eq_true_eq, decide_eq_false_iff_not, Bool.not_eq_false', Bool.or_eq_true, Bool.or_eq_false_iff, Bool.and_eq_false_iff, true_iff, false_iff, Bool.false_eq_true, Bool.not_eq_true', Bool.and_eq_true, Bool.not_true, Bool.not_false, List.cons.injEq, Cv.i.injEq, Cv.b.injEq, and_true, true_and, agg_inj, tup_inj, Value.int.injEq, Value.bool.injEq]
      intro x4 e4 x5 e5
      refine ⟨fun hle => ?_, fun h => by omega⟩
      intro x6 e6 x7 e7
      have h7 : x7 ≤ 300 := by
        have k1 := List.length_take_le (x5.toNat - Int.toNat 0) (List.drop (Int.toNat 0) xs)
        rw [← e6] at k1
        have k2 : x5 ≤ 300 := by omega
        have k3 : x5.toNat - Int.toNat 0 ≤ 300 := by omega
        omega
      clear e6 e5 e4 hle
      refine ⟨fun vs => match vs with | [.i i, .l ys] => (ys.length : Int) = i ∧ (∀ y ∈ ys, -100000 ≤ y ∧ y ≤ 100000) | _ => False, fun vs => match vs with | [.i i, .l _] => (x7 - i).toNat | _ => 0, ⟨by omega, by omega, fun _ h => nomatch h⟩, ⟨rfl, fun _ h => nomatch h⟩, ?_⟩
      intro x8 l8 g8 x9 hI9 hI
      obtain ⟨hlen, hmem⟩ : (x9.length : Int) = x8 ∧ (∀ y ∈ x9, -100000 ≤ y ∧ y ≤ 100000) := hI
      refine ⟨fun hlt => ?_, fun hge => ?_⟩
      · intro x10 e10 x11 e11 x12 e12 x13 e13
        refine ⟨fun h13 => ?_, fun h13 => by omega⟩
        intro x14 e14 x15 e15
        have r12 : -100000 ≤ x12 ∧ x12 ≤ 100000 := by omega
        have m14 : ∀ y ∈ x14, -100000 ≤ y ∧ y ≤ 100000 := by
          intro y hy
          rw [e14, List.mem_append] at hy
          rcases hy with hy | hy
          · exact hmem y hy
          · rw [List.mem_singleton] at hy; rw [hy]; exact r12
        have n14 : (x14.length : Int) = x15 := by rw [e14, List.length_append, List.length_singleton]; omega
        exact ⟨⟨by omega, by omega, fun y hy => by have := m14 y hy; exact ⟨by omega, by omega⟩⟩, ⟨n14, m14⟩, by show (x7 - x15).toNat < (x7 - x8).toNat; omega⟩
      · intro x10 e10 x11 e11 x12 e12 x13 e13 x14 e14 x15 e15 x16 e16 x17 e17 x18 e18
        have t10 := tm_rng (x := a) (m := 100001) (by omega)
        have t11 := tm_rng (x := b) (m := 99) (by omega)
        have t15 := tm_rng (x := c) (m := 1000000) (by omega)
        rw [← e10] at t10
        rw [← e11] at t11
        rw [← e15] at t15
        have z14 : 1 ≤ x14 ∧ x14 ≤ 99 := by omega
        have z18 : 1 ≤ x18 ∧ x18 ≤ 1000000 := by omega
        clear e10 e11 e12 e13 e14 e15 e16 e17 e18 t11 t15
        have hz : szOK x10 x14 x18 := ⟨by omega, z14, z18⟩
        have j10 : IsI x10 := ⟨by omega, by omega⟩
        have j14 : IsI x14 := ⟨by omega, by omega⟩
        have j18 : IsI x18 := ⟨by omega, by omega⟩
        simp only [hz, j10, j14, j18, forall_eq, f00, eq_self, if_true, if_false, true_and, and_true, false_and, and_false, true_or, or_true, false_or, or_false, true_iff, iff_true, false_iff, iff_false, not_true_eq_false, not_false_eq_true, true_implies, false_implies, implies_true, forall_const, decide_true, decide_false, reduceCtorEq]
        have hL : (x9.length : Int) ≤ 300 := by omega
        clear l8 g8 hge h7 e7 hlen hI9
        intro _ _ _ _ _ _ _ _ _ _ _ _ _ _ _ _ _ _
        refine ⟨fun vs => match vs with | [.i i, .i T, .i W, .i S, .i N, .i A, .i B, .i C, .i D] => T = x10 ∧ W = x14 ∧ S = x18 ∧ ewOK T W S N A B C D ∧ N ≤ i ∧ (B - A) * W ≤ 200 | _ => False, fun vs => match vs with | [.i i, .i T, .i W, .i S, .i N, .i A, .i B, .i C, .i D] => ((x9.length : Int) - i).toNat | _ => 0, by omega, ⟨rfl, rfl, rfl, ⟨hz, by omega, Or.inl ⟨rfl, by omega, by omega, rfl, rfl⟩⟩, by omega, by rw [Int.sub_self, Int.zero_mul]; omega⟩, ?_⟩
        intro x30 l30 g30 x31 l31 g31 x32 l32 g32 x33 l33 g33 x34 l34 g34 x35 l35 g35 x36 l36 g36 x37 l37 g37 x38 l38 g38 hI hlt
        obtain ⟨h31, h32, h33, ho, hN, hD⟩ : x31 = x10 ∧ x32 = x14 ∧ x33 = x18 ∧ ewOK x31 x32 x33 x34 x35 x36 x37 x38 ∧ x34 ≤ x30 ∧ (x36 - x35) * x32 ≤ 200 := hI
        have hv : -100000 ≤ x9.getD x30.toNat 0 ∧ x9.getD x30.toNat 0 ≤ 100000 := getD_rng hmem l30 hlt
        generalize x9.getD x30.toNat 0 = v at *
        subst h31 h32 h33
        have hx : -1000000 ≤ v ∧ v ≤ 1000000 := by omega
        have hn : ¬ x34 = 1000000000 := by omega
        have hno : nxOK x31 x32 x33 x34 x35 x36 x37 x38 v := ⟨ho, hx, hn⟩
        obtain ⟨r1, r2, r3, r4, ⟨r5, r6, r7⟩, r8, r9, r10⟩ := ew_rng2 ho
        obtain ⟨s1, s2⟩ := nar_step (w := x32) (x := v) (zl := x35) (zh := x36) r2 r6 hD
        have q1 := nx_rng r2 hx (z := x35) ⟨r5, by omega⟩
        have q2 := nx_rng r2 hx (z := x36) ⟨by omega, r7⟩
        have q3 := nq_rng r2 (q := x37) ⟨r8, by omega⟩
        have q4 := nq_rng r2 (q := x38) ⟨by omega, r10⟩
        have q5 := nq_le (w := x32) r2 (q := x37) (r := x38) r9
        have j34 : IsI x34 := ⟨by omega, by omega⟩
        have j35 : IsI x35 := ⟨by omega, by omega⟩
        have j36 : IsI x36 := ⟨by omega, by omega⟩
        have j37 : IsI x37 := ⟨by omega, by omega⟩
        have j38 : IsI x38 := ⟨by omega, by omega⟩
        have jv : IsI v := ⟨by omega, by omega⟩
        have j0 : IsI 0 := ⟨by omega, by omega⟩
        have jM : IsI 1000000 := ⟨by omega, by omega⟩
        have w1 : IntKind.i64.wrap (x34 + 1) = x34 + 1 := w64 (by omega) (by omega)
        by_cases hw : nxW x32 v x35 x36
        · have c4 : (4 ≤ x32) = False := eq_false (fun k => absurd hw (nar_no r2 s2 k))
          have c5 : x32 < 4 := by have := of_eq_false c4; omega
          have w0 : IntKind.i64.wrap 0 = 0 := rfl
          have jT : IsI (x31 * 1000) := ⟨by omega, by omega⟩
          have e0 : ewOK x31 x32 x33 0 (x31 * 1000) (x31 * 1000) 1000000 1000000 := ⟨hz, by omega, Or.inl ⟨rfl, by omega, by omega, rfl, rfl⟩⟩
          have c6 : (x30 + 1 < 0) = False := eq_false (by omega)
          have c7 : 0 ≤ x30 + 1 := by omega
          have c8 : ((64 : Int) < 0) = False := eq_false (by omega)
          have c9 : ((200 : Int) < 0) = False := eq_false (by omega)
          have c10 : (0 : Int) ≤ 64 := by omega
          have c11 : (0 : Int) ≤ 200 := by omega
          simp only [ho, hno, hw, hx, hn, e0, w0, w1, c4, c5, c6, c7, c8, c9, c10, c11, j10, j14, j18, j34, j35, j36, j37, j38, jv, j0, jM, jT, Int.sub_self, Int.zero_mul, Int.lt_irrefl, Int.le_refl, f00, eq_self, if_true, if_false, true_and, and_true, false_and, and_false, true_or, or_true, false_or, or_false, true_iff, iff_true, false_iff, iff_false, not_true_eq_false, not_false_eq_true, true_implies, false_implies, implies_true, forall_const, decide_true, decide_false, reduceCtorEq]
          intros
          omega
        · have d1 : ¬ 64 < nxB x32 v x36 - nxA x32 v x35 := hw
          have n0 : x34 + 1 ≠ 0 := by omega
          have e1 : ewOK x31 x32 x33 (x34 + 1) (nxA x32 v x35) (nxB x32 v x36) (nxC x32 x37) (nxD x32 x38) := ⟨hz, by omega, Or.inr ⟨n0, s1, q1.1.1, q2.2.2, by omega, q5, q3.1.1, q4.2.2⟩⟩
          have jA : IsI (nxA x32 v x35) := ⟨by omega, by omega⟩
          have jB : IsI (nxB x32 v x36) := ⟨by omega, by omega⟩
          have jC : IsI (nxC x32 x37) := ⟨by omega, by omega⟩
          have jD : IsI (nxD x32 x38) := ⟨by omega, by omega⟩
          have jN : IsI (x34 + 1) := ⟨by omega, by omega⟩
          have s0 : 0 ≤ (nxB x32 v x36 - nxA x32 v x35) * x32 := Int.mul_nonneg (by omega) (by omega)
          have w2 : IntKind.i64.wrap (nxB x32 v x36 - nxA x32 v x35) = nxB x32 v x36 - nxA x32 v x35 := w64 (by omega) (by omega)
          have w3 : IntKind.i64.wrap ((nxB x32 v x36 - nxA x32 v x35) * x32) = (nxB x32 v x36 - nxA x32 v x35) * x32 := w64 (by omega) (by omega)
          have c1 : (nxB x32 v x36 < nxA x32 v x35) = False := eq_false (by omega)
          have c2 : (64 < nxB x32 v x36 - nxA x32 v x35) = False := eq_false d1
          have c3 : nxB x32 v x36 - nxA x32 v x35 ≤ 64 := by omega
          have c4 : (200 < (nxB x32 v x36 - nxA x32 v x35) * x32) = False := eq_false (by omega)
          have c5 : (nxD x32 x38 < nxC x32 x37) = False := eq_false (by omega)
          have c6 : (x30 + 1 < x34 + 1) = False := eq_false (by omega)
          have c7 : x34 + 1 ≤ x30 + 1 := by omega
          simp only [ho, hno, hw, hx, hn, e1, w1, w2, w3, c1, c2, c3, c4, c5, c6, c7, s1, s2, q5, j10, j14, j18, j34, j35, j36, j37, j38, jv, jA, jB, jC, jD, jN, f00, eq_self, if_true, if_false, true_and, and_true, false_and, and_false, true_or, or_true, false_or, or_false, true_iff, iff_true, false_iff, iff_false, not_true_eq_false, not_false_eq_true, true_implies, false_implies, implies_true, forall_const, decide_true, decide_false, reduceCtorEq]
          intros
          omega
end Go.Proofs.Ytlhmhcjpdpakkaa.X
