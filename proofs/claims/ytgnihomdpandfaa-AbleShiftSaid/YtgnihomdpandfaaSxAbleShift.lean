/-
  AbleShift tells true, for every input.
-/
import Derived.Test.YtgnihomdpandfaaSxAbleLaw
import Derived.Test.YtgnihomdpandfaaSxAbleNum3
namespace Go.Proofs.Ytgnihomdpandfaa.X
open Go Go.SX Go.RowKit
set_option linter.unusedVariables false
set_option linter.unusedSimpArgs false





def lashift_sp : SpecSh := { args := [(.lst 0), (.int .i64 (.z 0)), (.int .i64 (.z 0)), (.int .i64 (.z 0)), (.int .i64 (.z 0))], res := (.bool .f), sh := [.b] }
set_option maxRecDepth 100000 in
def lashift_tree : Tree :=
.lett (.len 0) <|
.lett (.ite (.cmp .lt (.z 100) (.v 5)) (.z 100) (.v 5)) <|
.ite (.cmp .le (.v 6) (.v 5)) (.letl (.sub 0 (.z 0) (.v 6)) <|
.lett (.len 7) <|
.loop [.i (some (0, 100)), .l] [.i (.z 0), .l (.nil)] <|
.ite (.cmp .lt (.v 9) (.v 8)) (.lett (.nth 7 (.v 9)) <|
.lett (.ite (.cmp .lt (.v 11) (.z (-100000))) (.z (-100000)) (.v 11)) <|
.lett (.ite (.cmp .lt (.z 100000) (.v 12)) (.z 100000) (.v 12)) <|
.lett (.len 10) <|
.ite (.cmp .le (.v 14) (.z 100000)) (.letl (.app 10 [.v 13]) <|
.lett (.add (.v 9) (.z 1)) <|
.again 0 [.i (.v 16), .l (.v 15)]) <|
.bad 113) <|
.call 36 [.i (some ((-9223372036854775808), 9223372036854775807)), .i (some ((-9223372036854775808), 9223372036854775807))] [.i (.v 1), .i (.v 2)] <|
.lett (.rem (.v 3) (.z 500000)) <|
.lett (.rem (.v 4) (.z 1000)) <|
.lett (.add (.v 14) (.z 1000)) <|
.lett (.mod (.v 15) (.z 1000)) <|
.lett (.add (.z 1) (.v 16)) <|
.lett (.len 10) <|
.loop [.i (some (0, 100)), .l, .l, .l] [.i (.z 0), .l (.nil), .l (.nil), .l (.nil)] <|
.ite (.cmp .lt (.v 19) (.v 18)) (.lett (.nth 10 (.v 19)) <|
.lett (.addw .i64 (.v 23) (.v 13)) <|
.lett (.len 20) <|
.ite (.cmp .le (.v 25) (.z 100000)) (.letl (.app 20 [.v 24]) <|
.lett (.subw .i64 (.z 0) (.v 23)) <|
.lett (.len 21) <|
.ite (.cmp .le (.v 28) (.z 100000)) (.letl (.app 21 [.v 27]) <|
.lett (.addw .i64 (.v 11) (.v 12)) <|
.lett (.subw .i64 (.v 30) (.v 23)) <|
.lett (.len 22) <|
.ite (.cmp .le (.v 32) (.z 100000)) (.letl (.app 22 [.v 23, .v 31]) <|
.lett (.add (.v 19) (.z 1)) <|
.again 1 [.i (.v 34), .l (.v 26), .l (.v 29), .l (.v 33)]) <|
.bad 113) <|
.bad 113) <|
.bad 113) <|
.call 15 [.i (some ((-9223372036854775808), 9223372036854775807)), .i (some ((-9223372036854775808), 9223372036854775807)), .i (some (0, 18446744073709551615)), .i (some (0, 18446744073709551615)), .i (some ((-9223372036854775808), 9223372036854775807)), .i (some ((-9223372036854775808), 9223372036854775807)), .i (some ((-9223372036854775808), 9223372036854775807))] [.l (.v 10)] <|
.call 15 [.i (some ((-9223372036854775808), 9223372036854775807)), .i (some ((-9223372036854775808), 9223372036854775807)), .i (some (0, 18446744073709551615)), .i (some (0, 18446744073709551615)), .i (some ((-9223372036854775808), 9223372036854775807)), .i (some ((-9223372036854775808), 9223372036854775807)), .i (some ((-9223372036854775808), 9223372036854775807))] [.l (.v 20)] <|
.call 15 [.i (some ((-9223372036854775808), 9223372036854775807)), .i (some ((-9223372036854775808), 9223372036854775807)), .i (some (0, 18446744073709551615)), .i (some (0, 18446744073709551615)), .i (some ((-9223372036854775808), 9223372036854775807)), .i (some ((-9223372036854775808), 9223372036854775807)), .i (some ((-9223372036854775808), 9223372036854775807))] [.l (.v 21)] <|
.call 15 [.i (some ((-9223372036854775808), 9223372036854775807)), .i (some ((-9223372036854775808), 9223372036854775807)), .i (some (0, 18446744073709551615)), .i (some (0, 18446744073709551615)), .i (some ((-9223372036854775808), 9223372036854775807)), .i (some ((-9223372036854775808), 9223372036854775807)), .i (some ((-9223372036854775808), 9223372036854775807))] [.l (.v 22)] <|
.ite (.not (.cmp .eq (.v 29) (.z 0))) (.ret (.bool .f)) <|
.ite (.not (.cmp .eq (.v 36) (.z 0))) (.ret (.bool .f)) <|
.ite (.not (.cmp .eq (.v 43) (.z 0))) (.ret (.bool .f)) <|
.ite (.not (.cmp .eq (.v 50) (.z 0))) (.ret (.bool .f)) <|
.call 32 [.b] [] <|
.ite (.not (.v 51)) (.ret (.bool .f)) <|
.call 29 [.i (some ((-9223372036854775808), 9223372036854775807)), .i (some ((-9223372036854775808), 9223372036854775807)), .i (some ((-9223372036854775808), 9223372036854775807))] [.i (.v 23), .i (.v 24), .i (.v 25), .i (.v 26), .i (.v 27), .i (.v 28), .i (.v 11), .i (.v 12), .i (.v 17)] <|
.call 30 [.i (some ((-9223372036854775808), 9223372036854775807)), .i (some ((-9223372036854775808), 9223372036854775807)), .i (some ((-9223372036854775808), 9223372036854775807))] [.i (.v 23), .i (.v 24), .i (.v 25), .i (.v 26), .i (.v 27), .i (.v 28), .i (.v 11), .i (.v 12), .i (.v 17)] <|
.lett (.addw .i64 (.v 11) (.v 13)) <|
.lett (.addw .i64 (.v 12) (.v 13)) <|
.call 29 [.i (some ((-9223372036854775808), 9223372036854775807)), .i (some ((-9223372036854775808), 9223372036854775807)), .i (some ((-9223372036854775808), 9223372036854775807))] [.i (.v 30), .i (.v 31), .i (.v 32), .i (.v 33), .i (.v 34), .i (.v 35), .i (.v 58), .i (.v 59), .i (.v 17)] <|
.lett (.addw .i64 (.v 11) (.v 13)) <|
.lett (.addw .i64 (.v 12) (.v 13)) <|
.call 30 [.i (some ((-9223372036854775808), 9223372036854775807)), .i (some ((-9223372036854775808), 9223372036854775807)), .i (some ((-9223372036854775808), 9223372036854775807))] [.i (.v 30), .i (.v 31), .i (.v 32), .i (.v 33), .i (.v 34), .i (.v 35), .i (.v 63), .i (.v 64), .i (.v 17)] <|
.lett (.subw .i64 (.z 0) (.v 12)) <|
.lett (.subw .i64 (.z 0) (.v 11)) <|
.call 29 [.i (some ((-9223372036854775808), 9223372036854775807)), .i (some ((-9223372036854775808), 9223372036854775807)), .i (some ((-9223372036854775808), 9223372036854775807))] [.i (.v 37), .i (.v 38), .i (.v 39), .i (.v 40), .i (.v 41), .i (.v 42), .i (.v 68), .i (.v 69), .i (.v 17)] <|
.lett (.subw .i64 (.z 0) (.v 12)) <|
.lett (.subw .i64 (.z 0) (.v 11)) <|
.call 30 [.i (some ((-9223372036854775808), 9223372036854775807)), .i (some ((-9223372036854775808), 9223372036854775807)), .i (some ((-9223372036854775808), 9223372036854775807))] [.i (.v 37), .i (.v 38), .i (.v 39), .i (.v 40), .i (.v 41), .i (.v 42), .i (.v 73), .i (.v 74), .i (.v 17)] <|
.ite (.not (.and (.cmp .eq (.v 52) (.v 60)) (.cmp .eq (.v 53) (.v 61)))) (.ret (.bool .f)) <|
.ite (.not (.and (.cmp .eq (.v 52) (.v 70)) (.cmp .eq (.v 53) (.v 71)))) (.ret (.bool .f)) <|
.ite (.not (.and (.cmp .eq (.v 55) (.v 65)) (.cmp .eq (.v 56) (.v 66)))) (.ret (.bool .f)) <|
.ite (.not (.and (.cmp .eq (.v 55) (.v 75)) (.cmp .eq (.v 56) (.v 76)))) (.ret (.bool .f)) <|
.ite (.not (.cmp .eq (.v 54) (.v 62))) (.ret (.bool .f)) <|
.ite (.not (.cmp .eq (.v 54) (.v 72))) (.ret (.bool .f)) <|
.ite (.not (.cmp .eq (.v 57) (.v 67))) (.ret (.bool .f)) <|
.ite (.not (.cmp .eq (.v 57) (.v 77))) (.ret (.bool .f)) <|
.call 29 [.i (some ((-9223372036854775808), 9223372036854775807)), .i (some ((-9223372036854775808), 9223372036854775807)), .i (some ((-9223372036854775808), 9223372036854775807))] [.i (.v 44), .i (.v 45), .i (.v 46), .i (.v 47), .i (.v 48), .i (.v 49), .i (.v 11), .i (.v 12), .i (.v 17)] <|
.call 30 [.i (some ((-9223372036854775808), 9223372036854775807)), .i (some ((-9223372036854775808), 9223372036854775807)), .i (some ((-9223372036854775808), 9223372036854775807))] [.i (.v 44), .i (.v 45), .i (.v 46), .i (.v 47), .i (.v 48), .i (.v 49), .i (.v 11), .i (.v 12), .i (.v 17)] <|
.ite (.cmp .eq (.v 80) (.v 83)) (.ret (.bool (.and (.cmp .eq (.v 78) (.v 81)) (.cmp .eq (.v 79) (.v 82))))) <|
.ret (.bool .f)) <|
.bad 120
noncomputable def lashift_cx : Ctx := { tys := tys, fns := fns, sps := [(15, sof_sp), (29, app_sp), (30, appk_sp), (32, a20al_sp), (36, a20ends_sp)], anns := [((35, 3), { slots := [12], cells := [], ivs := [some (0, 100)], lsts := [3], elem := 3 }), ((10, 6), { slots := [59], cells := [], ivs := [some (0, 100)], lsts := [13, 14, 15], elem := 3 })], trys := [] }
def lashift_ivs : List (Option (Int × Int)) := [none, some ((-9223372036854775808), 9223372036854775807), some ((-9223372036854775808), 9223372036854775807), some ((-9223372036854775808), 9223372036854775807), some ((-9223372036854775808), 9223372036854775807)]
set_option maxRecDepth 100000 in
theorem lashift_walk : runFn lashift_cx 3000 10 Try.f10 lashift_sp.args lashift_ivs = lashift_tree := by kernel_rfl
noncomputable def lashift_M : Nat → SpecSem
  | 15 => sof_sem
  | 29 => app_sem
  | 30 => appk_sem
  | 32 => a20al_sem
  | 36 => a20ends_sem
  | _ => noSem
theorem lashift_M15 : lashift_M 15 = sof_sem := rfl
theorem lashift_M29 : lashift_M 29 = app_sem := rfl
theorem lashift_M30 : lashift_M 30 = appk_sem := rfl
theorem lashift_M32 : lashift_M 32 = a20al_sem := rfl
theorem lashift_M36 : lashift_M 36 = a20ends_sem := rfl
theorem lashift_cxok : CxOK Try.prog lashift_cx lashift_M := ⟨tysOK, fnsOK, spCons sof_ok <| spCons app_ok <| spCons appk_ok <| spCons a20al_ok <| spCons a20ends_ok <| fun _ _ h => spNil h, mixedOK, fun _ _ h => trNil h⟩
set_option maxRecDepth 100000 in
set_option maxHeartbeats 8000000 in
theorem lashift_den (R RP : Value → Prop) (F : Ex → St → Js → Env → Prop) (x0 : List Int) (x1 : Int) (x2 : Int) (x3 : Int) (x4 : Int) : Tree.den lashift_M R RP F lashift_tree [] [(.l x0), (.i x1), (.i x2), (.i x3), (.i x4)] = (
  ∀ x5 : Int, x5 = ((List.length x0 : Int)) →
∀ x6 : Int, x6 = (if (Cmp.den .lt (100 : Int) x5) = true then (100 : Int) else x5) →
((Cmp.den .le x6 x5) = true → ∀ x7 : List Int, x7 = (List.take (Int.toNat x6 - Int.toNat (0 : Int)) (List.drop (Int.toNat (0 : Int)) x0)) →
∀ x8 : Int, x8 = ((List.length x7 : Int)) →
∃ (I0 : List Cv → Prop) (mu0 : List Cv → Nat), Fits [.i (some ((0), (100))), .l] [(.i (0 : Int)), (.l (([] : List Int)))] ∧ I0 [(.i (0 : Int)), (.l (([] : List Int)))] ∧ (
∀ x9 : Int, (0 : Int) ≤ x9 → x9 ≤ (100 : Int) → ∀ x10 : List Int, InI x10 → I0 [.i x9, .l x10] →
((Cmp.den .lt x9 x8) = true → ∀ x11 : Int, x11 = (List.getD x7 (Int.toNat x9) 0) →
∀ x12 : Int, x12 = (if (Cmp.den .lt x11 (-100000 : Int)) = true then (-100000 : Int) else x11) →
∀ x13 : Int, x13 = (if (Cmp.den .lt (100000 : Int) x12) = true then (100000 : Int) else x12) →
∀ x14 : Int, x14 = ((List.length x10 : Int)) →
((Cmp.den .le x14 (100000 : Int)) = true → ∀ x15 : List Int, x15 = (x10 ++ ([x13] : List Int)) →
∀ x16 : Int, x16 = (x9 + (1 : Int)) →
Fits [.i (some ((0), (100))), .l] [(.i x16), (.l (x15))] ∧ I0 [(.i x16), (.l (x15))] ∧ mu0 [(.i x16), (.l (x15))] < mu0 [.i x9, .l x10]) ∧ ((Cmp.den .le x14 (100000 : Int)) = false → False)) ∧ ((Cmp.den .lt x9 x8) = false → (a20ends_sem.pre [(.i x1), (.i x2)]) ∧ (
∀ x11 : Int, x11 = (Cv.int (Env.get (a20ends_sem.out [(.i x1), (.i x2)]) 0)) → (-9223372036854775808 : Int) ≤ x11 → x11 ≤ (9223372036854775807 : Int) →
∀ x12 : Int, x12 = (Cv.int (Env.get (a20ends_sem.out [(.i x1), (.i x2)]) 1)) → (-9223372036854775808 : Int) ≤ x12 → x12 ≤ (9223372036854775807 : Int) →
∀ x13 : Int, x13 = (Int.tmod x3 (500000 : Int)) →
∀ x14 : Int, x14 = (Int.tmod x4 (1000 : Int)) →
∀ x15 : Int, x15 = (x14 + (1000 : Int)) →
∀ x16 : Int, x16 = (x15 % (1000 : Int)) →
∀ x17 : Int, x17 = ((1 : Int) + x16) →
∀ x18 : Int, x18 = ((List.length x10 : Int)) →
∃ (I1 : List Cv → Prop) (mu1 : List Cv → Nat), Fits [.i (some ((0), (100))), .l, .l, .l] [(.i (0 : Int)), (.l (([] : List Int))), (.l (([] : List Int))), (.l (([] : List Int)))] ∧ I1 [(.i (0 : Int)), (.l (([] : List Int))), (.l (([] : List Int))), (.l (([] : List Int)))] ∧ (
∀ x19 : Int, (0 : Int) ≤ x19 → x19 ≤ (100 : Int) → ∀ x20 : List Int, InI x20 → ∀ x21 : List Int, InI x21 → ∀ x22 : List Int, InI x22 → I1 [.i x19, .l x20, .l x21, .l x22] →
((Cmp.den .lt x19 x18) = true → ∀ x23 : Int, x23 = (List.getD x10 (Int.toNat x19) 0) →
∀ x24 : Int, x24 = (IntKind.i64.wrap (x23 + x13)) →
∀ x25 : Int, x25 = ((List.length x20 : Int)) →
((Cmp.den .le x25 (100000 : Int)) = true → ∀ x26 : List Int, x26 = (x20 ++ ([x24] : List Int)) →
∀ x27 : Int, x27 = (IntKind.i64.wrap ((0 : Int) - x23)) →
∀ x28 : Int, x28 = ((List.length x21 : Int)) →
((Cmp.den .le x28 (100000 : Int)) = true → ∀ x29 : List Int, x29 = (x21 ++ ([x27] : List Int)) →
∀ x30 : Int, x30 = (IntKind.i64.wrap (x11 + x12)) →
∀ x31 : Int, x31 = (IntKind.i64.wrap (x30 - x23)) →
∀ x32 : Int, x32 = ((List.length x22 : Int)) →
((Cmp.den .le x32 (100000 : Int)) = true → ∀ x33 : List Int, x33 = (x22 ++ ([x23, x31] : List Int)) →
∀ x34 : Int, x34 = (x19 + (1 : Int)) →
Fits [.i (some ((0), (100))), .l, .l, .l] [(.i x34), (.l (x26)), (.l (x29)), (.l (x33))] ∧ I1 [(.i x34), (.l (x26)), (.l (x29)), (.l (x33))] ∧ mu1 [(.i x34), (.l (x26)), (.l (x29)), (.l (x33))] < mu1 [.i x19, .l x20, .l x21, .l x22]) ∧ ((Cmp.den .le x32 (100000 : Int)) = false → False)) ∧ ((Cmp.den .le x28 (100000 : Int)) = false → False)) ∧ ((Cmp.den .le x25 (100000 : Int)) = false → False)) ∧ ((Cmp.den .lt x19 x18) = false → (sof_sem.pre [(.l (x10))]) ∧ (
∀ x23 : Int, x23 = (Cv.int (Env.get (sof_sem.out [(.l (x10))]) 0)) → (-9223372036854775808 : Int) ≤ x23 → x23 ≤ (9223372036854775807 : Int) →
∀ x24 : Int, x24 = (Cv.int (Env.get (sof_sem.out [(.l (x10))]) 1)) → (-9223372036854775808 : Int) ≤ x24 → x24 ≤ (9223372036854775807 : Int) →
∀ x25 : Int, x25 = (Cv.int (Env.get (sof_sem.out [(.l (x10))]) 2)) → (0 : Int) ≤ x25 → x25 ≤ (18446744073709551615 : Int) →
∀ x26 : Int, x26 = (Cv.int (Env.get (sof_sem.out [(.l (x10))]) 3)) → (0 : Int) ≤ x26 → x26 ≤ (18446744073709551615 : Int) →
∀ x27 : Int, x27 = (Cv.int (Env.get (sof_sem.out [(.l (x10))]) 4)) → (-9223372036854775808 : Int) ≤ x27 → x27 ≤ (9223372036854775807 : Int) →
∀ x28 : Int, x28 = (Cv.int (Env.get (sof_sem.out [(.l (x10))]) 5)) → (-9223372036854775808 : Int) ≤ x28 → x28 ≤ (9223372036854775807 : Int) →
∀ x29 : Int, x29 = (Cv.int (Env.get (sof_sem.out [(.l (x10))]) 6)) → (-9223372036854775808 : Int) ≤ x29 → x29 ≤ (9223372036854775807 : Int) →
(sof_sem.pre [(.l (x20))]) ∧ (
∀ x30 : Int, x30 = (Cv.int (Env.get (sof_sem.out [(.l (x20))]) 0)) → (-9223372036854775808 : Int) ≤ x30 → x30 ≤ (9223372036854775807 : Int) →
∀ x31 : Int, x31 = (Cv.int (Env.get (sof_sem.out [(.l (x20))]) 1)) → (-9223372036854775808 : Int) ≤ x31 → x31 ≤ (9223372036854775807 : Int) →
∀ x32 : Int, x32 = (Cv.int (Env.get (sof_sem.out [(.l (x20))]) 2)) → (0 : Int) ≤ x32 → x32 ≤ (18446744073709551615 : Int) →
∀ x33 : Int, x33 = (Cv.int (Env.get (sof_sem.out [(.l (x20))]) 3)) → (0 : Int) ≤ x33 → x33 ≤ (18446744073709551615 : Int) →
∀ x34 : Int, x34 = (Cv.int (Env.get (sof_sem.out [(.l (x20))]) 4)) → (-9223372036854775808 : Int) ≤ x34 → x34 ≤ (9223372036854775807 : Int) →
∀ x35 : Int, x35 = (Cv.int (Env.get (sof_sem.out [(.l (x20))]) 5)) → (-9223372036854775808 : Int) ≤ x35 → x35 ≤ (9223372036854775807 : Int) →
∀ x36 : Int, x36 = (Cv.int (Env.get (sof_sem.out [(.l (x20))]) 6)) → (-9223372036854775808 : Int) ≤ x36 → x36 ≤ (9223372036854775807 : Int) →
(sof_sem.pre [(.l (x21))]) ∧ (
∀ x37 : Int, x37 = (Cv.int (Env.get (sof_sem.out [(.l (x21))]) 0)) → (-9223372036854775808 : Int) ≤ x37 → x37 ≤ (9223372036854775807 : Int) →
∀ x38 : Int, x38 = (Cv.int (Env.get (sof_sem.out [(.l (x21))]) 1)) → (-9223372036854775808 : Int) ≤ x38 → x38 ≤ (9223372036854775807 : Int) →
∀ x39 : Int, x39 = (Cv.int (Env.get (sof_sem.out [(.l (x21))]) 2)) → (0 : Int) ≤ x39 → x39 ≤ (18446744073709551615 : Int) →
∀ x40 : Int, x40 = (Cv.int (Env.get (sof_sem.out [(.l (x21))]) 3)) → (0 : Int) ≤ x40 → x40 ≤ (18446744073709551615 : Int) →
∀ x41 : Int, x41 = (Cv.int (Env.get (sof_sem.out [(.l (x21))]) 4)) → (-9223372036854775808 : Int) ≤ x41 → x41 ≤ (9223372036854775807 : Int) →
∀ x42 : Int, x42 = (Cv.int (Env.get (sof_sem.out [(.l (x21))]) 5)) → (-9223372036854775808 : Int) ≤ x42 → x42 ≤ (9223372036854775807 : Int) →
∀ x43 : Int, x43 = (Cv.int (Env.get (sof_sem.out [(.l (x21))]) 6)) → (-9223372036854775808 : Int) ≤ x43 → x43 ≤ (9223372036854775807 : Int) →
(sof_sem.pre [(.l (x22))]) ∧ (
∀ x44 : Int, x44 = (Cv.int (Env.get (sof_sem.out [(.l (x22))]) 0)) → (-9223372036854775808 : Int) ≤ x44 → x44 ≤ (9223372036854775807 : Int) →
∀ x45 : Int, x45 = (Cv.int (Env.get (sof_sem.out [(.l (x22))]) 1)) → (-9223372036854775808 : Int) ≤ x45 → x45 ≤ (9223372036854775807 : Int) →
∀ x46 : Int, x46 = (Cv.int (Env.get (sof_sem.out [(.l (x22))]) 2)) → (0 : Int) ≤ x46 → x46 ≤ (18446744073709551615 : Int) →
∀ x47 : Int, x47 = (Cv.int (Env.get (sof_sem.out [(.l (x22))]) 3)) → (0 : Int) ≤ x47 → x47 ≤ (18446744073709551615 : Int) →
∀ x48 : Int, x48 = (Cv.int (Env.get (sof_sem.out [(.l (x22))]) 4)) → (-9223372036854775808 : Int) ≤ x48 → x48 ≤ (9223372036854775807 : Int) →
∀ x49 : Int, x49 = (Cv.int (Env.get (sof_sem.out [(.l (x22))]) 5)) → (-9223372036854775808 : Int) ≤ x49 → x49 ≤ (9223372036854775807 : Int) →
∀ x50 : Int, x50 = (Cv.int (Env.get (sof_sem.out [(.l (x22))]) 6)) → (-9223372036854775808 : Int) ≤ x50 → x50 ≤ (9223372036854775807 : Int) →
((!(Cmp.den .eq x29 (0 : Int))) = true → R (Value.bool false)) ∧ ((!(Cmp.den .eq x29 (0 : Int))) = false → ((!(Cmp.den .eq x36 (0 : Int))) = true → R (Value.bool false)) ∧ ((!(Cmp.den .eq x36 (0 : Int))) = false → ((!(Cmp.den .eq x43 (0 : Int))) = true → R (Value.bool false)) ∧ ((!(Cmp.den .eq x43 (0 : Int))) = false → ((!(Cmp.den .eq x50 (0 : Int))) = true → R (Value.bool false)) ∧ ((!(Cmp.den .eq x50 (0 : Int))) = false → (a20al_sem.pre []) ∧ (
((!(Cv.bool (Env.get (a20al_sem.out []) 0))) = true → R (Value.bool false)) ∧ ((!(Cv.bool (Env.get (a20al_sem.out []) 0))) = false → (app_sem.pre [(.i x23), (.i x24), (.i x25), (.i x26), (.i x27), (.i x28), (.i x11), (.i x12), (.i x17)]) ∧ (
∀ x52 : Int, x52 = (Cv.int (Env.get (app_sem.out [(.i x23), (.i x24), (.i x25), (.i x26), (.i x27), (.i x28), (.i x11), (.i x12), (.i x17)]) 0)) → (-9223372036854775808 : Int) ≤ x52 → x52 ≤ (9223372036854775807 : Int) →
∀ x53 : Int, x53 = (Cv.int (Env.get (app_sem.out [(.i x23), (.i x24), (.i x25), (.i x26), (.i x27), (.i x28), (.i x11), (.i x12), (.i x17)]) 1)) → (-9223372036854775808 : Int) ≤ x53 → x53 ≤ (9223372036854775807 : Int) →
∀ x54 : Int, x54 = (Cv.int (Env.get (app_sem.out [(.i x23), (.i x24), (.i x25), (.i x26), (.i x27), (.i x28), (.i x11), (.i x12), (.i x17)]) 2)) → (-9223372036854775808 : Int) ≤ x54 → x54 ≤ (9223372036854775807 : Int) →
(appk_sem.pre [(.i x23), (.i x24), (.i x25), (.i x26), (.i x27), (.i x28), (.i x11), (.i x12), (.i x17)]) ∧ (
∀ x55 : Int, x55 = (Cv.int (Env.get (appk_sem.out [(.i x23), (.i x24), (.i x25), (.i x26), (.i x27), (.i x28), (.i x11), (.i x12), (.i x17)]) 0)) → (-9223372036854775808 : Int) ≤ x55 → x55 ≤ (9223372036854775807 : Int) →
∀ x56 : Int, x56 = (Cv.int (Env.get (appk_sem.out [(.i x23), (.i x24), (.i x25), (.i x26), (.i x27), (.i x28), (.i x11), (.i x12), (.i x17)]) 1)) → (-9223372036854775808 : Int) ≤ x56 → x56 ≤ (9223372036854775807 : Int) →
∀ x57 : Int, x57 = (Cv.int (Env.get (appk_sem.out [(.i x23), (.i x24), (.i x25), (.i x26), (.i x27), (.i x28), (.i x11), (.i x12), (.i x17)]) 2)) → (-9223372036854775808 : Int) ≤ x57 → x57 ≤ (9223372036854775807 : Int) →
∀ x58 : Int, x58 = (IntKind.i64.wrap (x11 + x13)) →
∀ x59 : Int, x59 = (IntKind.i64.wrap (x12 + x13)) →
(app_sem.pre [(.i x30), (.i x31), (.i x32), (.i x33), (.i x34), (.i x35), (.i x58), (.i x59), (.i x17)]) ∧ (
∀ x60 : Int, x60 = (Cv.int (Env.get (app_sem.out [(.i x30), (.i x31), (.i x32), (.i x33), (.i x34), (.i x35), (.i x58), (.i x59), (.i x17)]) 0)) → (-9223372036854775808 : Int) ≤ x60 → x60 ≤ (9223372036854775807 : Int) →
∀ x61 : Int, x61 = (Cv.int (Env.get (app_sem.out [(.i x30), (.i x31), (.i x32), (.i x33), (.i x34), (.i x35), (.i x58), (.i x59), (.i x17)]) 1)) → (-9223372036854775808 : Int) ≤ x61 → x61 ≤ (9223372036854775807 : Int) →
∀ x62 : Int, x62 = (Cv.int (Env.get (app_sem.out [(.i x30), (.i x31), (.i x32), (.i x33), (.i x34), (.i x35), (.i x58), (.i x59), (.i x17)]) 2)) → (-9223372036854775808 : Int) ≤ x62 → x62 ≤ (9223372036854775807 : Int) →
∀ x63 : Int, x63 = (IntKind.i64.wrap (x11 + x13)) →
∀ x64 : Int, x64 = (IntKind.i64.wrap (x12 + x13)) →
(appk_sem.pre [(.i x30), (.i x31), (.i x32), (.i x33), (.i x34), (.i x35), (.i x63), (.i x64), (.i x17)]) ∧ (
∀ x65 : Int, x65 = (Cv.int (Env.get (appk_sem.out [(.i x30), (.i x31), (.i x32), (.i x33), (.i x34), (.i x35), (.i x63), (.i x64), (.i x17)]) 0)) → (-9223372036854775808 : Int) ≤ x65 → x65 ≤ (9223372036854775807 : Int) →
∀ x66 : Int, x66 = (Cv.int (Env.get (appk_sem.out [(.i x30), (.i x31), (.i x32), (.i x33), (.i x34), (.i x35), (.i x63), (.i x64), (.i x17)]) 1)) → (-9223372036854775808 : Int) ≤ x66 → x66 ≤ (9223372036854775807 : Int) →
∀ x67 : Int, x67 = (Cv.int (Env.get (appk_sem.out [(.i x30), (.i x31), (.i x32), (.i x33), (.i x34), (.i x35), (.i x63), (.i x64), (.i x17)]) 2)) → (-9223372036854775808 : Int) ≤ x67 → x67 ≤ (9223372036854775807 : Int) →
∀ x68 : Int, x68 = (IntKind.i64.wrap ((0 : Int) - x12)) →
∀ x69 : Int, x69 = (IntKind.i64.wrap ((0 : Int) - x11)) →
(app_sem.pre [(.i x37), (.i x38), (.i x39), (.i x40), (.i x41), (.i x42), (.i x68), (.i x69), (.i x17)]) ∧ (
∀ x70 : Int, x70 = (Cv.int (Env.get (app_sem.out [(.i x37), (.i x38), (.i x39), (.i x40), (.i x41), (.i x42), (.i x68), (.i x69), (.i x17)]) 0)) → (-9223372036854775808 : Int) ≤ x70 → x70 ≤ (9223372036854775807 : Int) →
∀ x71 : Int, x71 = (Cv.int (Env.get (app_sem.out [(.i x37), (.i x38), (.i x39), (.i x40), (.i x41), (.i x42), (.i x68), (.i x69), (.i x17)]) 1)) → (-9223372036854775808 : Int) ≤ x71 → x71 ≤ (9223372036854775807 : Int) →
∀ x72 : Int, x72 = (Cv.int (Env.get (app_sem.out [(.i x37), (.i x38), (.i x39), (.i x40), (.i x41), (.i x42), (.i x68), (.i x69), (.i x17)]) 2)) → (-9223372036854775808 : Int) ≤ x72 → x72 ≤ (9223372036854775807 : Int) →
∀ x73 : Int, x73 = (IntKind.i64.wrap ((0 : Int) - x12)) →
∀ x74 : Int, x74 = (IntKind.i64.wrap ((0 : Int) - x11)) →
(appk_sem.pre [(.i x37), (.i x38), (.i x39), (.i x40), (.i x41), (.i x42), (.i x73), (.i x74), (.i x17)]) ∧ (
∀ x75 : Int, x75 = (Cv.int (Env.get (appk_sem.out [(.i x37), (.i x38), (.i x39), (.i x40), (.i x41), (.i x42), (.i x73), (.i x74), (.i x17)]) 0)) → (-9223372036854775808 : Int) ≤ x75 → x75 ≤ (9223372036854775807 : Int) →
∀ x76 : Int, x76 = (Cv.int (Env.get (appk_sem.out [(.i x37), (.i x38), (.i x39), (.i x40), (.i x41), (.i x42), (.i x73), (.i x74), (.i x17)]) 1)) → (-9223372036854775808 : Int) ≤ x76 → x76 ≤ (9223372036854775807 : Int) →
∀ x77 : Int, x77 = (Cv.int (Env.get (appk_sem.out [(.i x37), (.i x38), (.i x39), (.i x40), (.i x41), (.i x42), (.i x73), (.i x74), (.i x17)]) 2)) → (-9223372036854775808 : Int) ≤ x77 → x77 ≤ (9223372036854775807 : Int) →
((!((Cmp.den .eq x52 x60) && (Cmp.den .eq x53 x61))) = true → R (Value.bool false)) ∧ ((!((Cmp.den .eq x52 x60) && (Cmp.den .eq x53 x61))) = false → ((!((Cmp.den .eq x52 x70) && (Cmp.den .eq x53 x71))) = true → R (Value.bool false)) ∧ ((!((Cmp.den .eq x52 x70) && (Cmp.den .eq x53 x71))) = false → ((!((Cmp.den .eq x55 x65) && (Cmp.den .eq x56 x66))) = true → R (Value.bool false)) ∧ ((!((Cmp.den .eq x55 x65) && (Cmp.den .eq x56 x66))) = false → ((!((Cmp.den .eq x55 x75) && (Cmp.den .eq x56 x76))) = true → R (Value.bool false)) ∧ ((!((Cmp.den .eq x55 x75) && (Cmp.den .eq x56 x76))) = false → ((!(Cmp.den .eq x54 x62)) = true → R (Value.bool false)) ∧ ((!(Cmp.den .eq x54 x62)) = false → ((!(Cmp.den .eq x54 x72)) = true → R (Value.bool false)) ∧ ((!(Cmp.den .eq x54 x72)) = false → ((!(Cmp.den .eq x57 x67)) = true → R (Value.bool false)) ∧ ((!(Cmp.den .eq x57 x67)) = false → ((!(Cmp.den .eq x57 x77)) = true → R (Value.bool false)) ∧ ((!(Cmp.den .eq x57 x77)) = false → (app_sem.pre [(.i x44), (.i x45), (.i x46), (.i x47), (.i x48), (.i x49), (.i x11), (.i x12), (.i x17)]) ∧ (
∀ x78 : Int, x78 = (Cv.int (Env.get (app_sem.out [(.i x44), (.i x45), (.i x46), (.i x47), (.i x48), (.i x49), (.i x11), (.i x12), (.i x17)]) 0)) → (-9223372036854775808 : Int) ≤ x78 → x78 ≤ (9223372036854775807 : Int) →
∀ x79 : Int, x79 = (Cv.int (Env.get (app_sem.out [(.i x44), (.i x45), (.i x46), (.i x47), (.i x48), (.i x49), (.i x11), (.i x12), (.i x17)]) 1)) → (-9223372036854775808 : Int) ≤ x79 → x79 ≤ (9223372036854775807 : Int) →
∀ x80 : Int, x80 = (Cv.int (Env.get (app_sem.out [(.i x44), (.i x45), (.i x46), (.i x47), (.i x48), (.i x49), (.i x11), (.i x12), (.i x17)]) 2)) → (-9223372036854775808 : Int) ≤ x80 → x80 ≤ (9223372036854775807 : Int) →
(appk_sem.pre [(.i x44), (.i x45), (.i x46), (.i x47), (.i x48), (.i x49), (.i x11), (.i x12), (.i x17)]) ∧ (
∀ x81 : Int, x81 = (Cv.int (Env.get (appk_sem.out [(.i x44), (.i x45), (.i x46), (.i x47), (.i x48), (.i x49), (.i x11), (.i x12), (.i x17)]) 0)) → (-9223372036854775808 : Int) ≤ x81 → x81 ≤ (9223372036854775807 : Int) →
∀ x82 : Int, x82 = (Cv.int (Env.get (appk_sem.out [(.i x44), (.i x45), (.i x46), (.i x47), (.i x48), (.i x49), (.i x11), (.i x12), (.i x17)]) 1)) → (-9223372036854775808 : Int) ≤ x82 → x82 ≤ (9223372036854775807 : Int) →
∀ x83 : Int, x83 = (Cv.int (Env.get (appk_sem.out [(.i x44), (.i x45), (.i x46), (.i x47), (.i x48), (.i x49), (.i x11), (.i x12), (.i x17)]) 2)) → (-9223372036854775808 : Int) ≤ x83 → x83 ≤ (9223372036854775807 : Int) →
((Cmp.den .eq x80 x83) = true → R (Value.bool ((Cmp.den .eq x78 x81) && (Cmp.den .eq x79 x82)))) ∧ ((Cmp.den .eq x80 x83) = false → R (Value.bool false)))))))))))))))))))))))))))))))))) ∧ ((Cmp.den .le x6 x5) = false → False)) := by kernel_rfl

def lashift_sem : SpecSem := { pre := fun cs => match cs with | [.l xs, .i a, .i b, .i c, .i k] => InI xs ∧ IsI a ∧ IsI b ∧ IsI c ∧ IsI k | _ => False, out := fun cs => match cs with | [.l xs, .i a, .i b, .i c, .i k] => [.b true] | _ => [] }
set_option maxRecDepth 10000 in
set_option maxHeartbeats 16000000 in
theorem lashift_ok : SpecOK Try.prog 10 lashift_sp lashift_sem := by
  refine spec_of_tree lashift_cxok Try.func10 (by kernel_rfl) (by kernel_rfl) lashift_walk rfl ?_
  intro cs hpre
  match cs, hpre with
  | [.l xs, .i a, .i b, .i c, .i k], ⟨j_xs, j_a, j_b, j_c, j_k⟩ =>
    have h_a := j_a
    unfold IsI at h_a
    have h_b := j_b
    unfold IsI at h_b
    have h_c := j_c
    unfold IsI at h_c
    have h_k := j_k
    unfold IsI at h_k
    refine ⟨rfl, IvsB.ok (by simp only [lashift_ivs, IvsB, Cv.int, and_true, j_xs, true_and] <;> omega), ?_, ?_⟩
    · simp only [lashift_sem, lashift_sp, Fits]
    · rw [lashift_den]
      simp only [lashift_sem, lashift_sp, lashift_den, sof_sem, app_sem, appk_sem, a20al_sem, a20ends_sem, Tree.den, LE.den, Cv.list, placeA, List.getElem?_cons_zero, List.getElem?_cons_succ, IE.den, BE.den, At.den, CA.den, Env.get, Cv.int, Cv.bool, List.cons_append, List.nil_append, List.map_cons, List.map_nil, bindRes, bindEq, Fits, SV.den, denL, place, placeL, eq_t, eq_f, lt_t, lt_f, le_t, le_f, beq_iff_eq, beq_eq_false_iff_ne, ne_eq, reduceCtorEq, b_dec, decide_eq_true_eq, decide_eq_false_iff_not, Bool.not_eq_false', Bool.or_eq_true, Bool.or_eq_false_iff, Bool.and_eq_false_iff, true_iff, false_iff, Bool.false_eq_true, Bool.not_eq_true', Bool.and_eq_true, Bool.not_true, Bool.not_false, List.cons.injEq, Cv.i.injEq, Cv.b.injEq, and_true, true_and, agg_inj, tup_inj, Value.int.injEq, Value.bool.injEq]
      intro x5 e5 x6 e6
      refine ⟨fun hle => ?_, fun h => by split at e6 <;> omega⟩
      intro x7 e7 x8 e8
      have h8 : x8 ≤ 100 := by
        have k1 := List.length_take_le (x6.toNat - Int.toNat 0) (List.drop (Int.toNat 0) xs)
        rw [← e7] at k1
        have k2 : x6 ≤ 100 := by split at e6 <;> omega
        have k3 : x6.toNat - Int.toNat 0 ≤ 100 := by omega
        omega
      clear e7 e6 e5 hle
      refine ⟨fun vs => match vs with | [.i i, .l ys] => (ys.length : Int) = i ∧ (∀ y ∈ ys, -100000 ≤ y ∧ y ≤ 100000) | _ => False, fun vs => match vs with | [.i i, .l ys] => (x8 - i).toNat | _ => 0, ⟨by omega, by omega, fun _ h => nomatch h⟩, ⟨rfl, fun _ h => nomatch h⟩, ?_⟩
      intro x9 l9 g9 x10 hI10 hI
      obtain ⟨hlen, hmem⟩ : (x10.length : Int) = x9 ∧ (∀ y ∈ x10, -100000 ≤ y ∧ y ≤ 100000) := hI
      refine ⟨fun hlt => ?_, fun hge => ?_⟩
      · intro x11 e11 x12 e12 x13 e13 x14 e14
        refine ⟨fun _ => ?_, fun h => by omega⟩
        intro x15 e15 x16 e16
        have r13 : -100000 ≤ x13 ∧ x13 ≤ 100000 := by split at e12 <;> split at e13 <;> omega
        have m15 : ∀ y ∈ x15, -100000 ≤ y ∧ y ≤ 100000 := by
          intro y hy
          rw [e15, List.mem_append, List.mem_singleton] at hy
          rcases hy with hy | hy
          · exact hmem y hy
          · rw [hy]; exact r13
        have n15 : (x15.length : Int) = x16 := by rw [e15, List.length_append, List.length_singleton]; omega
        exact ⟨⟨by omega, by omega, inI_inS (inS_small m15)⟩, ⟨n15, m15⟩, by show (x8 - x16).toNat < (x8 - x9).toNat; omega⟩
      · have hL : (x10.length : Int) ≤ 100 := by omega
        clear hge g9 l9 hlen h8 e8 x9 x8 x7
        have er := ends_rng a b
        generalize loE a b = lo at *
        generalize hiE a b = hi at *
        have tk := tm_rng (x := k) (m := 1000) (by omega)
        have tc := tm_rng (x := c) (m := 500000) (by omega)
        refine ⟨⟨j_a, j_b⟩, ?_⟩
        intro x11 e11 l11 g11 x12 e12 l12 g12 x13 e13 x14 e14 x15 e15 x16 e16 x17 e17
        subst e11 e12
        rw [← e14] at tk
        rw [← e13] at tc
        have hk : 1 ≤ x17 ∧ x17 ≤ 1000 := by omega
        clear e13 e14 e15 e16 e17 tk x14 x15 x16 j_k h_k k j_c h_c c
        have hw : -1000000 ≤ x11 ∧ x12 ≤ 1000000 ∧ x11 < x12 := by omega
        have hw2 : -1000000 ≤ x11 + x13 ∧ x12 + x13 ≤ 1000000 ∧ x11 + x13 < x12 + x13 := by omega
        have hw3 : -1000000 ≤ -x12 ∧ -x11 ≤ 1000000 ∧ -x12 < -x11 := by omega
        intro x18 e18
        refine ⟨fun vs => match vs with | [.i i, .l M, .l T, .l B] => M = (x10.take i.toNat).map (· + x13) ∧ T = (x10.take i.toNat).map (· * -1) ∧ B = bothL (x11 + x12) (x10.take i.toNat) ∧ i ≤ (x10.length : Int) | _ => False, fun vs => match vs with | .i i :: _ => ((x10.length : Int) - i).toNat | _ => 0, ⟨by omega, by omega, (fun _ h => nomatch h), (fun _ h => nomatch h), (fun _ h => nomatch h)⟩, ⟨rfl, rfl, rfl, by omega⟩, ?_⟩
        intro x19 l19 g19 x20 hI20 x21 hI21 x22 hI22 hI
        obtain ⟨i1, i2, i3, i4⟩ : x20 = (x10.take x19.toNat).map (· + x13) ∧ x21 = (x10.take x19.toNat).map (· * -1) ∧ x22 = bothL (x11 + x12) (x10.take x19.toNat) ∧ x19 ≤ (x10.length : Int) := hI
        subst e18
        refine ⟨fun hlt => ?_, fun hge => ?_⟩
        · have m23 := getD_mem l19 hlt
          have ht := take_snoc l19 hlt
          generalize x10.getD x19.toNat 0 = x23 at *
          have r23 := hmem x23 m23
          have htl : ((x10.take x19.toNat).length : Int) = x19 := by rw [List.length_take]; omega
          have n20 : (x20.length : Int) = x19 := by rw [i1, List.length_map]; exact htl
          have n21 : (x21.length : Int) = x19 := by rw [i2, List.length_map]; exact htl
          have n22 : (x22.length : Int) = 2 * x19 := by rw [i3, bothL_len]; omega
          have w1 : IntKind.i64.wrap (x23 + x13) = x23 + x13 := w64 (by omega) (by omega)
          have w2 : IntKind.i64.wrap (0 - x23) = 0 - x23 := w64 (by omega) (by omega)
          have w3 : IntKind.i64.wrap (x11 + x12) = x11 + x12 := w64 (by omega) (by omega)
          have w4 : IntKind.i64.wrap (x11 + x12 - x23) = x11 + x12 - x23 := w64 (by omega) (by omega)
          have y1 : (100000 < (x20.length : Int)) = False := eq_false (by omega)
          have y2 : (100000 < (x21.length : Int)) = False := eq_false (by omega)
          have y3 : (100000 < (x22.length : Int)) = False := eq_false (by omega)
          have y4 : (x20.length : Int) ≤ 100000 := by omega
          have y5 : (x21.length : Int) ≤ 100000 := by omega
          have y6 : (x22.length : Int) ≤ 100000 := by omega
          have f1 : x20 ++ [x23 + x13] = (x10.take (x19 + 1).toNat).map (· + x13) := by rw [ht, List.map_append, i1]; rfl
          have f2 : x21 ++ [0 - x23] = (x10.take (x19 + 1).toNat).map (· * -1) := by
            rw [ht, List.map_append, i2, show 0 - x23 = x23 * -1 by omega]; rfl
          have f3 : x22 ++ [x23, x11 + x12 - x23] = bothL (x11 + x12) (x10.take (x19 + 1).toNat) := by rw [ht, bothL_snoc, i3]
          have hm : ∀ y ∈ x10.take (x19 + 1).toNat, -100000 ≤ y ∧ y ≤ 100000 := fun y hy => hmem y (List.mem_of_mem_take hy)
          have k1 : InI (x20 ++ [x23 + x13]) := by rw [f1]; exact inI_inS (inS_map fun y hy => by have := hm y hy; omega)
          have k2 : InI (x21 ++ [0 - x23]) := by rw [f2]; exact inI_inS (inS_map fun y hy => by have := hm y hy; omega)
          have k3 : InI (x22 ++ [x23, x11 + x12 - x23]) := by
            rw [f3]
            refine inI_inS fun y hy => ?_
            obtain ⟨x, hx, h | h⟩ := bothL_mem hy <;> (have := hm x hx; omega)
          simp only [w1, w2, w3, w4, y1, y2, y3, y4, y5, y6, forall_eq, if_true, if_false, true_and, and_true, false_and, and_false, true_or, or_true, false_or, or_false, true_iff, iff_true, false_iff, iff_false, not_true_eq_false, not_false_eq_true, true_implies, false_implies, implies_true, forall_const, decide_true, decide_false, reduceCtorEq]
          exact ⟨⟨by omega, by omega, k1, k2, k3⟩, ⟨f1, f2, f3, by omega⟩, by show (((x10.length : Int) - (x19 + 1)).toNat < ((x10.length : Int) - x19).toNat); omega⟩
        · have tk : x10.take x19.toNat = x10 := List.take_of_length_le (by omega)
          rw [tk] at i1 i2 i3
          have s0 : inS x10 := inS_small hmem
          have s1 : inS x20 := by rw [i1]; exact inS_map fun y hy => by have := hmem y hy; omega
          have s2 : inS x21 := by rw [i2]; exact inS_map fun y hy => by have := hmem y hy; omega
          have s3 : inS x22 := by
            rw [i3]
            intro y hy
            obtain ⟨x, hx, h | h⟩ := bothL_mem hy <;> (have := hmem x hx; omega)
          have n20 : (x20.length : Int) = (x10.length : Int) := by rw [i1, List.length_map]
          have n21 : (x21.length : Int) = (x10.length : Int) := by rw [i2, List.length_map]
          have n22 : (x22.length : Int) = 2 * (x10.length : Int) := by rw [i3, bothL_len]; omega
          have su1 : sumL x20 = sumL x10 + x13 * (x10.length : Int) := by rw [i1, sumL_add]
          have su2 : sumL x21 = -(sumL x10) := by rw [i2, sumL_mul]; omega
          have su3 : sumL x22 = (x10.length : Int) * (x11 + x12) := by rw [i3, bothL_sum]
          have pa1 : pairL x20 = pairL x10 := by rw [i1, pairL_add]
          have pa2 : pairL x21 = pairL x10 := by rw [i2, pairL_mul]; omega
          clear i1 i2 i3 i4 tk hmem hge l19 g19
          have st0 := of_stOK s0 (show (x10.length : Int) ≤ 100000 by omega)
          have rg0 := sts_rng s0 (show (x10.length : Int) ≤ 100000 by omega)
          have a01 : IsI (sumL x10) := ⟨by omega, by omega⟩
          have a02 : IsU (sqL x10) := ⟨by omega, by omega⟩
          have a03 : IsI (minS x10) := ⟨by omega, by omega⟩
          have a04 : IsI (maxS x10) := ⟨by omega, by omega⟩
          have st1 := of_stOK s1 (show (x20.length : Int) ≤ 100000 by omega)
          have rg1 := sts_rng s1 (show (x20.length : Int) ≤ 100000 by omega)
          have a11 : IsI (sumL x20) := ⟨by omega, by omega⟩
          have a12 : IsU (sqL x20) := ⟨by omega, by omega⟩
          have a13 : IsI (minS x20) := ⟨by omega, by omega⟩
          have a14 : IsI (maxS x20) := ⟨by omega, by omega⟩
          have st2 := of_stOK s2 (show (x21.length : Int) ≤ 100000 by omega)
          have rg2 := sts_rng s2 (show (x21.length : Int) ≤ 100000 by omega)
          have a21 : IsI (sumL x21) := ⟨by omega, by omega⟩
          have a22 : IsU (sqL x21) := ⟨by omega, by omega⟩
          have a23 : IsI (minS x21) := ⟨by omega, by omega⟩
          have a24 : IsI (maxS x21) := ⟨by omega, by omega⟩
          have st3 := of_stOK s3 (show (x22.length : Int) ≤ 100000 by omega)
          have rg3 := sts_rng s3 (show (x22.length : Int) ≤ 100000 by omega)
          have a31 : IsI (sumL x22) := ⟨by omega, by omega⟩
          have a32 : IsU (sqL x22) := ⟨by omega, by omega⟩
          have a33 : IsI (minS x22) := ⟨by omega, by omega⟩
          have a34 : IsI (maxS x22) := ⟨by omega, by omega⟩
          have eP0 : (x10.length : Int) * sqL x10 - sumL x10 * sumL x10 = pairL x10 := (pairL_eq x10).symm
          have eP1 : (x10.length : Int) * sqL x20 - sumL x20 * sumL x20 = pairL x10 := by have := pairL_eq x20; rw [n20, pa1] at this; exact this.symm
          have eP2 : (x10.length : Int) * sqL x21 - sumL x21 * sumL x21 = pairL x10 := by have := pairL_eq x21; rw [n21, pa2] at this; exact this.symm
          have eP3 : 2 * (x10.length : Int) * sqL x22 - sumL x22 * sumL x22 = pairL x22 := by have := pairL_eq x22; rw [n22] at this; exact this.symm
          obtain ⟨o0, q0⟩ := ab_list s0 (by omega) hw hk
          obtain ⟨o1, q1⟩ := ab_list s1 (by omega) hw2 hk
          obtain ⟨o2, q2⟩ := ab_list s2 (by omega) hw3 hk
          obtain ⟨o3, q3⟩ := ab_list s3 (by omega) hw hk
          rw [n20, pa1] at o1 q1
          rw [n21, pa2] at o2 q2
          rw [n22] at o3 q3
          have m1 := pk_move (x10.length : Int) (sumL x10) x11 x12 x17 x13 (pairL x10)
          rw [← su1] at m1
          have m2 := pk_turn (x10.length : Int) (sumL x10) x11 x12 x17 (pairL x10)
          rw [← su2] at m2
          have w1 : IntKind.i64.wrap (x11 + x13) = x11 + x13 := w64 (by omega) (by omega)
          have w2 : IntKind.i64.wrap (x12 + x13) = x12 + x13 := w64 (by omega) (by omega)
          have w3 : IntKind.i64.wrap (0 - x12) = -x12 := by rw [w64 (by omega) (by omega)]; omega
          have w4 : IntKind.i64.wrap (0 - x11) = -x11 := by rw [w64 (by omega) (by omega)]; omega
          have k1 : IsI (x10.length : Int) := ⟨by omega, by omega⟩
          have k2 : IsI (2 * (x10.length : Int)) := ⟨by omega, by omega⟩
          have k3 : IsI x11 := ⟨by omega, by omega⟩
          have k4 : IsI x12 := ⟨by omega, by omega⟩
          have k5 : IsI x17 := ⟨by omega, by omega⟩
          have k6 : IsI (x11 + x13) := ⟨by omega, by omega⟩
          have k7 : IsI (x12 + x13) := ⟨by omega, by omega⟩
          have k8 : IsI (-x12) := ⟨by omega, by omega⟩
          have k9 : IsI (-x11) := ⟨by omega, by omega⟩
          have i0 : IsU 0 := ⟨by omega, by omega⟩
          have y1 : (x10.length : Int) ≤ 100000 := by omega
          have y2 : 2 * (x10.length : Int) ≤ 100000 := by omega
          have nn0 : 0 ≤ (x10.length : Int) := by omega
          have np := pairL_nonneg x22
          clear rg0 rg1 rg2 rg3
          by_cases hB : 2 ≤ 2 * (x10.length : Int) ∧ pairL x22 ≠ 0
          · have pb := pk_both (m := (x10.length : Int)) (SP := pairL x22) hw hk (by omega) (by omega)
            rw [← su3] at pb
            by_cases hO : 2 ≤ (x10.length : Int) ∧ pairL x10 ≠ 0
            · simp only [m1, m2, pb, s0, s1, s2, s3, hI10, hI20, hI21, hI22, n20, n21, n22, o0, o1, o2, o3, q0, q1, q2, q3, hB, hO, val0, eP0, eP1, eP2, eP3, ppA_move, ppA_turn, w1, w2, w3, w4, k1, k2, k3, k4, k5, k6, k7, k8, k9, i0, y1, y2, a01, a02, a03, a04, a11, a12, a13, a14, a21, a22, a23, a24, a31, a32, a33, a34, ne_eq, not_false_eq_true, forall_eq, eq_self, f00, if_true, if_false, true_and, and_true, false_and, and_false, true_or, or_true, false_or, or_false, true_iff, iff_true, false_iff, iff_false, not_true_eq_false, not_false_eq_true, true_implies, false_implies, implies_true, forall_const, decide_true, decide_false, reduceCtorEq]
            · simp only [m1, m2, pb, s0, s1, s2, s3, hI10, hI20, hI21, hI22, n20, n21, n22, o0, o1, o2, o3, q0, q1, q2, q3, hB, hO, val0, eP0, eP1, eP2, eP3, ppA_move, ppA_turn, w1, w2, w3, w4, k1, k2, k3, k4, k5, k6, k7, k8, k9, i0, y1, y2, a01, a02, a03, a04, a11, a12, a13, a14, a21, a22, a23, a24, a31, a32, a33, a34, ne_eq, not_false_eq_true, forall_eq, eq_self, f00, if_true, if_false, true_and, and_true, false_and, and_false, true_or, or_true, false_or, or_false, true_iff, iff_true, false_iff, iff_false, not_true_eq_false, not_false_eq_true, true_implies, false_implies, implies_true, forall_const, decide_true, decide_false, reduceCtorEq]
          · by_cases hO : 2 ≤ (x10.length : Int) ∧ pairL x10 ≠ 0
            · simp only [m1, m2, s0, s1, s2, s3, hI10, hI20, hI21, hI22, n20, n21, n22, o0, o1, o2, o3, q0, q1, q2, q3, hB, hO, val0, eP0, eP1, eP2, eP3, ppA_move, ppA_turn, w1, w2, w3, w4, k1, k2, k3, k4, k5, k6, k7, k8, k9, i0, y1, y2, a01, a02, a03, a04, a11, a12, a13, a14, a21, a22, a23, a24, a31, a32, a33, a34, ne_eq, not_false_eq_true, forall_eq, eq_self, f00, if_true, if_false, true_and, and_true, false_and, and_false, true_or, or_true, false_or, or_false, true_iff, iff_true, false_iff, iff_false, not_true_eq_false, not_false_eq_true, true_implies, false_implies, implies_true, forall_const, decide_true, decide_false, reduceCtorEq]
            · simp only [m1, m2, s0, s1, s2, s3, hI10, hI20, hI21, hI22, n20, n21, n22, o0, o1, o2, o3, q0, q1, q2, q3, hB, hO, val0, eP0, eP1, eP2, eP3, ppA_move, ppA_turn, w1, w2, w3, w4, k1, k2, k3, k4, k5, k6, k7, k8, k9, i0, y1, y2, a01, a02, a03, a04, a11, a12, a13, a14, a21, a22, a23, a24, a31, a32, a33, a34, ne_eq, not_false_eq_true, forall_eq, eq_self, f00, if_true, if_false, true_and, and_true, false_and, and_false, true_or, or_true, false_or, or_false, true_iff, iff_true, false_iff, iff_false, not_true_eq_false, not_false_eq_true, true_implies, false_implies, implies_true, forall_const, decide_true, decide_false, reduceCtorEq]
end Go.Proofs.Ytgnihomdpandfaa.X
