/-
  AbleHolds tells true, for every input.
-/
import Derived.Test.YtgnihomdpandfaaSxAbleLaw
namespace Go.Proofs.Ytgnihomdpandfaa.X
open Go Go.SX Go.RowKit
set_option linter.unusedVariables false
set_option linter.unusedSimpArgs false









def lahold_sp : SpecSh := { args := [(.lst 0), (.int .i64 (.z 0)), (.int .i64 (.z 0)), (.int .i64 (.z 0))], res := (.bool .f), sh := [.b] }
set_option maxRecDepth 100000 in
def lahold_tree : Tree :=
.lett (.len 0) <|
.lett (.ite (.cmp .lt (.z 100) (.v 4)) (.z 100) (.v 4)) <|
.ite (.cmp .le (.v 5) (.v 4)) (.letl (.sub 0 (.z 0) (.v 5)) <|
.lett (.len 6) <|
.loop [.i (some (0, 100)), .l] [.i (.z 0), .l (.nil)] <|
.ite (.cmp .lt (.v 8) (.v 7)) (.lett (.nth 6 (.v 8)) <|
.lett (.ite (.cmp .lt (.v 10) (.z (-100000))) (.z (-100000)) (.v 10)) <|
.lett (.ite (.cmp .lt (.z 100000) (.v 11)) (.z 100000) (.v 11)) <|
.lett (.len 9) <|
.ite (.cmp .le (.v 13) (.z 100000)) (.letl (.app 9 [.v 12]) <|
.lett (.add (.v 8) (.z 1)) <|
.again 0 [.i (.v 15), .l (.v 14)]) <|
.bad 113) <|
.call 36 [.i (some ((-9223372036854775808), 9223372036854775807)), .i (some ((-9223372036854775808), 9223372036854775807))] [.i (.v 1), .i (.v 2)] <|
.lett (.rem (.v 3) (.z 1000)) <|
.lett (.add (.v 12) (.z 1000)) <|
.lett (.mod (.v 13) (.z 1000)) <|
.lett (.add (.z 1) (.v 14)) <|
.call 15 [.i (some ((-9223372036854775808), 9223372036854775807)), .i (some ((-9223372036854775808), 9223372036854775807)), .i (some (0, 18446744073709551615)), .i (some (0, 18446744073709551615)), .i (some ((-9223372036854775808), 9223372036854775807)), .i (some ((-9223372036854775808), 9223372036854775807)), .i (some ((-9223372036854775808), 9223372036854775807))] [.l (.v 9)] <|
.call 29 [.i (some ((-9223372036854775808), 9223372036854775807)), .i (some ((-9223372036854775808), 9223372036854775807)), .i (some ((-9223372036854775808), 9223372036854775807))] [.i (.v 16), .i (.v 17), .i (.v 18), .i (.v 19), .i (.v 20), .i (.v 21), .i (.v 10), .i (.v 11), .i (.v 15)] <|
.call 30 [.i (some ((-9223372036854775808), 9223372036854775807)), .i (some ((-9223372036854775808), 9223372036854775807)), .i (some ((-9223372036854775808), 9223372036854775807))] [.i (.v 16), .i (.v 17), .i (.v 18), .i (.v 19), .i (.v 20), .i (.v 21), .i (.v 10), .i (.v 11), .i (.v 15)] <|
.ite (.not (.cmp .eq (.v 22) (.z 0))) (.ret (.bool .f)) <|
.call 32 [.b] [] <|
.ite (.not (.v 29)) (.ret (.bool .f)) <|
.ite (.not (.cmp .eq (.v 25) (.z 0))) (.lett (.len 9) <|
.loop [.i (some (0, 100)), .b] [.i (.z 0), .b .t] <|
.ite (.cmp .lt (.v 31) (.v 30)) (.lett (.nth 9 (.v 31)) <|
.ite (.v 32) (.lett (.nth 9 (.z 0)) <|
.lett (.add (.v 31) (.z 1)) <|
.again 1 [.i (.v 35), .b (.cmp .eq (.v 33) (.v 34))]) <|
.lett (.add (.v 31) (.z 1)) <|
.again 1 [.i (.v 34), .b .f]) <|
.ite (.cmp .eq (.v 28) (.v 25)) (.ite (.cmp .eq (.v 25) (.z 12)) (.ite (.cmp .lt (.v 30) (.z 2)) (.ret (.bool .t)) <|
.ret (.bool .f)) <|
.ite (.cmp .eq (.v 25) (.z 6)) (.ite (.v 32) (.ret (.bool (.cmp .le (.z 2) (.v 30)))) <|
.ret (.bool .f)) <|
.ret (.bool .f)) <|
.ret (.bool .f)) <|
.call 16 [.i (some (0, 18446744073709551615)), .i (some (0, 18446744073709551615)), .i (some ((-9223372036854775808), 9223372036854775807))] [.i (.v 16), .i (.v 17), .i (.v 18), .i (.v 19), .i (.v 20), .i (.v 21)] <|
.ite (.not (.cmp .eq (.v 28) (.z 0))) (.ret (.bool .f)) <|
.ite (.not (.cmp .eq (.v 32) (.z 0))) (.ret (.bool .f)) <|
.ite (.cmp .lt (.v 23) (.z 0)) (.ret (.bool .f)) <|
.ite (.cmp .lt (.v 24) (.v 23)) (.ret (.bool .f)) <|
.lett (.addw .i64 (.v 23) (.z 1)) <|
.ite (.cmp .lt (.v 33) (.v 24)) (.ret (.bool .f)) <|
.ite (.cmp .lt (.v 27) (.v 26)) (.ret (.bool .f)) <|
.lett (.addw .i64 (.v 26) (.z 1)) <|
.ite (.cmp .lt (.v 34) (.v 27)) (.ret (.bool .f)) <|
.ite (.cmp .lt (.v 23) (.v 26)) (.ret (.bool .f)) <|
.ite (.cmp .lt (.v 24) (.v 27)) (.ret (.bool .f)) <|
.lett (.len 9) <|
.lett (.subw .i64 (.v 11) (.v 10)) <|
.lett (.wrap .u64 (.v 36)) <|
.lett (.mulw .u64 (.v 37) (.v 37)) <|
.lett (.subw .u64 (.v 35) (.z 1)) <|
.lett (.mulw .u64 (.v 35) (.v 39)) <|
.call 19 [.i (some (0, 18446744073709551615)), .i (some (0, 18446744073709551615))] [.i (.v 38), .i (.v 40)] <|
.lett (.mul (.v 15) (.v 15)) <|
.call 20 [.i (some (0, 18446744073709551615)), .i (some (0, 18446744073709551615)), .b] [.i (.v 41), .i (.v 42), .i (.z 0), .i (.v 43)] <|
.call 20 [.i (some (0, 18446744073709551615)), .i (some (0, 18446744073709551615)), .b] [.i (.v 30), .i (.v 31), .i (.z 0), .i (.z 36)] <|
.call 19 [.i (some (0, 18446744073709551615)), .i (some (0, 18446744073709551615))] [.i (.v 23), .i (.v 23)] <|
.call 20 [.i (some (0, 18446744073709551615)), .i (some (0, 18446744073709551615)), .b] [.i (.v 47), .i (.v 48), .i (.v 50), .i (.v 51)] <|
.call 19 [.i (some (0, 18446744073709551615)), .i (some (0, 18446744073709551615))] [.i (.v 24), .i (.v 24)] <|
.call 20 [.i (some (0, 18446744073709551615)), .i (some (0, 18446744073709551615)), .b] [.i (.v 47), .i (.v 48), .i (.v 55), .i (.v 56)] <|
.call 37 [.b] [.i (.v 44), .i (.v 45), .i (.v 52), .i (.v 53)] <|
.ite (.not (.v 60)) (.ite (.v 59) (.ret (.bool .t)) <|
.call 37 [.b] [.i (.v 57), .i (.v 58), .i (.v 44), .i (.v 45)] <|
.ret (.bool (.not (.v 61)))) <|
.ret (.bool .f)) <|
.bad 120
noncomputable def lahold_cx : Ctx := { tys := tys, fns := fns, sps := [(19, mul_sp), (20, times_sp), (37, less_sp), (15, sof_sp), (16, sspread_sp), (29, app_sp), (30, appk_sp), (32, a20al_sp), (36, a20ends_sp)], anns := [((35, 3), { slots := [12], cells := [], ivs := [some (0, 100)], lsts := [3], elem := 3 }), ((9, 12), { slots := [76, 17], cells := [], ivs := [some (0, 100), none] })], trys := [] }
def lahold_ivs : List (Option (Int × Int)) := [none, some ((-9223372036854775808), 9223372036854775807), some ((-9223372036854775808), 9223372036854775807), some ((-9223372036854775808), 9223372036854775807)]
set_option maxRecDepth 100000 in
theorem lahold_walk : runFn lahold_cx 3000 9 Try.f9 lahold_sp.args lahold_ivs = lahold_tree := by kernel_rfl
noncomputable def lahold_M : Nat → SpecSem
  | 19 => mul_sem
  | 20 => times_sem
  | 37 => less_sem
  | 15 => sof_sem
  | 16 => sspread_sem
  | 29 => app_sem
  | 30 => appk_sem
  | 32 => a20al_sem
  | 36 => a20ends_sem
  | _ => noSem
theorem lahold_M19 : lahold_M 19 = mul_sem := rfl
theorem lahold_M20 : lahold_M 20 = times_sem := rfl
theorem lahold_M37 : lahold_M 37 = less_sem := rfl
theorem lahold_M15 : lahold_M 15 = sof_sem := rfl
theorem lahold_M16 : lahold_M 16 = sspread_sem := rfl
theorem lahold_M29 : lahold_M 29 = app_sem := rfl
theorem lahold_M30 : lahold_M 30 = appk_sem := rfl
theorem lahold_M32 : lahold_M 32 = a20al_sem := rfl
theorem lahold_M36 : lahold_M 36 = a20ends_sem := rfl
theorem lahold_cxok : CxOK Try.prog lahold_cx lahold_M := ⟨tysOK, fnsOK, spCons mul_ok <| spCons times_ok <| spCons less_ok <| spCons sof_ok <| spCons sspread_ok <| spCons app_ok <| spCons appk_ok <| spCons a20al_ok <| spCons a20ends_ok <| fun _ _ h => spNil h, mixedOK, fun _ _ h => trNil h⟩
set_option maxRecDepth 100000 in
set_option maxHeartbeats 8000000 in
theorem lahold_den (R RP : Value → Prop) (F : Ex → St → Js → Env → Prop) (x0 : List Int) (x1 : Int) (x2 : Int) (x3 : Int) : Tree.den lahold_M R RP F lahold_tree [] [(.l x0), (.i x1), (.i x2), (.i x3)] = (
  ∀ x4 : Int, x4 = ((List.length x0 : Int)) →
∀ x5 : Int, x5 = (if (Cmp.den .lt (100 : Int) x4) = true then (100 : Int) else x4) →
((Cmp.den .le x5 x4) = true → ∀ x6 : List Int, x6 = (List.take (Int.toNat x5 - Int.toNat (0 : Int)) (List.drop (Int.toNat (0 : Int)) x0)) →
∀ x7 : Int, x7 = ((List.length x6 : Int)) →
∃ (I0 : List Cv → Prop) (mu0 : List Cv → Nat), Fits [.i (some ((0), (100))), .l] [(.i (0 : Int)), (.l (([] : List Int)))] ∧ I0 [(.i (0 : Int)), (.l (([] : List Int)))] ∧ (
∀ x8 : Int, (0 : Int) ≤ x8 → x8 ≤ (100 : Int) → ∀ x9 : List Int, InI x9 → I0 [.i x8, .l x9] →
((Cmp.den .lt x8 x7) = true → ∀ x10 : Int, x10 = (List.getD x6 (Int.toNat x8) 0) →
∀ x11 : Int, x11 = (if (Cmp.den .lt x10 (-100000 : Int)) = true then (-100000 : Int) else x10) →
∀ x12 : Int, x12 = (if (Cmp.den .lt (100000 : Int) x11) = true then (100000 : Int) else x11) →
∀ x13 : Int, x13 = ((List.length x9 : Int)) →
((Cmp.den .le x13 (100000 : Int)) = true → ∀ x14 : List Int, x14 = (x9 ++ ([x12] : List Int)) →
∀ x15 : Int, x15 = (x8 + (1 : Int)) →
Fits [.i (some ((0), (100))), .l] [(.i x15), (.l (x14))] ∧ I0 [(.i x15), (.l (x14))] ∧ mu0 [(.i x15), (.l (x14))] < mu0 [.i x8, .l x9]) ∧ ((Cmp.den .le x13 (100000 : Int)) = false → False)) ∧ ((Cmp.den .lt x8 x7) = false → (a20ends_sem.pre [(.i x1), (.i x2)]) ∧ (
∀ x10 : Int, x10 = (Cv.int (Env.get (a20ends_sem.out [(.i x1), (.i x2)]) 0)) → (-9223372036854775808 : Int) ≤ x10 → x10 ≤ (9223372036854775807 : Int) →
∀ x11 : Int, x11 = (Cv.int (Env.get (a20ends_sem.out [(.i x1), (.i x2)]) 1)) → (-9223372036854775808 : Int) ≤ x11 → x11 ≤ (9223372036854775807 : Int) →
∀ x12 : Int, x12 = (Int.tmod x3 (1000 : Int)) →
∀ x13 : Int, x13 = (x12 + (1000 : Int)) →
∀ x14 : Int, x14 = (x13 % (1000 : Int)) →
∀ x15 : Int, x15 = ((1 : Int) + x14) →
(sof_sem.pre [(.l (x9))]) ∧ (
∀ x16 : Int, x16 = (Cv.int (Env.get (sof_sem.out [(.l (x9))]) 0)) → (-9223372036854775808 : Int) ≤ x16 → x16 ≤ (9223372036854775807 : Int) →
∀ x17 : Int, x17 = (Cv.int (Env.get (sof_sem.out [(.l (x9))]) 1)) → (-9223372036854775808 : Int) ≤ x17 → x17 ≤ (9223372036854775807 : Int) →
∀ x18 : Int, x18 = (Cv.int (Env.get (sof_sem.out [(.l (x9))]) 2)) → (0 : Int) ≤ x18 → x18 ≤ (18446744073709551615 : Int) →
∀ x19 : Int, x19 = (Cv.int (Env.get (sof_sem.out [(.l (x9))]) 3)) → (0 : Int) ≤ x19 → x19 ≤ (18446744073709551615 : Int) →
∀ x20 : Int, x20 = (Cv.int (Env.get (sof_sem.out [(.l (x9))]) 4)) → (-9223372036854775808 : Int) ≤ x20 → x20 ≤ (9223372036854775807 : Int) →
∀ x21 : Int, x21 = (Cv.int (Env.get (sof_sem.out [(.l (x9))]) 5)) → (-9223372036854775808 : Int) ≤ x21 → x21 ≤ (9223372036854775807 : Int) →
∀ x22 : Int, x22 = (Cv.int (Env.get (sof_sem.out [(.l (x9))]) 6)) → (-9223372036854775808 : Int) ≤ x22 → x22 ≤ (9223372036854775807 : Int) →
(app_sem.pre [(.i x16), (.i x17), (.i x18), (.i x19), (.i x20), (.i x21), (.i x10), (.i x11), (.i x15)]) ∧ (
∀ x23 : Int, x23 = (Cv.int (Env.get (app_sem.out [(.i x16), (.i x17), (.i x18), (.i x19), (.i x20), (.i x21), (.i x10), (.i x11), (.i x15)]) 0)) → (-9223372036854775808 : Int) ≤ x23 → x23 ≤ (9223372036854775807 : Int) →
∀ x24 : Int, x24 = (Cv.int (Env.get (app_sem.out [(.i x16), (.i x17), (.i x18), (.i x19), (.i x20), (.i x21), (.i x10), (.i x11), (.i x15)]) 1)) → (-9223372036854775808 : Int) ≤ x24 → x24 ≤ (9223372036854775807 : Int) →
∀ x25 : Int, x25 = (Cv.int (Env.get (app_sem.out [(.i x16), (.i x17), (.i x18), (.i x19), (.i x20), (.i x21), (.i x10), (.i x11), (.i x15)]) 2)) → (-9223372036854775808 : Int) ≤ x25 → x25 ≤ (9223372036854775807 : Int) →
(appk_sem.pre [(.i x16), (.i x17), (.i x18), (.i x19), (.i x20), (.i x21), (.i x10), (.i x11), (.i x15)]) ∧ (
∀ x26 : Int, x26 = (Cv.int (Env.get (appk_sem.out [(.i x16), (.i x17), (.i x18), (.i x19), (.i x20), (.i x21), (.i x10), (.i x11), (.i x15)]) 0)) → (-9223372036854775808 : Int) ≤ x26 → x26 ≤ (9223372036854775807 : Int) →
∀ x27 : Int, x27 = (Cv.int (Env.get (appk_sem.out [(.i x16), (.i x17), (.i x18), (.i x19), (.i x20), (.i x21), (.i x10), (.i x11), (.i x15)]) 1)) → (-9223372036854775808 : Int) ≤ x27 → x27 ≤ (9223372036854775807 : Int) →
∀ x28 : Int, x28 = (Cv.int (Env.get (appk_sem.out [(.i x16), (.i x17), (.i x18), (.i x19), (.i x20), (.i x21), (.i x10), (.i x11), (.i x15)]) 2)) → (-9223372036854775808 : Int) ≤ x28 → x28 ≤ (9223372036854775807 : Int) →
((!(Cmp.den .eq x22 (0 : Int))) = true → R (Value.bool false)) ∧ ((!(Cmp.den .eq x22 (0 : Int))) = false → (a20al_sem.pre []) ∧ (
((!(Cv.bool (Env.get (a20al_sem.out []) 0))) = true → R (Value.bool false)) ∧ ((!(Cv.bool (Env.get (a20al_sem.out []) 0))) = false → ((!(Cmp.den .eq x25 (0 : Int))) = true → ∀ x30 : Int, x30 = ((List.length x9 : Int)) →
∃ (I1 : List Cv → Prop) (mu1 : List Cv → Nat), Fits [.i (some ((0), (100))), .b] [(.i (0 : Int)), (.b true)] ∧ I1 [(.i (0 : Int)), (.b true)] ∧ (
∀ x31 : Int, (0 : Int) ≤ x31 → x31 ≤ (100 : Int) → ∀ x32 : Bool, I1 [.i x31, .b x32] →
((Cmp.den .lt x31 x30) = true → ∀ x33 : Int, x33 = (List.getD x9 (Int.toNat x31) 0) →
(x32 = true → ∀ x34 : Int, x34 = (List.getD x9 (Int.toNat (0 : Int)) 0) →
∀ x35 : Int, x35 = (x31 + (1 : Int)) →
Fits [.i (some ((0), (100))), .b] [(.i x35), (.b (Cmp.den .eq x33 x34))] ∧ I1 [(.i x35), (.b (Cmp.den .eq x33 x34))] ∧ mu1 [(.i x35), (.b (Cmp.den .eq x33 x34))] < mu1 [.i x31, .b x32]) ∧ (x32 = false → ∀ x34 : Int, x34 = (x31 + (1 : Int)) →
Fits [.i (some ((0), (100))), .b] [(.i x34), (.b false)] ∧ I1 [(.i x34), (.b false)] ∧ mu1 [(.i x34), (.b false)] < mu1 [.i x31, .b x32])) ∧ ((Cmp.den .lt x31 x30) = false → ((Cmp.den .eq x28 x25) = true → ((Cmp.den .eq x25 (12 : Int)) = true → ((Cmp.den .lt x30 (2 : Int)) = true → R (Value.bool true)) ∧ ((Cmp.den .lt x30 (2 : Int)) = false → R (Value.bool false))) ∧ ((Cmp.den .eq x25 (12 : Int)) = false → ((Cmp.den .eq x25 (6 : Int)) = true → (x32 = true → R (Value.bool (Cmp.den .le (2 : Int) x30))) ∧ (x32 = false → R (Value.bool false))) ∧ ((Cmp.den .eq x25 (6 : Int)) = false → R (Value.bool false)))) ∧ ((Cmp.den .eq x28 x25) = false → R (Value.bool false))))) ∧ ((!(Cmp.den .eq x25 (0 : Int))) = false → (sspread_sem.pre [(.i x16), (.i x17), (.i x18), (.i x19), (.i x20), (.i x21)]) ∧ (
∀ x30 : Int, x30 = (Cv.int (Env.get (sspread_sem.out [(.i x16), (.i x17), (.i x18), (.i x19), (.i x20), (.i x21)]) 0)) → (0 : Int) ≤ x30 → x30 ≤ (18446744073709551615 : Int) →
∀ x31 : Int, x31 = (Cv.int (Env.get (sspread_sem.out [(.i x16), (.i x17), (.i x18), (.i x19), (.i x20), (.i x21)]) 1)) → (0 : Int) ≤ x31 → x31 ≤ (18446744073709551615 : Int) →
∀ x32 : Int, x32 = (Cv.int (Env.get (sspread_sem.out [(.i x16), (.i x17), (.i x18), (.i x19), (.i x20), (.i x21)]) 2)) → (-9223372036854775808 : Int) ≤ x32 → x32 ≤ (9223372036854775807 : Int) →
((!(Cmp.den .eq x28 (0 : Int))) = true → R (Value.bool false)) ∧ ((!(Cmp.den .eq x28 (0 : Int))) = false → ((!(Cmp.den .eq x32 (0 : Int))) = true → R (Value.bool false)) ∧ ((!(Cmp.den .eq x32 (0 : Int))) = false → ((Cmp.den .lt x23 (0 : Int)) = true → R (Value.bool false)) ∧ ((Cmp.den .lt x23 (0 : Int)) = false → ((Cmp.den .lt x24 x23) = true → R (Value.bool false)) ∧ ((Cmp.den .lt x24 x23) = false → ∀ x33 : Int, x33 = (IntKind.i64.wrap (x23 + (1 : Int))) →
((Cmp.den .lt x33 x24) = true → R (Value.bool false)) ∧ ((Cmp.den .lt x33 x24) = false → ((Cmp.den .lt x27 x26) = true → R (Value.bool false)) ∧ ((Cmp.den .lt x27 x26) = false → ∀ x34 : Int, x34 = (IntKind.i64.wrap (x26 + (1 : Int))) →
((Cmp.den .lt x34 x27) = true → R (Value.bool false)) ∧ ((Cmp.den .lt x34 x27) = false → ((Cmp.den .lt x23 x26) = true → R (Value.bool false)) ∧ ((Cmp.den .lt x23 x26) = false → ((Cmp.den .lt x24 x27) = true → R (Value.bool false)) ∧ ((Cmp.den .lt x24 x27) = false → ∀ x35 : Int, x35 = ((List.length x9 : Int)) →
∀ x36 : Int, x36 = (IntKind.i64.wrap (x11 - x10)) →
∀ x37 : Int, x37 = (IntKind.u64.wrap x36) →
∀ x38 : Int, x38 = (IntKind.u64.wrap (x37 * x37)) →
∀ x39 : Int, x39 = (IntKind.u64.wrap (x35 - (1 : Int))) →
∀ x40 : Int, x40 = (IntKind.u64.wrap (x35 * x39)) →
(mul_sem.pre [(.i x38), (.i x40)]) ∧ (
∀ x41 : Int, x41 = (Cv.int (Env.get (mul_sem.out [(.i x38), (.i x40)]) 0)) → (0 : Int) ≤ x41 → x41 ≤ (18446744073709551615 : Int) →
∀ x42 : Int, x42 = (Cv.int (Env.get (mul_sem.out [(.i x38), (.i x40)]) 1)) → (0 : Int) ≤ x42 → x42 ≤ (18446744073709551615 : Int) →
∀ x43 : Int, x43 = (x15 * x15) →
(times_sem.pre [(.i x41), (.i x42), (.i (0 : Int)), (.i x43)]) ∧ (
∀ x44 : Int, x44 = (Cv.int (Env.get (times_sem.out [(.i x41), (.i x42), (.i (0 : Int)), (.i x43)]) 0)) → (0 : Int) ≤ x44 → x44 ≤ (18446744073709551615 : Int) →
∀ x45 : Int, x45 = (Cv.int (Env.get (times_sem.out [(.i x41), (.i x42), (.i (0 : Int)), (.i x43)]) 1)) → (0 : Int) ≤ x45 → x45 ≤ (18446744073709551615 : Int) →
(times_sem.pre [(.i x30), (.i x31), (.i (0 : Int)), (.i (36 : Int))]) ∧ (
∀ x47 : Int, x47 = (Cv.int (Env.get (times_sem.out [(.i x30), (.i x31), (.i (0 : Int)), (.i (36 : Int))]) 0)) → (0 : Int) ≤ x47 → x47 ≤ (18446744073709551615 : Int) →
∀ x48 : Int, x48 = (Cv.int (Env.get (times_sem.out [(.i x30), (.i x31), (.i (0 : Int)), (.i (36 : Int))]) 1)) → (0 : Int) ≤ x48 → x48 ≤ (18446744073709551615 : Int) →
(mul_sem.pre [(.i x23), (.i x23)]) ∧ (
∀ x50 : Int, x50 = (Cv.int (Env.get (mul_sem.out [(.i x23), (.i x23)]) 0)) → (0 : Int) ≤ x50 → x50 ≤ (18446744073709551615 : Int) →
∀ x51 : Int, x51 = (Cv.int (Env.get (mul_sem.out [(.i x23), (.i x23)]) 1)) → (0 : Int) ≤ x51 → x51 ≤ (18446744073709551615 : Int) →
(times_sem.pre [(.i x47), (.i x48), (.i x50), (.i x51)]) ∧ (
∀ x52 : Int, x52 = (Cv.int (Env.get (times_sem.out [(.i x47), (.i x48), (.i x50), (.i x51)]) 0)) → (0 : Int) ≤ x52 → x52 ≤ (18446744073709551615 : Int) →
∀ x53 : Int, x53 = (Cv.int (Env.get (times_sem.out [(.i x47), (.i x48), (.i x50), (.i x51)]) 1)) → (0 : Int) ≤ x53 → x53 ≤ (18446744073709551615 : Int) →
(mul_sem.pre [(.i x24), (.i x24)]) ∧ (
∀ x55 : Int, x55 = (Cv.int (Env.get (mul_sem.out [(.i x24), (.i x24)]) 0)) → (0 : Int) ≤ x55 → x55 ≤ (18446744073709551615 : Int) →
∀ x56 : Int, x56 = (Cv.int (Env.get (mul_sem.out [(.i x24), (.i x24)]) 1)) → (0 : Int) ≤ x56 → x56 ≤ (18446744073709551615 : Int) →
(times_sem.pre [(.i x47), (.i x48), (.i x55), (.i x56)]) ∧ (
∀ x57 : Int, x57 = (Cv.int (Env.get (times_sem.out [(.i x47), (.i x48), (.i x55), (.i x56)]) 0)) → (0 : Int) ≤ x57 → x57 ≤ (18446744073709551615 : Int) →
∀ x58 : Int, x58 = (Cv.int (Env.get (times_sem.out [(.i x47), (.i x48), (.i x55), (.i x56)]) 1)) → (0 : Int) ≤ x58 → x58 ≤ (18446744073709551615 : Int) →
(less_sem.pre [(.i x44), (.i x45), (.i x52), (.i x53)]) ∧ (
((!(Cv.bool (Env.get (less_sem.out [(.i x44), (.i x45), (.i x52), (.i x53)]) 0))) = true → ((Cv.bool (Env.get (times_sem.out [(.i x47), (.i x48), (.i x55), (.i x56)]) 2)) = true → R (Value.bool true)) ∧ ((Cv.bool (Env.get (times_sem.out [(.i x47), (.i x48), (.i x55), (.i x56)]) 2)) = false → (less_sem.pre [(.i x57), (.i x58), (.i x44), (.i x45)]) ∧ (
R (Value.bool (!(Cv.bool (Env.get (less_sem.out [(.i x57), (.i x58), (.i x44), (.i x45)]) 0))))))) ∧ ((!(Cv.bool (Env.get (less_sem.out [(.i x44), (.i x45), (.i x52), (.i x53)]) 0))) = false → R (Value.bool false))))))))))))))))))))))))))))))) ∧ ((Cmp.den .le x5 x4) = false → False)) := by kernel_rfl

def lahold_sem : SpecSem := { pre := fun cs => match cs with | [.l xs, .i a, .i b, .i k] => InI xs ∧ IsI a ∧ IsI b ∧ IsI k | _ => False, out := fun cs => match cs with | [.l xs, .i a, .i b, .i k] => [.b true] | _ => [] }
set_option maxRecDepth 10000 in
set_option maxHeartbeats 16000000 in
theorem lahold_ok : SpecOK Try.prog 9 lahold_sp lahold_sem := by
  refine spec_of_tree lahold_cxok Try.func9 (by kernel_rfl) (by kernel_rfl) lahold_walk rfl ?_
  intro cs hpre
  match cs, hpre with
  | [.l xs, .i a, .i b, .i k], ⟨j_xs, j_a, j_b, j_k⟩ =>
    have h_a := j_a
    unfold IsI at h_a
    have h_b := j_b
    unfold IsI at h_b
    have h_k := j_k
    unfold IsI at h_k
    refine ⟨rfl, IvsB.ok (by simp only [lahold_ivs, IvsB, Cv.int, and_true, j_xs, true_and] <;> omega), ?_, ?_⟩
    · simp only [lahold_sem, lahold_sp, Fits]
    · rw [lahold_den]
      simp only [lahold_sem, lahold_sp, lahold_den, mul_sem, times_sem, less_sem, sof_sem, sspread_sem, app_sem, appk_sem, a20al_sem, a20ends_sem, Tree.den, LE.den, Cv.list, placeA, List.getElem?_cons_zero, List.getElem?_cons_succ, IE.den, BE.den, At.den, CA.den, Env.get, Cv.int, Cv.bool, List.cons_append, List.nil_append, List.map_cons, List.map_nil, bindRes, bindEq, Fits, SV.den, denL, place, placeL, eq_t, eq_f, lt_t, lt_f, le_t, le_f, beq_iff_eq, beq_eq_false_iff_ne, ne_eq, reduceCtorEq, b_dec, decide_eq_true_eq, decide_eq_false_iff_not, Bool.not_eq_false', Bool.or_eq_true, Bool.or_eq_false_iff, Bool.and_eq_false_iff, true_iff, false_iff, Bool.false_eq_true, Bool.not_eq_true', Bool.and_eq_true, Bool.not_true, Bool.not_false, List.cons.injEq, Cv.i.injEq, Cv.b.injEq, and_true, true_and, agg_inj, tup_inj, Value.int.injEq, Value.bool.injEq]
      intro x4 e4 x5 e5
      refine ⟨fun hle => ?_, fun h => by split at e5 <;> omega⟩
      intro x6 e6 x7 e7
      have h7 : x7 ≤ 100 := by
        have k1 := List.length_take_le (x5.toNat - Int.toNat 0) (List.drop (Int.toNat 0) xs)
        rw [← e6] at k1
        have k2 : x5 ≤ 100 := by split at e5 <;> omega
        have k3 : x5.toNat - Int.toNat 0 ≤ 100 := by omega
        omega
      clear e6 e5 e4 hle
      refine ⟨fun vs => match vs with | [.i i, .l ys] => (ys.length : Int) = i ∧ (∀ y ∈ ys, -100000 ≤ y ∧ y ≤ 100000) | _ => False, fun vs => match vs with | [.i i, .l ys] => (x7 - i).toNat | _ => 0, ⟨by omega, by omega, fun _ h => nomatch h⟩, ⟨rfl, fun _ h => nomatch h⟩, ?_⟩
      intro x8 l8 g8 x9 hI9 hI
      obtain ⟨hlen, hmem⟩ : (x9.length : Int) = x8 ∧ (∀ y ∈ x9, -100000 ≤ y ∧ y ≤ 100000) := hI
      refine ⟨fun hlt => ?_, fun hge => ?_⟩
      · intro x10 e10 x11 e11 x12 e12 x13 e13
        refine ⟨fun _ => ?_, fun h => by omega⟩
        intro x14 e14 x15 e15
        have r12 : -100000 ≤ x12 ∧ x12 ≤ 100000 := by split at e11 <;> split at e12 <;> omega
        have m14 : ∀ y ∈ x14, -100000 ≤ y ∧ y ≤ 100000 := by
          intro y hy
          rw [e14, List.mem_append, List.mem_singleton] at hy
          rcases hy with hy | hy
          · exact hmem y hy
          · rw [hy]; exact r12
        have n14 : (x14.length : Int) = x15 := by rw [e14, List.length_append, List.length_singleton]; omega
        exact ⟨⟨by omega, by omega, inI_inS (inS_small m14)⟩, ⟨n14, m14⟩, by show (x7 - x15).toNat < (x7 - x8).toNat; omega⟩
      · have hL : (x9.length : Int) ≤ 100 := by omega
        have hx : (x9.length : Int) ≤ 100000 := by omega
        clear hge g8 l8 hlen h7 e7 x8 x7 x6
        have hin := inS_small hmem
        clear hmem
        have st0 := of_stOK hin hx
        have rg := sts_rng hin hx
        have rp := pair_rng2 hin (by omega)
        have eP : (x9.length : Int) * sqL x9 - sumL x9 * sumL x9 = pairL x9 := (pairL_eq x9).symm
        have ss := st_s st0 (by omega)
        have er := ends_rng a b
        generalize loE a b = lo at *
        generalize hiE a b = hi at *
        have tk := tm_rng (x := k) (m := 1000) (by omega)
        refine ⟨⟨j_a, j_b⟩, ?_⟩
        intro x10 e10 l10 g10 x11 e11 l11 g11 x12 e12 x13 e13 x14 e14 x15 e15
        subst e10 e11
        rw [← e12] at tk
        have hk : 1 ≤ x15 ∧ x15 ≤ 1000 := by omega
        clear e12 e13 e14 e15 tk x12 x13 x14 j_k h_k k
        have hw : -1000000 ≤ x10 ∧ x11 ≤ 1000000 ∧ x10 < x11 := by omega
        have k1 : IsI (x9.length : Int) := ⟨by omega, by omega⟩
        have k2 : IsI (sumL x9) := ⟨by omega, by omega⟩
        have k3 : IsU (sqL x9) := ⟨by omega, by omega⟩
        have k4 : IsI (minS x9) := ⟨by omega, by omega⟩
        have k5 : IsI (maxS x9) := ⟨by omega, by omega⟩
        have i0 : IsU 0 := ⟨by omega, by omega⟩
        have k6 : IsI x10 := ⟨by omega, by omega⟩
        have k7 : IsI x11 := ⟨by omega, by omega⟩
        have k8 : IsI x15 := ⟨by omega, by omega⟩
        have hA : abE (x9.length : Int) (sumL x9) 0 (sqL x9) (minS x9) (maxS x9) x10 x11 x15 = (if 2 ≤ (x9.length : Int) then (if pairL x9 = 0 then 6 else 0) else 12) := by
          unfold abE
          rw [if_pos ⟨st0, hw⟩, if_pos hk, val0, eP]
          split
          · rw [if_pos (by omega)]
          · rfl
        by_cases ho : abOK (x9.length : Int) (sumL x9) 0 (sqL x9) (minS x9) (maxS x9) x10 x11 x15
        · obtain ⟨o1, o2, o3, o4, o5⟩ := ho
          have ho : abOK (x9.length : Int) (sumL x9) 0 (sqL x9) (minS x9) (maxS x9) x10 x11 x15 := ⟨o1, o2, o3, o4, o5⟩
          rw [val0, eP] at o5
          have hE : abE (x9.length : Int) (sumL x9) 0 (sqL x9) (minS x9) (maxS x9) x10 x11 x15 = 0 := by rw [hA, if_pos o4.1, if_neg o5]
          obtain ⟨p1, p2, p3, p4, p5⟩ := ppA_rng (n := (x9.length : Int)) hw hk o4
          obtain ⟨n1, n2, n3, n4, n5⟩ := pkA_rng (n := (x9.length : Int)) (s := sumL x9) hw hk o4 ss
          have d9 := spn_rng (SP := pairL x9) (n := (x9.length : Int)) (by omega) o4
          obtain ⟨r1, r2, r3, r4, r5⟩ := rt_rng (A := ppA (x9.length : Int) x10 x11 x15) (D := pairL x9 * 36) ⟨p5.1, by omega⟩ (by omega)
          have wd := rt_wide (A := ppA (x9.length : Int) x10 x11 x15) (D := pairL x9 * 36) p5.1 (by omega)
          obtain ⟨c1, c2⟩ := rt_encl (A := ppA (x9.length : Int) x10 x11 x15) (D := pairL x9 * 36) p5.1 (by omega)
          obtain ⟨r6, r7, r8, r9, r10⟩ := rt_rng (A := pkA (x9.length : Int) (sumL x9) x10 x11 x15) (D := pairL x9 * (9 * (x9.length : Int))) ⟨n5.1, by omega⟩ d9.1
          have wk := rt_wide (A := pkA (x9.length : Int) (sumL x9) x10 x11 x15) (D := pairL x9 * (9 * (x9.length : Int))) n5.1 d9.1
          have hpk : pkLo (x9.length : Int) (sumL x9) x10 x11 x15 (pairL x9) ≤ rtLo (ppA (x9.length : Int) x10 x11 x15) (pairL x9 * 36) ∧ pkHi (x9.length : Int) (sumL x9) x10 x11 x15 (pairL x9) ≤ rtHi (ppA (x9.length : Int) x10 x11 x15) (pairL x9 * 36) ∧ pkLo (x9.length : Int) (sumL x9) x10 x11 x15 (pairL x9) ≤ pkHi (x9.length : Int) (sumL x9) x10 x11 x15 (pairL x9) ∧ pkHi (x9.length : Int) (sumL x9) x10 x11 x15 (pairL x9) ≤ pkLo (x9.length : Int) (sumL x9) x10 x11 x15 (pairL x9) + 1 ∧ -9223372036854775807 ≤ pkLo (x9.length : Int) (sumL x9) x10 x11 x15 (pairL x9) := by
            unfold pkLo pkHi
            by_cases sg : nearZ (x9.length : Int) (sumL x9) x10 x11 < 0
            · rw [if_pos sg, if_pos sg]; omega
            · rw [if_neg sg, if_neg sg]
              have := rt_le n5.1 d9.1 p5.1 (show 1 ≤ pairL x9 * 36 by omega) (pk_pp (by omega) (by omega) (by omega) (by omega))
              omega
          have eA : (x11 - x10) * (x11 - x10) * ((x9.length : Int) * ((x9.length : Int) - 1)) * (x15 * x15) = ppA (x9.length : Int) x10 x11 x15 := by unfold ppA; ac_rfl
          have hA1 : (x11 - x10) * (x11 - x10) * ((x9.length : Int) * ((x9.length : Int) - 1)) = (x11 - x10) * (x11 - x10) * (x9.length : Int) * ((x9.length : Int) - 1) := by ac_rfl
          have nn1 := nn_mul (x := (x9.length : Int)) (y := (x9.length : Int) - 1) (X := 100) (Y := 100) (by omega) (by omega)
          have kk1 := nn_mul (x := x15) (y := x15) (X := 1000) (Y := 1000) (by omega) (by omega)
          generalize hAA : ppA (x9.length : Int) x10 x11 x15 = A at *
          generalize pkA (x9.length : Int) (sumL x9) x10 x11 x15 = B at *
          generalize hPL : pkLo (x9.length : Int) (sumL x9) x10 x11 x15 (pairL x9) = KL at *
          generalize hPH : pkHi (x9.length : Int) (sumL x9) x10 x11 x15 (pairL x9) = KH at *
          generalize hPP : rtLo A (pairL x9 * 36) = P at *
          generalize hHH : rtHi A (pairL x9 * 36) = H at *
          clear r6 r7 r8 r9 r10 wk d9 n1 n2 n3 n4 n5 hA
          have pP := nn_mul (x := P) (y := P) (X := 9223372036854775807) (Y := 9223372036854775807) r3 r3
          have pH := nn_mul (x := H) (y := H) (X := 9223372036854775807) (Y := 9223372036854775807) r4 r4
          have dp := Int.mul_le_mul_of_nonneg_right (c := P * P) (show 1 ≤ pairL x9 * 36 by omega) pP.1
          have P0 : P ≤ 10000000000000 := by
            refine Decidable.byContradiction fun q => ?_
            have := Int.mul_le_mul (a := 10000000000000) (b := 10000000000000) (c := P) (d := P) (by omega) (by omega) (by omega) (by omega)
            omega
          have H0 : H ≤ 10000000000001 := by omega
          have hh := nn_mul (x := H) (y := H) (X := 10000000000001) (Y := 10000000000001) (by omega) (by omega)
          have w1 : IntKind.i64.wrap (P + 1) = P + 1 := w64 (by omega) (by omega)
          have w2 : IntKind.i64.wrap (KL + 1) = KL + 1 := w64 (by omega) (by omega)
          have w3 : IntKind.i64.wrap (x11 - x10) = x11 - x10 := w64 (by omega) (by omega)
          have w4 : IntKind.u64.wrap (x11 - x10) = x11 - x10 := wu64 (by omega) (by omega)
          have w5 : IntKind.u64.wrap ((x11 - x10) * (x11 - x10)) = (x11 - x10) * (x11 - x10) := wu64 (by omega) (by omega)
          have w6 : IntKind.u64.wrap ((x9.length : Int) - 1) = (x9.length : Int) - 1 := wu64 (by omega) (by omega)
          have w7 : IntKind.u64.wrap ((x9.length : Int) * ((x9.length : Int) - 1)) = (x9.length : Int) * ((x9.length : Int) - 1) := wu64 (by omega) (by omega)
          have f1 : (P < 0) = False := eq_false (by omega)
          have f2 : (H < P) = False := eq_false (by omega)
          have f3 : (P + 1 < H) = False := eq_false (by omega)
          have f4 : (KH < KL) = False := eq_false (by omega)
          have f5 : (KL + 1 < KH) = False := eq_false (by omega)
          have f6 : (P < KL) = False := eq_false (by omega)
          have f7 : (H < KH) = False := eq_false (by omega)
          have g1 : 0 ≤ P := r3.1
          have g4 : H ≤ P + 1 := wd
          have g5 : KL ≤ KH := hpk.2.2.1
          have g6 : KH ≤ KL + 1 := hpk.2.2.2.1
          have g7 : KL ≤ P := hpk.1
          have g8 : KH ≤ H := hpk.2.1
          have hn0 : ¬ (x9.length : Int) = 0 := by omega
          have u1 : IsU ((x11 - x10) * (x11 - x10)) := ⟨by omega, by omega⟩
          have u2 : IsU ((x9.length : Int) * ((x9.length : Int) - 1)) := ⟨by omega, by omega⟩
          have u3 : IsU (x15 * x15) := ⟨by omega, by omega⟩
          have u4 : IsU P := ⟨by omega, by omega⟩
          have u5 : IsU H := ⟨by omega, by omega⟩
          have u6 : IsU 36 := ⟨by omega, by omega⟩
          have ub : ∀ x : Int, IsU (x % 18446744073709551616) := fun x => ⟨by omega, by omega⟩
          have u7 : IsU ((x11 - x10) * (x11 - x10) * ((x9.length : Int) * ((x9.length : Int) - 1)) / 18446744073709551616) := by rw [hA1]; exact ⟨by omega, by omega⟩
          have u8 : IsU (pairL x9 / 18446744073709551616) := ⟨by omega, by omega⟩
          have u9 : IsU (P * P / 18446744073709551616) := ⟨by omega, by omega⟩
          have u10 : IsU (H * H / 18446744073709551616) := ⟨by omega, by omega⟩
          have e1 := vq ((x11 - x10) * (x11 - x10) * ((x9.length : Int) * ((x9.length : Int) - 1)))
          have e2 := vq2 (x := A) p5.1 (by omega)
          have e3 := vq (pairL x9)
          have e4 := vq2 (x := pairL x9 * 36) (by omega) (by omega)
          have e5 := vq (P * P)
          have e6 := vq (H * H)
          have e7 := vq2 (x := pairL x9 * 36 * (P * P)) (by omega) (by omega)
          have m1 := nn_mul (x := pairL x9 * 36) (y := H * H) (X := 36000000000000000000) (Y := 100000000000020000000000001) (by omega) hh
          have f8 : (A < pairL x9 * 36 * (P * P)) = False := eq_false (by omega)
          simp only [ho, hE, hin, hx, hI9, st0, k1, k2, k3, k4, k5, k6, k7, k8, i0, val0, eP, hAA, hPP, hHH, hPL, hPH, w1, w2, w3, w4, w5, w6, w7, f1, f2, f3, f4, f5, f6, f7, f8, g1, g4, g5, g6, g7, g8, r5, hn0, u1, u2, u3, u4, u5, u6, u7, u8, u9, u10, ub, e1, e2, e3, e4, e5, e6, e7, eA, forall_eq, eq_self, f00, if_true, if_false, true_and, and_true, false_and, and_false, true_or, or_true, false_or, or_false, true_iff, iff_true, false_iff, iff_false, not_true_eq_false, not_false_eq_true, true_implies, false_implies, implies_true, forall_const, decide_true, decide_false, reduceCtorEq]
          intros
          rw [vq2 m1.1 (by omega)]
          omega
        · have hE : abE (x9.length : Int) (sumL x9) 0 (sqL x9) (minS x9) (maxS x9) x10 x11 x15 = 12 ∧ (x9.length : Int) < 2 ∨ abE (x9.length : Int) (sumL x9) 0 (sqL x9) (minS x9) (maxS x9) x10 x11 x15 = 6 ∧ 2 ≤ (x9.length : Int) ∧ pairL x9 = 0 := by
            rw [hA]
            by_cases q1 : 2 ≤ (x9.length : Int)
            · by_cases q2 : pairL x9 = 0
              · right; rw [if_pos q1, if_pos q2]; exact ⟨rfl, q1, q2⟩
              · exact absurd ⟨st0, hw, hk, ⟨q1, by omega⟩, by rw [val0, eP]; exact q2⟩ ho
            · left; rw [if_neg q1]; exact ⟨rfl, by omega⟩
          have hE0 : ¬ abE (x9.length : Int) (sumL x9) 0 (sqL x9) (minS x9) (maxS x9) x10 x11 x15 = 0 := by rcases hE with ⟨h1, _⟩ | ⟨h1, _⟩ <;> rw [h1] <;> omega
          simp only [ho, hin, hx, hI9, st0, k1, k2, k3, k4, k5, k6, k7, k8, i0, hE0, forall_eq, eq_self, f00, if_true, if_false, true_and, and_true, false_and, and_false, true_or, or_true, false_or, or_false, true_iff, iff_true, false_iff, iff_false, not_true_eq_false, not_false_eq_true, true_implies, false_implies, implies_true, forall_const, decide_true, decide_false, reduceCtorEq]
          intros
          refine ⟨fun vs => match vs with | [.i i, .b t] => (t = true ↔ ∀ y ∈ x9.take i.toNat, y = x9.getD 0 0) ∧ i ≤ (x9.length : Int) | _ => False, fun vs => match vs with | .i i :: _ => ((x9.length : Int) - i).toNat | _ => 0, by omega, ⟨⟨(fun _ y hy => by simp at hy), fun _ => rfl⟩, by omega⟩, ?_⟩
          intro x31 l31 g31 x32 hI
          obtain ⟨i1, i2⟩ : (x32 = true ↔ ∀ y ∈ x9.take x31.toNat, y = x9.getD 0 0) ∧ x31 ≤ (x9.length : Int) := hI
          refine ⟨fun hlt => ?_, fun hge => ?_⟩
          · have ht := take_snoc l31 hlt
            have key : (∀ y ∈ x9.take (x31 + 1).toNat, y = x9.getD 0 0) ↔ (∀ y ∈ x9.take x31.toNat, y = x9.getD 0 0) ∧ x9.getD x31.toNat 0 = x9.getD 0 0 := by
              rw [ht]
              constructor
              · intro h
                exact ⟨fun y hy => h y (List.mem_append_left _ hy), h _ (List.mem_append_right _ (List.mem_singleton.2 rfl))⟩
              · rintro ⟨h1, h2⟩ y hy
                rw [List.mem_append, List.mem_singleton] at hy
                rcases hy with hy | hy
                · exact h1 y hy
                · rw [hy]; exact h2
            refine ⟨fun t => ⟨by omega, ⟨?_, by omega⟩, by show (((x9.length : Int) - (x31 + 1)).toNat < ((x9.length : Int) - x31).toNat); omega⟩, fun t => ⟨by omega, ⟨?_, by omega⟩, by show (((x9.length : Int) - (x31 + 1)).toNat < ((x9.length : Int) - x31).toNat); omega⟩⟩
            · rw [key]
              simp only [Cmp.den, decide_eq_true_eq, i1.1 t, true_and]
              exact ⟨fun h => ⟨fun y hy => i1.1 t y hy, h⟩, fun h => h.2⟩
            · rw [key]
              refine ⟨fun h => (nomatch h), fun h => ?_⟩
              have := i1.2 h.1
              rw [this] at t
              cases t
          · have tk : x9.take x31.toNat = x9 := List.take_of_length_le (by omega)
            rw [tk] at i1
            rcases hE with ⟨h1, h2⟩ | ⟨h1, h2, h3⟩
            · refine ⟨fun _ => by omega, fun h => absurd h1 h⟩
            · refine ⟨fun h => by omega, fun _ => ⟨fun _ => ⟨fun _ => h2, fun t => ?_⟩, fun h => absurd h1 h⟩⟩
              have := i1.2 (pairL_same h3)
              rw [this] at t
              cases t
end Go.Proofs.Ytgnihomdpandfaa.X
