/-
  StatsShift tells true, for every input.
-/
import Derived.Test.YtgnihomdpandfaaSxStatLaw
import Derived.Test.YtgnihomdpandfaaSxStatNum3
namespace Go.Proofs.Ytgnihomdpandfaa.X
open Go Go.SX Go.RowKit
set_option linter.unusedVariables false
set_option linter.unusedSimpArgs false




def lsshift_sp : SpecSh := { args := [(.lst 0), (.int .i64 (.z 0)), (.int .i64 (.z 0))], res := (.bool .f), sh := [.b] }
set_option maxRecDepth 100000 in
def lsshift_tree : Tree :=
.lett (.len 0) <|
.lett (.ite (.cmp .lt (.z 100) (.v 3)) (.z 100) (.v 3)) <|
.ite (.cmp .le (.v 4) (.v 3)) (.letl (.sub 0 (.z 0) (.v 4)) <|
.lett (.len 5) <|
.loop [.i (some (0, 100)), .l] [.i (.z 0), .l (.nil)] <|
.ite (.cmp .lt (.v 7) (.v 6)) (.lett (.nth 5 (.v 7)) <|
.lett (.ite (.cmp .lt (.v 9) (.z (-1000000))) (.z (-1000000)) (.v 9)) <|
.lett (.ite (.cmp .lt (.z 1000000) (.v 10)) (.z 1000000) (.v 10)) <|
.lett (.len 8) <|
.ite (.cmp .le (.v 12) (.z 100000)) (.letl (.app 8 [.v 11]) <|
.lett (.add (.v 7) (.z 1)) <|
.again 0 [.i (.v 14), .l (.v 13)]) <|
.bad 113) <|
.lett (.rem (.v 1) (.z 1000)) <|
.lett (.rem (.v 2) (.z 10)) <|
.lett (.len 8) <|
.loop [.i (some (0, 100)), .l, .l, .l] [.i (.z 0), .l (.v 8), .l (.nil), .l (.nil)] <|
.ite (.cmp .lt (.v 12) (.v 11)) (.lett (.len 13) <|
.ite (.cmp .lt (.v 12) (.v 16)) (.lett (.nth 13 (.v 12)) <|
.lett (.quo .i64 (.v 17) (.z 10)) <|
.letl (.set 13 (.v 12) (.v 18)) <|
.lett (.len 19) <|
.ite (.cmp .lt (.v 12) (.v 20)) (.lett (.nth 19 (.v 12)) <|
.lett (.addw .i64 (.v 21) (.v 9)) <|
.lett (.nth 19 (.v 12)) <|
.lett (.mulw .i64 (.v 23) (.v 10)) <|
.all (.all (.lett (.len 14) <|
.ite (.cmp .le (.v 25) (.z 100000)) (.letl (.app 14 [.v 22]) <|
.lett (.len 15) <|
.ite (.cmp .le (.v 27) (.z 100000)) (.letl (.app 15 [.v 24]) <|
.lett (.add (.v 12) (.z 1)) <|
.again 1 [.i (.v 29), .l (.v 19), .l (.v 26), .l (.v 28)]) <|
.bad 113) <|
.bad 113) <|
.lett (.len 14) <|
.ite (.cmp .le (.v 25) (.z 100000)) (.letl (.app 14 [.v 22]) <|
.lett (.len 15) <|
.ite (.cmp .le (.v 27) (.z 100000)) (.letl (.app 15 [.v 24]) <|
.lett (.add (.v 12) (.z 1)) <|
.again 1 [.i (.v 29), .l (.v 19), .l (.v 26), .l (.v 28)]) <|
.bad 113) <|
.bad 113) <|
.lett (.len 14) <|
.ite (.cmp .le (.v 25) (.z 100000)) (.letl (.app 14 [.v 22]) <|
.lett (.len 15) <|
.ite (.cmp .le (.v 27) (.z 100000)) (.letl (.app 15 [.v 24]) <|
.lett (.add (.v 12) (.z 1)) <|
.again 1 [.i (.v 29), .l (.v 19), .l (.v 26), .l (.v 28)]) <|
.bad 113) <|
.bad 113) <|
.bad 35) <|
.bad 29) <|
.call 15 [.i (some ((-9223372036854775808), 9223372036854775807)), .i (some ((-9223372036854775808), 9223372036854775807)), .i (some (0, 18446744073709551615)), .i (some (0, 18446744073709551615)), .i (some ((-9223372036854775808), 9223372036854775807)), .i (some ((-9223372036854775808), 9223372036854775807)), .i (some ((-9223372036854775808), 9223372036854775807))] [.l (.v 13)] <|
.call 15 [.i (some ((-9223372036854775808), 9223372036854775807)), .i (some ((-9223372036854775808), 9223372036854775807)), .i (some (0, 18446744073709551615)), .i (some (0, 18446744073709551615)), .i (some ((-9223372036854775808), 9223372036854775807)), .i (some ((-9223372036854775808), 9223372036854775807)), .i (some ((-9223372036854775808), 9223372036854775807))] [.l (.v 14)] <|
.call 15 [.i (some ((-9223372036854775808), 9223372036854775807)), .i (some ((-9223372036854775808), 9223372036854775807)), .i (some (0, 18446744073709551615)), .i (some (0, 18446744073709551615)), .i (some ((-9223372036854775808), 9223372036854775807)), .i (some ((-9223372036854775808), 9223372036854775807)), .i (some ((-9223372036854775808), 9223372036854775807))] [.l (.v 15)] <|
.ite (.not (.cmp .eq (.v 22) (.z 0))) (.ret (.bool .f)) <|
.ite (.not (.cmp .eq (.v 29) (.z 0))) (.ret (.bool .f)) <|
.ite (.not (.cmp .eq (.v 36) (.z 0))) (.ret (.bool .f)) <|
.call 17 [.b] [] <|
.ite (.not (.v 37)) (.ret (.bool .f)) <|
.lett (.len 13) <|
.ite (.cmp .eq (.v 38) (.z 0)) (.ite (.cmp .eq (.v 16) (.z 0)) (.ite (.cmp .eq (.v 23) (.z 0)) (.ret (.bool (.cmp .eq (.v 30) (.z 0)))) <|
.ret (.bool .f)) <|
.ret (.bool .f)) <|
.call 16 [.i (some (0, 18446744073709551615)), .i (some (0, 18446744073709551615)), .i (some ((-9223372036854775808), 9223372036854775807))] [.i (.v 16), .i (.v 17), .i (.v 18), .i (.v 19), .i (.v 20), .i (.v 21)] <|
.call 16 [.i (some (0, 18446744073709551615)), .i (some (0, 18446744073709551615)), .i (some ((-9223372036854775808), 9223372036854775807))] [.i (.v 23), .i (.v 24), .i (.v 25), .i (.v 26), .i (.v 27), .i (.v 28)] <|
.call 16 [.i (some (0, 18446744073709551615)), .i (some (0, 18446744073709551615)), .i (some ((-9223372036854775808), 9223372036854775807))] [.i (.v 30), .i (.v 31), .i (.v 32), .i (.v 33), .i (.v 34), .i (.v 35)] <|
.lett (.mul (.v 10) (.v 10)) <|
.lett (.wrap .u64 (.v 48)) <|
.call 20 [.i (some (0, 18446744073709551615)), .i (some (0, 18446744073709551615)), .b] [.i (.v 39), .i (.v 40), .i (.z 0), .i (.v 49)] <|
.ite (.cmp .eq (.v 41) (.z 0)) (.ite (.cmp .eq (.v 44) (.z 0)) (.ite (.cmp .eq (.v 47) (.z 0)) (.lett (.mulw .i64 (.v 9) (.v 38)) <|
.lett (.addw .i64 (.v 17) (.v 53)) <|
.ite (.cmp .eq (.v 24) (.v 54)) (.lett (.addw .i64 (.v 20) (.v 9)) <|
.ite (.cmp .eq (.v 27) (.v 55)) (.lett (.addw .i64 (.v 21) (.v 9)) <|
.ite (.cmp .eq (.v 28) (.v 56)) (.ite (.and (.cmp .eq (.v 39) (.v 42)) (.cmp .eq (.v 40) (.v 43))) (.ite (.and (.cmp .eq (.v 45) (.v 50)) (.cmp .eq (.v 46) (.v 51))) (.lett (.mulw .i64 (.v 17) (.v 10)) <|
.ret (.bool (.cmp .eq (.v 31) (.v 57)))) <|
.ret (.bool .f)) <|
.ret (.bool .f)) <|
.ret (.bool .f)) <|
.ret (.bool .f)) <|
.ret (.bool .f)) <|
.ret (.bool .f)) <|
.ret (.bool .f)) <|
.ret (.bool .f)) <|
.bad 120
noncomputable def lsshift_cx : Ctx := { tys := tys, fns := fns, sps := [(15, sof_sp), (16, sspread_sp), (20, times_sp), (17, s11al_sp)], anns := [((14, 3), { slots := [15], cells := [], ivs := [some (0, 100)], lsts := [5], elem := 3 }), ((5, 4), { slots := [33], cells := [], ivs := [some (0, 100)], lsts := [0, 7, 8], elem := 3, ali := [(31, 0)] })], trys := [] }
def lsshift_ivs : List (Option (Int × Int)) := [none, some ((-9223372036854775808), 9223372036854775807), some ((-9223372036854775808), 9223372036854775807)]
set_option maxRecDepth 100000 in
theorem lsshift_walk : runFn lsshift_cx 3000 5 Try.f5 lsshift_sp.args lsshift_ivs = lsshift_tree := by kernel_rfl
noncomputable def lsshift_M : Nat → SpecSem
  | 15 => sof_sem
  | 16 => sspread_sem
  | 20 => times_sem
  | 17 => s11al_sem
  | _ => noSem
theorem lsshift_M15 : lsshift_M 15 = sof_sem := rfl
theorem lsshift_M16 : lsshift_M 16 = sspread_sem := rfl
theorem lsshift_M20 : lsshift_M 20 = times_sem := rfl
theorem lsshift_M17 : lsshift_M 17 = s11al_sem := rfl
theorem lsshift_cxok : CxOK Try.prog lsshift_cx lsshift_M := ⟨tysOK, fnsOK, spCons sof_ok <| spCons sspread_ok <| spCons times_ok <| spCons s11al_ok <| fun _ _ h => spNil h, mixedOK, fun _ _ h => trNil h⟩
set_option maxRecDepth 100000 in
set_option maxHeartbeats 8000000 in
theorem lsshift_den (R RP : Value → Prop) (F : Ex → St → Js → Env → Prop) (x0 : List Int) (x1 : Int) (x2 : Int) : Tree.den lsshift_M R RP F lsshift_tree [] [(.l x0), (.i x1), (.i x2)] = (
  ∀ x3 : Int, x3 = ((List.length x0 : Int)) →
∀ x4 : Int, x4 = (if (Cmp.den .lt (100 : Int) x3) = true then (100 : Int) else x3) →
((Cmp.den .le x4 x3) = true → ∀ x5 : List Int, x5 = (List.take (Int.toNat x4 - Int.toNat (0 : Int)) (List.drop (Int.toNat (0 : Int)) x0)) →
∀ x6 : Int, x6 = ((List.length x5 : Int)) →
∃ (I0 : List Cv → Prop) (mu0 : List Cv → Nat), Fits [.i (some ((0), (100))), .l] [(.i (0 : Int)), (.l (([] : List Int)))] ∧ I0 [(.i (0 : Int)), (.l (([] : List Int)))] ∧ (
∀ x7 : Int, (0 : Int) ≤ x7 → x7 ≤ (100 : Int) → ∀ x8 : List Int, InI x8 → I0 [.i x7, .l x8] →
((Cmp.den .lt x7 x6) = true → ∀ x9 : Int, x9 = (List.getD x5 (Int.toNat x7) 0) →
∀ x10 : Int, x10 = (if (Cmp.den .lt x9 (-1000000 : Int)) = true then (-1000000 : Int) else x9) →
∀ x11 : Int, x11 = (if (Cmp.den .lt (1000000 : Int) x10) = true then (1000000 : Int) else x10) →
∀ x12 : Int, x12 = ((List.length x8 : Int)) →
((Cmp.den .le x12 (100000 : Int)) = true → ∀ x13 : List Int, x13 = (x8 ++ ([x11] : List Int)) →
∀ x14 : Int, x14 = (x7 + (1 : Int)) →
Fits [.i (some ((0), (100))), .l] [(.i x14), (.l (x13))] ∧ I0 [(.i x14), (.l (x13))] ∧ mu0 [(.i x14), (.l (x13))] < mu0 [.i x7, .l x8]) ∧ ((Cmp.den .le x12 (100000 : Int)) = false → False)) ∧ ((Cmp.den .lt x7 x6) = false → ∀ x9 : Int, x9 = (Int.tmod x1 (1000 : Int)) →
∀ x10 : Int, x10 = (Int.tmod x2 (10 : Int)) →
∀ x11 : Int, x11 = ((List.length x8 : Int)) →
∃ (I1 : List Cv → Prop) (mu1 : List Cv → Nat), Fits [.i (some ((0), (100))), .l, .l, .l] [(.i (0 : Int)), (.l (x8)), (.l (([] : List Int))), (.l (([] : List Int)))] ∧ I1 [(.i (0 : Int)), (.l (x8)), (.l (([] : List Int))), (.l (([] : List Int)))] ∧ (
∀ x12 : Int, (0 : Int) ≤ x12 → x12 ≤ (100 : Int) → ∀ x13 : List Int, InI x13 → ∀ x14 : List Int, InI x14 → ∀ x15 : List Int, InI x15 → I1 [.i x12, .l x13, .l x14, .l x15] →
((Cmp.den .lt x12 x11) = true → ∀ x16 : Int, x16 = ((List.length x13 : Int)) →
((Cmp.den .lt x12 x16) = true → ∀ x17 : Int, x17 = (List.getD x13 (Int.toNat x12) 0) →
∀ x18 : Int, x18 = (IntKind.i64.wrap (Int.tdiv x17 (10 : Int))) →
∀ x19 : List Int, x19 = (List.set x13 (Int.toNat x12) x18) →
∀ x20 : Int, x20 = ((List.length x19 : Int)) →
((Cmp.den .lt x12 x20) = true → ∀ x21 : Int, x21 = (List.getD x19 (Int.toNat x12) 0) →
∀ x22 : Int, x22 = (IntKind.i64.wrap (x21 + x9)) →
∀ x23 : Int, x23 = (List.getD x19 (Int.toNat x12) 0) →
∀ x24 : Int, x24 = (IntKind.i64.wrap (x23 * x10)) →
((∀ x25 : Int, x25 = ((List.length x14 : Int)) →
((Cmp.den .le x25 (100000 : Int)) = true → ∀ x26 : List Int, x26 = (x14 ++ ([x22] : List Int)) →
∀ x27 : Int, x27 = ((List.length x15 : Int)) →
((Cmp.den .le x27 (100000 : Int)) = true → ∀ x28 : List Int, x28 = (x15 ++ ([x24] : List Int)) →
∀ x29 : Int, x29 = (x12 + (1 : Int)) →
Fits [.i (some ((0), (100))), .l, .l, .l] [(.i x29), (.l (x19)), (.l (x26)), (.l (x28))] ∧ I1 [(.i x29), (.l (x19)), (.l (x26)), (.l (x28))] ∧ mu1 [(.i x29), (.l (x19)), (.l (x26)), (.l (x28))] < mu1 [.i x12, .l x13, .l x14, .l x15]) ∧ ((Cmp.den .le x27 (100000 : Int)) = false → False)) ∧ ((Cmp.den .le x25 (100000 : Int)) = false → False)) ∧ (∀ x25 : Int, x25 = ((List.length x14 : Int)) →
((Cmp.den .le x25 (100000 : Int)) = true → ∀ x26 : List Int, x26 = (x14 ++ ([x22] : List Int)) →
∀ x27 : Int, x27 = ((List.length x15 : Int)) →
((Cmp.den .le x27 (100000 : Int)) = true → ∀ x28 : List Int, x28 = (x15 ++ ([x24] : List Int)) →
∀ x29 : Int, x29 = (x12 + (1 : Int)) →
Fits [.i (some ((0), (100))), .l, .l, .l] [(.i x29), (.l (x19)), (.l (x26)), (.l (x28))] ∧ I1 [(.i x29), (.l (x19)), (.l (x26)), (.l (x28))] ∧ mu1 [(.i x29), (.l (x19)), (.l (x26)), (.l (x28))] < mu1 [.i x12, .l x13, .l x14, .l x15]) ∧ ((Cmp.den .le x27 (100000 : Int)) = false → False)) ∧ ((Cmp.den .le x25 (100000 : Int)) = false → False))) ∧ (∀ x25 : Int, x25 = ((List.length x14 : Int)) →
((Cmp.den .le x25 (100000 : Int)) = true → ∀ x26 : List Int, x26 = (x14 ++ ([x22] : List Int)) →
∀ x27 : Int, x27 = ((List.length x15 : Int)) →
((Cmp.den .le x27 (100000 : Int)) = true → ∀ x28 : List Int, x28 = (x15 ++ ([x24] : List Int)) →
∀ x29 : Int, x29 = (x12 + (1 : Int)) →
Fits [.i (some ((0), (100))), .l, .l, .l] [(.i x29), (.l (x19)), (.l (x26)), (.l (x28))] ∧ I1 [(.i x29), (.l (x19)), (.l (x26)), (.l (x28))] ∧ mu1 [(.i x29), (.l (x19)), (.l (x26)), (.l (x28))] < mu1 [.i x12, .l x13, .l x14, .l x15]) ∧ ((Cmp.den .le x27 (100000 : Int)) = false → False)) ∧ ((Cmp.den .le x25 (100000 : Int)) = false → False))) ∧ ((Cmp.den .lt x12 x20) = false → False)) ∧ ((Cmp.den .lt x12 x16) = false → False)) ∧ ((Cmp.den .lt x12 x11) = false → (sof_sem.pre [(.l (x13))]) ∧ (
∀ x16 : Int, x16 = (Cv.int (Env.get (sof_sem.out [(.l (x13))]) 0)) → (-9223372036854775808 : Int) ≤ x16 → x16 ≤ (9223372036854775807 : Int) →
∀ x17 : Int, x17 = (Cv.int (Env.get (sof_sem.out [(.l (x13))]) 1)) → (-9223372036854775808 : Int) ≤ x17 → x17 ≤ (9223372036854775807 : Int) →
∀ x18 : Int, x18 = (Cv.int (Env.get (sof_sem.out [(.l (x13))]) 2)) → (0 : Int) ≤ x18 → x18 ≤ (18446744073709551615 : Int) →
∀ x19 : Int, x19 = (Cv.int (Env.get (sof_sem.out [(.l (x13))]) 3)) → (0 : Int) ≤ x19 → x19 ≤ (18446744073709551615 : Int) →
∀ x20 : Int, x20 = (Cv.int (Env.get (sof_sem.out [(.l (x13))]) 4)) → (-9223372036854775808 : Int) ≤ x20 → x20 ≤ (9223372036854775807 : Int) →
∀ x21 : Int, x21 = (Cv.int (Env.get (sof_sem.out [(.l (x13))]) 5)) → (-9223372036854775808 : Int) ≤ x21 → x21 ≤ (9223372036854775807 : Int) →
∀ x22 : Int, x22 = (Cv.int (Env.get (sof_sem.out [(.l (x13))]) 6)) → (-9223372036854775808 : Int) ≤ x22 → x22 ≤ (9223372036854775807 : Int) →
(sof_sem.pre [(.l (x14))]) ∧ (
∀ x23 : Int, x23 = (Cv.int (Env.get (sof_sem.out [(.l (x14))]) 0)) → (-9223372036854775808 : Int) ≤ x23 → x23 ≤ (9223372036854775807 : Int) →
∀ x24 : Int, x24 = (Cv.int (Env.get (sof_sem.out [(.l (x14))]) 1)) → (-9223372036854775808 : Int) ≤ x24 → x24 ≤ (9223372036854775807 : Int) →
∀ x25 : Int, x25 = (Cv.int (Env.get (sof_sem.out [(.l (x14))]) 2)) → (0 : Int) ≤ x25 → x25 ≤ (18446744073709551615 : Int) →
∀ x26 : Int, x26 = (Cv.int (Env.get (sof_sem.out [(.l (x14))]) 3)) → (0 : Int) ≤ x26 → x26 ≤ (18446744073709551615 : Int) →
∀ x27 : Int, x27 = (Cv.int (Env.get (sof_sem.out [(.l (x14))]) 4)) → (-9223372036854775808 : Int) ≤ x27 → x27 ≤ (9223372036854775807 : Int) →
∀ x28 : Int, x28 = (Cv.int (Env.get (sof_sem.out [(.l (x14))]) 5)) → (-9223372036854775808 : Int) ≤ x28 → x28 ≤ (9223372036854775807 : Int) →
∀ x29 : Int, x29 = (Cv.int (Env.get (sof_sem.out [(.l (x14))]) 6)) → (-9223372036854775808 : Int) ≤ x29 → x29 ≤ (9223372036854775807 : Int) →
(sof_sem.pre [(.l (x15))]) ∧ (
∀ x30 : Int, x30 = (Cv.int (Env.get (sof_sem.out [(.l (x15))]) 0)) → (-9223372036854775808 : Int) ≤ x30 → x30 ≤ (9223372036854775807 : Int) →
∀ x31 : Int, x31 = (Cv.int (Env.get (sof_sem.out [(.l (x15))]) 1)) → (-9223372036854775808 : Int) ≤ x31 → x31 ≤ (9223372036854775807 : Int) →
∀ x32 : Int, x32 = (Cv.int (Env.get (sof_sem.out [(.l (x15))]) 2)) → (0 : Int) ≤ x32 → x32 ≤ (18446744073709551615 : Int) →
∀ x33 : Int, x33 = (Cv.int (Env.get (sof_sem.out [(.l (x15))]) 3)) → (0 : Int) ≤ x33 → x33 ≤ (18446744073709551615 : Int) →
∀ x34 : Int, x34 = (Cv.int (Env.get (sof_sem.out [(.l (x15))]) 4)) → (-9223372036854775808 : Int) ≤ x34 → x34 ≤ (9223372036854775807 : Int) →
∀ x35 : Int, x35 = (Cv.int (Env.get (sof_sem.out [(.l (x15))]) 5)) → (-9223372036854775808 : Int) ≤ x35 → x35 ≤ (9223372036854775807 : Int) →
∀ x36 : Int, x36 = (Cv.int (Env.get (sof_sem.out [(.l (x15))]) 6)) → (-9223372036854775808 : Int) ≤ x36 → x36 ≤ (9223372036854775807 : Int) →
((!(Cmp.den .eq x22 (0 : Int))) = true → R (Value.bool false)) ∧ ((!(Cmp.den .eq x22 (0 : Int))) = false → ((!(Cmp.den .eq x29 (0 : Int))) = true → R (Value.bool false)) ∧ ((!(Cmp.den .eq x29 (0 : Int))) = false → ((!(Cmp.den .eq x36 (0 : Int))) = true → R (Value.bool false)) ∧ ((!(Cmp.den .eq x36 (0 : Int))) = false → (s11al_sem.pre []) ∧ (
((!(Cv.bool (Env.get (s11al_sem.out []) 0))) = true → R (Value.bool false)) ∧ ((!(Cv.bool (Env.get (s11al_sem.out []) 0))) = false → ∀ x38 : Int, x38 = ((List.length x13 : Int)) →
((Cmp.den .eq x38 (0 : Int)) = true → ((Cmp.den .eq x16 (0 : Int)) = true → ((Cmp.den .eq x23 (0 : Int)) = true → R (Value.bool (Cmp.den .eq x30 (0 : Int)))) ∧ ((Cmp.den .eq x23 (0 : Int)) = false → R (Value.bool false))) ∧ ((Cmp.den .eq x16 (0 : Int)) = false → R (Value.bool false))) ∧ ((Cmp.den .eq x38 (0 : Int)) = false → (sspread_sem.pre [(.i x16), (.i x17), (.i x18), (.i x19), (.i x20), (.i x21)]) ∧ (
∀ x39 : Int, x39 = (Cv.int (Env.get (sspread_sem.out [(.i x16), (.i x17), (.i x18), (.i x19), (.i x20), (.i x21)]) 0)) → (0 : Int) ≤ x39 → x39 ≤ (18446744073709551615 : Int) →
∀ x40 : Int, x40 = (Cv.int (Env.get (sspread_sem.out [(.i x16), (.i x17), (.i x18), (.i x19), (.i x20), (.i x21)]) 1)) → (0 : Int) ≤ x40 → x40 ≤ (18446744073709551615 : Int) →
∀ x41 : Int, x41 = (Cv.int (Env.get (sspread_sem.out [(.i x16), (.i x17), (.i x18), (.i x19), (.i x20), (.i x21)]) 2)) → (-9223372036854775808 : Int) ≤ x41 → x41 ≤ (9223372036854775807 : Int) →
(sspread_sem.pre [(.i x23), (.i x24), (.i x25), (.i x26), (.i x27), (.i x28)]) ∧ (
∀ x42 : Int, x42 = (Cv.int (Env.get (sspread_sem.out [(.i x23), (.i x24), (.i x25), (.i x26), (.i x27), (.i x28)]) 0)) → (0 : Int) ≤ x42 → x42 ≤ (18446744073709551615 : Int) →
∀ x43 : Int, x43 = (Cv.int (Env.get (sspread_sem.out [(.i x23), (.i x24), (.i x25), (.i x26), (.i x27), (.i x28)]) 1)) → (0 : Int) ≤ x43 → x43 ≤ (18446744073709551615 : Int) →
∀ x44 : Int, x44 = (Cv.int (Env.get (sspread_sem.out [(.i x23), (.i x24), (.i x25), (.i x26), (.i x27), (.i x28)]) 2)) → (-9223372036854775808 : Int) ≤ x44 → x44 ≤ (9223372036854775807 : Int) →
(sspread_sem.pre [(.i x30), (.i x31), (.i x32), (.i x33), (.i x34), (.i x35)]) ∧ (
∀ x45 : Int, x45 = (Cv.int (Env.get (sspread_sem.out [(.i x30), (.i x31), (.i x32), (.i x33), (.i x34), (.i x35)]) 0)) → (0 : Int) ≤ x45 → x45 ≤ (18446744073709551615 : Int) →
∀ x46 : Int, x46 = (Cv.int (Env.get (sspread_sem.out [(.i x30), (.i x31), (.i x32), (.i x33), (.i x34), (.i x35)]) 1)) → (0 : Int) ≤ x46 → x46 ≤ (18446744073709551615 : Int) →
∀ x47 : Int, x47 = (Cv.int (Env.get (sspread_sem.out [(.i x30), (.i x31), (.i x32), (.i x33), (.i x34), (.i x35)]) 2)) → (-9223372036854775808 : Int) ≤ x47 → x47 ≤ (9223372036854775807 : Int) →
∀ x48 : Int, x48 = (x10 * x10) →
∀ x49 : Int, x49 = (IntKind.u64.wrap x48) →
(times_sem.pre [(.i x39), (.i x40), (.i (0 : Int)), (.i x49)]) ∧ (
∀ x50 : Int, x50 = (Cv.int (Env.get (times_sem.out [(.i x39), (.i x40), (.i (0 : Int)), (.i x49)]) 0)) → (0 : Int) ≤ x50 → x50 ≤ (18446744073709551615 : Int) →
∀ x51 : Int, x51 = (Cv.int (Env.get (times_sem.out [(.i x39), (.i x40), (.i (0 : Int)), (.i x49)]) 1)) → (0 : Int) ≤ x51 → x51 ≤ (18446744073709551615 : Int) →
((Cmp.den .eq x41 (0 : Int)) = true → ((Cmp.den .eq x44 (0 : Int)) = true → ((Cmp.den .eq x47 (0 : Int)) = true → ∀ x53 : Int, x53 = (IntKind.i64.wrap (x9 * x38)) →
∀ x54 : Int, x54 = (IntKind.i64.wrap (x17 + x53)) →
((Cmp.den .eq x24 x54) = true → ∀ x55 : Int, x55 = (IntKind.i64.wrap (x20 + x9)) →
((Cmp.den .eq x27 x55) = true → ∀ x56 : Int, x56 = (IntKind.i64.wrap (x21 + x9)) →
((Cmp.den .eq x28 x56) = true → (((Cmp.den .eq x39 x42) && (Cmp.den .eq x40 x43)) = true → (((Cmp.den .eq x45 x50) && (Cmp.den .eq x46 x51)) = true → ∀ x57 : Int, x57 = (IntKind.i64.wrap (x17 * x10)) →
R (Value.bool (Cmp.den .eq x31 x57))) ∧ (((Cmp.den .eq x45 x50) && (Cmp.den .eq x46 x51)) = false → R (Value.bool false))) ∧ (((Cmp.den .eq x39 x42) && (Cmp.den .eq x40 x43)) = false → R (Value.bool false))) ∧ ((Cmp.den .eq x28 x56) = false → R (Value.bool false))) ∧ ((Cmp.den .eq x27 x55) = false → R (Value.bool false))) ∧ ((Cmp.den .eq x24 x54) = false → R (Value.bool false))) ∧ ((Cmp.den .eq x47 (0 : Int)) = false → R (Value.bool false))) ∧ ((Cmp.den .eq x44 (0 : Int)) = false → R (Value.bool false))) ∧ ((Cmp.den .eq x41 (0 : Int)) = false → R (Value.bool false)))))))))))))))))))) ∧ ((Cmp.den .le x4 x3) = false → False)) := by kernel_rfl

def lsshift_sem : SpecSem := { pre := fun cs => match cs with | [.l xs, .i a, .i b] => InI xs ∧ IsI a ∧ IsI b | _ => False, out := fun cs => match cs with | [.l xs, .i a, .i b] => [.b true] | _ => [] }
set_option maxRecDepth 10000 in
set_option maxHeartbeats 16000000 in
theorem lsshift_ok : SpecOK Try.prog 5 lsshift_sp lsshift_sem := by
  refine spec_of_tree lsshift_cxok Try.func5 (by kernel_rfl) (by kernel_rfl) lsshift_walk rfl ?_
  intro cs hpre
  match cs, hpre with
  | [.l xs, .i a, .i b], ⟨j_xs, j_a, j_b⟩ =>
    have h_a := j_a
    unfold IsI at h_a
    have h_b := j_b
    unfold IsI at h_b
    refine ⟨rfl, IvsB.ok (by simp only [lsshift_ivs, IvsB, Cv.int, and_true, j_xs, true_and] <;> omega), ?_, ?_⟩
    · simp only [lsshift_sem, lsshift_sp, Fits]
    · rw [lsshift_den]
      simp only [lsshift_sem, lsshift_sp, lsshift_den, sof_sem, sspread_sem, times_sem, s11al_sem, Tree.den, LE.den, Cv.list, placeA, List.getElem?_cons_zero, List.getElem?_cons_succ, IE.den, BE.den, At.den, CA.den, Env.get, Cv.int, Cv.bool, List.cons_append, List.nil_append, List.map_cons, List.map_nil, bindRes, bindEq, Fits, SV.den, denL, place, placeL, eq_t, eq_f, lt_t, lt_f, le_t, le_f, beq_iff_eq, beq_eq_false_iff_ne, ne_eq, reduceCtorEq, b_dec, decide_eq_true_eq, decide_eq_false_iff_not, Bool.not_eq_false', Bool.or_eq_true, Bool.or_eq_false_iff, Bool.and_eq_false_iff, true_iff, false_iff, Bool.false_eq_true, Bool.not_eq_true', Bool.and_eq_true, Bool.not_true, Bool.not_false, List.cons.injEq, Cv.i.injEq, Cv.b.injEq, and_true, true_and, agg_inj, tup_inj, Value.int.injEq, Value.bool.injEq]
      intro x3 e3 x4 e4
      refine ⟨fun hle => ?_, fun h => by split at e4 <;> omega⟩
      intro x5 e5 x6 e6
      have h6 : x6 ≤ 100 := by
        have k1 := List.length_take_le (x4.toNat - Int.toNat 0) (List.drop (Int.toNat 0) xs)
        rw [← e5] at k1
        have k2 : x4 ≤ 100 := by split at e4 <;> omega
        have k3 : x4.toNat - Int.toNat 0 ≤ 100 := by omega
        omega
      clear e5 e4 e3 hle
      refine ⟨fun vs => match vs with | [.i i, .l ys] => (ys.length : Int) = i ∧ inS ys | _ => False, fun vs => match vs with | [.i i, .l ys] => (x6 - i).toNat | _ => 0, ⟨by omega, by omega, fun _ h => nomatch h⟩, ⟨rfl, fun _ h => nomatch h⟩, ?_⟩
      intro x7 l7 g7 x8 hI8 hI
      obtain ⟨hlen, hmem⟩ : (x8.length : Int) = x7 ∧ inS x8 := hI
      refine ⟨fun hlt => ?_, fun hge => ?_⟩
      · intro x9 e9 x10 e10 x11 e11 x12 e12
        refine ⟨fun k => ?_, fun k => by omega⟩
        intro x13 e13 x14 e14
        have r11 : -1000000 ≤ x11 ∧ x11 ≤ 1000000 := by split at e10 <;> split at e11 <;> omega
        have m13 : inS x13 := by rw [e13]; exact inS_snoc hmem r11
        have n13 : (x13.length : Int) = x14 := by rw [e13, List.length_append, List.length_singleton]; omega
        exact ⟨⟨by omega, by omega, inI_inS m13⟩, ⟨n13, m13⟩, by show (x6 - x14).toNat < (x6 - x7).toNat; omega⟩
      · intro x9 e9 x10 e10 x11 e11
        have t9 := tm_rng (x := a) (m := 1000) (by omega)
        have t10 := tm_rng (x := b) (m := 10) (by omega)
        rw [← e9] at t9
        rw [← e10] at t10
        have hL : x11 ≤ 100 := by omega
        clear e9 e10 hge g7 l7 h6 e6
        refine ⟨fun vs => match vs with | [.i i, .l L, .l M, .l G] => (L.length : Int) = x11 ∧ inS L ∧ (∀ y ∈ L.take i.toNat, -100000 ≤ y ∧ y ≤ 100000) ∧ M = (L.take i.toNat).map (· + x9) ∧ G = (L.take i.toNat).map (· * x10) ∧ i ≤ x11 | _ => False, fun vs => match vs with | .i i :: _ => (x11 - i).toNat | _ => 0, ⟨by omega, by omega, hI8, (fun _ h => nomatch h), (fun _ h => nomatch h)⟩, ⟨by omega, hmem, (fun y hy => by simp at hy), rfl, rfl, by omega⟩, ?_⟩
        clear hmem hI8 hlen e11 x8
        intro x12 l12 g12 x13 hI13 x14 hI14 x15 hI15 hI
        obtain ⟨i1, i2, i3, i4, i5, i6⟩ : (x13.length : Int) = x11 ∧ inS x13 ∧ (∀ y ∈ x13.take x12.toNat, -100000 ≤ y ∧ y ≤ 100000) ∧ x14 = (x13.take x12.toNat).map (· + x9) ∧ x15 = (x13.take x12.toNat).map (· * x10) ∧ x12 ≤ x11 := hI
        refine ⟨fun hlt => ?_, fun hge => ?_⟩
        · intro x16 e16
          refine ⟨fun _ => ?_, fun h => by omega⟩
          intro x17 e17 x18 e18 x19 e19 x20 e20
          have m17 : x17 ∈ x13 := by rw [e17]; exact getD_mem l12 (by omega)
          have r17 := i2 x17 m17
          have r18 : -100000 ≤ x18 ∧ x18 ≤ 100000 := by
            have t := tdiv10 r17
            rw [e18, w64 (by omega) (by omega)]
            exact t
          have n19 : (x19.length : Int) = x11 := by rw [e19, List.length_set]; exact i1
          have hs := set_snoc (v := x18) l12 (show x12 < (x13.length : Int) by omega)
          have hg := getD_set (v := x18) l12 (show x12 < (x13.length : Int) by omega)
          rw [← e19] at hs hg
          have m19 : inS x19 := by
            rw [e19]
            intro y hy
            rcases List.mem_or_eq_of_mem_set hy with h | h
            · exact i2 y h
            · rw [h]; omega
          refine ⟨fun _ => ?_, fun h => by omega⟩
          rw [hg]
          have n14 : (x14.length : Int) = x12 := by rw [i4, List.length_map, List.length_take]; omega
          have n15 : (x15.length : Int) = x12 := by rw [i5, List.length_map, List.length_take]; omega
          have m10 := mul_10 r18 t10
          have w1 : IntKind.i64.wrap (x18 + x9) = x18 + x9 := w64 (by omega) (by omega)
          have w2 : IntKind.i64.wrap (x18 * x10) = x18 * x10 := w64 (by omega) (by omega)
          have hm : ∀ y ∈ x19.take (x12 + 1).toNat, -100000 ≤ y ∧ y ≤ 100000 := by
            intro y hy
            rw [hs, List.mem_append, List.mem_singleton] at hy
            rcases hy with h | h
            · exact i3 y h
            · rw [h]; exact r18
          have f1 : x14 ++ [x18 + x9] = (x19.take (x12 + 1).toNat).map (· + x9) := by rw [hs, List.map_append, i4]; rfl
          have f2 : x15 ++ [x18 * x10] = (x19.take (x12 + 1).toNat).map (· * x10) := by rw [hs, List.map_append, i5]; rfl
          have k1 : InI (x14 ++ [x18 + x9]) := by rw [f1]; exact inI_inS (inS_map fun y hy => by have := hm y hy; omega)
          have k2 : InI (x15 ++ [x18 * x10]) := by rw [f2]; exact inI_inS (inS_map fun y hy => by have := mul_10 (hm y hy) t10; omega)
          have k3 : InI x19 := inI_inS m19
          have y1 : (100000 < (x14.length : Int)) = False := eq_false (by omega)
          have y2 : (100000 < (x15.length : Int)) = False := eq_false (by omega)
          have y3 : (x14.length : Int) ≤ 100000 := by omega
          have y4 : (x15.length : Int) ≤ 100000 := by omega
          have fin : (0 ≤ x12 + 1 ∧ x12 + 1 ≤ 100 ∧ InI x19 ∧ InI (x14 ++ [x18 + x9]) ∧ InI (x15 ++ [x18 * x10])) ∧ ((x19.length : Int) = x11 ∧ inS x19 ∧ (∀ y ∈ x19.take (x12 + 1).toNat, -100000 ≤ y ∧ y ≤ 100000) ∧ x14 ++ [x18 + x9] = (x19.take (x12 + 1).toNat).map (· + x9) ∧ x15 ++ [x18 * x10] = (x19.take (x12 + 1).toNat).map (· * x10) ∧ x12 + 1 ≤ x11) ∧ (x11 - (x12 + 1)).toNat < (x11 - x12).toNat :=
            ⟨⟨by omega, by omega, k3, k1, k2⟩, ⟨n19, m19, hm, f1, f2, by omega⟩, by omega⟩
          simp only [w1, w2, y1, y2, y3, y4, forall_eq, if_true, if_false, true_and, and_true, false_and, and_false, true_or, or_true, false_or, or_false, true_iff, iff_true, false_iff, iff_false, not_true_eq_false, not_false_eq_true, true_implies, false_implies, implies_true, forall_const, decide_true, decide_false, reduceCtorEq]
          exact ⟨⟨fin, fin⟩, fin⟩
        · have tk : x13.take x12.toNat = x13 := List.take_of_length_le (by omega)
          rw [tk] at i3 i4 i5
          have s14 : inS x14 := by rw [i4]; exact inS_map fun y hy => by have := i3 y hy; omega
          have s15 : inS x15 := by rw [i5]; exact inS_map fun y hy => by have := mul_10 (i3 y hy) t10; omega
          have n14 : (x14.length : Int) = x11 := by rw [i4, List.length_map]; exact i1
          have n15 : (x15.length : Int) = x11 := by rw [i5, List.length_map]; exact i1
          have su14 : sumL x14 = sumL x13 + x9 * x11 := by rw [i4, sumL_add, i1]
          have su15 : sumL x15 = sumL x13 * x10 := by rw [i5, sumL_mul]
          have pa14 : pairL x14 = pairL x13 := by rw [i4, pairL_add]
          have pa15 : pairL x15 = pairL x13 * (x10 * x10) := by rw [i5, pairL_mul]
          have mi14 : x13 ≠ [] → minS x14 = minS x13 + x9 := fun h => by rw [i4]; exact minS_add x9 h
          have ma14 : x13 ≠ [] → maxS x14 = maxS x13 + x9 := fun h => by rw [i4]; exact maxS_add x9 h
          have st0 := of_stOK i2 (by omega)
          have st1 := of_stOK s14 (by omega)
          have st2 := of_stOK s15 (by omega)
          have rg0 := sts_rng i2 (by omega)
          have rg1 := sts_rng s14 (by omega)
          have rg2 := sts_rng s15 (by omega)
          have p0 := pair_rng2 i2 (by omega)
          have p1 := pair_rng2 s14 (by omega)
          have p2 := pair_rng2 s15 (by omega)
          have eP0 := (pairL_eq x13).symm
          have eP1 := (pairL_eq x14).symm
          have eP2 := (pairL_eq x15).symm
          clear i3 i4 i5 tk
          rw [i1] at st0 eP0
          rw [n14] at st1 eP1
          rw [n15] at st2 eP2
          have sq := sq_10 t10
          have b9 : -100000 ≤ x9 * x11 ∧ x9 * x11 ≤ 100000 := by
            have h0 : 0 ≤ x11 := by omega
            have q1 := Int.mul_le_mul_of_nonneg_right (show x9 ≤ 1000 by omega) h0
            have q2 := Int.mul_le_mul_of_nonneg_right (show -1000 ≤ x9 by omega) h0
            omega
          have w1 : IntKind.u64.wrap (x10 * x10) = x10 * x10 := wu64 (by omega) (by omega)
          have w2 : IntKind.i64.wrap (x9 * x11) = x9 * x11 := w64 (by omega) (by omega)
          have w3 : IntKind.i64.wrap (sumL x13 + x9 * x11) = sumL x13 + x9 * x11 := w64 (by omega) (by omega)
          have w4 : IntKind.i64.wrap (minS x13 + x9) = minS x13 + x9 := w64 (by omega) (by omega)
          have w5 : IntKind.i64.wrap (maxS x13 + x9) = maxS x13 + x9 := w64 (by omega) (by omega)
          have w6 : IntKind.i64.wrap (sumL x13 * x10) = sumL x13 * x10 := by rw [← su15]; exact w64 (by omega) (by omega)
          have d0 : pairL x13 / 18446744073709551616 = 0 := by omega
          have d1 : pairL x13 % 18446744073709551616 = pairL x13 := by omega
          have d4 : pairL x15 / 18446744073709551616 = 0 := by omega
          have d5 : pairL x15 % 18446744073709551616 = pairL x15 := by omega
          have d6 : pairL x15 / 18446744073709551616 % 18446744073709551616 = 0 := by omega
          have u1 : IsU (pairL x13) := ⟨by omega, by omega⟩
          have u2 : IsU (x10 * x10) := ⟨by omega, by omega⟩
          have u0 : IsU 0 := ⟨by omega, by omega⟩
          have v1 : IsI x11 := ⟨by omega, by omega⟩
          have a1 : IsI (sumL x13) := ⟨by omega, by omega⟩
          have a2 : IsU (sqL x13) := ⟨by omega, by omega⟩
          have a3 : IsI (minS x13) := ⟨by omega, by omega⟩
          have a4 : IsI (maxS x13) := ⟨by omega, by omega⟩
          have c1 : IsI (sumL x13 + x9 * x11) := ⟨by omega, by omega⟩
          have c2 : IsU (sqL x14) := ⟨by omega, by omega⟩
          have c3 : IsI (minS x14) := ⟨by omega, by omega⟩
          have c4 : IsI (maxS x14) := ⟨by omega, by omega⟩
          have e1 : IsI (sumL x13 * x10) := by rw [← su15]; exact ⟨by omega, by omega⟩
          have e2 : IsU (sqL x15) := ⟨by omega, by omega⟩
          have e3 : IsI (minS x15) := ⟨by omega, by omega⟩
          have e4 : IsI (maxS x15) := ⟨by omega, by omega⟩
          have hx : x11 ≤ 100000 := by omega
          rw [pa14] at eP1
          rw [su14] at eP1 st1
          rw [su15] at eP2 st2
          by_cases hn : x11 = 0
          · simp only [i2, s14, s15, i1, n14, n15, hI13, hI14, hI15, hx, hn, forall_eq, eq_self, f00, if_true, if_false, true_and, and_true, false_and, and_false, true_or, or_true, false_or, or_false, true_iff, iff_true, false_iff, iff_false, not_true_eq_false, not_false_eq_true, true_implies, false_implies, implies_true, forall_const, decide_true, decide_false, reduceCtorEq]
            intros
            omega
          · have hne := ne_nil_of_len (l := x13) (by rw [i1]; exact hn)
            have mi := mi14 hne
            have ma := ma14 hne
            rw [mi] at c3 st1
            rw [ma] at c4 st1
            simp only [i2, s14, s15, st0, st1, st2, i1, n14, n15, hI13, hI14, hI15, val0, eP0, eP1, eP2, su14, su15, mi, ma, w1, w2, w3, w4, w5, w6, ← pa15, d0, d1, d4, d5, d6, u0, u1, u2, v1, a1, a2, a3, a4, c1, c2, c3, c4, e1, e2, e3, e4, hx, hn, forall_eq, eq_self, f00, if_true, if_false, true_and, and_true, false_and, and_false, true_or, or_true, false_or, or_false, true_iff, iff_true, false_iff, iff_false, not_true_eq_false, not_false_eq_true, true_implies, false_implies, implies_true, forall_const, decide_true, decide_false, reduceCtorEq]
            intros
            clear st0 st1 st2 eP0 eP1 eP2
            omega
end Go.Proofs.Ytgnihomdpandfaa.X
