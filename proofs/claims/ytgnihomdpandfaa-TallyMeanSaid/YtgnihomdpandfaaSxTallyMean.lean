/-
  TallyMean tells true, for every input.
-/
import Derived.Test.YtgnihomdpandfaaSxTallyNum
namespace Go.Proofs.Ytgnihomdpandfaa.X
open Go Go.SX Go.RowKit
set_option linter.unusedVariables false
set_option linter.unusedSimpArgs false






def ltmean_sp : SpecSh := { args := [(.int .i64 (.z 0)), (.int .i64 (.z 0)), (.lst 0), (.int .i64 (.z 0))], res := (.bool .f), sh := [.b] }
set_option maxRecDepth 100000 in
def ltmean_tree : Tree :=
.lett (.rem (.v 0) (.z 4)) <|
.lett (.add (.v 4) (.z 4)) <|
.lett (.mod (.v 5) (.z 4)) <|
.lett (.add (.z 2) (.v 6)) <|
.lett (.rem (.v 1) (.z 1000)) <|
.lett (.add (.v 8) (.z 1000)) <|
.lett (.mod (.v 9) (.z 1000)) <|
.lett (.add (.z 1) (.v 10)) <|
.lett (.ite (.cmp .eq (.v 7) (.z 4)) (.z 1) (.v 11)) <|
.call 38 [.i (some (2, 5)), .i (some (1, 1000)), .i (some (0, 0)), .i (some (0, 0)), .i (some (0, 0))] [.i (.v 7), .i (.v 12)] <|
.lett (.ite (.cmp .le (.v 7) (.z 3)) (.v 12) (.z 1000000)) <|
.lett (.len 2) <|
.lett (.ite (.cmp .lt (.z 25) (.v 19)) (.z 25) (.v 19)) <|
.ite (.cmp .le (.v 20) (.v 19)) (.letl (.sub 2 (.z 0) (.v 20)) <|
.lett (.len 21) <|
.loop [.i (some (0, 25)), .i (some (2, 5)), .i (some (1, 1000)), .i (some (0, 25)), .i (some (0, 25000000)), .l] [.i (.z 0), .i (.v 13), .i (.v 14), .i (.v 15), .i (.v 16), .l (.nil)] <|
.ite (.cmp .lt (.v 23) (.v 22)) (.lett (.nth 21 (.v 23)) <|
.lett (.ite (.cmp .lt (.v 29) (.z 0)) (.z 0) (.v 29)) <|
.lett (.ite (.cmp .lt (.v 18) (.v 30)) (.v 18) (.v 30)) <|
.call 39 [.i (some (2, 5)), .i (some (1, 1000)), .i (some (0, 25)), .i (some (0, 25000000)), .i (some (0, 0))] [.i (.v 24), .i (.v 25), .i (.v 26), .i (.v 27), .i (.v 31)] <|
.lett (.len 28) <|
.ite (.cmp .le (.v 37) (.z 100000)) (.letl (.app 28 [.v 31]) <|
.lett (.add (.v 23) (.z 1)) <|
.again 0 [.i (.v 39), .i (.v 32), .i (.v 33), .i (.v 34), .i (.v 35), .l (.v 38)]) <|
.bad 113) <|
.call 12 [.b] [] <|
.ite (.not (.v 29)) (.ret (.bool .f)) <|
.ite (.cmp .le (.v 24) (.z 3)) (.lett (.ite (.cmp .lt (.v 3) (.z 0)) (.z 0) (.v 3)) <|
.lett (.ite (.cmp .lt (.v 25) (.v 30)) (.v 25) (.v 30)) <|
.lett (.len 28) <|
.lett (.sub (.v 32) (.z 1)) <|
.loop [.i (some ((-1), 24)), .i (some (0, 25000000)), .l] [.i (.v 33), .i (.z 0), .l (.nil)] <|
.ite (.cmp .le (.z 0) (.v 34)) (.ite (.cmp .lt (.v 34) (.v 32)) (.lett (.nth 28 (.v 34)) <|
.lett (.len 36) <|
.ite (.cmp .le (.v 38) (.z 100000)) (.letl (.app 36 [.v 37]) <|
.lett (.nth 28 (.v 34)) <|
.lett (.addw .i64 (.v 35) (.v 40)) <|
.lett (.sub (.v 34) (.z 1)) <|
.again 1 [.i (.v 42), .i (.v 41), .l (.v 39)]) <|
.bad 113) <|
.bad 29) <|
.lett (.rem (.v 0) (.z 4)) <|
.lett (.add (.v 37) (.z 4)) <|
.lett (.mod (.v 38) (.z 4)) <|
.lett (.add (.z 2) (.v 39)) <|
.lett (.rem (.v 1) (.z 1000)) <|
.lett (.add (.v 41) (.z 1000)) <|
.lett (.mod (.v 42) (.z 1000)) <|
.lett (.add (.z 1) (.v 43)) <|
.lett (.ite (.cmp .eq (.v 40) (.z 4)) (.z 1) (.v 44)) <|
.call 38 [.i (some (2, 5)), .i (some (1, 1000)), .i (some (0, 0)), .i (some (0, 0)), .i (some (0, 0))] [.i (.v 40), .i (.v 45)] <|
.lett (.ite (.cmp .le (.v 40) (.z 3)) (.v 45) (.z 1000000)) <|
.lett (.len 36) <|
.lett (.ite (.cmp .lt (.z 25) (.v 52)) (.z 25) (.v 52)) <|
.ite (.cmp .le (.v 53) (.v 52)) (.letl (.sub 36 (.z 0) (.v 53)) <|
.lett (.len 54) <|
.loop [.i (some (0, 25)), .i (some (2, 5)), .i (some (1, 1000)), .i (some (0, 25)), .i (some (0, 25000000)), .l] [.i (.z 0), .i (.v 46), .i (.v 47), .i (.v 48), .i (.v 49), .l (.nil)] <|
.ite (.cmp .lt (.v 56) (.v 55)) (.lett (.nth 54 (.v 56)) <|
.lett (.ite (.cmp .lt (.v 62) (.z 0)) (.z 0) (.v 62)) <|
.lett (.ite (.cmp .lt (.v 51) (.v 63)) (.v 51) (.v 63)) <|
.call 39 [.i (some (2, 5)), .i (some (1, 1000)), .i (some (0, 25)), .i (some (0, 25000000)), .i (some (0, 0))] [.i (.v 57), .i (.v 58), .i (.v 59), .i (.v 60), .i (.v 64)] <|
.lett (.len 61) <|
.ite (.cmp .le (.v 70) (.z 100000)) (.letl (.app 61 [.v 64]) <|
.lett (.add (.v 56) (.z 1)) <|
.again 2 [.i (.v 72), .i (.v 65), .i (.v 66), .i (.v 67), .i (.v 68), .l (.v 71)]) <|
.bad 113) <|
.call 13 [.i (some ((-9223372036854775808), 9223372036854775807)), .i (some ((-9223372036854775808), 9223372036854775807)), .i (some ((-9223372036854775808), 9223372036854775807)), .i (some (0, 18446744073709551615)), .i (some (0, 18446744073709551615)), .i (some ((-9223372036854775808), 9223372036854775807))] [.i (.v 24), .i (.v 25), .i (.v 26), .i (.v 27), .i (.v 31)] <|
.ite (.cmp .eq (.v 32) (.z 0)) (.ite (.and (.cmp .eq (.v 57) (.v 24)) (.and (.cmp .eq (.v 58) (.v 25)) (.and (.cmp .eq (.v 59) (.v 26)) (.cmp .eq (.v 60) (.v 27))))) (.ite (.cmp .eq (.v 67) (.z 12)) (.ret (.bool (.and (.cmp .eq (.v 62) (.z 0)) (.and (.cmp .eq (.v 63) (.z 0)) (.and (.cmp .eq (.v 64) (.z 0)) (.and (.cmp .eq (.v 65) (.z 0)) (.cmp .eq (.v 66) (.z 0)))))))) <|
.ret (.bool .f)) <|
.ret (.bool .f)) <|
.ite (.cmp .eq (.v 24) (.z 2)) (.ite (.and (.cmp .eq (.v 57) (.v 24)) (.and (.cmp .eq (.v 58) (.v 25)) (.and (.cmp .eq (.v 59) (.v 26)) (.cmp .eq (.v 60) (.v 27))))) (.ite (.cmp .eq (.v 67) (.z 0)) (.ite (.cmp .le (.z 1) (.v 63)) (.lett (.addw .i64 (.v 62) (.v 64)) <|
.lett (.mulw .i64 (.v 68) (.v 25)) <|
.lett (.mulw .i64 (.v 31) (.v 63)) <|
.ite (.cmp .eq (.v 69) (.v 70)) (.lett (.mulw .i64 (.v 62) (.v 32)) <|
.lett (.mulw .i64 (.v 71) (.v 25)) <|
.lett (.mulw .i64 (.v 35) (.v 63)) <|
.ite (.cmp .eq (.v 72) (.v 73)) (.lett (.mulw .i64 (.v 31) (.v 32)) <|
.ret (.bool (.eqv (.cmp .eq (.v 64) (.z 0)) (.cmp .eq (.v 74) (.v 35))))) <|
.ret (.bool .f)) <|
.ret (.bool .f)) <|
.ret (.bool .f)) <|
.ret (.bool .f)) <|
.ret (.bool .f)) <|
.ite (.and (.cmp .eq (.v 57) (.v 24)) (.and (.cmp .eq (.v 58) (.v 25)) (.and (.cmp .eq (.v 59) (.v 26)) (.cmp .eq (.v 60) (.v 27))))) (.ite (.cmp .eq (.v 67) (.z 0)) (.ite (.cmp .le (.z 1) (.v 63)) (.lett (.addw .i64 (.v 62) (.v 64)) <|
.lett (.mul (.v 68) (.z 1)) <|
.lett (.mulw .i64 (.v 31) (.v 63)) <|
.ite (.cmp .eq (.v 69) (.v 70)) (.lett (.mulw .i64 (.v 62) (.v 32)) <|
.lett (.mul (.v 71) (.z 1)) <|
.lett (.mulw .i64 (.v 35) (.v 63)) <|
.ite (.cmp .eq (.v 72) (.v 73)) (.lett (.mulw .i64 (.v 31) (.v 32)) <|
.ret (.bool (.eqv (.cmp .eq (.v 64) (.z 0)) (.cmp .eq (.v 74) (.v 35))))) <|
.ret (.bool .f)) <|
.ret (.bool .f)) <|
.ret (.bool .f)) <|
.ret (.bool .f)) <|
.ret (.bool .f)) <|
.bad 120) <|
.lett (.ite (.cmp .lt (.v 3) (.z 0)) (.z 0) (.v 3)) <|
.lett (.ite (.cmp .lt (.z 1000000) (.v 30)) (.z 1000000) (.v 30)) <|
.lett (.len 28) <|
.lett (.sub (.v 32) (.z 1)) <|
.loop [.i (some ((-1), 24)), .i (some (0, 25000000)), .l] [.i (.v 33), .i (.z 0), .l (.nil)] <|
.ite (.cmp .le (.z 0) (.v 34)) (.ite (.cmp .lt (.v 34) (.v 32)) (.lett (.nth 28 (.v 34)) <|
.lett (.len 36) <|
.ite (.cmp .le (.v 38) (.z 100000)) (.letl (.app 36 [.v 37]) <|
.lett (.nth 28 (.v 34)) <|
.lett (.addw .i64 (.v 35) (.v 40)) <|
.lett (.sub (.v 34) (.z 1)) <|
.again 1 [.i (.v 42), .i (.v 41), .l (.v 39)]) <|
.bad 113) <|
.bad 29) <|
.lett (.rem (.v 0) (.z 4)) <|
.lett (.add (.v 37) (.z 4)) <|
.lett (.mod (.v 38) (.z 4)) <|
.lett (.add (.z 2) (.v 39)) <|
.lett (.rem (.v 1) (.z 1000)) <|
.lett (.add (.v 41) (.z 1000)) <|
.lett (.mod (.v 42) (.z 1000)) <|
.lett (.add (.z 1) (.v 43)) <|
.lett (.ite (.cmp .eq (.v 40) (.z 4)) (.z 1) (.v 44)) <|
.call 38 [.i (some (2, 5)), .i (some (1, 1000)), .i (some (0, 0)), .i (some (0, 0)), .i (some (0, 0))] [.i (.v 40), .i (.v 45)] <|
.lett (.ite (.cmp .le (.v 40) (.z 3)) (.v 45) (.z 1000000)) <|
.lett (.len 36) <|
.lett (.ite (.cmp .lt (.z 25) (.v 52)) (.z 25) (.v 52)) <|
.ite (.cmp .le (.v 53) (.v 52)) (.letl (.sub 36 (.z 0) (.v 53)) <|
.lett (.len 54) <|
.loop [.i (some (0, 25)), .i (some (2, 5)), .i (some (1, 1000)), .i (some (0, 25)), .i (some (0, 25000000)), .l] [.i (.z 0), .i (.v 46), .i (.v 47), .i (.v 48), .i (.v 49), .l (.nil)] <|
.ite (.cmp .lt (.v 56) (.v 55)) (.lett (.nth 54 (.v 56)) <|
.lett (.ite (.cmp .lt (.v 62) (.z 0)) (.z 0) (.v 62)) <|
.lett (.ite (.cmp .lt (.v 51) (.v 63)) (.v 51) (.v 63)) <|
.call 39 [.i (some (2, 5)), .i (some (1, 1000)), .i (some (0, 25)), .i (some (0, 25000000)), .i (some (0, 0))] [.i (.v 57), .i (.v 58), .i (.v 59), .i (.v 60), .i (.v 64)] <|
.lett (.len 61) <|
.ite (.cmp .le (.v 70) (.z 100000)) (.letl (.app 61 [.v 64]) <|
.lett (.add (.v 56) (.z 1)) <|
.again 2 [.i (.v 72), .i (.v 65), .i (.v 66), .i (.v 67), .i (.v 68), .l (.v 71)]) <|
.bad 113) <|
.call 13 [.i (some ((-9223372036854775808), 9223372036854775807)), .i (some ((-9223372036854775808), 9223372036854775807)), .i (some ((-9223372036854775808), 9223372036854775807)), .i (some (0, 18446744073709551615)), .i (some (0, 18446744073709551615)), .i (some ((-9223372036854775808), 9223372036854775807))] [.i (.v 24), .i (.v 25), .i (.v 26), .i (.v 27), .i (.v 31)] <|
.ite (.cmp .eq (.v 32) (.z 0)) (.ite (.and (.cmp .eq (.v 57) (.v 24)) (.and (.cmp .eq (.v 58) (.v 25)) (.and (.cmp .eq (.v 59) (.v 26)) (.cmp .eq (.v 60) (.v 27))))) (.ite (.cmp .eq (.v 67) (.z 12)) (.ret (.bool (.and (.cmp .eq (.v 62) (.z 0)) (.and (.cmp .eq (.v 63) (.z 0)) (.and (.cmp .eq (.v 64) (.z 0)) (.and (.cmp .eq (.v 65) (.z 0)) (.cmp .eq (.v 66) (.z 0)))))))) <|
.ret (.bool .f)) <|
.ret (.bool .f)) <|
.lett (.ite (.cmp .eq (.v 24) (.z 5)) (.v 25) (.z 1)) <|
.ite (.and (.cmp .eq (.v 57) (.v 24)) (.and (.cmp .eq (.v 58) (.v 25)) (.and (.cmp .eq (.v 59) (.v 26)) (.cmp .eq (.v 60) (.v 27))))) (.ite (.cmp .eq (.v 67) (.z 0)) (.ite (.cmp .le (.z 1) (.v 63)) (.lett (.addw .i64 (.v 62) (.v 64)) <|
.lett (.mulw .i64 (.v 69) (.v 68)) <|
.lett (.mulw .i64 (.v 31) (.v 63)) <|
.ite (.cmp .eq (.v 70) (.v 71)) (.lett (.mulw .i64 (.v 62) (.v 32)) <|
.lett (.mulw .i64 (.v 72) (.v 68)) <|
.lett (.mulw .i64 (.v 35) (.v 63)) <|
.ite (.cmp .eq (.v 73) (.v 74)) (.lett (.mulw .i64 (.v 31) (.v 32)) <|
.ret (.bool (.eqv (.cmp .eq (.v 64) (.z 0)) (.cmp .eq (.v 75) (.v 35))))) <|
.ret (.bool .f)) <|
.ret (.bool .f)) <|
.ret (.bool .f)) <|
.ret (.bool .f)) <|
.ret (.bool .f)) <|
.bad 120) <|
.bad 120
noncomputable def ltmean_cx : Ctx := { tys := tys, fns := fns, sps := [(38, tnew_sp), (39, ttake_sp), (13, tpoint_sp), (12, talive_sp)], anns := [((11, 12), { slots := [47], cells := [], ivs := [some (0, 25), some (2, 5), some (1, 1000), some (0, 25), some (0, 25000000)], lsts := [12], elem := 3, pc := [(9, 0), (9, 1), (9, 2), (9, 3)] }), ((3, 10), { slots := [14, 13], cells := [], ivs := [some ((-1), 24), some (0, 25000000)], lsts := [12], elem := 3 })], trys := [] }
def ltmean_ivs : List (Option (Int × Int)) := [some ((-9223372036854775808), 9223372036854775807), some ((-9223372036854775808), 9223372036854775807), none, some ((-9223372036854775808), 9223372036854775807)]
set_option maxRecDepth 100000 in
theorem ltmean_walk : runFn ltmean_cx 3000 3 Try.f3 ltmean_sp.args ltmean_ivs = ltmean_tree := by kernel_rfl
noncomputable def ltmean_M : Nat → SpecSem
  | 38 => tnew_sem
  | 39 => ttake_sem
  | 13 => tpoint_sem
  | 12 => talive_sem
  | _ => noSem
theorem ltmean_M38 : ltmean_M 38 = tnew_sem := rfl
theorem ltmean_M39 : ltmean_M 39 = ttake_sem := rfl
theorem ltmean_M13 : ltmean_M 13 = tpoint_sem := rfl
theorem ltmean_M12 : ltmean_M 12 = talive_sem := rfl
theorem ltmean_cxok : CxOK Try.prog ltmean_cx ltmean_M := ⟨tysOK, fnsOK, spCons tnew_ok <| spCons ttake_ok <| spCons tpoint_ok <| spCons talive_ok <| fun _ _ h => spNil h, mixedOK, fun _ _ h => trNil h⟩
set_option maxRecDepth 100000 in
set_option maxHeartbeats 8000000 in
theorem ltmean_den (R RP : Value → Prop) (F : Ex → St → Js → Env → Prop) (x0 : Int) (x1 : Int) (x2 : List Int) (x3 : Int) : Tree.den ltmean_M R RP F ltmean_tree [] [(.i x0), (.i x1), (.l x2), (.i x3)] = (
  ∀ x4 : Int, x4 = (Int.tmod x0 (4 : Int)) →
∀ x5 : Int, x5 = (x4 + (4 : Int)) →
∀ x6 : Int, x6 = (x5 % (4 : Int)) →
∀ x7 : Int, x7 = ((2 : Int) + x6) →
∀ x8 : Int, x8 = (Int.tmod x1 (1000 : Int)) →
∀ x9 : Int, x9 = (x8 + (1000 : Int)) →
∀ x10 : Int, x10 = (x9 % (1000 : Int)) →
∀ x11 : Int, x11 = ((1 : Int) + x10) →
∀ x12 : Int, x12 = (if (Cmp.den .eq x7 (4 : Int)) = true then (1 : Int) else x11) →
(tnew_sem.pre [(.i x7), (.i x12)]) ∧ (
∀ x13 : Int, x13 = (Cv.int (Env.get (tnew_sem.out [(.i x7), (.i x12)]) 0)) → (2 : Int) ≤ x13 → x13 ≤ (5 : Int) →
∀ x14 : Int, x14 = (Cv.int (Env.get (tnew_sem.out [(.i x7), (.i x12)]) 1)) → (1 : Int) ≤ x14 → x14 ≤ (1000 : Int) →
∀ x15 : Int, x15 = (Cv.int (Env.get (tnew_sem.out [(.i x7), (.i x12)]) 2)) → (0 : Int) ≤ x15 → x15 ≤ (0 : Int) →
∀ x16 : Int, x16 = (Cv.int (Env.get (tnew_sem.out [(.i x7), (.i x12)]) 3)) → (0 : Int) ≤ x16 → x16 ≤ (0 : Int) →
∀ x17 : Int, x17 = (Cv.int (Env.get (tnew_sem.out [(.i x7), (.i x12)]) 4)) → (0 : Int) ≤ x17 → x17 ≤ (0 : Int) →
∀ x18 : Int, x18 = (if (Cmp.den .le x7 (3 : Int)) = true then x12 else (1000000 : Int)) →
∀ x19 : Int, x19 = ((List.length x2 : Int)) →
∀ x20 : Int, x20 = (if (Cmp.den .lt (25 : Int) x19) = true then (25 : Int) else x19) →
((Cmp.den .le x20 x19) = true → ∀ x21 : List Int, x21 = (List.take (Int.toNat x20 - Int.toNat (0 : Int)) (List.drop (Int.toNat (0 : Int)) x2)) →
∀ x22 : Int, x22 = ((List.length x21 : Int)) →
∃ (I0 : List Cv → Prop) (mu0 : List Cv → Nat), Fits [.i (some ((0), (25))), .i (some ((2), (5))), .i (some ((1), (1000))), .i (some ((0), (25))), .i (some ((0), (25000000))), .l] [(.i (0 : Int)), (.i x13), (.i x14), (.i x15), (.i x16), (.l (([] : List Int)))] ∧ I0 [(.i (0 : Int)), (.i x13), (.i x14), (.i x15), (.i x16), (.l (([] : List Int)))] ∧ (
∀ x23 : Int, (0 : Int) ≤ x23 → x23 ≤ (25 : Int) → ∀ x24 : Int, (2 : Int) ≤ x24 → x24 ≤ (5 : Int) → ∀ x25 : Int, (1 : Int) ≤ x25 → x25 ≤ (1000 : Int) → ∀ x26 : Int, (0 : Int) ≤ x26 → x26 ≤ (25 : Int) → ∀ x27 : Int, (0 : Int) ≤ x27 → x27 ≤ (25000000 : Int) → ∀ x28 : List Int, InI x28 → I0 [.i x23, .i x24, .i x25, .i x26, .i x27, .l x28] →
((Cmp.den .lt x23 x22) = true → ∀ x29 : Int, x29 = (List.getD x21 (Int.toNat x23) 0) →
∀ x30 : Int, x30 = (if (Cmp.den .lt x29 (0 : Int)) = true then (0 : Int) else x29) →
∀ x31 : Int, x31 = (if (Cmp.den .lt x18 x30) = true then x18 else x30) →
(ttake_sem.pre [(.i x24), (.i x25), (.i x26), (.i x27), (.i x31)]) ∧ (
∀ x32 : Int, x32 = (Cv.int (Env.get (ttake_sem.out [(.i x24), (.i x25), (.i x26), (.i x27), (.i x31)]) 0)) → (2 : Int) ≤ x32 → x32 ≤ (5 : Int) →
∀ x33 : Int, x33 = (Cv.int (Env.get (ttake_sem.out [(.i x24), (.i x25), (.i x26), (.i x27), (.i x31)]) 1)) → (1 : Int) ≤ x33 → x33 ≤ (1000 : Int) →
∀ x34 : Int, x34 = (Cv.int (Env.get (ttake_sem.out [(.i x24), (.i x25), (.i x26), (.i x27), (.i x31)]) 2)) → (0 : Int) ≤ x34 → x34 ≤ (25 : Int) →
∀ x35 : Int, x35 = (Cv.int (Env.get (ttake_sem.out [(.i x24), (.i x25), (.i x26), (.i x27), (.i x31)]) 3)) → (0 : Int) ≤ x35 → x35 ≤ (25000000 : Int) →
∀ x36 : Int, x36 = (Cv.int (Env.get (ttake_sem.out [(.i x24), (.i x25), (.i x26), (.i x27), (.i x31)]) 4)) → (0 : Int) ≤ x36 → x36 ≤ (0 : Int) →
∀ x37 : Int, x37 = ((List.length x28 : Int)) →
((Cmp.den .le x37 (100000 : Int)) = true → ∀ x38 : List Int, x38 = (x28 ++ ([x31] : List Int)) →
∀ x39 : Int, x39 = (x23 + (1 : Int)) →
Fits [.i (some ((0), (25))), .i (some ((2), (5))), .i (some ((1), (1000))), .i (some ((0), (25))), .i (some ((0), (25000000))), .l] [(.i x39), (.i x32), (.i x33), (.i x34), (.i x35), (.l (x38))] ∧ I0 [(.i x39), (.i x32), (.i x33), (.i x34), (.i x35), (.l (x38))] ∧ mu0 [(.i x39), (.i x32), (.i x33), (.i x34), (.i x35), (.l (x38))] < mu0 [.i x23, .i x24, .i x25, .i x26, .i x27, .l x28]) ∧ ((Cmp.den .le x37 (100000 : Int)) = false → False))) ∧ ((Cmp.den .lt x23 x22) = false → (talive_sem.pre []) ∧ (
((!(Cv.bool (Env.get (talive_sem.out []) 0))) = true → R (Value.bool false)) ∧ ((!(Cv.bool (Env.get (talive_sem.out []) 0))) = false → ((Cmp.den .le x24 (3 : Int)) = true → ∀ x30 : Int, x30 = (if (Cmp.den .lt x3 (0 : Int)) = true then (0 : Int) else x3) →
∀ x31 : Int, x31 = (if (Cmp.den .lt x25 x30) = true then x25 else x30) →
∀ x32 : Int, x32 = ((List.length x28 : Int)) →
∀ x33 : Int, x33 = (x32 - (1 : Int)) →
∃ (I1 : List Cv → Prop) (mu1 : List Cv → Nat), Fits [.i (some ((-1), (24))), .i (some ((0), (25000000))), .l] [(.i x33), (.i (0 : Int)), (.l (([] : List Int)))] ∧ I1 [(.i x33), (.i (0 : Int)), (.l (([] : List Int)))] ∧ (
∀ x34 : Int, (-1 : Int) ≤ x34 → x34 ≤ (24 : Int) → ∀ x35 : Int, (0 : Int) ≤ x35 → x35 ≤ (25000000 : Int) → ∀ x36 : List Int, InI x36 → I1 [.i x34, .i x35, .l x36] →
((Cmp.den .le (0 : Int) x34) = true → ((Cmp.den .lt x34 x32) = true → ∀ x37 : Int, x37 = (List.getD x28 (Int.toNat x34) 0) →
∀ x38 : Int, x38 = ((List.length x36 : Int)) →
((Cmp.den .le x38 (100000 : Int)) = true → ∀ x39 : List Int, x39 = (x36 ++ ([x37] : List Int)) →
∀ x40 : Int, x40 = (List.getD x28 (Int.toNat x34) 0) →
∀ x41 : Int, x41 = (IntKind.i64.wrap (x35 + x40)) →
∀ x42 : Int, x42 = (x34 - (1 : Int)) →
Fits [.i (some ((-1), (24))), .i (some ((0), (25000000))), .l] [(.i x42), (.i x41), (.l (x39))] ∧ I1 [(.i x42), (.i x41), (.l (x39))] ∧ mu1 [(.i x42), (.i x41), (.l (x39))] < mu1 [.i x34, .i x35, .l x36]) ∧ ((Cmp.den .le x38 (100000 : Int)) = false → False)) ∧ ((Cmp.den .lt x34 x32) = false → False)) ∧ ((Cmp.den .le (0 : Int) x34) = false → ∀ x37 : Int, x37 = (Int.tmod x0 (4 : Int)) →
∀ x38 : Int, x38 = (x37 + (4 : Int)) →
∀ x39 : Int, x39 = (x38 % (4 : Int)) →
∀ x40 : Int, x40 = ((2 : Int) + x39) →
∀ x41 : Int, x41 = (Int.tmod x1 (1000 : Int)) →
∀ x42 : Int, x42 = (x41 + (1000 : Int)) →
∀ x43 : Int, x43 = (x42 % (1000 : Int)) →
∀ x44 : Int, x44 = ((1 : Int) + x43) →
∀ x45 : Int, x45 = (if (Cmp.den .eq x40 (4 : Int)) = true then (1 : Int) else x44) →
(tnew_sem.pre [(.i x40), (.i x45)]) ∧ (
∀ x46 : Int, x46 = (Cv.int (Env.get (tnew_sem.out [(.i x40), (.i x45)]) 0)) → (2 : Int) ≤ x46 → x46 ≤ (5 : Int) →
∀ x47 : Int, x47 = (Cv.int (Env.get (tnew_sem.out [(.i x40), (.i x45)]) 1)) → (1 : Int) ≤ x47 → x47 ≤ (1000 : Int) →
∀ x48 : Int, x48 = (Cv.int (Env.get (tnew_sem.out [(.i x40), (.i x45)]) 2)) → (0 : Int) ≤ x48 → x48 ≤ (0 : Int) →
∀ x49 : Int, x49 = (Cv.int (Env.get (tnew_sem.out [(.i x40), (.i x45)]) 3)) → (0 : Int) ≤ x49 → x49 ≤ (0 : Int) →
∀ x50 : Int, x50 = (Cv.int (Env.get (tnew_sem.out [(.i x40), (.i x45)]) 4)) → (0 : Int) ≤ x50 → x50 ≤ (0 : Int) →
∀ x51 : Int, x51 = (if (Cmp.den .le x40 (3 : Int)) = true then x45 else (1000000 : Int)) →
∀ x52 : Int, x52 = ((List.length x36 : Int)) →
∀ x53 : Int, x53 = (if (Cmp.den .lt (25 : Int) x52) = true then (25 : Int) else x52) →
((Cmp.den .le x53 x52) = true → ∀ x54 : List Int, x54 = (List.take (Int.toNat x53 - Int.toNat (0 : Int)) (List.drop (Int.toNat (0 : Int)) x36)) →
∀ x55 : Int, x55 = ((List.length x54 : Int)) →
∃ (I2 : List Cv → Prop) (mu2 : List Cv → Nat), Fits [.i (some ((0), (25))), .i (some ((2), (5))), .i (some ((1), (1000))), .i (some ((0), (25))), .i (some ((0), (25000000))), .l] [(.i (0 : Int)), (.i x46), (.i x47), (.i x48), (.i x49), (.l (([] : List Int)))] ∧ I2 [(.i (0 : Int)), (.i x46), (.i x47), (.i x48), (.i x49), (.l (([] : List Int)))] ∧ (
∀ x56 : Int, (0 : Int) ≤ x56 → x56 ≤ (25 : Int) → ∀ x57 : Int, (2 : Int) ≤ x57 → x57 ≤ (5 : Int) → ∀ x58 : Int, (1 : Int) ≤ x58 → x58 ≤ (1000 : Int) → ∀ x59 : Int, (0 : Int) ≤ x59 → x59 ≤ (25 : Int) → ∀ x60 : Int, (0 : Int) ≤ x60 → x60 ≤ (25000000 : Int) → ∀ x61 : List Int, InI x61 → I2 [.i x56, .i x57, .i x58, .i x59, .i x60, .l x61] →
((Cmp.den .lt x56 x55) = true → ∀ x62 : Int, x62 = (List.getD x54 (Int.toNat x56) 0) →
∀ x63 : Int, x63 = (if (Cmp.den .lt x62 (0 : Int)) = true then (0 : Int) else x62) →
∀ x64 : Int, x64 = (if (Cmp.den .lt x51 x63) = true then x51 else x63) →
(ttake_sem.pre [(.i x57), (.i x58), (.i x59), (.i x60), (.i x64)]) ∧ (
∀ x65 : Int, x65 = (Cv.int (Env.get (ttake_sem.out [(.i x57), (.i x58), (.i x59), (.i x60), (.i x64)]) 0)) → (2 : Int) ≤ x65 → x65 ≤ (5 : Int) →
∀ x66 : Int, x66 = (Cv.int (Env.get (ttake_sem.out [(.i x57), (.i x58), (.i x59), (.i x60), (.i x64)]) 1)) → (1 : Int) ≤ x66 → x66 ≤ (1000 : Int) →
∀ x67 : Int, x67 = (Cv.int (Env.get (ttake_sem.out [(.i x57), (.i x58), (.i x59), (.i x60), (.i x64)]) 2)) → (0 : Int) ≤ x67 → x67 ≤ (25 : Int) →
∀ x68 : Int, x68 = (Cv.int (Env.get (ttake_sem.out [(.i x57), (.i x58), (.i x59), (.i x60), (.i x64)]) 3)) → (0 : Int) ≤ x68 → x68 ≤ (25000000 : Int) →
∀ x69 : Int, x69 = (Cv.int (Env.get (ttake_sem.out [(.i x57), (.i x58), (.i x59), (.i x60), (.i x64)]) 4)) → (0 : Int) ≤ x69 → x69 ≤ (0 : Int) →
∀ x70 : Int, x70 = ((List.length x61 : Int)) →
((Cmp.den .le x70 (100000 : Int)) = true → ∀ x71 : List Int, x71 = (x61 ++ ([x64] : List Int)) →
∀ x72 : Int, x72 = (x56 + (1 : Int)) →
Fits [.i (some ((0), (25))), .i (some ((2), (5))), .i (some ((1), (1000))), .i (some ((0), (25))), .i (some ((0), (25000000))), .l] [(.i x72), (.i x65), (.i x66), (.i x67), (.i x68), (.l (x71))] ∧ I2 [(.i x72), (.i x65), (.i x66), (.i x67), (.i x68), (.l (x71))] ∧ mu2 [(.i x72), (.i x65), (.i x66), (.i x67), (.i x68), (.l (x71))] < mu2 [.i x56, .i x57, .i x58, .i x59, .i x60, .l x61]) ∧ ((Cmp.den .le x70 (100000 : Int)) = false → False))) ∧ ((Cmp.den .lt x56 x55) = false → (tpoint_sem.pre [(.i x24), (.i x25), (.i x26), (.i x27), (.i x31)]) ∧ (
∀ x62 : Int, x62 = (Cv.int (Env.get (tpoint_sem.out [(.i x24), (.i x25), (.i x26), (.i x27), (.i x31)]) 0)) → (-9223372036854775808 : Int) ≤ x62 → x62 ≤ (9223372036854775807 : Int) →
∀ x63 : Int, x63 = (Cv.int (Env.get (tpoint_sem.out [(.i x24), (.i x25), (.i x26), (.i x27), (.i x31)]) 1)) → (-9223372036854775808 : Int) ≤ x63 → x63 ≤ (9223372036854775807 : Int) →
∀ x64 : Int, x64 = (Cv.int (Env.get (tpoint_sem.out [(.i x24), (.i x25), (.i x26), (.i x27), (.i x31)]) 2)) → (-9223372036854775808 : Int) ≤ x64 → x64 ≤ (9223372036854775807 : Int) →
∀ x65 : Int, x65 = (Cv.int (Env.get (tpoint_sem.out [(.i x24), (.i x25), (.i x26), (.i x27), (.i x31)]) 3)) → (0 : Int) ≤ x65 → x65 ≤ (18446744073709551615 : Int) →
∀ x66 : Int, x66 = (Cv.int (Env.get (tpoint_sem.out [(.i x24), (.i x25), (.i x26), (.i x27), (.i x31)]) 4)) → (0 : Int) ≤ x66 → x66 ≤ (18446744073709551615 : Int) →
∀ x67 : Int, x67 = (Cv.int (Env.get (tpoint_sem.out [(.i x24), (.i x25), (.i x26), (.i x27), (.i x31)]) 5)) → (-9223372036854775808 : Int) ≤ x67 → x67 ≤ (9223372036854775807 : Int) →
((Cmp.den .eq x32 (0 : Int)) = true → (((Cmp.den .eq x57 x24) && ((Cmp.den .eq x58 x25) && ((Cmp.den .eq x59 x26) && (Cmp.den .eq x60 x27)))) = true → ((Cmp.den .eq x67 (12 : Int)) = true → R (Value.bool ((Cmp.den .eq x62 (0 : Int)) && ((Cmp.den .eq x63 (0 : Int)) && ((Cmp.den .eq x64 (0 : Int)) && ((Cmp.den .eq x65 (0 : Int)) && (Cmp.den .eq x66 (0 : Int)))))))) ∧ ((Cmp.den .eq x67 (12 : Int)) = false → R (Value.bool false))) ∧ (((Cmp.den .eq x57 x24) && ((Cmp.den .eq x58 x25) && ((Cmp.den .eq x59 x26) && (Cmp.den .eq x60 x27)))) = false → R (Value.bool false))) ∧ ((Cmp.den .eq x32 (0 : Int)) = false → ((Cmp.den .eq x24 (2 : Int)) = true → (((Cmp.den .eq x57 x24) && ((Cmp.den .eq x58 x25) && ((Cmp.den .eq x59 x26) && (Cmp.den .eq x60 x27)))) = true → ((Cmp.den .eq x67 (0 : Int)) = true → ((Cmp.den .le (1 : Int) x63) = true → ∀ x68 : Int, x68 = (IntKind.i64.wrap (x62 + x64)) →
∀ x69 : Int, x69 = (IntKind.i64.wrap (x68 * x25)) →
∀ x70 : Int, x70 = (IntKind.i64.wrap (x31 * x63)) →
((Cmp.den .eq x69 x70) = true → ∀ x71 : Int, x71 = (IntKind.i64.wrap (x62 * x32)) →
∀ x72 : Int, x72 = (IntKind.i64.wrap (x71 * x25)) →
∀ x73 : Int, x73 = (IntKind.i64.wrap (x35 * x63)) →
((Cmp.den .eq x72 x73) = true → ∀ x74 : Int, x74 = (IntKind.i64.wrap (x31 * x32)) →
R (Value.bool ((Cmp.den .eq x64 (0 : Int)) == (Cmp.den .eq x74 x35)))) ∧ ((Cmp.den .eq x72 x73) = false → R (Value.bool false))) ∧ ((Cmp.den .eq x69 x70) = false → R (Value.bool false))) ∧ ((Cmp.den .le (1 : Int) x63) = false → R (Value.bool false))) ∧ ((Cmp.den .eq x67 (0 : Int)) = false → R (Value.bool false))) ∧ (((Cmp.den .eq x57 x24) && ((Cmp.den .eq x58 x25) && ((Cmp.den .eq x59 x26) && (Cmp.den .eq x60 x27)))) = false → R (Value.bool false))) ∧ ((Cmp.den .eq x24 (2 : Int)) = false → (((Cmp.den .eq x57 x24) && ((Cmp.den .eq x58 x25) && ((Cmp.den .eq x59 x26) && (Cmp.den .eq x60 x27)))) = true → ((Cmp.den .eq x67 (0 : Int)) = true → ((Cmp.den .le (1 : Int) x63) = true → ∀ x68 : Int, x68 = (IntKind.i64.wrap (x62 + x64)) →
∀ x69 : Int, x69 = (x68 * (1 : Int)) →
∀ x70 : Int, x70 = (IntKind.i64.wrap (x31 * x63)) →
((Cmp.den .eq x69 x70) = true → ∀ x71 : Int, x71 = (IntKind.i64.wrap (x62 * x32)) →
∀ x72 : Int, x72 = (x71 * (1 : Int)) →
∀ x73 : Int, x73 = (IntKind.i64.wrap (x35 * x63)) →
((Cmp.den .eq x72 x73) = true → ∀ x74 : Int, x74 = (IntKind.i64.wrap (x31 * x32)) →
R (Value.bool ((Cmp.den .eq x64 (0 : Int)) == (Cmp.den .eq x74 x35)))) ∧ ((Cmp.den .eq x72 x73) = false → R (Value.bool false))) ∧ ((Cmp.den .eq x69 x70) = false → R (Value.bool false))) ∧ ((Cmp.den .le (1 : Int) x63) = false → R (Value.bool false))) ∧ ((Cmp.den .eq x67 (0 : Int)) = false → R (Value.bool false))) ∧ (((Cmp.den .eq x57 x24) && ((Cmp.den .eq x58 x25) && ((Cmp.den .eq x59 x26) && (Cmp.den .eq x60 x27)))) = false → R (Value.bool false)))))))) ∧ ((Cmp.den .le x53 x52) = false → False))))) ∧ ((Cmp.den .le x24 (3 : Int)) = false → ∀ x30 : Int, x30 = (if (Cmp.den .lt x3 (0 : Int)) = true then (0 : Int) else x3) →
∀ x31 : Int, x31 = (if (Cmp.den .lt (1000000 : Int) x30) = true then (1000000 : Int) else x30) →
∀ x32 : Int, x32 = ((List.length x28 : Int)) →
∀ x33 : Int, x33 = (x32 - (1 : Int)) →
∃ (I1 : List Cv → Prop) (mu1 : List Cv → Nat), Fits [.i (some ((-1), (24))), .i (some ((0), (25000000))), .l] [(.i x33), (.i (0 : Int)), (.l (([] : List Int)))] ∧ I1 [(.i x33), (.i (0 : Int)), (.l (([] : List Int)))] ∧ (
∀ x34 : Int, (-1 : Int) ≤ x34 → x34 ≤ (24 : Int) → ∀ x35 : Int, (0 : Int) ≤ x35 → x35 ≤ (25000000 : Int) → ∀ x36 : List Int, InI x36 → I1 [.i x34, .i x35, .l x36] →
((Cmp.den .le (0 : Int) x34) = true → ((Cmp.den .lt x34 x32) = true → ∀ x37 : Int, x37 = (List.getD x28 (Int.toNat x34) 0) →
∀ x38 : Int, x38 = ((List.length x36 : Int)) →
((Cmp.den .le x38 (100000 : Int)) = true → ∀ x39 : List Int, x39 = (x36 ++ ([x37] : List Int)) →
∀ x40 : Int, x40 = (List.getD x28 (Int.toNat x34) 0) →
∀ x41 : Int, x41 = (IntKind.i64.wrap (x35 + x40)) →
∀ x42 : Int, x42 = (x34 - (1 : Int)) →
Fits [.i (some ((-1), (24))), .i (some ((0), (25000000))), .l] [(.i x42), (.i x41), (.l (x39))] ∧ I1 [(.i x42), (.i x41), (.l (x39))] ∧ mu1 [(.i x42), (.i x41), (.l (x39))] < mu1 [.i x34, .i x35, .l x36]) ∧ ((Cmp.den .le x38 (100000 : Int)) = false → False)) ∧ ((Cmp.den .lt x34 x32) = false → False)) ∧ ((Cmp.den .le (0 : Int) x34) = false → ∀ x37 : Int, x37 = (Int.tmod x0 (4 : Int)) →
∀ x38 : Int, x38 = (x37 + (4 : Int)) →
∀ x39 : Int, x39 = (x38 % (4 : Int)) →
∀ x40 : Int, x40 = ((2 : Int) + x39) →
∀ x41 : Int, x41 = (Int.tmod x1 (1000 : Int)) →
∀ x42 : Int, x42 = (x41 + (1000 : Int)) →
∀ x43 : Int, x43 = (x42 % (1000 : Int)) →
∀ x44 : Int, x44 = ((1 : Int) + x43) →
∀ x45 : Int, x45 = (if (Cmp.den .eq x40 (4 : Int)) = true then (1 : Int) else x44) →
(tnew_sem.pre [(.i x40), (.i x45)]) ∧ (
∀ x46 : Int, x46 = (Cv.int (Env.get (tnew_sem.out [(.i x40), (.i x45)]) 0)) → (2 : Int) ≤ x46 → x46 ≤ (5 : Int) →
∀ x47 : Int, x47 = (Cv.int (Env.get (tnew_sem.out [(.i x40), (.i x45)]) 1)) → (1 : Int) ≤ x47 → x47 ≤ (1000 : Int) →
∀ x48 : Int, x48 = (Cv.int (Env.get (tnew_sem.out [(.i x40), (.i x45)]) 2)) → (0 : Int) ≤ x48 → x48 ≤ (0 : Int) →
∀ x49 : Int, x49 = (Cv.int (Env.get (tnew_sem.out [(.i x40), (.i x45)]) 3)) → (0 : Int) ≤ x49 → x49 ≤ (0 : Int) →
∀ x50 : Int, x50 = (Cv.int (Env.get (tnew_sem.out [(.i x40), (.i x45)]) 4)) → (0 : Int) ≤ x50 → x50 ≤ (0 : Int) →
∀ x51 : Int, x51 = (if (Cmp.den .le x40 (3 : Int)) = true then x45 else (1000000 : Int)) →
∀ x52 : Int, x52 = ((List.length x36 : Int)) →
∀ x53 : Int, x53 = (if (Cmp.den .lt (25 : Int) x52) = true then (25 : Int) else x52) →
((Cmp.den .le x53 x52) = true → ∀ x54 : List Int, x54 = (List.take (Int.toNat x53 - Int.toNat (0 : Int)) (List.drop (Int.toNat (0 : Int)) x36)) →
∀ x55 : Int, x55 = ((List.length x54 : Int)) →
∃ (I2 : List Cv → Prop) (mu2 : List Cv → Nat), Fits [.i (some ((0), (25))), .i (some ((2), (5))), .i (some ((1), (1000))), .i (some ((0), (25))), .i (some ((0), (25000000))), .l] [(.i (0 : Int)), (.i x46), (.i x47), (.i x48), (.i x49), (.l (([] : List Int)))] ∧ I2 [(.i (0 : Int)), (.i x46), (.i x47), (.i x48), (.i x49), (.l (([] : List Int)))] ∧ (
∀ x56 : Int, (0 : Int) ≤ x56 → x56 ≤ (25 : Int) → ∀ x57 : Int, (2 : Int) ≤ x57 → x57 ≤ (5 : Int) → ∀ x58 : Int, (1 : Int) ≤ x58 → x58 ≤ (1000 : Int) → ∀ x59 : Int, (0 : Int) ≤ x59 → x59 ≤ (25 : Int) → ∀ x60 : Int, (0 : Int) ≤ x60 → x60 ≤ (25000000 : Int) → ∀ x61 : List Int, InI x61 → I2 [.i x56, .i x57, .i x58, .i x59, .i x60, .l x61] →
((Cmp.den .lt x56 x55) = true → ∀ x62 : Int, x62 = (List.getD x54 (Int.toNat x56) 0) →
∀ x63 : Int, x63 = (if (Cmp.den .lt x62 (0 : Int)) = true then (0 : Int) else x62) →
∀ x64 : Int, x64 = (if (Cmp.den .lt x51 x63) = true then x51 else x63) →
(ttake_sem.pre [(.i x57), (.i x58), (.i x59), (.i x60), (.i x64)]) ∧ (
∀ x65 : Int, x65 = (Cv.int (Env.get (ttake_sem.out [(.i x57), (.i x58), (.i x59), (.i x60), (.i x64)]) 0)) → (2 : Int) ≤ x65 → x65 ≤ (5 : Int) →
∀ x66 : Int, x66 = (Cv.int (Env.get (ttake_sem.out [(.i x57), (.i x58), (.i x59), (.i x60), (.i x64)]) 1)) → (1 : Int) ≤ x66 → x66 ≤ (1000 : Int) →
∀ x67 : Int, x67 = (Cv.int (Env.get (ttake_sem.out [(.i x57), (.i x58), (.i x59), (.i x60), (.i x64)]) 2)) → (0 : Int) ≤ x67 → x67 ≤ (25 : Int) →
∀ x68 : Int, x68 = (Cv.int (Env.get (ttake_sem.out [(.i x57), (.i x58), (.i x59), (.i x60), (.i x64)]) 3)) → (0 : Int) ≤ x68 → x68 ≤ (25000000 : Int) →
∀ x69 : Int, x69 = (Cv.int (Env.get (ttake_sem.out [(.i x57), (.i x58), (.i x59), (.i x60), (.i x64)]) 4)) → (0 : Int) ≤ x69 → x69 ≤ (0 : Int) →
∀ x70 : Int, x70 = ((List.length x61 : Int)) →
((Cmp.den .le x70 (100000 : Int)) = true → ∀ x71 : List Int, x71 = (x61 ++ ([x64] : List Int)) →
∀ x72 : Int, x72 = (x56 + (1 : Int)) →
Fits [.i (some ((0), (25))), .i (some ((2), (5))), .i (some ((1), (1000))), .i (some ((0), (25))), .i (some ((0), (25000000))), .l] [(.i x72), (.i x65), (.i x66), (.i x67), (.i x68), (.l (x71))] ∧ I2 [(.i x72), (.i x65), (.i x66), (.i x67), (.i x68), (.l (x71))] ∧ mu2 [(.i x72), (.i x65), (.i x66), (.i x67), (.i x68), (.l (x71))] < mu2 [.i x56, .i x57, .i x58, .i x59, .i x60, .l x61]) ∧ ((Cmp.den .le x70 (100000 : Int)) = false → False))) ∧ ((Cmp.den .lt x56 x55) = false → (tpoint_sem.pre [(.i x24), (.i x25), (.i x26), (.i x27), (.i x31)]) ∧ (
∀ x62 : Int, x62 = (Cv.int (Env.get (tpoint_sem.out [(.i x24), (.i x25), (.i x26), (.i x27), (.i x31)]) 0)) → (-9223372036854775808 : Int) ≤ x62 → x62 ≤ (9223372036854775807 : Int) →
∀ x63 : Int, x63 = (Cv.int (Env.get (tpoint_sem.out [(.i x24), (.i x25), (.i x26), (.i x27), (.i x31)]) 1)) → (-9223372036854775808 : Int) ≤ x63 → x63 ≤ (9223372036854775807 : Int) →
∀ x64 : Int, x64 = (Cv.int (Env.get (tpoint_sem.out [(.i x24), (.i x25), (.i x26), (.i x27), (.i x31)]) 2)) → (-9223372036854775808 : Int) ≤ x64 → x64 ≤ (9223372036854775807 : Int) →
∀ x65 : Int, x65 = (Cv.int (Env.get (tpoint_sem.out [(.i x24), (.i x25), (.i x26), (.i x27), (.i x31)]) 3)) → (0 : Int) ≤ x65 → x65 ≤ (18446744073709551615 : Int) →
∀ x66 : Int, x66 = (Cv.int (Env.get (tpoint_sem.out [(.i x24), (.i x25), (.i x26), (.i x27), (.i x31)]) 4)) → (0 : Int) ≤ x66 → x66 ≤ (18446744073709551615 : Int) →
∀ x67 : Int, x67 = (Cv.int (Env.get (tpoint_sem.out [(.i x24), (.i x25), (.i x26), (.i x27), (.i x31)]) 5)) → (-9223372036854775808 : Int) ≤ x67 → x67 ≤ (9223372036854775807 : Int) →
((Cmp.den .eq x32 (0 : Int)) = true → (((Cmp.den .eq x57 x24) && ((Cmp.den .eq x58 x25) && ((Cmp.den .eq x59 x26) && (Cmp.den .eq x60 x27)))) = true → ((Cmp.den .eq x67 (12 : Int)) = true → R (Value.bool ((Cmp.den .eq x62 (0 : Int)) && ((Cmp.den .eq x63 (0 : Int)) && ((Cmp.den .eq x64 (0 : Int)) && ((Cmp.den .eq x65 (0 : Int)) && (Cmp.den .eq x66 (0 : Int)))))))) ∧ ((Cmp.den .eq x67 (12 : Int)) = false → R (Value.bool false))) ∧ (((Cmp.den .eq x57 x24) && ((Cmp.den .eq x58 x25) && ((Cmp.den .eq x59 x26) && (Cmp.den .eq x60 x27)))) = false → R (Value.bool false))) ∧ ((Cmp.den .eq x32 (0 : Int)) = false → ∀ x68 : Int, x68 = (if (Cmp.den .eq x24 (5 : Int)) = true then x25 else (1 : Int)) →
(((Cmp.den .eq x57 x24) && ((Cmp.den .eq x58 x25) && ((Cmp.den .eq x59 x26) && (Cmp.den .eq x60 x27)))) = true → ((Cmp.den .eq x67 (0 : Int)) = true → ((Cmp.den .le (1 : Int) x63) = true → ∀ x69 : Int, x69 = (IntKind.i64.wrap (x62 + x64)) →
∀ x70 : Int, x70 = (IntKind.i64.wrap (x69 * x68)) →
∀ x71 : Int, x71 = (IntKind.i64.wrap (x31 * x63)) →
((Cmp.den .eq x70 x71) = true → ∀ x72 : Int, x72 = (IntKind.i64.wrap (x62 * x32)) →
∀ x73 : Int, x73 = (IntKind.i64.wrap (x72 * x68)) →
∀ x74 : Int, x74 = (IntKind.i64.wrap (x35 * x63)) →
((Cmp.den .eq x73 x74) = true → ∀ x75 : Int, x75 = (IntKind.i64.wrap (x31 * x32)) →
R (Value.bool ((Cmp.den .eq x64 (0 : Int)) == (Cmp.den .eq x75 x35)))) ∧ ((Cmp.den .eq x73 x74) = false → R (Value.bool false))) ∧ ((Cmp.den .eq x70 x71) = false → R (Value.bool false))) ∧ ((Cmp.den .le (1 : Int) x63) = false → R (Value.bool false))) ∧ ((Cmp.den .eq x67 (0 : Int)) = false → R (Value.bool false))) ∧ (((Cmp.den .eq x57 x24) && ((Cmp.den .eq x58 x25) && ((Cmp.den .eq x59 x26) && (Cmp.den .eq x60 x27)))) = false → R (Value.bool false))))))) ∧ ((Cmp.den .le x53 x52) = false → False)))))))))) ∧ ((Cmp.den .le x20 x19) = false → False))) := by kernel_rfl

def ltmean_sem : SpecSem := { pre := fun cs => match cs with | [.i a, .i b, .l xs, .i d] => IsI a ∧ IsI b ∧ InI xs ∧ IsI d | _ => False, out := fun cs => match cs with | [.i a, .i b, .l xs, .i d] => [.b true] | _ => [] }
set_option maxRecDepth 10000 in
set_option maxHeartbeats 16000000 in
theorem ltmean_ok : SpecOK Try.prog 3 ltmean_sp ltmean_sem := by
  refine spec_of_tree ltmean_cxok Try.func3 (by kernel_rfl) (by kernel_rfl) ltmean_walk rfl ?_
  intro cs hpre
  match cs, hpre with
  | [.i a, .i b, .l xs, .i d], ⟨j_a, j_b, j_xs, j_d⟩ =>
    have h_a := j_a
    unfold IsI at h_a
    have h_b := j_b
    unfold IsI at h_b
    have h_d := j_d
    unfold IsI at h_d
    refine ⟨rfl, IvsB.ok (by simp only [ltmean_ivs, IvsB, Cv.int, and_true, j_xs, true_and] <;> omega), ?_, ?_⟩
    · simp only [ltmean_sem, ltmean_sp, Fits]
    · rw [ltmean_den]
      simp only [ltmean_sem, ltmean_sp, ltmean_den, tnew_sem, ttake_sem, tpoint_sem, talive_sem, Tree.den, LE.den, Cv.list, placeA, List.getElem?_cons_zero, List.getElem?_cons_succ, IE.den, BE.den, At.den, CA.den, Env.get, Cv.int, Cv.bool, List.cons_append, List.nil_append, List.map_cons, List.map_nil, bindRes, bindEq, Fits, SV.den, denL, place, placeL, eq_t, eq_f, lt_t, lt_f, le_t, le_f, beq_iff_eq, beq_eq_false_iff_ne, ne_eq, reduceCtorEq, b_dec, decide_eq_true_eq, decide_eq_false_iff_not, Bool.not_eq_false', Bool.or_eq_true, Bool.or_eq_false_iff, Bool.and_eq_false_iff, true_iff, false_iff, Bool.false_eq_true, Bool.not_eq_true', Bool.and_eq_true, Bool.not_true, Bool.not_false, List.cons.injEq, Cv.i.injEq, Cv.b.injEq, and_true, true_and, agg_inj, tup_inj, Value.int.injEq, Value.bool.injEq]
      intro x4 e4 x5 e5 x6 e6 x7 e7 x8 e8 x9 e9 x10 e10 x11 e11 x12 e12
      have hS := made_sizes a b
      have q7 : 2 + (a.tmod 4 + 4) % 4 = x7 := by rw [e7, e6, e5, e4]
      have q11 : 1 + (b.tmod 1000 + 1000) % 1000 = x11 := by rw [e11, e10, e9, e8]
      rw [q7, q11, ← e12] at hS
      have hk := hS.1
      have hk2 := hS.2.1
      have hs1 := hS.2.2.1
      have hs2 := hS.2.2.2.1
      have i7 : IsI x7 := ⟨by omega, by omega⟩
      have i12 : IsI x12 := ⟨by omega, by omega⟩
      clear e7 e6 e5 e4 e11 e10 e9 e8 x4 x5 x6 x8 x9 x10
      refine ⟨⟨i7, i12, hS⟩, ?_⟩
      intro x13 e13 _ _ x14 e14 _ _ x15 e15 _ _ x16 e16 _ _ x17 e17 _ _ x18 e18 x19 e19 x20 e20
      subst e13 e14 e15 e16 e17
      have hM : x18 = most x13 x14 := e18
      have rM := most_rng hS
      rw [← hM] at rM
      refine ⟨fun hle => ?_, fun h => by split at e20 <;> omega⟩
      intro x21 e21 x22 e22
      have h22 : x22 ≤ 25 := by
        have k1 := List.length_take_le (x20.toNat - Int.toNat 0) (List.drop (Int.toNat 0) xs)
        rw [← e21] at k1
        have k2 : x20 ≤ 25 := by split at e20 <;> omega
        have k3 : x20.toNat - Int.toNat 0 ≤ 25 := by omega
        omega
      clear e21 e20 e19 hle
      refine ⟨fun vs => match vs with | [.i i, .i k', .i s', .i m, .i u, .l cs] => k' = x13 ∧ s' = x14 ∧ m = i ∧ u = sumL cs ∧ (cs.length : Int) = i ∧ inC x18 cs | _ => False, fun vs => match vs with | .i i :: _ => (x22 - i).toNat | _ => 0, ⟨by omega, by omega, by omega, by omega, by omega, by omega, by omega, by omega, by omega, by omega, (fun _ h => nomatch h)⟩, ⟨rfl, rfl, rfl, rfl, rfl, (fun _ h => nomatch h)⟩, ?_⟩
      intro x23 l23 g23 x24 l24 g24 x25 l25 g25 x26 l26 g26 x27 l27 g27 x28 hI28 hI
      obtain ⟨i1, i2, i3, i4, i5, i6⟩ : x24 = x13 ∧ x25 = x14 ∧ x26 = x23 ∧ x27 = sumL x28 ∧ (x28.length : Int) = x23 ∧ inC x18 x28 := hI
      subst i1 i2 i4
      have su := inC_sum i6
      have i24 : IsI x24 := i7
      have i25 : IsI x25 := i12
      refine ⟨fun hlt => ?_, fun hge => ⟨fun h => h.elim, fun _ => ?_⟩⟩
      · intro x29 e29 x30 e30 x31 e31
        have r31 : 0 ≤ x31 ∧ x31 ≤ x18 := by split at e30 <;> split at e31 <;> omega
        have hMay : TMay x24 x25 x26 (sumL x28) x31 := ⟨⟨hS, by omega, by omega, su.1, by rw [← hM, i3, ← i5]; exact su.2⟩, by have q := r31; rw [hM] at q; exact q⟩
        refine ⟨⟨i24, i25, ⟨by omega, by omega⟩, ⟨by omega, by omega⟩, ⟨by omega, by omega⟩, hMay, by omega⟩, ?_⟩
        intro x32 e32 _ _ x33 e33 _ _ x34 e34 l34 g34 x35 e35 l35 g35 x36 e36 _ _ x37 e37
        refine ⟨fun _ => ?_, fun h => by omega⟩
        intro x38 e38 x39 e39
        subst e32 e33
        have m38 : inC x18 x38 := by rw [e38]; exact inC_snoc i6 r31
        have n38 : (x38.length : Int) = x39 := by rw [e38, List.length_append, List.length_singleton]; omega
        have s38 : x35 = sumL x38 := by rw [e38, sumL_snoc, e35]
        exact ⟨⟨by omega, by omega, by omega, by omega, by omega, by omega, by omega, by omega, by omega, by omega, inC_I (by omega) m38⟩, ⟨rfl, rfl, by omega, s38, n38, m38⟩, by show (x22 - x39).toNat < (x22 - x23).toNat; omega⟩
      · subst i3
        have hn : x26 ≤ 25 := by omega
        clear hge h22 e22 x22 x21 l23 g23
        subst i5
        refine ⟨fun h3 => ?_, fun h3 => ?_⟩
        · intro x30 e30 x31 e31 x32 e32 x33 e33
          have e30' : x18 = x25 := by rw [hM]; exact most_lo (by omega)
          have r31 : 0 ≤ x31 ∧ x31 ≤ most x24 x25 := by rw [← hM]; split at e30 <;> split at e31 <;> omega
          clear e30 e31 e30' x30
          refine ⟨fun vs => match vs with | [.i i, .i t, .l T] => (T.length : Int) = x32 - 1 - i ∧ t = sumL T ∧ sumL T + sumL (x28.take (i + 1).toNat) = sumL x28 ∧ inC x18 T ∧ i < x32 | _ => False, fun vs => match vs with | .i i :: _ => (i + 1).toNat | _ => 0, ⟨by omega, by omega, by omega, by omega, (fun _ h => nomatch h)⟩, ⟨by show (0 : Int) = x32 - 1 - x33; omega, rfl, by show 0 + sumL (x28.take (x33 + 1).toNat) = sumL x28; rw [List.take_of_length_le (by omega)]; omega, (fun _ h => nomatch h), by omega⟩, ?_⟩
          intro x34 l34 g34 x35 l35 g35 x36 hI36 hJ
          obtain ⟨j1, j2, j3, j4, j5⟩ : (x36.length : Int) = x32 - 1 - x34 ∧ x35 = sumL x36 ∧ sumL x36 + sumL (x28.take (x34 + 1).toNat) = sumL x28 ∧ inC x18 x36 ∧ x34 < x32 := hJ
          have su2 := inC_sum j4
          refine ⟨fun h0 => ⟨fun _ => ?_, fun h => by omega⟩, fun h0 => ?_⟩
          · intro x37 e37 x38 e38
            refine ⟨fun _ => ?_, fun h => by omega⟩
            intro x39 e39 x40 e40 x41 e41 x42 e42
            have m37 : x37 ∈ x28 := by rw [e37]; exact getD_mem h0 (by omega)
            have r37 := i6 x37 m37
            have ht := take_snoc h0 (show x34 < (x28.length : Int) by omega)
            rw [← e37] at ht
            rw [← e37] at e40
            have m39 : inC x18 x39 := by rw [e39]; exact inC_snoc j4 r37
            have s39 : sumL x39 = sumL x36 + x37 := by rw [e39, sumL_snoc]
            have n39 : (x39.length : Int) = (x36.length : Int) + 1 := by rw [e39, List.length_append, List.length_singleton]; omega
            have b39 := (inC_sum m39).2
            have b40 : (x39.length : Int) * x18 ≤ 25 * 1000000 := Int.mul_le_mul (by omega) rM.2 (by omega) (by omega)
            have s41 : x41 = sumL x39 := by rw [e41, e40, j2, w64 (by omega) (by omega), s39]
            rw [ht, sumL_snoc] at j3
            have b41 := (inC_sum m39).1
            exact ⟨⟨by omega, by omega, by omega, by omega, inC_I (by omega) m39⟩, ⟨by omega, s41, by rw [show x42 + 1 = x34 by omega]; omega, m39, by omega⟩, by show (x42 + 1).toNat < (x34 + 1).toNat; omega⟩
          · intro x37 e37 x38 e38 x39 e39 x40 e40 x41 e41 x42 e42 x43 e43 x44 e44 x45 e45
            have q40 : x40 = x24 := by rw [e40, e39, e38, e37]; exact q7
            have q44 : x44 = x11 := by rw [e44, e43, e42, e41]; exact q11
            have q45 : x45 = x25 := by rw [e45, q40, q44]; exact e12.symm
            clear e40 e39 e38 e37 e44 e43 e42 e41 e45 q44 x37 x38 x39 x41 x42 x43 x44
            subst q40 q45
            rw [show (x34 + 1).toNat = 0 by omega, List.take_zero] at j3
            have j3' : sumL x36 = sumL x28 := by have : sumL ([] : List Int) = 0 := rfl; omega
            have j1' : (x36.length : Int) = (x28.length : Int) := by omega
            clear j3 j1 j5 l34 g34 h0
            refine ⟨⟨i24, i25, hS⟩, ?_⟩
            intro x46 e46 _ _ x47 e47 _ _ x48 e48 _ _ x49 e49 _ _ x50 e50 _ _ x51 e51 x52 e52 x53 e53
            subst e46 e47 e48 e49 e50
            have hM2 : x51 = x18 := by rw [hM]; exact e51
            subst hM2
            refine ⟨fun hle => ?_, fun h => by split at e53 <;> omega⟩
            intro x54 e54 x55 e55
            have q54 : x54 = x36 := by
              rw [e54]
              exact List.take_of_length_le (by simp; split at e53 <;> omega)
            subst q54
            clear e54 e53 hle
            refine ⟨fun vs => match vs with | [.i i, .i k', .i s', .i m, .i u, .l cs] => k' = x46 ∧ s' = x47 ∧ m = i ∧ u = sumL (x54.take i.toNat) ∧ (cs.length : Int) = i ∧ inC x51 cs ∧ i ≤ x55 | _ => False, fun vs => match vs with | .i i :: _ => (x55 - i).toNat | _ => 0, ⟨by omega, by omega, by omega, by omega, by omega, by omega, by omega, by omega, by omega, by omega, (fun _ h => nomatch h)⟩, ⟨rfl, rfl, rfl, rfl, rfl, (fun _ h => nomatch h), by omega⟩, ?_⟩
            intro x56 l56 g56 x57 l57 g57 x58 l58 g58 x59 l59 g59 x60 l60 g60 x61 hI61 hK
            obtain ⟨k1, k2, k3, k4, k5, k6, k7⟩ : x57 = x46 ∧ x58 = x47 ∧ x59 = x56 ∧ x60 = sumL (x54.take x56.toNat) ∧ (x61.length : Int) = x56 ∧ inC x51 x61 ∧ x56 ≤ x55 := hK
            subst k1 k2
            refine ⟨fun hlt => ?_, fun hge => ?_⟩
            · intro x62 e62 x63 e63 x64 e64
              have m62 : x62 ∈ x54 := by rw [e62]; exact getD_mem l56 (by omega)
              have r62 := j4 x62 m62
              have q63 : x63 = x62 := by rw [e63, if_neg (by omega)]
              have q64 : x64 = x62 := by rw [e64, q63, if_neg (by omega)]
              subst q64
              have ht := take_snoc l56 (show x56 < (x54.length : Int) by omega)
              rw [← e62] at ht
              have tk : inC x51 (x54.take x56.toNat) := fun y hy => j4 y (List.mem_of_mem_take hy)
              have tl : ((x54.take x56.toNat).length : Int) = x56 := by rw [List.length_take]; omega
              have su3 := inC_sum tk
              rw [tl, ← k4] at su3
              have hMay : TMay x57 x58 x59 x60 x64 := ⟨⟨hS, by omega, by omega, su3.1, by rw [← hM, k3]; exact su3.2⟩, by have q := r62; rw [hM] at q; exact q⟩
              refine ⟨⟨i24, i25, ⟨by omega, by omega⟩, ⟨by omega, by omega⟩, ⟨by omega, by omega⟩, hMay, by omega⟩, ?_⟩
              intro x65 e65 _ _ x66 e66 _ _ x67 e67 l67 g67 x68 e68 l68 g68 x69 e69 _ _ x70 e70
              refine ⟨fun _ => ?_, fun h => by omega⟩
              intro x71 e71 x72 e72
              subst e65 e66
              have m71 : inC x51 x71 := by rw [e71]; exact inC_snoc k6 r62
              have n71 : (x71.length : Int) = x72 := by rw [e71, List.length_append, List.length_singleton]; omega
              exact ⟨⟨by omega, by omega, by omega, by omega, by omega, by omega, by omega, by omega, by omega, by omega, inC_I (by omega) m71⟩, ⟨rfl, rfl, by omega, by rw [e72, ht, sumL_snoc, ← k4]; exact e68, n71, m71, by omega⟩, by show (x55 - x72).toNat < (x55 - x56).toNat; omega⟩
            · have k4' : x60 = sumL x28 := by rw [k4, List.take_of_length_le (by omega)]; exact j3'
              have k3' : x59 = (x28.length : Int) := by omega
              have hMay : TMay x57 x58 (x28.length : Int) (sumL x28) x31 := ⟨⟨hS, by omega, by omega, su.1, by rw [← hM]; exact su.2⟩, r31⟩
              have mg := tmay_rng hMay
              have n1 : IsI (x28.length : Int) := ⟨by omega, by omega⟩
              have n2 : IsI (sumL x28) := ⟨by omega, by omega⟩
              have n3 : IsI x31 := ⟨by omega, by omega⟩
              have j2' : x35 = sumL x28 := by omega
              have z12 : ((12 : Int) = 0) = False := by simp
              have z13 : ((0 : Int) = 12) = False := by simp
              subst k4' k3' j2' e32
              by_cases hm : (x28.length : Int) = 0
              · simp only [hMay, hm, i24, i25, n1, n2, n3, z12, z13, forall_eq, eq_self, ne_eq, f00, if_true, if_false, true_and, and_true, false_and, and_false, true_or, or_true, false_or, or_false, true_iff, iff_true, false_iff, iff_false, not_true_eq_false, not_false_eq_true, true_implies, false_implies, implies_true, forall_const, decide_true, decide_false, reduceCtorEq]
                rw [hm] at hMay n1
                exact ⟨n1, hMay⟩
              · obtain ⟨t1, t2, t3, t4, t5, t6, t7, t8, t9⟩ := tp_fin hMay hm
                have td : (pDen x57 x58 (x28.length : Int) < 1) = False := eq_false (by omega)
                by_cases hk2 : x57 = 2
                · have hpm : pMul x57 x58 = x58 := by unfold pMul; rw [if_pos hk2]
                  rw [hpm] at t3 t6
                  have q2 : (x57 = 2) = True := eq_true hk2
                  simp only [hMay, hm, q2, td, i24, i25, n1, n2, n3, z12, z13, t1, t2, t3, t4, t5, t6, t7, t8, t9, forall_eq, eq_self, ne_eq, f00, if_true, if_false, true_and, and_true, false_and, and_false, true_or, or_true, false_or, or_false, true_iff, iff_true, false_iff, iff_false, not_true_eq_false, not_false_eq_true, true_implies, false_implies, implies_true, forall_const, decide_true, decide_false, reduceCtorEq]
                · have hpm : pMul x57 x58 = 1 := by unfold pMul; rw [if_neg hk2, if_neg (by omega)]
                  rw [hpm, Int.mul_one] at t3 t6
                  simp only [hMay, hm, hk2, i24, i25, n1, n2, n3, z12, z13, t1, t2, t3, t4, t5, t6, t7, t8, t9, td, Int.mul_one, forall_eq, eq_self, ne_eq, f00, if_true, if_false, true_and, and_true, false_and, and_false, true_or, or_true, false_or, or_false, true_iff, iff_true, false_iff, iff_false, not_true_eq_false, not_false_eq_true, true_implies, false_implies, implies_true, forall_const, decide_true, decide_false, reduceCtorEq]
        · intro x30 e30 x31 e31 x32 e32 x33 e33
          have e30' : x18 = 1000000 := by rw [hM]; exact most_hi (by omega)
          have r31 : 0 ≤ x31 ∧ x31 ≤ most x24 x25 := by rw [← hM]; split at e30 <;> split at e31 <;> omega
          clear e30 e31 e30' x30
          refine ⟨fun vs => match vs with | [.i i, .i t, .l T] => (T.length : Int) = x32 - 1 - i ∧ t = sumL T ∧ sumL T + sumL (x28.take (i + 1).toNat) = sumL x28 ∧ inC x18 T ∧ i < x32 | _ => False, fun vs => match vs with | .i i :: _ => (i + 1).toNat | _ => 0, ⟨by omega, by omega, by omega, by omega, (fun _ h => nomatch h)⟩, ⟨by show (0 : Int) = x32 - 1 - x33; omega, rfl, by show 0 + sumL (x28.take (x33 + 1).toNat) = sumL x28; rw [List.take_of_length_le (by omega)]; omega, (fun _ h => nomatch h), by omega⟩, ?_⟩
          intro x34 l34 g34 x35 l35 g35 x36 hI36 hJ
          obtain ⟨j1, j2, j3, j4, j5⟩ : (x36.length : Int) = x32 - 1 - x34 ∧ x35 = sumL x36 ∧ sumL x36 + sumL (x28.take (x34 + 1).toNat) = sumL x28 ∧ inC x18 x36 ∧ x34 < x32 := hJ
          have su2 := inC_sum j4
          refine ⟨fun h0 => ⟨fun _ => ?_, fun h => by omega⟩, fun h0 => ?_⟩
          · intro x37 e37 x38 e38
            refine ⟨fun _ => ?_, fun h => by omega⟩
            intro x39 e39 x40 e40 x41 e41 x42 e42
            have m37 : x37 ∈ x28 := by rw [e37]; exact getD_mem h0 (by omega)
            have r37 := i6 x37 m37
            have ht := take_snoc h0 (show x34 < (x28.length : Int) by omega)
            rw [← e37] at ht
            rw [← e37] at e40
            have m39 : inC x18 x39 := by rw [e39]; exact inC_snoc j4 r37
            have s39 : sumL x39 = sumL x36 + x37 := by rw [e39, sumL_snoc]
            have n39 : (x39.length : Int) = (x36.length : Int) + 1 := by rw [e39, List.length_append, List.length_singleton]; omega
            have b39 := (inC_sum m39).2
            have b40 : (x39.length : Int) * x18 ≤ 25 * 1000000 := Int.mul_le_mul (by omega) rM.2 (by omega) (by omega)
            have s41 : x41 = sumL x39 := by rw [e41, e40, j2, w64 (by omega) (by omega), s39]
            rw [ht, sumL_snoc] at j3
            have b41 := (inC_sum m39).1
            exact ⟨⟨by omega, by omega, by omega, by omega, inC_I (by omega) m39⟩, ⟨by omega, s41, by rw [show x42 + 1 = x34 by omega]; omega, m39, by omega⟩, by show (x42 + 1).toNat < (x34 + 1).toNat; omega⟩
          · intro x37 e37 x38 e38 x39 e39 x40 e40 x41 e41 x42 e42 x43 e43 x44 e44 x45 e45
            have q40 : x40 = x24 := by rw [e40, e39, e38, e37]; exact q7
            have q44 : x44 = x11 := by rw [e44, e43, e42, e41]; exact q11
            have q45 : x45 = x25 := by rw [e45, q40, q44]; exact e12.symm
            clear e40 e39 e38 e37 e44 e43 e42 e41 e45 q44 x37 x38 x39 x41 x42 x43 x44
            subst q40 q45
            rw [show (x34 + 1).toNat = 0 by omega, List.take_zero] at j3
            have j3' : sumL x36 = sumL x28 := by have : sumL ([] : List Int) = 0 := rfl; omega
            have j1' : (x36.length : Int) = (x28.length : Int) := by omega
            clear j3 j1 j5 l34 g34 h0
            refine ⟨⟨i24, i25, hS⟩, ?_⟩
            intro x46 e46 _ _ x47 e47 _ _ x48 e48 _ _ x49 e49 _ _ x50 e50 _ _ x51 e51 x52 e52 x53 e53
            subst e46 e47 e48 e49 e50
            have hM2 : x51 = x18 := by rw [hM]; exact e51
            subst hM2
            refine ⟨fun hle => ?_, fun h => by split at e53 <;> omega⟩
            intro x54 e54 x55 e55
            have q54 : x54 = x36 := by
              rw [e54]
              exact List.take_of_length_le (by simp; split at e53 <;> omega)
            subst q54
            clear e54 e53 hle
            refine ⟨fun vs => match vs with | [.i i, .i k', .i s', .i m, .i u, .l cs] => k' = x46 ∧ s' = x47 ∧ m = i ∧ u = sumL (x54.take i.toNat) ∧ (cs.length : Int) = i ∧ inC x51 cs ∧ i ≤ x55 | _ => False, fun vs => match vs with | .i i :: _ => (x55 - i).toNat | _ => 0, ⟨by omega, by omega, by omega, by omega, by omega, by omega, by omega, by omega, by omega, by omega, (fun _ h => nomatch h)⟩, ⟨rfl, rfl, rfl, rfl, rfl, (fun _ h => nomatch h), by omega⟩, ?_⟩
            intro x56 l56 g56 x57 l57 g57 x58 l58 g58 x59 l59 g59 x60 l60 g60 x61 hI61 hK
            obtain ⟨k1, k2, k3, k4, k5, k6, k7⟩ : x57 = x46 ∧ x58 = x47 ∧ x59 = x56 ∧ x60 = sumL (x54.take x56.toNat) ∧ (x61.length : Int) = x56 ∧ inC x51 x61 ∧ x56 ≤ x55 := hK
            subst k1 k2
            refine ⟨fun hlt => ?_, fun hge => ?_⟩
            · intro x62 e62 x63 e63 x64 e64
              have m62 : x62 ∈ x54 := by rw [e62]; exact getD_mem l56 (by omega)
              have r62 := j4 x62 m62
              have q63 : x63 = x62 := by rw [e63, if_neg (by omega)]
              have q64 : x64 = x62 := by rw [e64, q63, if_neg (by omega)]
              subst q64
              have ht := take_snoc l56 (show x56 < (x54.length : Int) by omega)
              rw [← e62] at ht
              have tk : inC x51 (x54.take x56.toNat) := fun y hy => j4 y (List.mem_of_mem_take hy)
              have tl : ((x54.take x56.toNat).length : Int) = x56 := by rw [List.length_take]; omega
              have su3 := inC_sum tk
              rw [tl, ← k4] at su3
              have hMay : TMay x57 x58 x59 x60 x64 := ⟨⟨hS, by omega, by omega, su3.1, by rw [← hM, k3]; exact su3.2⟩, by have q := r62; rw [hM] at q; exact q⟩
              refine ⟨⟨i24, i25, ⟨by omega, by omega⟩, ⟨by omega, by omega⟩, ⟨by omega, by omega⟩, hMay, by omega⟩, ?_⟩
              intro x65 e65 _ _ x66 e66 _ _ x67 e67 l67 g67 x68 e68 l68 g68 x69 e69 _ _ x70 e70
              refine ⟨fun _ => ?_, fun h => by omega⟩
              intro x71 e71 x72 e72
              subst e65 e66
              have m71 : inC x51 x71 := by rw [e71]; exact inC_snoc k6 r62
              have n71 : (x71.length : Int) = x72 := by rw [e71, List.length_append, List.length_singleton]; omega
              exact ⟨⟨by omega, by omega, by omega, by omega, by omega, by omega, by omega, by omega, by omega, by omega, inC_I (by omega) m71⟩, ⟨rfl, rfl, by omega, by rw [e72, ht, sumL_snoc, ← k4]; exact e68, n71, m71, by omega⟩, by show (x55 - x72).toNat < (x55 - x56).toNat; omega⟩
            · have k4' : x60 = sumL x28 := by rw [k4, List.take_of_length_le (by omega)]; exact j3'
              have k3' : x59 = (x28.length : Int) := by omega
              have hMay : TMay x57 x58 (x28.length : Int) (sumL x28) x31 := ⟨⟨hS, by omega, by omega, su.1, by rw [← hM]; exact su.2⟩, r31⟩
              have mg := tmay_rng hMay
              have n1 : IsI (x28.length : Int) := ⟨by omega, by omega⟩
              have n2 : IsI (sumL x28) := ⟨by omega, by omega⟩
              have n3 : IsI x31 := ⟨by omega, by omega⟩
              have j2' : x35 = sumL x28 := by omega
              have z12 : ((12 : Int) = 0) = False := by simp
              have z13 : ((0 : Int) = 12) = False := by simp
              subst k4' k3' j2' e32
              by_cases hm : (x28.length : Int) = 0
              · simp only [hMay, hm, i24, i25, n1, n2, n3, z12, z13, forall_eq, eq_self, ne_eq, f00, if_true, if_false, true_and, and_true, false_and, and_false, true_or, or_true, false_or, or_false, true_iff, iff_true, false_iff, iff_false, not_true_eq_false, not_false_eq_true, true_implies, false_implies, implies_true, forall_const, decide_true, decide_false, reduceCtorEq]
                rw [hm] at hMay n1
                exact ⟨n1, hMay⟩
              · obtain ⟨t1, t2, t3, t4, t5, t6, t7, t8, t9⟩ := tp_fin hMay hm
                have td : (pDen x57 x58 (x28.length : Int) < 1) = False := eq_false (by omega)
                have hpm : (if x57 = 5 then x58 else 1) = pMul x57 x58 := by unfold pMul; rw [if_neg (show ¬ x57 = 2 by omega)]
                simp only [hMay, hm, hpm, i24, i25, n1, n2, n3, z12, z13, t1, t2, t3, t4, t5, t6, t7, t8, t9, td, forall_eq, eq_self, ne_eq, f00, if_true, if_false, true_and, and_true, false_and, and_false, true_or, or_true, false_or, or_false, true_iff, iff_true, false_iff, iff_false, not_true_eq_false, not_false_eq_true, true_implies, false_implies, implies_true, forall_const, decide_true, decide_false, reduceCtorEq]
end Go.Proofs.Ytgnihomdpandfaa.X
