/-
  datumlaw15: BaseMean holds of every input: its contract.
-/
import Derived.Test.YtjbokdekofiihaaSxBsLoop
namespace Go.Proofs.Ytjbokdekofiihaa.X
open Go Go.SX
set_option linter.unusedVariables false
set_option linter.unusedSimpArgs false






def lbmn_sp : SpecSh := { args := [(.int .i64 (.z 0)), (.lst 0), (.int .i64 (.z 0)), (.int .i64 (.z 0))], res := (.bool .f), sh := [.b] }
set_option maxRecDepth 100000 in
def lbmn_tree : Tree :=
.lett (.rem (.v 0) (.z 10)) <|
.lett (.add (.v 4) (.z 10)) <|
.lett (.mod (.v 5) (.z 10)) <|
.lett (.add (.z 1) (.v 6)) <|
.loop [.l, .l] [.l (.nil), .l (.v 1)] <|
.lett (.len 9) <|
.ite (.cmp .le (.v 7) (.v 10)) (.lett (.rows 8) <|
.ite (.cmp .lt (.v 11) (.z 25)) (.letl (.sub 9 (.z 0) (.v 7)) <|
.lett (.len 12) <|
.loop [.i (some (0, 20)), .l] [.i (.z 0), .l (.nil)] <|
.ite (.cmp .lt (.v 14) (.v 13)) (.lett (.nth 12 (.v 14)) <|
.lett (.ite (.cmp .lt (.v 16) (.z (-1000000))) (.z (-1000000)) (.v 16)) <|
.lett (.ite (.cmp .lt (.z 1000000) (.v 17)) (.z 1000000) (.v 17)) <|
.lett (.len 15) <|
.ite (.cmp .le (.v 19) (.z 100000)) (.letl (.app 15 [.v 18]) <|
.lett (.add (.v 14) (.z 1)) <|
.again 1 [.i (.v 21), .l (.v 20)]) <|
.bad 113) <|
.all (.letl (.row1 15) <|
.lett (.rows 16) <|
.all (.letl (.cat 8 16) <|
.ite (.cmp .le (.v 7) (.v 10)) (.ite (.cmp .le (.v 10) (.v 10)) (.letl (.sub 9 (.v 7) (.v 10)) <|
.again 0 [.l (.v 18), .l (.v 19)]) <|
.bad 120) <|
.bad 121) <|
.ite (.cmp .le (.v 7) (.v 10)) (.ite (.cmp .le (.v 10) (.v 10)) (.letl (.sub 9 (.v 7) (.v 10)) <|
.letl (.cat 8 16) <|
.again 0 [.l (.v 19), .l (.v 18)]) <|
.bad 120) <|
.bad 121) <|
.ite (.cmp .le (.v 7) (.v 10)) (.ite (.cmp .le (.v 10) (.v 10)) (.letl (.sub 9 (.v 7) (.v 10)) <|
.letl (.row1 15) <|
.lett (.rows 17) <|
.letl (.cat 8 17) <|
.again 0 [.l (.v 19), .l (.v 16)]) <|
.bad 120) <|
.bad 121) <|
.lett (.mul (.v 7) (.z 1000000)) <|
.lett (.add (.v 12) (.z 1)) <|
.lett (.rem (.v 2) (.v 13)) <|
.lett (.mul (.v 7) (.z 1000000)) <|
.lett (.add (.v 15) (.z 1)) <|
.lett (.rem (.v 3) (.v 16)) <|
.call 11 [.i (some (1, 10)), .i (some (0, 0)), .i (some (0, 0)), .i (some (0, 0)), .i (some (0, 0)), .i (some (0, 0))] [.i (.v 7)] <|
.loop [.i (some (0, 30)), .i (some (0, 10)), .i (some (0, 25)), .i (some ((-1000000000), 1000000000)), .i (some (0, 100000000)), .i (some ((-1000000), 1000000))] [.i (.z 0), .i (.v 18), .i (.v 19), .i (.v 20), .i (.v 21), .i (.v 22)] <|
.ite (.cmp .lt (.v 24) (.v 11)) (.letl (.rowAt 8 (.v 24)) <|
.call 12 [.i (some (1, 10)), .i (some (1, 25)), .i (some ((-250000000), 250000000)), .i (some (0, 50000000)), .i (some ((-1000000), 1000000)), .i (some (0, 0))] [.i (.v 25), .i (.v 26), .i (.v 27), .i (.v 28), .i (.v 29), .l (.v 30)] <|
.lett (.add (.v 24) (.z 1)) <|
.again 1 [.i (.v 37), .i (.v 31), .i (.v 32), .i (.v 33), .i (.v 34), .i (.v 35)]) <|
.call 8 [.b] [] <|
.ite (.not (.v 30)) (.ret (.bool .f)) <|
.call 9 [.i (some ((-9223372036854775808), 9223372036854775807)), .i (some ((-9223372036854775808), 9223372036854775807)), .i (some ((-9223372036854775808), 9223372036854775807)), .i (some (0, 18446744073709551615)), .i (some (0, 18446744073709551615)), .i (some ((-9223372036854775808), 9223372036854775807))] [.i (.v 25), .i (.v 26), .i (.v 27), .i (.v 28), .i (.v 29), .i (.v 14)] <|
.call 9 [.i (some ((-9223372036854775808), 9223372036854775807)), .i (some ((-9223372036854775808), 9223372036854775807)), .i (some ((-9223372036854775808), 9223372036854775807)), .i (some (0, 18446744073709551615)), .i (some (0, 18446744073709551615)), .i (some ((-9223372036854775808), 9223372036854775807))] [.i (.v 25), .i (.v 26), .i (.v 27), .i (.v 28), .i (.v 29), .i (.v 17)] <|
.loop [.i (some (0, 30)), .i (some ((-250000000), 250000000))] [.i (.z 0), .i (.z 0)] <|
.ite (.cmp .lt (.v 43) (.v 11)) (.letl (.rowAt 8 (.v 43)) <|
.lett (.len 45) <|
.loop [.i (some (0, 20)), .i (some ((-250000000), 250000000))] [.i (.z 0), .i (.v 44)] <|
.ite (.cmp .lt (.v 47) (.v 46)) (.lett (.nth 45 (.v 47)) <|
.lett (.addw .i64 (.v 48) (.v 49)) <|
.lett (.add (.v 47) (.z 1)) <|
.again 3 [.i (.v 51), .i (.v 50)]) <|
.lett (.add (.v 43) (.z 1)) <|
.again 2 [.i (.v 49), .i (.v 48)]) <|
.ite (.not (.cmp .eq (.v 36) (.z 0))) (.ret (.bool .f)) <|
.ite (.not (.cmp .eq (.v 42) (.z 0))) (.ret (.bool .f)) <|
.ite (.not (.cmp .eq (.v 27) (.v 44))) (.ret (.bool .f)) <|
.ite (.cmp .lt (.v 32) (.z 1)) (.ret (.bool .f)) <|
.ite (.not (.cmp .eq (.v 32) (.v 38))) (.ret (.bool .f)) <|
.ite (.not (.cmp .eq (.v 31) (.v 37))) (.ret (.bool .f)) <|
.ite (.not (.and (.cmp .eq (.v 34) (.v 40)) (.cmp .eq (.v 35) (.v 41)))) (.ret (.bool .f)) <|
.lett (.addw .i64 (.v 31) (.v 33)) <|
.lett (.mulw .i64 (.v 45) (.v 7)) <|
.lett (.mulw .i64 (.v 14) (.v 32)) <|
.ite (.cmp .eq (.v 46) (.v 47)) (.lett (.mulw .i64 (.v 31) (.v 11)) <|
.lett (.mulw .i64 (.v 48) (.v 7)) <|
.lett (.mulw .i64 (.v 44) (.v 32)) <|
.ite (.cmp .eq (.v 49) (.v 50)) (.lett (.mul (.v 14) (.v 11)) <|
.ite (.eqv (.cmp .eq (.v 33) (.z 0)) (.cmp .eq (.v 51) (.v 44))) (.lett (.subw .i64 (.v 33) (.v 39)) <|
.lett (.mulw .i64 (.v 52) (.v 7)) <|
.lett (.sub (.v 14) (.v 17)) <|
.lett (.mulw .i64 (.v 54) (.v 32)) <|
.ret (.bool (.cmp .eq (.v 53) (.v 55)))) <|
.ret (.bool .f)) <|
.ret (.bool .f)) <|
.ret (.bool .f)) <|
.lett (.mul (.v 7) (.z 1000000)) <|
.lett (.add (.v 11) (.z 1)) <|
.lett (.rem (.v 2) (.v 12)) <|
.lett (.mul (.v 7) (.z 1000000)) <|
.lett (.add (.v 14) (.z 1)) <|
.lett (.rem (.v 3) (.v 15)) <|
.call 11 [.i (some (1, 10)), .i (some (0, 0)), .i (some (0, 0)), .i (some (0, 0)), .i (some (0, 0)), .i (some (0, 0))] [.i (.v 7)] <|
.lett (.rows 8) <|
.loop [.i (some (0, 30)), .i (some (0, 10)), .i (some (0, 25)), .i (some ((-1000000000), 1000000000)), .i (some (0, 100000000)), .i (some ((-1000000), 1000000))] [.i (.z 0), .i (.v 17), .i (.v 18), .i (.v 19), .i (.v 20), .i (.v 21)] <|
.ite (.cmp .lt (.v 24) (.v 23)) (.letl (.rowAt 8 (.v 24)) <|
.call 12 [.i (some (1, 10)), .i (some (1, 25)), .i (some ((-250000000), 250000000)), .i (some (0, 50000000)), .i (some ((-1000000), 1000000)), .i (some (0, 0))] [.i (.v 25), .i (.v 26), .i (.v 27), .i (.v 28), .i (.v 29), .l (.v 30)] <|
.lett (.add (.v 24) (.z 1)) <|
.again 1 [.i (.v 37), .i (.v 31), .i (.v 32), .i (.v 33), .i (.v 34), .i (.v 35)]) <|
.call 8 [.b] [] <|
.ite (.not (.v 30)) (.ret (.bool .f)) <|
.call 9 [.i (some ((-9223372036854775808), 9223372036854775807)), .i (some ((-9223372036854775808), 9223372036854775807)), .i (some ((-9223372036854775808), 9223372036854775807)), .i (some (0, 18446744073709551615)), .i (some (0, 18446744073709551615)), .i (some ((-9223372036854775808), 9223372036854775807))] [.i (.v 25), .i (.v 26), .i (.v 27), .i (.v 28), .i (.v 29), .i (.v 13)] <|
.call 9 [.i (some ((-9223372036854775808), 9223372036854775807)), .i (some ((-9223372036854775808), 9223372036854775807)), .i (some ((-9223372036854775808), 9223372036854775807)), .i (some (0, 18446744073709551615)), .i (some (0, 18446744073709551615)), .i (some ((-9223372036854775808), 9223372036854775807))] [.i (.v 25), .i (.v 26), .i (.v 27), .i (.v 28), .i (.v 29), .i (.v 16)] <|
.ite (.cmp .lt (.v 23) (.z 2)) (.ite (.cmp .eq (.v 36) (.z 12)) (.ite (.cmp .eq (.v 42) (.z 12)) (.ret (.bool (.and (.cmp .eq (.v 31) (.z 0)) (.and (.cmp .eq (.v 32) (.z 0)) (.and (.cmp .eq (.v 33) (.z 0)) (.and (.cmp .eq (.v 34) (.z 0)) (.cmp .eq (.v 35) (.z 0)))))))) <|
.ret (.bool .f)) <|
.ret (.bool .f)) <|
.loop [.i (some (0, 30)), .i (some ((-250000000), 250000000))] [.i (.z 0), .i (.z 0)] <|
.ite (.cmp .lt (.v 43) (.v 23)) (.letl (.rowAt 8 (.v 43)) <|
.lett (.len 45) <|
.loop [.i (some (0, 20)), .i (some ((-250000000), 250000000))] [.i (.z 0), .i (.v 44)] <|
.ite (.cmp .lt (.v 47) (.v 46)) (.lett (.nth 45 (.v 47)) <|
.lett (.addw .i64 (.v 48) (.v 49)) <|
.lett (.add (.v 47) (.z 1)) <|
.again 3 [.i (.v 51), .i (.v 50)]) <|
.lett (.add (.v 43) (.z 1)) <|
.again 2 [.i (.v 49), .i (.v 48)]) <|
.ite (.not (.cmp .eq (.v 36) (.z 0))) (.ret (.bool .f)) <|
.ite (.not (.cmp .eq (.v 42) (.z 0))) (.ret (.bool .f)) <|
.ite (.not (.cmp .eq (.v 27) (.v 44))) (.ret (.bool .f)) <|
.ite (.cmp .lt (.v 32) (.z 1)) (.ret (.bool .f)) <|
.ite (.not (.cmp .eq (.v 32) (.v 38))) (.ret (.bool .f)) <|
.ite (.not (.cmp .eq (.v 31) (.v 37))) (.ret (.bool .f)) <|
.ite (.not (.and (.cmp .eq (.v 34) (.v 40)) (.cmp .eq (.v 35) (.v 41)))) (.ret (.bool .f)) <|
.lett (.addw .i64 (.v 31) (.v 33)) <|
.lett (.mulw .i64 (.v 45) (.v 7)) <|
.lett (.mulw .i64 (.v 13) (.v 32)) <|
.ite (.cmp .eq (.v 46) (.v 47)) (.lett (.mulw .i64 (.v 31) (.v 23)) <|
.lett (.mulw .i64 (.v 48) (.v 7)) <|
.lett (.mulw .i64 (.v 44) (.v 32)) <|
.ite (.cmp .eq (.v 49) (.v 50)) (.lett (.mul (.v 13) (.v 23)) <|
.ite (.eqv (.cmp .eq (.v 33) (.z 0)) (.cmp .eq (.v 51) (.v 44))) (.lett (.subw .i64 (.v 33) (.v 39)) <|
.lett (.mulw .i64 (.v 52) (.v 7)) <|
.lett (.sub (.v 13) (.v 16)) <|
.lett (.mulw .i64 (.v 54) (.v 32)) <|
.ret (.bool (.cmp .eq (.v 53) (.v 55)))) <|
.ret (.bool .f)) <|
.ret (.bool .f)) <|
.ret (.bool .f)
noncomputable def lbmn_cx : Ctx := { tys := tys, fns := fns, mets := mets, sps := [(11, bnewn_sp), (12, btaken_sp), (9, bpoint_sp), (8, bal_sp)], anns := [((6, 3), { slots := [], cells := [], ivs := [], lsts := [8, 100001], elem := (1000000 + 22) }), ((6, 6), { slots := [30], cells := [], ivs := [some (0, 20)], lsts := [9], elem := 3 }), ((7, 5), { slots := [22], cells := [], ivs := [some (0, 30), some (0, 10), some (0, 25), some ((-1000000000), 1000000000), some (0, 100000000), some ((-1000000), 1000000)], pc := [(6, 0), (6, 1), (6, 2), (6, 3), (6, 4)] }), ((3, 12), { slots := [77, 16], cells := [], ivs := [some (0, 30), some ((-250000000), 250000000)] }), ((3, 15), { slots := [83, 16], cells := [], ivs := [some (0, 20), some ((-250000000), 250000000)] })], trys := [] }
def lbmn_ivs : List (Option (Int × Int)) := [some ((-9223372036854775808), 9223372036854775807), none, some ((-9223372036854775808), 9223372036854775807), some ((-9223372036854775808), 9223372036854775807)]
set_option maxRecDepth 100000 in
theorem lbmn_walk : runFn lbmn_cx 3000 3 Try.f3 lbmn_sp.args lbmn_ivs = lbmn_tree := by kernel_rfl
noncomputable def lbmn_M : Nat → SpecSem
  | 11 => bnewn_sem
  | 12 => btaken_sem
  | 9 => bpoint_sem
  | 8 => bal_sem
  | _ => noSem
theorem lbmn_M11 : lbmn_M 11 = bnewn_sem := rfl
theorem lbmn_M12 : lbmn_M 12 = btaken_sem := rfl
theorem lbmn_M9 : lbmn_M 9 = bpoint_sem := rfl
theorem lbmn_M8 : lbmn_M 8 = bal_sem := rfl
theorem lbmn_cxok : CxOK Try.prog lbmn_cx lbmn_M := ⟨tysOK, fnsOK, spCons bnewn_ok <| spCons btaken_ok <| spCons bpoint_ok <| spCons bal_ok <| fun _ _ h => spNil h, mixedOK, fun _ _ h => trNil h, fun _ _ h => atNil h, metsOK⟩
set_option maxRecDepth 100000 in
set_option maxHeartbeats 8000000 in
theorem lbmn_den (R RP : Value → Prop) (F : Ex → St → Js → Env → Prop) (x0 : Int) (x1 : List Int) (x2 : Int) (x3 : Int) : Tree.den lbmn_M R RP F lbmn_tree [] [(.i x0), (.l x1), (.i x2), (.i x3)] = (
  ∀ x4 : Int, x4 = (Int.tmod x0 (10 : Int)) →
∀ x5 : Int, x5 = (x4 + (10 : Int)) →
∀ x6 : Int, x6 = (x5 % (10 : Int)) →
∀ x7 : Int, x7 = ((1 : Int) + x6) →
∃ (I0 : List Cv → Prop) (mu0 : List Cv → Nat), Fits [.l, .l] [(.l (([] : List Int))), (.l (x1))] ∧ I0 [(.l (([] : List Int))), (.l (x1))] ∧ (
∀ x8 : List Int, InI x8 → ∀ x9 : List Int, InI x9 → I0 [.l x8, .l x9] →
∀ x10 : Int, x10 = ((List.length x9 : Int)) →
((Cmp.den .le x7 x10) = true → ∀ x11 : Int, x11 = ((List.length (dec x8) : Int)) →
((Cmp.den .lt x11 (25 : Int)) = true → ∀ x12 : List Int, x12 = (List.take (Int.toNat x7 - Int.toNat (0 : Int)) (List.drop (Int.toNat (0 : Int)) x9)) →
∀ x13 : Int, x13 = ((List.length x12 : Int)) →
∃ (I1 : List Cv → Prop) (mu1 : List Cv → Nat), Fits [.i (some ((0), (20))), .l] [(.i (0 : Int)), (.l (([] : List Int)))] ∧ I1 [(.i (0 : Int)), (.l (([] : List Int)))] ∧ (
∀ x14 : Int, (0 : Int) ≤ x14 → x14 ≤ (20 : Int) → ∀ x15 : List Int, InI x15 → I1 [.i x14, .l x15] →
((Cmp.den .lt x14 x13) = true → ∀ x16 : Int, x16 = (List.getD x12 (Int.toNat x14) 0) →
∀ x17 : Int, x17 = (if (Cmp.den .lt x16 (-1000000 : Int)) = true then (-1000000 : Int) else x16) →
∀ x18 : Int, x18 = (if (Cmp.den .lt (1000000 : Int) x17) = true then (1000000 : Int) else x17) →
∀ x19 : Int, x19 = ((List.length x15 : Int)) →
((Cmp.den .le x19 (100000 : Int)) = true → ∀ x20 : List Int, x20 = (x15 ++ ([x18] : List Int)) →
∀ x21 : Int, x21 = (x14 + (1 : Int)) →
Fits [.i (some ((0), (20))), .l] [(.i x21), (.l (x20))] ∧ I1 [(.i x21), (.l (x20))] ∧ mu1 [(.i x21), (.l (x20))] < mu1 [.i x14, .l x15]) ∧ ((Cmp.den .le x19 (100000 : Int)) = false → False)) ∧ ((Cmp.den .lt x14 x13) = false → (∀ x16 : List Int, x16 = ((List.length x15 : Int) :: x15) →
∀ x17 : Int, x17 = ((List.length (dec x16) : Int)) →
(∀ x18 : List Int, x18 = (x8 ++ x16) →
((Cmp.den .le x7 x10) = true → ((Cmp.den .le x10 x10) = true → ∀ x19 : List Int, x19 = (List.take (Int.toNat x10 - Int.toNat x7) (List.drop (Int.toNat x7) x9)) →
Fits [.l, .l] [(.l (x18)), (.l (x19))] ∧ I0 [(.l (x18)), (.l (x19))] ∧ mu0 [(.l (x18)), (.l (x19))] < mu0 [.l x8, .l x9]) ∧ ((Cmp.den .le x10 x10) = false → False)) ∧ ((Cmp.den .le x7 x10) = false → False)) ∧ (((Cmp.den .le x7 x10) = true → ((Cmp.den .le x10 x10) = true → ∀ x18 : List Int, x18 = (List.take (Int.toNat x10 - Int.toNat x7) (List.drop (Int.toNat x7) x9)) →
∀ x19 : List Int, x19 = (x8 ++ x16) →
Fits [.l, .l] [(.l (x19)), (.l (x18))] ∧ I0 [(.l (x19)), (.l (x18))] ∧ mu0 [(.l (x19)), (.l (x18))] < mu0 [.l x8, .l x9]) ∧ ((Cmp.den .le x10 x10) = false → False)) ∧ ((Cmp.den .le x7 x10) = false → False))) ∧ (((Cmp.den .le x7 x10) = true → ((Cmp.den .le x10 x10) = true → ∀ x16 : List Int, x16 = (List.take (Int.toNat x10 - Int.toNat x7) (List.drop (Int.toNat x7) x9)) →
∀ x17 : List Int, x17 = ((List.length x15 : Int) :: x15) →
∀ x18 : Int, x18 = ((List.length (dec x17) : Int)) →
∀ x19 : List Int, x19 = (x8 ++ x17) →
Fits [.l, .l] [(.l (x19)), (.l (x16))] ∧ I0 [(.l (x19)), (.l (x16))] ∧ mu0 [(.l (x19)), (.l (x16))] < mu0 [.l x8, .l x9]) ∧ ((Cmp.den .le x10 x10) = false → False)) ∧ ((Cmp.den .le x7 x10) = false → False))))) ∧ ((Cmp.den .lt x11 (25 : Int)) = false → ∀ x12 : Int, x12 = (x7 * (1000000 : Int)) →
∀ x13 : Int, x13 = (x12 + (1 : Int)) →
∀ x14 : Int, x14 = (Int.tmod x2 x13) →
∀ x15 : Int, x15 = (x7 * (1000000 : Int)) →
∀ x16 : Int, x16 = (x15 + (1 : Int)) →
∀ x17 : Int, x17 = (Int.tmod x3 x16) →
(bnewn_sem.pre [(.i x7)]) ∧ (
∀ x18 : Int, x18 = (Cv.int (Env.get (bnewn_sem.out [(.i x7)]) 0)) → (1 : Int) ≤ x18 → x18 ≤ (10 : Int) →
∀ x19 : Int, x19 = (Cv.int (Env.get (bnewn_sem.out [(.i x7)]) 1)) → (0 : Int) ≤ x19 → x19 ≤ (0 : Int) →
∀ x20 : Int, x20 = (Cv.int (Env.get (bnewn_sem.out [(.i x7)]) 2)) → (0 : Int) ≤ x20 → x20 ≤ (0 : Int) →
∀ x21 : Int, x21 = (Cv.int (Env.get (bnewn_sem.out [(.i x7)]) 3)) → (0 : Int) ≤ x21 → x21 ≤ (0 : Int) →
∀ x22 : Int, x22 = (Cv.int (Env.get (bnewn_sem.out [(.i x7)]) 4)) → (0 : Int) ≤ x22 → x22 ≤ (0 : Int) →
∀ x23 : Int, x23 = (Cv.int (Env.get (bnewn_sem.out [(.i x7)]) 5)) → (0 : Int) ≤ x23 → x23 ≤ (0 : Int) →
∃ (I1 : List Cv → Prop) (mu1 : List Cv → Nat), Fits [.i (some ((0), (30))), .i (some ((0), (10))), .i (some ((0), (25))), .i (some ((-1000000000), (1000000000))), .i (some ((0), (100000000))), .i (some ((-1000000), (1000000)))] [(.i (0 : Int)), (.i x18), (.i x19), (.i x20), (.i x21), (.i x22)] ∧ I1 [(.i (0 : Int)), (.i x18), (.i x19), (.i x20), (.i x21), (.i x22)] ∧ (
∀ x24 : Int, (0 : Int) ≤ x24 → x24 ≤ (30 : Int) → ∀ x25 : Int, (0 : Int) ≤ x25 → x25 ≤ (10 : Int) → ∀ x26 : Int, (0 : Int) ≤ x26 → x26 ≤ (25 : Int) → ∀ x27 : Int, (-1000000000 : Int) ≤ x27 → x27 ≤ (1000000000 : Int) → ∀ x28 : Int, (0 : Int) ≤ x28 → x28 ≤ (100000000 : Int) → ∀ x29 : Int, (-1000000 : Int) ≤ x29 → x29 ≤ (1000000 : Int) → I1 [.i x24, .i x25, .i x26, .i x27, .i x28, .i x29] →
((Cmp.den .lt x24 x11) = true → ∀ x30 : List Int, x30 = (List.getD (dec x8) (Int.toNat x24) []) →
(btaken_sem.pre [(.i x25), (.i x26), (.i x27), (.i x28), (.i x29), (.l (x30))]) ∧ (
∀ x31 : Int, x31 = (Cv.int (Env.get (btaken_sem.out [(.i x25), (.i x26), (.i x27), (.i x28), (.i x29), (.l (x30))]) 0)) → (1 : Int) ≤ x31 → x31 ≤ (10 : Int) →
∀ x32 : Int, x32 = (Cv.int (Env.get (btaken_sem.out [(.i x25), (.i x26), (.i x27), (.i x28), (.i x29), (.l (x30))]) 1)) → (1 : Int) ≤ x32 → x32 ≤ (25 : Int) →
∀ x33 : Int, x33 = (Cv.int (Env.get (btaken_sem.out [(.i x25), (.i x26), (.i x27), (.i x28), (.i x29), (.l (x30))]) 2)) → (-250000000 : Int) ≤ x33 → x33 ≤ (250000000 : Int) →
∀ x34 : Int, x34 = (Cv.int (Env.get (btaken_sem.out [(.i x25), (.i x26), (.i x27), (.i x28), (.i x29), (.l (x30))]) 3)) → (0 : Int) ≤ x34 → x34 ≤ (50000000 : Int) →
∀ x35 : Int, x35 = (Cv.int (Env.get (btaken_sem.out [(.i x25), (.i x26), (.i x27), (.i x28), (.i x29), (.l (x30))]) 4)) → (-1000000 : Int) ≤ x35 → x35 ≤ (1000000 : Int) →
∀ x36 : Int, x36 = (Cv.int (Env.get (btaken_sem.out [(.i x25), (.i x26), (.i x27), (.i x28), (.i x29), (.l (x30))]) 5)) → (0 : Int) ≤ x36 → x36 ≤ (0 : Int) →
∀ x37 : Int, x37 = (x24 + (1 : Int)) →
Fits [.i (some ((0), (30))), .i (some ((0), (10))), .i (some ((0), (25))), .i (some ((-1000000000), (1000000000))), .i (some ((0), (100000000))), .i (some ((-1000000), (1000000)))] [(.i x37), (.i x31), (.i x32), (.i x33), (.i x34), (.i x35)] ∧ I1 [(.i x37), (.i x31), (.i x32), (.i x33), (.i x34), (.i x35)] ∧ mu1 [(.i x37), (.i x31), (.i x32), (.i x33), (.i x34), (.i x35)] < mu1 [.i x24, .i x25, .i x26, .i x27, .i x28, .i x29])) ∧ ((Cmp.den .lt x24 x11) = false → (bal_sem.pre []) ∧ (
((!(Cv.bool (Env.get (bal_sem.out []) 0))) = true → R (Value.bool false)) ∧ ((!(Cv.bool (Env.get (bal_sem.out []) 0))) = false → (bpoint_sem.pre [(.i x25), (.i x26), (.i x27), (.i x28), (.i x29), (.i x14)]) ∧ (
∀ x31 : Int, x31 = (Cv.int (Env.get (bpoint_sem.out [(.i x25), (.i x26), (.i x27), (.i x28), (.i x29), (.i x14)]) 0)) → (-9223372036854775808 : Int) ≤ x31 → x31 ≤ (9223372036854775807 : Int) →
∀ x32 : Int, x32 = (Cv.int (Env.get (bpoint_sem.out [(.i x25), (.i x26), (.i x27), (.i x28), (.i x29), (.i x14)]) 1)) → (-9223372036854775808 : Int) ≤ x32 → x32 ≤ (9223372036854775807 : Int) →
∀ x33 : Int, x33 = (Cv.int (Env.get (bpoint_sem.out [(.i x25), (.i x26), (.i x27), (.i x28), (.i x29), (.i x14)]) 2)) → (-9223372036854775808 : Int) ≤ x33 → x33 ≤ (9223372036854775807 : Int) →
∀ x34 : Int, x34 = (Cv.int (Env.get (bpoint_sem.out [(.i x25), (.i x26), (.i x27), (.i x28), (.i x29), (.i x14)]) 3)) → (0 : Int) ≤ x34 → x34 ≤ (18446744073709551615 : Int) →
∀ x35 : Int, x35 = (Cv.int (Env.get (bpoint_sem.out [(.i x25), (.i x26), (.i x27), (.i x28), (.i x29), (.i x14)]) 4)) → (0 : Int) ≤ x35 → x35 ≤ (18446744073709551615 : Int) →
∀ x36 : Int, x36 = (Cv.int (Env.get (bpoint_sem.out [(.i x25), (.i x26), (.i x27), (.i x28), (.i x29), (.i x14)]) 5)) → (-9223372036854775808 : Int) ≤ x36 → x36 ≤ (9223372036854775807 : Int) →
(bpoint_sem.pre [(.i x25), (.i x26), (.i x27), (.i x28), (.i x29), (.i x17)]) ∧ (
∀ x37 : Int, x37 = (Cv.int (Env.get (bpoint_sem.out [(.i x25), (.i x26), (.i x27), (.i x28), (.i x29), (.i x17)]) 0)) → (-9223372036854775808 : Int) ≤ x37 → x37 ≤ (9223372036854775807 : Int) →
∀ x38 : Int, x38 = (Cv.int (Env.get (bpoint_sem.out [(.i x25), (.i x26), (.i x27), (.i x28), (.i x29), (.i x17)]) 1)) → (-9223372036854775808 : Int) ≤ x38 → x38 ≤ (9223372036854775807 : Int) →
∀ x39 : Int, x39 = (Cv.int (Env.get (bpoint_sem.out [(.i x25), (.i x26), (.i x27), (.i x28), (.i x29), (.i x17)]) 2)) → (-9223372036854775808 : Int) ≤ x39 → x39 ≤ (9223372036854775807 : Int) →
∀ x40 : Int, x40 = (Cv.int (Env.get (bpoint_sem.out [(.i x25), (.i x26), (.i x27), (.i x28), (.i x29), (.i x17)]) 3)) → (0 : Int) ≤ x40 → x40 ≤ (18446744073709551615 : Int) →
∀ x41 : Int, x41 = (Cv.int (Env.get (bpoint_sem.out [(.i x25), (.i x26), (.i x27), (.i x28), (.i x29), (.i x17)]) 4)) → (0 : Int) ≤ x41 → x41 ≤ (18446744073709551615 : Int) →
∀ x42 : Int, x42 = (Cv.int (Env.get (bpoint_sem.out [(.i x25), (.i x26), (.i x27), (.i x28), (.i x29), (.i x17)]) 5)) → (-9223372036854775808 : Int) ≤ x42 → x42 ≤ (9223372036854775807 : Int) →
∃ (I2 : List Cv → Prop) (mu2 : List Cv → Nat), Fits [.i (some ((0), (30))), .i (some ((-250000000), (250000000)))] [(.i (0 : Int)), (.i (0 : Int))] ∧ I2 [(.i (0 : Int)), (.i (0 : Int))] ∧ (
∀ x43 : Int, (0 : Int) ≤ x43 → x43 ≤ (30 : Int) → ∀ x44 : Int, (-250000000 : Int) ≤ x44 → x44 ≤ (250000000 : Int) → I2 [.i x43, .i x44] →
((Cmp.den .lt x43 x11) = true → ∀ x45 : List Int, x45 = (List.getD (dec x8) (Int.toNat x43) []) →
∀ x46 : Int, x46 = ((List.length x45 : Int)) →
∃ (I3 : List Cv → Prop) (mu3 : List Cv → Nat), Fits [.i (some ((0), (20))), .i (some ((-250000000), (250000000)))] [(.i (0 : Int)), (.i x44)] ∧ I3 [(.i (0 : Int)), (.i x44)] ∧ (
∀ x47 : Int, (0 : Int) ≤ x47 → x47 ≤ (20 : Int) → ∀ x48 : Int, (-250000000 : Int) ≤ x48 → x48 ≤ (250000000 : Int) → I3 [.i x47, .i x48] →
((Cmp.den .lt x47 x46) = true → ∀ x49 : Int, x49 = (List.getD x45 (Int.toNat x47) 0) →
∀ x50 : Int, x50 = (IntKind.i64.wrap (x48 + x49)) →
∀ x51 : Int, x51 = (x47 + (1 : Int)) →
Fits [.i (some ((0), (20))), .i (some ((-250000000), (250000000)))] [(.i x51), (.i x50)] ∧ I3 [(.i x51), (.i x50)] ∧ mu3 [(.i x51), (.i x50)] < mu3 [.i x47, .i x48]) ∧ ((Cmp.den .lt x47 x46) = false → ∀ x49 : Int, x49 = (x43 + (1 : Int)) →
Fits [.i (some ((0), (30))), .i (some ((-250000000), (250000000)))] [(.i x49), (.i x48)] ∧ I2 [(.i x49), (.i x48)] ∧ mu2 [(.i x49), (.i x48)] < mu2 [.i x43, .i x44]))) ∧ ((Cmp.den .lt x43 x11) = false → ((!(Cmp.den .eq x36 (0 : Int))) = true → R (Value.bool false)) ∧ ((!(Cmp.den .eq x36 (0 : Int))) = false → ((!(Cmp.den .eq x42 (0 : Int))) = true → R (Value.bool false)) ∧ ((!(Cmp.den .eq x42 (0 : Int))) = false → ((!(Cmp.den .eq x27 x44)) = true → R (Value.bool false)) ∧ ((!(Cmp.den .eq x27 x44)) = false → ((Cmp.den .lt x32 (1 : Int)) = true → R (Value.bool false)) ∧ ((Cmp.den .lt x32 (1 : Int)) = false → ((!(Cmp.den .eq x32 x38)) = true → R (Value.bool false)) ∧ ((!(Cmp.den .eq x32 x38)) = false → ((!(Cmp.den .eq x31 x37)) = true → R (Value.bool false)) ∧ ((!(Cmp.den .eq x31 x37)) = false → ((!((Cmp.den .eq x34 x40) && (Cmp.den .eq x35 x41))) = true → R (Value.bool false)) ∧ ((!((Cmp.den .eq x34 x40) && (Cmp.den .eq x35 x41))) = false → ∀ x45 : Int, x45 = (IntKind.i64.wrap (x31 + x33)) →
∀ x46 : Int, x46 = (IntKind.i64.wrap (x45 * x7)) →
∀ x47 : Int, x47 = (IntKind.i64.wrap (x14 * x32)) →
((Cmp.den .eq x46 x47) = true → ∀ x48 : Int, x48 = (IntKind.i64.wrap (x31 * x11)) →
∀ x49 : Int, x49 = (IntKind.i64.wrap (x48 * x7)) →
∀ x50 : Int, x50 = (IntKind.i64.wrap (x44 * x32)) →
((Cmp.den .eq x49 x50) = true → ∀ x51 : Int, x51 = (x14 * x11) →
(((Cmp.den .eq x33 (0 : Int)) == (Cmp.den .eq x51 x44)) = true → ∀ x52 : Int, x52 = (IntKind.i64.wrap (x33 - x39)) →
∀ x53 : Int, x53 = (IntKind.i64.wrap (x52 * x7)) →
∀ x54 : Int, x54 = (x14 - x17) →
∀ x55 : Int, x55 = (IntKind.i64.wrap (x54 * x32)) →
R (Value.bool (Cmp.den .eq x53 x55))) ∧ (((Cmp.den .eq x33 (0 : Int)) == (Cmp.den .eq x51 x44)) = false → R (Value.bool false))) ∧ ((Cmp.den .eq x49 x50) = false → R (Value.bool false))) ∧ ((Cmp.den .eq x46 x47) = false → R (Value.bool false)))))))))))))))))))) ∧ ((Cmp.den .le x7 x10) = false → ∀ x11 : Int, x11 = (x7 * (1000000 : Int)) →
∀ x12 : Int, x12 = (x11 + (1 : Int)) →
∀ x13 : Int, x13 = (Int.tmod x2 x12) →
∀ x14 : Int, x14 = (x7 * (1000000 : Int)) →
∀ x15 : Int, x15 = (x14 + (1 : Int)) →
∀ x16 : Int, x16 = (Int.tmod x3 x15) →
(bnewn_sem.pre [(.i x7)]) ∧ (
∀ x17 : Int, x17 = (Cv.int (Env.get (bnewn_sem.out [(.i x7)]) 0)) → (1 : Int) ≤ x17 → x17 ≤ (10 : Int) →
∀ x18 : Int, x18 = (Cv.int (Env.get (bnewn_sem.out [(.i x7)]) 1)) → (0 : Int) ≤ x18 → x18 ≤ (0 : Int) →
∀ x19 : Int, x19 = (Cv.int (Env.get (bnewn_sem.out [(.i x7)]) 2)) → (0 : Int) ≤ x19 → x19 ≤ (0 : Int) →
∀ x20 : Int, x20 = (Cv.int (Env.get (bnewn_sem.out [(.i x7)]) 3)) → (0 : Int) ≤ x20 → x20 ≤ (0 : Int) →
∀ x21 : Int, x21 = (Cv.int (Env.get (bnewn_sem.out [(.i x7)]) 4)) → (0 : Int) ≤ x21 → x21 ≤ (0 : Int) →
∀ x22 : Int, x22 = (Cv.int (Env.get (bnewn_sem.out [(.i x7)]) 5)) → (0 : Int) ≤ x22 → x22 ≤ (0 : Int) →
∀ x23 : Int, x23 = ((List.length (dec x8) : Int)) →
∃ (I1 : List Cv → Prop) (mu1 : List Cv → Nat), Fits [.i (some ((0), (30))), .i (some ((0), (10))), .i (some ((0), (25))), .i (some ((-1000000000), (1000000000))), .i (some ((0), (100000000))), .i (some ((-1000000), (1000000)))] [(.i (0 : Int)), (.i x17), (.i x18), (.i x19), (.i x20), (.i x21)] ∧ I1 [(.i (0 : Int)), (.i x17), (.i x18), (.i x19), (.i x20), (.i x21)] ∧ (
∀ x24 : Int, (0 : Int) ≤ x24 → x24 ≤ (30 : Int) → ∀ x25 : Int, (0 : Int) ≤ x25 → x25 ≤ (10 : Int) → ∀ x26 : Int, (0 : Int) ≤ x26 → x26 ≤ (25 : Int) → ∀ x27 : Int, (-1000000000 : Int) ≤ x27 → x27 ≤ (1000000000 : Int) → ∀ x28 : Int, (0 : Int) ≤ x28 → x28 ≤ (100000000 : Int) → ∀ x29 : Int, (-1000000 : Int) ≤ x29 → x29 ≤ (1000000 : Int) → I1 [.i x24, .i x25, .i x26, .i x27, .i x28, .i x29] →
((Cmp.den .lt x24 x23) = true → ∀ x30 : List Int, x30 = (List.getD (dec x8) (Int.toNat x24) []) →
(btaken_sem.pre [(.i x25), (.i x26), (.i x27), (.i x28), (.i x29), (.l (x30))]) ∧ (
∀ x31 : Int, x31 = (Cv.int (Env.get (btaken_sem.out [(.i x25), (.i x26), (.i x27), (.i x28), (.i x29), (.l (x30))]) 0)) → (1 : Int) ≤ x31 → x31 ≤ (10 : Int) →
∀ x32 : Int, x32 = (Cv.int (Env.get (btaken_sem.out [(.i x25), (.i x26), (.i x27), (.i x28), (.i x29), (.l (x30))]) 1)) → (1 : Int) ≤ x32 → x32 ≤ (25 : Int) →
∀ x33 : Int, x33 = (Cv.int (Env.get (btaken_sem.out [(.i x25), (.i x26), (.i x27), (.i x28), (.i x29), (.l (x30))]) 2)) → (-250000000 : Int) ≤ x33 → x33 ≤ (250000000 : Int) →
∀ x34 : Int, x34 = (Cv.int (Env.get (btaken_sem.out [(.i x25), (.i x26), (.i x27), (.i x28), (.i x29), (.l (x30))]) 3)) → (0 : Int) ≤ x34 → x34 ≤ (50000000 : Int) →
∀ x35 : Int, x35 = (Cv.int (Env.get (btaken_sem.out [(.i x25), (.i x26), (.i x27), (.i x28), (.i x29), (.l (x30))]) 4)) → (-1000000 : Int) ≤ x35 → x35 ≤ (1000000 : Int) →
∀ x36 : Int, x36 = (Cv.int (Env.get (btaken_sem.out [(.i x25), (.i x26), (.i x27), (.i x28), (.i x29), (.l (x30))]) 5)) → (0 : Int) ≤ x36 → x36 ≤ (0 : Int) →
∀ x37 : Int, x37 = (x24 + (1 : Int)) →
Fits [.i (some ((0), (30))), .i (some ((0), (10))), .i (some ((0), (25))), .i (some ((-1000000000), (1000000000))), .i (some ((0), (100000000))), .i (some ((-1000000), (1000000)))] [(.i x37), (.i x31), (.i x32), (.i x33), (.i x34), (.i x35)] ∧ I1 [(.i x37), (.i x31), (.i x32), (.i x33), (.i x34), (.i x35)] ∧ mu1 [(.i x37), (.i x31), (.i x32), (.i x33), (.i x34), (.i x35)] < mu1 [.i x24, .i x25, .i x26, .i x27, .i x28, .i x29])) ∧ ((Cmp.den .lt x24 x23) = false → (bal_sem.pre []) ∧ (
((!(Cv.bool (Env.get (bal_sem.out []) 0))) = true → R (Value.bool false)) ∧ ((!(Cv.bool (Env.get (bal_sem.out []) 0))) = false → (bpoint_sem.pre [(.i x25), (.i x26), (.i x27), (.i x28), (.i x29), (.i x13)]) ∧ (
∀ x31 : Int, x31 = (Cv.int (Env.get (bpoint_sem.out [(.i x25), (.i x26), (.i x27), (.i x28), (.i x29), (.i x13)]) 0)) → (-9223372036854775808 : Int) ≤ x31 → x31 ≤ (9223372036854775807 : Int) →
∀ x32 : Int, x32 = (Cv.int (Env.get (bpoint_sem.out [(.i x25), (.i x26), (.i x27), (.i x28), (.i x29), (.i x13)]) 1)) → (-9223372036854775808 : Int) ≤ x32 → x32 ≤ (9223372036854775807 : Int) →
∀ x33 : Int, x33 = (Cv.int (Env.get (bpoint_sem.out [(.i x25), (.i x26), (.i x27), (.i x28), (.i x29), (.i x13)]) 2)) → (-9223372036854775808 : Int) ≤ x33 → x33 ≤ (9223372036854775807 : Int) →
∀ x34 : Int, x34 = (Cv.int (Env.get (bpoint_sem.out [(.i x25), (.i x26), (.i x27), (.i x28), (.i x29), (.i x13)]) 3)) → (0 : Int) ≤ x34 → x34 ≤ (18446744073709551615 : Int) →
∀ x35 : Int, x35 = (Cv.int (Env.get (bpoint_sem.out [(.i x25), (.i x26), (.i x27), (.i x28), (.i x29), (.i x13)]) 4)) → (0 : Int) ≤ x35 → x35 ≤ (18446744073709551615 : Int) →
∀ x36 : Int, x36 = (Cv.int (Env.get (bpoint_sem.out [(.i x25), (.i x26), (.i x27), (.i x28), (.i x29), (.i x13)]) 5)) → (-9223372036854775808 : Int) ≤ x36 → x36 ≤ (9223372036854775807 : Int) →
(bpoint_sem.pre [(.i x25), (.i x26), (.i x27), (.i x28), (.i x29), (.i x16)]) ∧ (
∀ x37 : Int, x37 = (Cv.int (Env.get (bpoint_sem.out [(.i x25), (.i x26), (.i x27), (.i x28), (.i x29), (.i x16)]) 0)) → (-9223372036854775808 : Int) ≤ x37 → x37 ≤ (9223372036854775807 : Int) →
∀ x38 : Int, x38 = (Cv.int (Env.get (bpoint_sem.out [(.i x25), (.i x26), (.i x27), (.i x28), (.i x29), (.i x16)]) 1)) → (-9223372036854775808 : Int) ≤ x38 → x38 ≤ (9223372036854775807 : Int) →
∀ x39 : Int, x39 = (Cv.int (Env.get (bpoint_sem.out [(.i x25), (.i x26), (.i x27), (.i x28), (.i x29), (.i x16)]) 2)) → (-9223372036854775808 : Int) ≤ x39 → x39 ≤ (9223372036854775807 : Int) →
∀ x40 : Int, x40 = (Cv.int (Env.get (bpoint_sem.out [(.i x25), (.i x26), (.i x27), (.i x28), (.i x29), (.i x16)]) 3)) → (0 : Int) ≤ x40 → x40 ≤ (18446744073709551615 : Int) →
∀ x41 : Int, x41 = (Cv.int (Env.get (bpoint_sem.out [(.i x25), (.i x26), (.i x27), (.i x28), (.i x29), (.i x16)]) 4)) → (0 : Int) ≤ x41 → x41 ≤ (18446744073709551615 : Int) →
∀ x42 : Int, x42 = (Cv.int (Env.get (bpoint_sem.out [(.i x25), (.i x26), (.i x27), (.i x28), (.i x29), (.i x16)]) 5)) → (-9223372036854775808 : Int) ≤ x42 → x42 ≤ (9223372036854775807 : Int) →
((Cmp.den .lt x23 (2 : Int)) = true → ((Cmp.den .eq x36 (12 : Int)) = true → ((Cmp.den .eq x42 (12 : Int)) = true → R (Value.bool ((Cmp.den .eq x31 (0 : Int)) && ((Cmp.den .eq x32 (0 : Int)) && ((Cmp.den .eq x33 (0 : Int)) && ((Cmp.den .eq x34 (0 : Int)) && (Cmp.den .eq x35 (0 : Int)))))))) ∧ ((Cmp.den .eq x42 (12 : Int)) = false → R (Value.bool false))) ∧ ((Cmp.den .eq x36 (12 : Int)) = false → R (Value.bool false))) ∧ ((Cmp.den .lt x23 (2 : Int)) = false → ∃ (I2 : List Cv → Prop) (mu2 : List Cv → Nat), Fits [.i (some ((0), (30))), .i (some ((-250000000), (250000000)))] [(.i (0 : Int)), (.i (0 : Int))] ∧ I2 [(.i (0 : Int)), (.i (0 : Int))] ∧ (
∀ x43 : Int, (0 : Int) ≤ x43 → x43 ≤ (30 : Int) → ∀ x44 : Int, (-250000000 : Int) ≤ x44 → x44 ≤ (250000000 : Int) → I2 [.i x43, .i x44] →
((Cmp.den .lt x43 x23) = true → ∀ x45 : List Int, x45 = (List.getD (dec x8) (Int.toNat x43) []) →
∀ x46 : Int, x46 = ((List.length x45 : Int)) →
∃ (I3 : List Cv → Prop) (mu3 : List Cv → Nat), Fits [.i (some ((0), (20))), .i (some ((-250000000), (250000000)))] [(.i (0 : Int)), (.i x44)] ∧ I3 [(.i (0 : Int)), (.i x44)] ∧ (
∀ x47 : Int, (0 : Int) ≤ x47 → x47 ≤ (20 : Int) → ∀ x48 : Int, (-250000000 : Int) ≤ x48 → x48 ≤ (250000000 : Int) → I3 [.i x47, .i x48] →
((Cmp.den .lt x47 x46) = true → ∀ x49 : Int, x49 = (List.getD x45 (Int.toNat x47) 0) →
∀ x50 : Int, x50 = (IntKind.i64.wrap (x48 + x49)) →
∀ x51 : Int, x51 = (x47 + (1 : Int)) →
Fits [.i (some ((0), (20))), .i (some ((-250000000), (250000000)))] [(.i x51), (.i x50)] ∧ I3 [(.i x51), (.i x50)] ∧ mu3 [(.i x51), (.i x50)] < mu3 [.i x47, .i x48]) ∧ ((Cmp.den .lt x47 x46) = false → ∀ x49 : Int, x49 = (x43 + (1 : Int)) →
Fits [.i (some ((0), (30))), .i (some ((-250000000), (250000000)))] [(.i x49), (.i x48)] ∧ I2 [(.i x49), (.i x48)] ∧ mu2 [(.i x49), (.i x48)] < mu2 [.i x43, .i x44]))) ∧ ((Cmp.den .lt x43 x23) = false → ((!(Cmp.den .eq x36 (0 : Int))) = true → R (Value.bool false)) ∧ ((!(Cmp.den .eq x36 (0 : Int))) = false → ((!(Cmp.den .eq x42 (0 : Int))) = true → R (Value.bool false)) ∧ ((!(Cmp.den .eq x42 (0 : Int))) = false → ((!(Cmp.den .eq x27 x44)) = true → R (Value.bool false)) ∧ ((!(Cmp.den .eq x27 x44)) = false → ((Cmp.den .lt x32 (1 : Int)) = true → R (Value.bool false)) ∧ ((Cmp.den .lt x32 (1 : Int)) = false → ((!(Cmp.den .eq x32 x38)) = true → R (Value.bool false)) ∧ ((!(Cmp.den .eq x32 x38)) = false → ((!(Cmp.den .eq x31 x37)) = true → R (Value.bool false)) ∧ ((!(Cmp.den .eq x31 x37)) = false → ((!((Cmp.den .eq x34 x40) && (Cmp.den .eq x35 x41))) = true → R (Value.bool false)) ∧ ((!((Cmp.den .eq x34 x40) && (Cmp.den .eq x35 x41))) = false → ∀ x45 : Int, x45 = (IntKind.i64.wrap (x31 + x33)) →
∀ x46 : Int, x46 = (IntKind.i64.wrap (x45 * x7)) →
∀ x47 : Int, x47 = (IntKind.i64.wrap (x13 * x32)) →
((Cmp.den .eq x46 x47) = true → ∀ x48 : Int, x48 = (IntKind.i64.wrap (x31 * x23)) →
∀ x49 : Int, x49 = (IntKind.i64.wrap (x48 * x7)) →
∀ x50 : Int, x50 = (IntKind.i64.wrap (x44 * x32)) →
((Cmp.den .eq x49 x50) = true → ∀ x51 : Int, x51 = (x13 * x23) →
(((Cmp.den .eq x33 (0 : Int)) == (Cmp.den .eq x51 x44)) = true → ∀ x52 : Int, x52 = (IntKind.i64.wrap (x33 - x39)) →
∀ x53 : Int, x53 = (IntKind.i64.wrap (x52 * x7)) →
∀ x54 : Int, x54 = (x13 - x16) →
∀ x55 : Int, x55 = (IntKind.i64.wrap (x54 * x32)) →
R (Value.bool (Cmp.den .eq x53 x55))) ∧ (((Cmp.den .eq x33 (0 : Int)) == (Cmp.den .eq x51 x44)) = false → R (Value.bool false))) ∧ ((Cmp.den .eq x49 x50) = false → R (Value.bool false))) ∧ ((Cmp.den .eq x46 x47) = false → R (Value.bool false)))))))))))))))))))))) := by kernel_rfl

def lbmn_sem : SpecSem := { pre := fun cs => match cs with | [.i z, .l xs, .i s, .i t] => IsI z ∧ InI xs ∧ IsI s ∧ IsI t | _ => False, out := fun cs => match cs with | [.i z, .l xs, .i s, .i t] => [.b true] | _ => [] }
set_option maxRecDepth 10000 in
set_option maxHeartbeats 16000000 in
theorem lbmn_ok : SpecOK Try.prog 3 lbmn_sp lbmn_sem := by
  refine spec_of_tree lbmn_cxok Try.func3 (by kernel_rfl) (by kernel_rfl) lbmn_walk rfl ?_
  intro cs hpre
  match cs, hpre with
  | [.i z, .l xs, .i s, .i t], ⟨j_z, j_xs, j_s, j_t⟩ =>
    have h_z := j_z
    unfold IsI at h_z
    have h_s := j_s
    unfold IsI at h_s
    have h_t := j_t
    unfold IsI at h_t
    refine ⟨rfl, IvsB.ok (by simp only [lbmn_ivs, IvsB, Cv.int, and_true, j_xs, true_and] <;> omega), ?_, ?_⟩
    · simp only [lbmn_sem, lbmn_sp, Fits]
    · rw [lbmn_den]
      have hZ : 1 ≤ 1 + (z.tmod 10 + 10) % 10 ∧ 1 + (z.tmod 10 + 10) % 10 ≤ 10 := by omega
      have y2 : IsI (1 + (z.tmod 10 + 10) % 10) := ⟨by omega, by omega⟩
      simp only [lbmn_sem, lbmn_sp, bnewn_sem, btaken_sem, bpoint_sem, bal_sem, lbmn_den, bnewn_sem, btaken_sem, bpoint_sem, bal_sem, Tree.den, LE.den, Cv.list, placeA, List.getElem?_cons_zero, List.getElem?_cons_succ, IE.den, BE.den, At.den, CA.den, Env.get, Cv.int, Cv.bool, List.cons_append, List.nil_append, List.map_cons, List.map_nil, bindRes, bindEq, Fits, SV.den, denL, place, placeL, eq_t, eq_f, lt_t, lt_f, le_t, le_f, beq_iff_eq, beq_eq_false_iff_ne, ne_eq, reduceCtorEq, b_dec, decide_eq_true_eq, decide_eq_false_iff_not, Bool.not_eq_false', Bool.or_eq_true, Bool.or_eq_false_iff, Bool.and_eq_false_iff, true_iff, false_iff, Bool.false_eq_true, Bool.not_eq_true', Bool.and_eq_true, Bool.not_true, Bool.not_false, List.cons.injEq, Cv.i.injEq, Cv.b.injEq, and_true, true_and, agg_inj, tup_inj, Value.int.injEq, Value.bool.injEq, y2, if_true, Int.reduceLE, Int.reduceNeg, Int.reduceEq, Int.reduceToNat, List.drop_zero, Nat.sub_zero, forall_eq, eq_self, if_true, if_false, true_and, and_true, false_and, and_false, true_or, or_true, false_or, or_false, true_iff, iff_true, false_iff, iff_false, not_true_eq_false, not_false_eq_true, true_implies, false_implies, implies_true, forall_const, decide_true, decide_false, reduceCtorEq]
      generalize 1 + (z.tmod 10 + 10) % 10 = Z at hZ
      have hs1 := tm_rng (x := s) (m := Z * 1000000 + 1) (by omega)
      have ht1 := tm_rng (x := t) (m := Z * 1000000 + 1) (by omega)
      generalize s.tmod (Z * 1000000 + 1) = A at hs1
      generalize t.tmod (Z * 1000000 + 1) = B at ht1
      refine ⟨rowsI Z 1000000, rowsMu, ⟨InI.nil, j_xs⟩, ⟨[], rfl, RowsK.nil hZ⟩, ?_⟩
      intro x8 hx8 x9 hx9 hI
      obtain ⟨L, rfl, hL⟩ : ∃ L, x8 = enc L ∧ RowsK Z 1000000 L := hI
      simp only [dec_enc]
      refine join2 (fun c1 c2 => ?_) (fun c1 c2 => ?_) fun c1 => ?_
      · generalize hq : List.take Z.toNat x9 = q
        have hql : (q.length : Int) = Z := by rw [← hq, List.length_take]; omega
        refine ⟨rowI 1000000 q, rowMu q, InI.nil, ⟨by omega, rfl, fun x hx => by cases hx⟩, ?_⟩
        intro x14 b1 b2 x15 b3 hI
        obtain ⟨h1, h2, h3⟩ : (0 ≤ x14 ∧ x14 ≤ (q.length : Int)) ∧ (x15.length : Int) = x14 ∧ inK 1000000 x15 := hI
        refine ⟨fun k1 => ⟨fun k2 => ?_, fun k2 => by omega⟩, fun k1 => ?_⟩
        · have hc := @clamp_in 1000000 (q.getD x14.toNat 0) (by omega)
          generalize (if 1000000 < (if q.getD x14.toNat 0 < -1000000 then -1000000 else q.getD x14.toNat 0) then 1000000 else if q.getD x14.toNat 0 < -1000000 then -1000000 else q.getD x14.toNat 0) = y at hc
          have hp := inK_push h3 hc
          refine ⟨⟨by omega, by omega, inK_inI (by omega) hp⟩, ⟨by omega, by simp only [List.length_append, List.length_singleton]; omega, hp⟩, ?_⟩
          show ((q.length : Int) - (x14 + 1)).toNat < ((q.length : Int) - x14).toNat
          omega
        · have hl : (x15.length : Int) = Z := by omega
          have fin : (InI (enc L ++ (x15.length : Int) :: x15) ∧ InI (List.take ((x9.length : Int).toNat - Z.toNat) (List.drop Z.toNat x9))) ∧ rowsI Z 1000000 [Cv.l (enc L ++ (x15.length : Int) :: x15), Cv.l (List.take ((x9.length : Int).toNat - Z.toNat) (List.drop Z.toNat x9))] ∧ rowsMu [Cv.l (enc L ++ (x15.length : Int) :: x15), Cv.l (List.take ((x9.length : Int).toNat - Z.toNat) (List.drop Z.toNat x9))] < rowsMu [Cv.l (enc L), Cv.l x9] := by
            have hp := hL.push (by omega) hl h3
            rw [enc_push]
            refine ⟨⟨enc_inI (by omega) hp, InI.sub (xs := x9) hx9 _ _⟩, ⟨_, rfl, hp⟩, ?_⟩
            show (List.take _ _).length < x9.length
            rw [List.length_take, List.length_drop]; omega
          have one : (Z ≤ (x9.length : Int) → ((x9.length : Int) ≤ (x9.length : Int) → (InI (enc L ++ (x15.length : Int) :: x15) ∧ InI (List.take ((x9.length : Int).toNat - Z.toNat) (List.drop Z.toNat x9))) ∧ rowsI Z 1000000 [Cv.l (enc L ++ (x15.length : Int) :: x15), Cv.l (List.take ((x9.length : Int).toNat - Z.toNat) (List.drop Z.toNat x9))] ∧ rowsMu [Cv.l (enc L ++ (x15.length : Int) :: x15), Cv.l (List.take ((x9.length : Int).toNat - Z.toNat) (List.drop Z.toNat x9))] < rowsMu [Cv.l (enc L), Cv.l x9]) ∧ ((x9.length : Int) < (x9.length : Int) → False)) ∧ ((x9.length : Int) < Z → False) := ⟨fun _ => ⟨fun _ => fin, fun h => by omega⟩, fun h => by omega⟩
          exact ⟨⟨one, one⟩, one⟩
      all_goals
        have hOK := hL.ok (Int.le_refl _)
        refine ⟨hZ, fun _ _ => ?_⟩
        refine ⟨madeI Z L, madeMu L, by omega, ⟨by omega, rfl, rfl, rfl, rfl, rfl⟩, ?_⟩
        intro x26 b1 b2 x27 b3 b4 x28 b5 b6 x29 b7 b8 x30 b9 b10 x31 b11 b12 hI
        obtain ⟨hi, e1, e2, e3, e4, e5⟩ : (0 ≤ x26 ∧ x26 ≤ (L.length : Int)) ∧ x27 = Z ∧ x28 = x26 ∧ x29 = bSn L x26.toNat ∧ x30 = bRn Z L x26.toNat ∧ x31 = bLn L x26.toNat := hI
        subst e1; subst e2; subst e3; subst e4; subst e5
        refine ⟨fun k1 => ?_, fun k1 => ?_⟩
        · obtain ⟨s1, s2, s3, s4, s5⟩ := made_step hOK hi.1 k1
          have f1 := fold_ok hOK x28.toNat (by omega)
          have f2 := fold_ok hOK (x28 + 1).toNat (by omega)
          rw [show ((x28.toNat : Nat) : Int) = x28 by omega] at f1
          rw [show (((x28 + 1).toNat : Nat) : Int) = x28 + 1 by omega] at f2
          simp only [s2, s3, s4, s5, if_true, if_false, true_and, and_true, false_and, and_false, true_or, or_true, false_or, or_false, true_iff, iff_true, false_iff, iff_false, not_true_eq_false, not_false_eq_true, true_implies, false_implies, implies_true, forall_const, decide_true, decide_false, reduceCtorEq]
          refine ⟨⟨f1, f2⟩, ?_⟩
          have hf := made_fits hOK (i := x28 + 1) (by omega)
          intros
          refine ⟨by omega, ⟨by omega, rfl, rfl, rfl, rfl, rfl⟩, ?_⟩
          show ((L.length : Int) - (x28 + 1)).toNat < ((L.length : Int) - x28).toNat
          omega
        · have hm : x28 = (L.length : Int) := by omega
          have hB : BsOK x27 x28 (bSn L x28.toNat) (bRn x27 L x28.toNat) (bLn L x28.toNat) := by
            have := fold_ok hOK L.length (Nat.le_refl _)
            rw [hm, Int.toNat_natCast]; exact this
          have hS : bSn L x28.toNat = bSn L L.length := by rw [hm, Int.toNat_natCast]
          generalize bRn x27 L x28.toNat = R at *
          generalize bLn L x28.toNat = La at *
          have eE : ∀ x, -(x27 * 1000000) ≤ x → x ≤ x27 * 1000000 → bpE x27 x28 (bSn L x28.toNat) R La x = if x28 < 2 then 12 else 0 := fun x h1 h2 => by unfold bpE; rw [if_pos ⟨hB, h1, h2⟩]
          have eA := eE A (by omega) (by omega)
          have eB := eE B (by omega) (by omega)
          have pA := bp_rng hB (x := A) (by omega)
          have pB := bp_rng hB (x := B) (by omega)
          have iA : IsI A := ⟨by omega, by omega⟩
          have iB : IsI B := ⟨by omega, by omega⟩
          refine ⟨⟨⟨by omega, by omega⟩, ⟨by omega, by omega⟩, ⟨by omega, by omega⟩, ⟨by omega, by omega⟩, ⟨by omega, by omega⟩, iA⟩, ?_⟩
          iterate 12 intro _
          refine ⟨⟨⟨by omega, by omega⟩, ⟨by omega, by omega⟩, ⟨by omega, by omega⟩, ⟨by omega, by omega⟩, ⟨by omega, by omega⟩, iB⟩, ?_⟩
          iterate 12 intro _
          obtain h2 | h2 : x28 < 2 ∨ 2 ≤ x28 := by omega
          · rw [if_pos h2] at eA eB
            first
              | exact absurd c2 (by omega)
              | (refine ⟨fun _ => ?_, fun h => by omega⟩
                 simp only [eA, eB, Int.reduceEq, eq_self, and_self, if_true, if_false, true_and, and_true, false_and, and_false, true_or, or_true, false_or, or_false, true_iff, iff_true, false_iff, iff_false, not_true_eq_false, not_false_eq_true, true_implies, false_implies, implies_true, forall_const, decide_true, decide_false, reduceCtorEq])
          · rw [if_neg (show ¬ x28 < 2 by omega)] at eA eB
            try refine ⟨fun h => absurd h (by omega), fun _ => ?_⟩
            have hN : 1 ≤ bpN x27 x28 := by
              unfold bpN
              split
              · have h1 : 1 * 1 ≤ (x28 - 1) * x28 := Int.mul_le_mul (by omega) (by omega) (by omega) (by omega)
                rw [Int.mul_assoc]; omega
              · have h1 : 1 * 1 ≤ x28 * x27 := Int.mul_le_mul (by omega) (by omega) (by omega) (by omega)
                rw [Int.mul_assoc]; omega
            have m1 := mean_pt x27 x28 (bSn L x28.toNat) A (by omega)
            have m2 := mean_sum x27 x28 (bSn L x28.toNat)
            have m3 := mean_zero (z := x27) (m := x28) (s := bSn L x28.toNat) (x := A) h2
            have m4 := mean_diff x27 x28 (bSn L x28.toNat) A B
            have w1 : IntKind.i64.wrap (bpC x27 x28 (bSn L x28.toNat) + bpD x27 x28 (bSn L x28.toNat) A) = bpC x27 x28 (bSn L x28.toNat) + bpD x27 x28 (bSn L x28.toNat) A := w64 (by omega) (by omega)
            have w2 : IntKind.i64.wrap (bpD x27 x28 (bSn L x28.toNat) A - bpD x27 x28 (bSn L x28.toNat) B) = bpD x27 x28 (bSn L x28.toNat) A - bpD x27 x28 (bSn L x28.toNat) B := w64 (by omega) (by omega)
            have w3 : IntKind.i64.wrap (bpC x27 x28 (bSn L x28.toNat) * x28) = bpC x27 x28 (bSn L x28.toNat) * x28 := by
              have g1 : bpC x27 x28 (bSn L x28.toNat) * x28 ≤ 100000000000000000 * x28 := Int.mul_le_mul_of_nonneg_right (by omega) (by omega)
              have g2 : -100000000000000000 * x28 ≤ bpC x27 x28 (bSn L x28.toNat) * x28 := Int.mul_le_mul_of_nonneg_right (by omega) (by omega)
              exact w64 (by omega) (by omega)
            have hdec : Cmp.den .eq (bpD x27 x28 (bSn L x28.toNat) A) 0 = Cmp.den .eq (A * x28) (bSn L x28.toNat) := by
              simp only [Cmp.den, decide_eq_decide]; exact m3
            rw [← hm]
            simp only [eA, eB, if_true, eq_self, not_true_eq_false, ne_eq, or_self, if_true, if_false, true_and, and_true, false_and, and_false, true_or, or_true, false_or, or_false, true_iff, iff_true, false_iff, iff_false, not_true_eq_false, not_false_eq_true, true_implies, false_implies, implies_true, forall_const, decide_true, decide_false, reduceCtorEq]
            refine ⟨sumI L, sumMu L, ⟨by omega, rfl⟩, ?_⟩
            intro x43 d1 d2 x44 d3 d4 hI
            obtain ⟨hj, q1⟩ : (0 ≤ x43 ∧ x43 ≤ (L.length : Int)) ∧ x44 = bSn L x43.toNat := hI
            refine ⟨fun k2 => ?_, fun k2 => ?_⟩
            · have hrow := hL.2.2 _ (getD_row (show x43.toNat < L.length by omega))
              have hb := bSn_rng hOK x43.toNat (by omega)
              refine ⟨sumI1 x44 (L.getD x43.toNat []), sumMu1 (L.getD x43.toNat []), ⟨by omega, by omega⟩, ⟨by omega, by simp [sumL]⟩, ?_⟩
              intro x47 d5 d6 x48 d7 d8 hI
              obtain ⟨hk, q2⟩ : (0 ≤ x47 ∧ x47 ≤ ((L.getD x43.toNat []).length : Int)) ∧ x48 = x44 + sumL ((L.getD x43.toNat []).take x47.toNat) := hI
              refine ⟨fun k3 => ?_, fun k3 => ?_⟩
              · have p1 := part_rng hOK hj.1 (show x43 < (L.length : Int) by omega) (k := x47 + 1) (by omega) (by omega)
                rw [sum_take hk.1 k3] at p1
                have e : IntKind.i64.wrap (x48 + (L.getD x43.toNat []).getD x47.toNat 0) = x48 + (L.getD x43.toNat []).getD x47.toNat 0 := w64 (by omega) (by omega)
                rw [e]
                refine ⟨by omega, ⟨by omega, by rw [sum_take hk.1 k3]; omega⟩, ?_⟩
                show (((L.getD x43.toNat []).length : Int) - (x47 + 1)).toNat < (((L.getD x43.toNat []).length : Int) - x47).toNat
                omega
              · refine ⟨by omega, ⟨by omega, ?_⟩, ?_⟩
                · rw [q2, List.take_of_length_le (by omega), q1, show (x43 + 1).toNat = x43.toNat + 1 by omega]; rfl
                · show ((L.length : Int) - (x43 + 1)).toNat < ((L.length : Int) - x43).toNat
                  omega
            · have e : x44 = bSn L x28.toNat := by rw [q1, hm, show x43 = (L.length : Int) by omega]
              subst e
              simp only [w1, w2, w3, m1, m2, m4, hdec, not_true_eq_false, if_true, if_false, true_and, and_true, false_and, and_false, true_or, or_true, false_or, or_false, true_iff, iff_true, false_iff, iff_false, not_true_eq_false, not_false_eq_true, true_implies, false_implies, implies_true, forall_const, decide_true, decide_false, reduceCtorEq]
              repeat' (first | intro _ | refine And.intro ?_ ?_)
              all_goals omega
end Go.Proofs.Ytjbokdekofiihaa.X
