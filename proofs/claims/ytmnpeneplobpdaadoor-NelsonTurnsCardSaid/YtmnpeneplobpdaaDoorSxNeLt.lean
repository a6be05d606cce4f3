/-
  NelsonTurns holds of every input.
-/
import Derived.Test.YtmnpeneplobpdaaDoorSxNeTu
namespace Go.Proofs.YtmnpeneplobpdaaDoor.X
open Go Go.SX Go.RowKit
set_option linter.unusedVariables false
set_option linter.unusedSimpArgs false










def lntu_sp : SpecSh := { args := [(.lst 0), (.lst 0)], res := (.bool .f), sh := [.b] }
set_option maxRecDepth 100000 in
def lntu_tree : Tree :=
.lett (.len 0) <|
.lett (.ite (.cmp .lt (.z 15) (.v 2)) (.z 15) (.v 2)) <|
.ite (.cmp .le (.v 3) (.v 2)) (.letl (.sub 0 (.z 0) (.v 3)) <|
.lett (.len 4) <|
.loop [.i (some (0, 15)), .l, .l] [.i (.z 0), .l (.nil), .l (.nil)] <|
.ite (.cmp .lt (.v 6) (.v 5)) (.lett (.nth 4 (.v 6)) <|
.lett (.rem (.v 9) (.z 511)) <|
.lett (.add (.v 10) (.z 511)) <|
.lett (.mod (.v 11) (.z 511)) <|
.lett (.add (.z 1) (.v 12)) <|
.loop [.i (some ((-4), 5)), .l] [.i (.z (-4)), .l (.nil)] <|
.ite (.cmp .le (.v 14) (.z 4)) (.call 22 [.b] [.i (.v 13), .i (.v 14)] <|
.ite (.v 16) (.lett (.len 15) <|
.ite (.cmp .le (.v 17) (.z 100000)) (.letl (.app 15 [.v 14]) <|
.lett (.add (.v 14) (.z 1)) <|
.again 1 [.i (.v 19), .l (.v 18)]) <|
.bad 113) <|
.lett (.add (.v 14) (.z 1)) <|
.again 1 [.i (.v 17), .l (.v 15)]) <|
.lett (.len 15) <|
.ite (.cmp .lt (.z 0) (.v 16)) (.lett (.nth 15 (.z 0)) <|
.all (.all (.lett (.len 7) <|
.ite (.cmp .le (.v 18) (.z 100000)) (.letl (.app 7 [.v 13]) <|
.lett (.len 8) <|
.ite (.cmp .le (.v 20) (.z 100000)) (.letl (.app 8 [.v 17]) <|
.lett (.add (.v 6) (.z 1)) <|
.again 0 [.i (.v 22), .l (.v 19), .l (.v 21)]) <|
.bad 113) <|
.bad 113) <|
.lett (.len 7) <|
.ite (.cmp .le (.v 18) (.z 100000)) (.letl (.app 7 [.v 13]) <|
.lett (.len 8) <|
.ite (.cmp .le (.v 20) (.z 100000)) (.letl (.app 8 [.v 17]) <|
.lett (.add (.v 6) (.z 1)) <|
.again 0 [.i (.v 22), .l (.v 19), .l (.v 21)]) <|
.bad 113) <|
.bad 113) <|
.lett (.len 7) <|
.ite (.cmp .le (.v 18) (.z 100000)) (.letl (.app 7 [.v 13]) <|
.lett (.len 8) <|
.ite (.cmp .le (.v 20) (.z 100000)) (.letl (.app 8 [.v 17]) <|
.lett (.add (.v 6) (.z 1)) <|
.again 0 [.i (.v 22), .l (.v 19), .l (.v 21)]) <|
.bad 113) <|
.bad 113) <|
.bad 35) <|
.lett (.len 7) <|
.loop [.i (some (0, 15)), .l] [.i (.z 0), .l (.nil)] <|
.ite (.cmp .lt (.v 10) (.v 9)) (.lett (.nth 7 (.v 10)) <|
.loop [.i (some ((-4), 5)), .i (some (0, 511))] [.i (.z (-4)), .i (.z 0)] <|
.ite (.cmp .le (.v 13) (.z 4)) (.call 22 [.b] [.i (.v 12), .i (.v 13)] <|
.ite (.v 15) (.lett (.sub (.z 4) (.v 13)) <|
.lett (.shl .i64 (.z 1) (.v 16)) <|
.lett (.addw .i64 (.v 14) (.v 17)) <|
.lett (.add (.v 13) (.z 1)) <|
.again 2 [.i (.v 19), .i (.v 18)]) <|
.lett (.add (.v 13) (.z 1)) <|
.again 2 [.i (.v 16), .i (.v 14)]) <|
.lett (.len 11) <|
.ite (.cmp .le (.v 15) (.z 100000)) (.letl (.app 11 [.v 14]) <|
.lett (.add (.v 10) (.z 1)) <|
.again 1 [.i (.v 17), .l (.v 16)]) <|
.bad 113) <|
.call 14 [.i (some (0, 2)), .i (some (0, 2)), .i (some (0, 2)), .i (some (0, 2)), .i (some (0, 2)), .i (some (0, 2)), .i (some (0, 2)), .i (some (0, 2)), .i (some (0, 1))] [.l (.v 7)] <|
.call 14 [.i (some (0, 2)), .i (some (0, 2)), .i (some (0, 2)), .i (some (0, 2)), .i (some (0, 2)), .i (some (0, 2)), .i (some (0, 2)), .i (some (0, 2)), .i (some (0, 1))] [.l (.v 11)] <|
.ite (.not (.cmp .eq (.v 20) (.z 0))) (.ret (.bool .f)) <|
.ite (.not (.cmp .eq (.v 29) (.z 0))) (.ret (.bool .f)) <|
.ite (.not (.and (.cmp .eq (.v 12) (.v 21)) (.and (.cmp .eq (.v 13) (.v 22)) (.and (.cmp .eq (.v 14) (.v 23)) (.and (.cmp .eq (.v 15) (.v 24)) (.and (.cmp .eq (.v 16) (.v 25)) (.and (.cmp .eq (.v 17) (.v 26)) (.and (.cmp .eq (.v 18) (.v 27)) (.cmp .eq (.v 19) (.v 28)))))))))) (.ret (.bool .f)) <|
.call 11 [.b] [] <|
.ite (.not (.v 30)) (.ret (.bool .f)) <|
.lett (.len 1) <|
.lett (.ite (.cmp .lt (.z 15) (.v 31)) (.z 15) (.v 31)) <|
.ite (.cmp .le (.v 32) (.v 31)) (.letl (.sub 1 (.z 0) (.v 32)) <|
.lett (.len 33) <|
.loop [.i (some (0, 15)), .l, .l] [.i (.z 0), .l (.nil), .l (.nil)] <|
.ite (.cmp .lt (.v 35) (.v 34)) (.lett (.nth 33 (.v 35)) <|
.lett (.rem (.v 38) (.z 511)) <|
.lett (.add (.v 39) (.z 511)) <|
.lett (.mod (.v 40) (.z 511)) <|
.lett (.add (.z 1) (.v 41)) <|
.loop [.i (some ((-4), 5)), .l] [.i (.z (-4)), .l (.nil)] <|
.ite (.cmp .le (.v 43) (.z 4)) (.call 22 [.b] [.i (.v 42), .i (.v 43)] <|
.ite (.v 45) (.lett (.len 44) <|
.ite (.cmp .le (.v 46) (.z 100000)) (.letl (.app 44 [.v 43]) <|
.lett (.add (.v 43) (.z 1)) <|
.again 3 [.i (.v 48), .l (.v 47)]) <|
.bad 113) <|
.lett (.add (.v 43) (.z 1)) <|
.again 3 [.i (.v 46), .l (.v 44)]) <|
.lett (.len 44) <|
.ite (.cmp .lt (.z 0) (.v 45)) (.lett (.nth 44 (.z 0)) <|
.all (.all (.lett (.len 36) <|
.ite (.cmp .le (.v 47) (.z 100000)) (.letl (.app 36 [.v 42]) <|
.lett (.len 37) <|
.ite (.cmp .le (.v 49) (.z 100000)) (.letl (.app 37 [.v 46]) <|
.lett (.add (.v 35) (.z 1)) <|
.again 2 [.i (.v 51), .l (.v 48), .l (.v 50)]) <|
.bad 113) <|
.bad 113) <|
.lett (.len 36) <|
.ite (.cmp .le (.v 47) (.z 100000)) (.letl (.app 36 [.v 42]) <|
.lett (.len 37) <|
.ite (.cmp .le (.v 49) (.z 100000)) (.letl (.app 37 [.v 46]) <|
.lett (.add (.v 35) (.z 1)) <|
.again 2 [.i (.v 51), .l (.v 48), .l (.v 50)]) <|
.bad 113) <|
.bad 113) <|
.lett (.len 36) <|
.ite (.cmp .le (.v 47) (.z 100000)) (.letl (.app 36 [.v 42]) <|
.lett (.len 37) <|
.ite (.cmp .le (.v 49) (.z 100000)) (.letl (.app 37 [.v 46]) <|
.lett (.add (.v 35) (.z 1)) <|
.again 2 [.i (.v 51), .l (.v 48), .l (.v 50)]) <|
.bad 113) <|
.bad 113) <|
.bad 35) <|
.loop [.i (some (0, 15)), .l] [.i (.z 0), .l (.v 36)] <|
.ite (.cmp .lt (.v 38) (.v 9)) (.lett (.nth 7 (.v 38)) <|
.call 24 [.b] [.l (.v 39)] <|
.ite (.not (.v 41)) (.ret (.bool .f)) <|
.call 24 [.b] [.l (.lit [.v 40])] <|
.ite (.not (.v 42)) (.ret (.bool .f)) <|
.call 27 [.l] [.l (.v 39)] <|
.lett (.len 43) <|
.ite (.cmp .le (.v 44) (.z 100000)) (.letl (.app 43 [.v 40]) <|
.lett (.len 45) <|
.lett (.sub (.v 46) (.z 15)) <|
.lett (.ite (.cmp .lt (.z 0) (.v 47)) (.v 47) (.z 0)) <|
.ite (.cmp .le (.v 48) (.v 46)) (.ite (.cmp .le (.v 46) (.v 46)) (.letl (.sub 45 (.v 48) (.v 46)) <|
.lett (.len 49) <|
.lett (.len 39) <|
.lett (.addw .i64 (.v 51) (.z 1)) <|
.lett (.ite (.cmp .lt (.z 15) (.v 52)) (.z 15) (.v 52)) <|
.ite (.not (.cmp .eq (.v 50) (.v 53))) (.ret (.bool .f)) <|
.lett (.add (.v 38) (.z 1)) <|
.again 3 [.i (.v 54), .l (.v 49)]) <|
.bad 120) <|
.bad 121) <|
.bad 113) <|
.call 14 [.i (some (0, 2)), .i (some (0, 2)), .i (some (0, 2)), .i (some (0, 2)), .i (some (0, 2)), .i (some (0, 2)), .i (some (0, 2)), .i (some (0, 2)), .i (some (0, 1))] [.l (.v 39)] <|
.ite (.not (.cmp .eq (.v 48) (.z 0))) (.ret (.bool .f)) <|
.loop [.i (some (0, 8))] [.i (.z 0)] <|
.ite (.cmp .lt (.v 49) (.z 8)) (.ite (.cmp .le (.v 49) (.z 0)) (.ite (.cmp .le (.z 1) (.v 9)) (.ite (.not (.cmp .eq (.v 40) (.v 12))) (.ret (.bool .f)) <|
.again 4 [.i (.z 1)]) <|
.ite (.not (.cmp .eq (.v 12) (.z 0))) (.ret (.bool .f)) <|
.again 4 [.i (.z 1)]) <|
.ite (.cmp .le (.v 49) (.z 1)) (.ite (.cmp .le (.z 9) (.v 9)) (.ite (.not (.cmp .eq (.v 41) (.v 13))) (.ret (.bool .f)) <|
.again 4 [.i (.z 2)]) <|
.ite (.not (.cmp .eq (.v 13) (.z 0))) (.ret (.bool .f)) <|
.again 4 [.i (.z 2)]) <|
.ite (.cmp .le (.v 49) (.z 2)) (.ite (.cmp .le (.z 6) (.v 9)) (.ite (.not (.cmp .eq (.v 42) (.v 14))) (.ret (.bool .f)) <|
.again 4 [.i (.z 3)]) <|
.ite (.not (.cmp .eq (.v 14) (.z 0))) (.ret (.bool .f)) <|
.again 4 [.i (.z 3)]) <|
.ite (.cmp .le (.v 49) (.z 3)) (.ite (.cmp .le (.z 14) (.v 9)) (.ite (.not (.cmp .eq (.v 43) (.v 15))) (.ret (.bool .f)) <|
.again 4 [.i (.z 4)]) <|
.ite (.not (.cmp .eq (.v 15) (.z 0))) (.ret (.bool .f)) <|
.again 4 [.i (.z 4)]) <|
.ite (.cmp .le (.v 49) (.z 4)) (.ite (.cmp .le (.z 3) (.v 9)) (.ite (.not (.cmp .eq (.v 44) (.v 16))) (.ret (.bool .f)) <|
.again 4 [.i (.z 5)]) <|
.ite (.not (.cmp .eq (.v 16) (.z 0))) (.ret (.bool .f)) <|
.again 4 [.i (.z 5)]) <|
.ite (.cmp .le (.v 49) (.z 5)) (.ite (.cmp .le (.z 5) (.v 9)) (.ite (.not (.cmp .eq (.v 45) (.v 17))) (.ret (.bool .f)) <|
.again 4 [.i (.z 6)]) <|
.ite (.not (.cmp .eq (.v 17) (.z 0))) (.ret (.bool .f)) <|
.again 4 [.i (.z 6)]) <|
.ite (.cmp .le (.v 49) (.z 6)) (.ite (.cmp .le (.z 15) (.v 9)) (.ite (.not (.cmp .eq (.v 46) (.v 18))) (.ret (.bool .f)) <|
.again 4 [.i (.z 7)]) <|
.ite (.not (.cmp .eq (.v 18) (.z 0))) (.ret (.bool .f)) <|
.again 4 [.i (.z 7)]) <|
.ite (.cmp .le (.z 8) (.v 9)) (.ite (.not (.cmp .eq (.v 47) (.v 19))) (.ret (.bool .f)) <|
.again 4 [.i (.z 8)]) <|
.ite (.not (.cmp .eq (.v 19) (.z 0))) (.ret (.bool .f)) <|
.again 4 [.i (.z 8)]) <|
.ret (.bool .t)) <|
.bad 120) <|
.bad 120
noncomputable def lntu_cx : Ctx := { tys := tys, fns := fns, mets := mets, sps := [(14, ntell_sp), (24, nmay_sp), (11, nal_sp), (22, r13has_sp)], anns := [((13, 3), { slots := [18], cells := [], ivs := [some (0, 15)], lsts := [6, 7], elem := 3 }), ((23, 3), { slots := [4], cells := [], ivs := [some ((-4), 5)], lsts := [3], elem := 3 }), ((7, 4), { slots := [33], cells := [], ivs := [some (0, 15)], lsts := [7], elem := 3 }), ((7, 8), { slots := [11, 10], cells := [], ivs := [some ((-4), 5), some (0, 511)] }), ((7, 20), { slots := [86], cells := [], ivs := [some (0, 15)], lsts := [100016], elem := 3, pz := [16] }), ((7, 31), { slots := [117], cells := [], ivs := [some (0, 8)] })], trys := [], lss := [(27, clone_ls)] }
def lntu_ivs : List (Option (Int × Int)) := [none, none]
set_option maxRecDepth 100000 in
theorem lntu_walk : runFn lntu_cx 3000 7 Tryd.f7 lntu_sp.args lntu_ivs = lntu_tree := by kernel_rfl
noncomputable def lntu_M : Nat → SpecSem
  | 14 => ntell_sem
  | 24 => nmay_sem
  | 11 => nal_sem
  | 22 => r13has_sem
  | 27 => clone_sem
  | _ => noSem
theorem lntu_M14 : lntu_M 14 = ntell_sem := rfl
theorem lntu_M24 : lntu_M 24 = nmay_sem := rfl
theorem lntu_M11 : lntu_M 11 = nal_sem := rfl
theorem lntu_M22 : lntu_M 22 = r13has_sem := rfl
theorem lntu_M27 : lntu_M 27 = clone_sem := rfl
theorem lntu_cxok : CxOK Tryd.prog lntu_cx lntu_M tzG := ⟨tysOK, fnsOK, spCons ntell_ok <| spCons nmay_ok <| spCons nal_ok <| spCons r13has_ok <| fun _ _ h => spNil h, mixedOK, fun _ _ h => trNil h, fun _ _ h => atNil h, metsOK, fun _ _ h => efNil h, lsCons clone_ok <| fun _ _ h => lsNil h⟩
set_option maxRecDepth 100000 in
set_option maxHeartbeats 8000000 in
theorem lntu_den (R RP : Value → Prop) (F : Ex → St → Js → Env → Prop) (x0 : List Int) (x1 : List Int) : Tree.den lntu_M R RP F lntu_tree [] [(.l x0), (.l x1)] = (
  ∀ x2 : Int, x2 = ((List.length x0 : Int)) →
∀ x3 : Int, x3 = (if (Cmp.den .lt (15 : Int) x2) = true then (15 : Int) else x2) →
((Cmp.den .le x3 x2) = true → ∀ x4 : List Int, x4 = (List.take (Int.toNat x3 - Int.toNat (0 : Int)) (List.drop (Int.toNat (0 : Int)) x0)) →
∀ x5 : Int, x5 = ((List.length x4 : Int)) →
∃ (I0 : List Cv → Prop) (mu0 : List Cv → Nat), Fits [.i (some ((0), (15))), .l, .l] [(.i (0 : Int)), (.l (([] : List Int))), (.l (([] : List Int)))] ∧ I0 [(.i (0 : Int)), (.l (([] : List Int))), (.l (([] : List Int)))] ∧ (
∀ x6 : Int, (0 : Int) ≤ x6 → x6 ≤ (15 : Int) → ∀ x7 : List Int, InI x7 → ∀ x8 : List Int, InI x8 → I0 [.i x6, .l x7, .l x8] →
((Cmp.den .lt x6 x5) = true → ∀ x9 : Int, x9 = (List.getD x4 (Int.toNat x6) 0) →
∀ x10 : Int, x10 = (Int.tmod x9 (511 : Int)) →
∀ x11 : Int, x11 = (x10 + (511 : Int)) →
∀ x12 : Int, x12 = (x11 % (511 : Int)) →
∀ x13 : Int, x13 = ((1 : Int) + x12) →
∃ (I1 : List Cv → Prop) (mu1 : List Cv → Nat), Fits [.i (some ((-4), (5))), .l] [(.i (-4 : Int)), (.l (([] : List Int)))] ∧ I1 [(.i (-4 : Int)), (.l (([] : List Int)))] ∧ (
∀ x14 : Int, (-4 : Int) ≤ x14 → x14 ≤ (5 : Int) → ∀ x15 : List Int, InI x15 → I1 [.i x14, .l x15] →
((Cmp.den .le x14 (4 : Int)) = true → (r13has_sem.pre [(.i x13), (.i x14)]) ∧ (
((Cv.bool (Env.get (r13has_sem.out [(.i x13), (.i x14)]) 0)) = true → ∀ x17 : Int, x17 = ((List.length x15 : Int)) →
((Cmp.den .le x17 (100000 : Int)) = true → ∀ x18 : List Int, x18 = (x15 ++ ([x14] : List Int)) →
∀ x19 : Int, x19 = (x14 + (1 : Int)) →
Fits [.i (some ((-4), (5))), .l] [(.i x19), (.l (x18))] ∧ I1 [(.i x19), (.l (x18))] ∧ mu1 [(.i x19), (.l (x18))] < mu1 [.i x14, .l x15]) ∧ ((Cmp.den .le x17 (100000 : Int)) = false → False)) ∧ ((Cv.bool (Env.get (r13has_sem.out [(.i x13), (.i x14)]) 0)) = false → ∀ x17 : Int, x17 = (x14 + (1 : Int)) →
Fits [.i (some ((-4), (5))), .l] [(.i x17), (.l (x15))] ∧ I1 [(.i x17), (.l (x15))] ∧ mu1 [(.i x17), (.l (x15))] < mu1 [.i x14, .l x15]))) ∧ ((Cmp.den .le x14 (4 : Int)) = false → ∀ x16 : Int, x16 = ((List.length x15 : Int)) →
((Cmp.den .lt (0 : Int) x16) = true → ∀ x17 : Int, x17 = (List.getD x15 (Int.toNat (0 : Int)) 0) →
((∀ x18 : Int, x18 = ((List.length x7 : Int)) →
((Cmp.den .le x18 (100000 : Int)) = true → ∀ x19 : List Int, x19 = (x7 ++ ([x13] : List Int)) →
∀ x20 : Int, x20 = ((List.length x8 : Int)) →
((Cmp.den .le x20 (100000 : Int)) = true → ∀ x21 : List Int, x21 = (x8 ++ ([x17] : List Int)) →
∀ x22 : Int, x22 = (x6 + (1 : Int)) →
Fits [.i (some ((0), (15))), .l, .l] [(.i x22), (.l (x19)), (.l (x21))] ∧ I0 [(.i x22), (.l (x19)), (.l (x21))] ∧ mu0 [(.i x22), (.l (x19)), (.l (x21))] < mu0 [.i x6, .l x7, .l x8]) ∧ ((Cmp.den .le x20 (100000 : Int)) = false → False)) ∧ ((Cmp.den .le x18 (100000 : Int)) = false → False)) ∧ (∀ x18 : Int, x18 = ((List.length x7 : Int)) →
((Cmp.den .le x18 (100000 : Int)) = true → ∀ x19 : List Int, x19 = (x7 ++ ([x13] : List Int)) →
∀ x20 : Int, x20 = ((List.length x8 : Int)) →
((Cmp.den .le x20 (100000 : Int)) = true → ∀ x21 : List Int, x21 = (x8 ++ ([x17] : List Int)) →
∀ x22 : Int, x22 = (x6 + (1 : Int)) →
Fits [.i (some ((0), (15))), .l, .l] [(.i x22), (.l (x19)), (.l (x21))] ∧ I0 [(.i x22), (.l (x19)), (.l (x21))] ∧ mu0 [(.i x22), (.l (x19)), (.l (x21))] < mu0 [.i x6, .l x7, .l x8]) ∧ ((Cmp.den .le x20 (100000 : Int)) = false → False)) ∧ ((Cmp.den .le x18 (100000 : Int)) = false → False))) ∧ (∀ x18 : Int, x18 = ((List.length x7 : Int)) →
((Cmp.den .le x18 (100000 : Int)) = true → ∀ x19 : List Int, x19 = (x7 ++ ([x13] : List Int)) →
∀ x20 : Int, x20 = ((List.length x8 : Int)) →
((Cmp.den .le x20 (100000 : Int)) = true → ∀ x21 : List Int, x21 = (x8 ++ ([x17] : List Int)) →
∀ x22 : Int, x22 = (x6 + (1 : Int)) →
Fits [.i (some ((0), (15))), .l, .l] [(.i x22), (.l (x19)), (.l (x21))] ∧ I0 [(.i x22), (.l (x19)), (.l (x21))] ∧ mu0 [(.i x22), (.l (x19)), (.l (x21))] < mu0 [.i x6, .l x7, .l x8]) ∧ ((Cmp.den .le x20 (100000 : Int)) = false → False)) ∧ ((Cmp.den .le x18 (100000 : Int)) = false → False))) ∧ ((Cmp.den .lt (0 : Int) x16) = false → False)))) ∧ ((Cmp.den .lt x6 x5) = false → ∀ x9 : Int, x9 = ((List.length x7 : Int)) →
∃ (I1 : List Cv → Prop) (mu1 : List Cv → Nat), Fits [.i (some ((0), (15))), .l] [(.i (0 : Int)), (.l (([] : List Int)))] ∧ I1 [(.i (0 : Int)), (.l (([] : List Int)))] ∧ (
∀ x10 : Int, (0 : Int) ≤ x10 → x10 ≤ (15 : Int) → ∀ x11 : List Int, InI x11 → I1 [.i x10, .l x11] →
((Cmp.den .lt x10 x9) = true → ∀ x12 : Int, x12 = (List.getD x7 (Int.toNat x10) 0) →
∃ (I2 : List Cv → Prop) (mu2 : List Cv → Nat), Fits [.i (some ((-4), (5))), .i (some ((0), (511)))] [(.i (-4 : Int)), (.i (0 : Int))] ∧ I2 [(.i (-4 : Int)), (.i (0 : Int))] ∧ (
∀ x13 : Int, (-4 : Int) ≤ x13 → x13 ≤ (5 : Int) → ∀ x14 : Int, (0 : Int) ≤ x14 → x14 ≤ (511 : Int) → I2 [.i x13, .i x14] →
((Cmp.den .le x13 (4 : Int)) = true → (r13has_sem.pre [(.i x12), (.i x13)]) ∧ (
((Cv.bool (Env.get (r13has_sem.out [(.i x12), (.i x13)]) 0)) = true → ∀ x16 : Int, x16 = ((4 : Int) - x13) →
∀ x17 : Int, x17 = (IntKind.i64.wrap ((1 : Int) * 2 ^ (min (Int.toNat x16) (IntKind.i64).bits))) →
∀ x18 : Int, x18 = (IntKind.i64.wrap (x14 + x17)) →
∀ x19 : Int, x19 = (x13 + (1 : Int)) →
Fits [.i (some ((-4), (5))), .i (some ((0), (511)))] [(.i x19), (.i x18)] ∧ I2 [(.i x19), (.i x18)] ∧ mu2 [(.i x19), (.i x18)] < mu2 [.i x13, .i x14]) ∧ ((Cv.bool (Env.get (r13has_sem.out [(.i x12), (.i x13)]) 0)) = false → ∀ x16 : Int, x16 = (x13 + (1 : Int)) →
Fits [.i (some ((-4), (5))), .i (some ((0), (511)))] [(.i x16), (.i x14)] ∧ I2 [(.i x16), (.i x14)] ∧ mu2 [(.i x16), (.i x14)] < mu2 [.i x13, .i x14]))) ∧ ((Cmp.den .le x13 (4 : Int)) = false → ∀ x15 : Int, x15 = ((List.length x11 : Int)) →
((Cmp.den .le x15 (100000 : Int)) = true → ∀ x16 : List Int, x16 = (x11 ++ ([x14] : List Int)) →
∀ x17 : Int, x17 = (x10 + (1 : Int)) →
Fits [.i (some ((0), (15))), .l] [(.i x17), (.l (x16))] ∧ I1 [(.i x17), (.l (x16))] ∧ mu1 [(.i x17), (.l (x16))] < mu1 [.i x10, .l x11]) ∧ ((Cmp.den .le x15 (100000 : Int)) = false → False)))) ∧ ((Cmp.den .lt x10 x9) = false → (ntell_sem.pre [(.l (x7))]) ∧ (
∀ x12 : Int, x12 = (Cv.int (Env.get (ntell_sem.out [(.l (x7))]) 0)) → (0 : Int) ≤ x12 → x12 ≤ (2 : Int) →
∀ x13 : Int, x13 = (Cv.int (Env.get (ntell_sem.out [(.l (x7))]) 1)) → (0 : Int) ≤ x13 → x13 ≤ (2 : Int) →
∀ x14 : Int, x14 = (Cv.int (Env.get (ntell_sem.out [(.l (x7))]) 2)) → (0 : Int) ≤ x14 → x14 ≤ (2 : Int) →
∀ x15 : Int, x15 = (Cv.int (Env.get (ntell_sem.out [(.l (x7))]) 3)) → (0 : Int) ≤ x15 → x15 ≤ (2 : Int) →
∀ x16 : Int, x16 = (Cv.int (Env.get (ntell_sem.out [(.l (x7))]) 4)) → (0 : Int) ≤ x16 → x16 ≤ (2 : Int) →
∀ x17 : Int, x17 = (Cv.int (Env.get (ntell_sem.out [(.l (x7))]) 5)) → (0 : Int) ≤ x17 → x17 ≤ (2 : Int) →
∀ x18 : Int, x18 = (Cv.int (Env.get (ntell_sem.out [(.l (x7))]) 6)) → (0 : Int) ≤ x18 → x18 ≤ (2 : Int) →
∀ x19 : Int, x19 = (Cv.int (Env.get (ntell_sem.out [(.l (x7))]) 7)) → (0 : Int) ≤ x19 → x19 ≤ (2 : Int) →
∀ x20 : Int, x20 = (Cv.int (Env.get (ntell_sem.out [(.l (x7))]) 8)) → (0 : Int) ≤ x20 → x20 ≤ (1 : Int) →
(ntell_sem.pre [(.l (x11))]) ∧ (
∀ x21 : Int, x21 = (Cv.int (Env.get (ntell_sem.out [(.l (x11))]) 0)) → (0 : Int) ≤ x21 → x21 ≤ (2 : Int) →
∀ x22 : Int, x22 = (Cv.int (Env.get (ntell_sem.out [(.l (x11))]) 1)) → (0 : Int) ≤ x22 → x22 ≤ (2 : Int) →
∀ x23 : Int, x23 = (Cv.int (Env.get (ntell_sem.out [(.l (x11))]) 2)) → (0 : Int) ≤ x23 → x23 ≤ (2 : Int) →
∀ x24 : Int, x24 = (Cv.int (Env.get (ntell_sem.out [(.l (x11))]) 3)) → (0 : Int) ≤ x24 → x24 ≤ (2 : Int) →
∀ x25 : Int, x25 = (Cv.int (Env.get (ntell_sem.out [(.l (x11))]) 4)) → (0 : Int) ≤ x25 → x25 ≤ (2 : Int) →
∀ x26 : Int, x26 = (Cv.int (Env.get (ntell_sem.out [(.l (x11))]) 5)) → (0 : Int) ≤ x26 → x26 ≤ (2 : Int) →
∀ x27 : Int, x27 = (Cv.int (Env.get (ntell_sem.out [(.l (x11))]) 6)) → (0 : Int) ≤ x27 → x27 ≤ (2 : Int) →
∀ x28 : Int, x28 = (Cv.int (Env.get (ntell_sem.out [(.l (x11))]) 7)) → (0 : Int) ≤ x28 → x28 ≤ (2 : Int) →
∀ x29 : Int, x29 = (Cv.int (Env.get (ntell_sem.out [(.l (x11))]) 8)) → (0 : Int) ≤ x29 → x29 ≤ (1 : Int) →
((!(Cmp.den .eq x20 (0 : Int))) = true → R (Value.bool false)) ∧ ((!(Cmp.den .eq x20 (0 : Int))) = false → ((!(Cmp.den .eq x29 (0 : Int))) = true → R (Value.bool false)) ∧ ((!(Cmp.den .eq x29 (0 : Int))) = false → ((!((Cmp.den .eq x12 x21) && ((Cmp.den .eq x13 x22) && ((Cmp.den .eq x14 x23) && ((Cmp.den .eq x15 x24) && ((Cmp.den .eq x16 x25) && ((Cmp.den .eq x17 x26) && ((Cmp.den .eq x18 x27) && (Cmp.den .eq x19 x28))))))))) = true → R (Value.bool false)) ∧ ((!((Cmp.den .eq x12 x21) && ((Cmp.den .eq x13 x22) && ((Cmp.den .eq x14 x23) && ((Cmp.den .eq x15 x24) && ((Cmp.den .eq x16 x25) && ((Cmp.den .eq x17 x26) && ((Cmp.den .eq x18 x27) && (Cmp.den .eq x19 x28))))))))) = false → (nal_sem.pre []) ∧ (
((!(Cv.bool (Env.get (nal_sem.out []) 0))) = true → R (Value.bool false)) ∧ ((!(Cv.bool (Env.get (nal_sem.out []) 0))) = false → ∀ x31 : Int, x31 = ((List.length x1 : Int)) →
∀ x32 : Int, x32 = (if (Cmp.den .lt (15 : Int) x31) = true then (15 : Int) else x31) →
((Cmp.den .le x32 x31) = true → ∀ x33 : List Int, x33 = (List.take (Int.toNat x32 - Int.toNat (0 : Int)) (List.drop (Int.toNat (0 : Int)) x1)) →
∀ x34 : Int, x34 = ((List.length x33 : Int)) →
∃ (I2 : List Cv → Prop) (mu2 : List Cv → Nat), Fits [.i (some ((0), (15))), .l, .l] [(.i (0 : Int)), (.l (([] : List Int))), (.l (([] : List Int)))] ∧ I2 [(.i (0 : Int)), (.l (([] : List Int))), (.l (([] : List Int)))] ∧ (
∀ x35 : Int, (0 : Int) ≤ x35 → x35 ≤ (15 : Int) → ∀ x36 : List Int, InI x36 → ∀ x37 : List Int, InI x37 → I2 [.i x35, .l x36, .l x37] →
((Cmp.den .lt x35 x34) = true → ∀ x38 : Int, x38 = (List.getD x33 (Int.toNat x35) 0) →
∀ x39 : Int, x39 = (Int.tmod x38 (511 : Int)) →
∀ x40 : Int, x40 = (x39 + (511 : Int)) →
∀ x41 : Int, x41 = (x40 % (511 : Int)) →
∀ x42 : Int, x42 = ((1 : Int) + x41) →
∃ (I3 : List Cv → Prop) (mu3 : List Cv → Nat), Fits [.i (some ((-4), (5))), .l] [(.i (-4 : Int)), (.l (([] : List Int)))] ∧ I3 [(.i (-4 : Int)), (.l (([] : List Int)))] ∧ (
∀ x43 : Int, (-4 : Int) ≤ x43 → x43 ≤ (5 : Int) → ∀ x44 : List Int, InI x44 → I3 [.i x43, .l x44] →
((Cmp.den .le x43 (4 : Int)) = true → (r13has_sem.pre [(.i x42), (.i x43)]) ∧ (
((Cv.bool (Env.get (r13has_sem.out [(.i x42), (.i x43)]) 0)) = true → ∀ x46 : Int, x46 = ((List.length x44 : Int)) →
((Cmp.den .le x46 (100000 : Int)) = true → ∀ x47 : List Int, x47 = (x44 ++ ([x43] : List Int)) →
∀ x48 : Int, x48 = (x43 + (1 : Int)) →
Fits [.i (some ((-4), (5))), .l] [(.i x48), (.l (x47))] ∧ I3 [(.i x48), (.l (x47))] ∧ mu3 [(.i x48), (.l (x47))] < mu3 [.i x43, .l x44]) ∧ ((Cmp.den .le x46 (100000 : Int)) = false → False)) ∧ ((Cv.bool (Env.get (r13has_sem.out [(.i x42), (.i x43)]) 0)) = false → ∀ x46 : Int, x46 = (x43 + (1 : Int)) →
Fits [.i (some ((-4), (5))), .l] [(.i x46), (.l (x44))] ∧ I3 [(.i x46), (.l (x44))] ∧ mu3 [(.i x46), (.l (x44))] < mu3 [.i x43, .l x44]))) ∧ ((Cmp.den .le x43 (4 : Int)) = false → ∀ x45 : Int, x45 = ((List.length x44 : Int)) →
((Cmp.den .lt (0 : Int) x45) = true → ∀ x46 : Int, x46 = (List.getD x44 (Int.toNat (0 : Int)) 0) →
((∀ x47 : Int, x47 = ((List.length x36 : Int)) →
((Cmp.den .le x47 (100000 : Int)) = true → ∀ x48 : List Int, x48 = (x36 ++ ([x42] : List Int)) →
∀ x49 : Int, x49 = ((List.length x37 : Int)) →
((Cmp.den .le x49 (100000 : Int)) = true → ∀ x50 : List Int, x50 = (x37 ++ ([x46] : List Int)) →
∀ x51 : Int, x51 = (x35 + (1 : Int)) →
Fits [.i (some ((0), (15))), .l, .l] [(.i x51), (.l (x48)), (.l (x50))] ∧ I2 [(.i x51), (.l (x48)), (.l (x50))] ∧ mu2 [(.i x51), (.l (x48)), (.l (x50))] < mu2 [.i x35, .l x36, .l x37]) ∧ ((Cmp.den .le x49 (100000 : Int)) = false → False)) ∧ ((Cmp.den .le x47 (100000 : Int)) = false → False)) ∧ (∀ x47 : Int, x47 = ((List.length x36 : Int)) →
((Cmp.den .le x47 (100000 : Int)) = true → ∀ x48 : List Int, x48 = (x36 ++ ([x42] : List Int)) →
∀ x49 : Int, x49 = ((List.length x37 : Int)) →
((Cmp.den .le x49 (100000 : Int)) = true → ∀ x50 : List Int, x50 = (x37 ++ ([x46] : List Int)) →
∀ x51 : Int, x51 = (x35 + (1 : Int)) →
Fits [.i (some ((0), (15))), .l, .l] [(.i x51), (.l (x48)), (.l (x50))] ∧ I2 [(.i x51), (.l (x48)), (.l (x50))] ∧ mu2 [(.i x51), (.l (x48)), (.l (x50))] < mu2 [.i x35, .l x36, .l x37]) ∧ ((Cmp.den .le x49 (100000 : Int)) = false → False)) ∧ ((Cmp.den .le x47 (100000 : Int)) = false → False))) ∧ (∀ x47 : Int, x47 = ((List.length x36 : Int)) →
((Cmp.den .le x47 (100000 : Int)) = true → ∀ x48 : List Int, x48 = (x36 ++ ([x42] : List Int)) →
∀ x49 : Int, x49 = ((List.length x37 : Int)) →
((Cmp.den .le x49 (100000 : Int)) = true → ∀ x50 : List Int, x50 = (x37 ++ ([x46] : List Int)) →
∀ x51 : Int, x51 = (x35 + (1 : Int)) →
Fits [.i (some ((0), (15))), .l, .l] [(.i x51), (.l (x48)), (.l (x50))] ∧ I2 [(.i x51), (.l (x48)), (.l (x50))] ∧ mu2 [(.i x51), (.l (x48)), (.l (x50))] < mu2 [.i x35, .l x36, .l x37]) ∧ ((Cmp.den .le x49 (100000 : Int)) = false → False)) ∧ ((Cmp.den .le x47 (100000 : Int)) = false → False))) ∧ ((Cmp.den .lt (0 : Int) x45) = false → False)))) ∧ ((Cmp.den .lt x35 x34) = false → ∃ (I3 : List Cv → Prop) (mu3 : List Cv → Nat), Fits [.i (some ((0), (15))), .l] [(.i (0 : Int)), (.l (x36))] ∧ I3 [(.i (0 : Int)), (.l (x36))] ∧ (
∀ x38 : Int, (0 : Int) ≤ x38 → x38 ≤ (15 : Int) → ∀ x39 : List Int, InI x39 → I3 [.i x38, .l x39] →
((Cmp.den .lt x38 x9) = true → ∀ x40 : Int, x40 = (List.getD x7 (Int.toNat x38) 0) →
(nmay_sem.pre [(.l (x39))]) ∧ (
((!(Cv.bool (Env.get (nmay_sem.out [(.l (x39))]) 0))) = true → R (Value.bool false)) ∧ ((!(Cv.bool (Env.get (nmay_sem.out [(.l (x39))]) 0))) = false → (nmay_sem.pre [(.l (([x40] : List Int)))]) ∧ (
((!(Cv.bool (Env.get (nmay_sem.out [(.l (([x40] : List Int)))]) 0))) = true → R (Value.bool false)) ∧ ((!(Cv.bool (Env.get (nmay_sem.out [(.l (([x40] : List Int)))]) 0))) = false → (clone_sem.pre [(.l (x39))]) ∧ (
∀ x43 : List Int, x43 = (Cv.list (Env.get (clone_sem.out [(.l (x39))]) 0)) →
∀ x44 : Int, x44 = ((List.length x43 : Int)) →
((Cmp.den .le x44 (100000 : Int)) = true → ∀ x45 : List Int, x45 = (x43 ++ ([x40] : List Int)) →
∀ x46 : Int, x46 = ((List.length x45 : Int)) →
∀ x47 : Int, x47 = (x46 - (15 : Int)) →
∀ x48 : Int, x48 = (if (Cmp.den .lt (0 : Int) x47) = true then x47 else (0 : Int)) →
((Cmp.den .le x48 x46) = true → ((Cmp.den .le x46 x46) = true → ∀ x49 : List Int, x49 = (List.take (Int.toNat x46 - Int.toNat x48) (List.drop (Int.toNat x48) x45)) →
∀ x50 : Int, x50 = ((List.length x49 : Int)) →
∀ x51 : Int, x51 = ((List.length x39 : Int)) →
∀ x52 : Int, x52 = (IntKind.i64.wrap (x51 + (1 : Int))) →
∀ x53 : Int, x53 = (if (Cmp.den .lt (15 : Int) x52) = true then (15 : Int) else x52) →
((!(Cmp.den .eq x50 x53)) = true → R (Value.bool false)) ∧ ((!(Cmp.den .eq x50 x53)) = false → ∀ x54 : Int, x54 = (x38 + (1 : Int)) →
Fits [.i (some ((0), (15))), .l] [(.i x54), (.l (x49))] ∧ I3 [(.i x54), (.l (x49))] ∧ mu3 [(.i x54), (.l (x49))] < mu3 [.i x38, .l x39])) ∧ ((Cmp.den .le x46 x46) = false → False)) ∧ ((Cmp.den .le x48 x46) = false → False)) ∧ ((Cmp.den .le x44 (100000 : Int)) = false → False))))))) ∧ ((Cmp.den .lt x38 x9) = false → (ntell_sem.pre [(.l (x39))]) ∧ (
∀ x40 : Int, x40 = (Cv.int (Env.get (ntell_sem.out [(.l (x39))]) 0)) → (0 : Int) ≤ x40 → x40 ≤ (2 : Int) →
∀ x41 : Int, x41 = (Cv.int (Env.get (ntell_sem.out [(.l (x39))]) 1)) → (0 : Int) ≤ x41 → x41 ≤ (2 : Int) →
∀ x42 : Int, x42 = (Cv.int (Env.get (ntell_sem.out [(.l (x39))]) 2)) → (0 : Int) ≤ x42 → x42 ≤ (2 : Int) →
∀ x43 : Int, x43 = (Cv.int (Env.get (ntell_sem.out [(.l (x39))]) 3)) → (0 : Int) ≤ x43 → x43 ≤ (2 : Int) →
∀ x44 : Int, x44 = (Cv.int (Env.get (ntell_sem.out [(.l (x39))]) 4)) → (0 : Int) ≤ x44 → x44 ≤ (2 : Int) →
∀ x45 : Int, x45 = (Cv.int (Env.get (ntell_sem.out [(.l (x39))]) 5)) → (0 : Int) ≤ x45 → x45 ≤ (2 : Int) →
∀ x46 : Int, x46 = (Cv.int (Env.get (ntell_sem.out [(.l (x39))]) 6)) → (0 : Int) ≤ x46 → x46 ≤ (2 : Int) →
∀ x47 : Int, x47 = (Cv.int (Env.get (ntell_sem.out [(.l (x39))]) 7)) → (0 : Int) ≤ x47 → x47 ≤ (2 : Int) →
∀ x48 : Int, x48 = (Cv.int (Env.get (ntell_sem.out [(.l (x39))]) 8)) → (0 : Int) ≤ x48 → x48 ≤ (1 : Int) →
((!(Cmp.den .eq x48 (0 : Int))) = true → R (Value.bool false)) ∧ ((!(Cmp.den .eq x48 (0 : Int))) = false → ∃ (I4 : List Cv → Prop) (mu4 : List Cv → Nat), Fits [.i (some ((0), (8)))] [(.i (0 : Int))] ∧ I4 [(.i (0 : Int))] ∧ (
∀ x49 : Int, (0 : Int) ≤ x49 → x49 ≤ (8 : Int) → I4 [.i x49] →
((Cmp.den .lt x49 (8 : Int)) = true → ((Cmp.den .le x49 (0 : Int)) = true → ((Cmp.den .le (1 : Int) x9) = true → ((!(Cmp.den .eq x40 x12)) = true → R (Value.bool false)) ∧ ((!(Cmp.den .eq x40 x12)) = false → Fits [.i (some ((0), (8)))] [(.i (1 : Int))] ∧ I4 [(.i (1 : Int))] ∧ mu4 [(.i (1 : Int))] < mu4 [.i x49])) ∧ ((Cmp.den .le (1 : Int) x9) = false → ((!(Cmp.den .eq x12 (0 : Int))) = true → R (Value.bool false)) ∧ ((!(Cmp.den .eq x12 (0 : Int))) = false → Fits [.i (some ((0), (8)))] [(.i (1 : Int))] ∧ I4 [(.i (1 : Int))] ∧ mu4 [(.i (1 : Int))] < mu4 [.i x49]))) ∧ ((Cmp.den .le x49 (0 : Int)) = false → ((Cmp.den .le x49 (1 : Int)) = true → ((Cmp.den .le (9 : Int) x9) = true → ((!(Cmp.den .eq x41 x13)) = true → R (Value.bool false)) ∧ ((!(Cmp.den .eq x41 x13)) = false → Fits [.i (some ((0), (8)))] [(.i (2 : Int))] ∧ I4 [(.i (2 : Int))] ∧ mu4 [(.i (2 : Int))] < mu4 [.i x49])) ∧ ((Cmp.den .le (9 : Int) x9) = false → ((!(Cmp.den .eq x13 (0 : Int))) = true → R (Value.bool false)) ∧ ((!(Cmp.den .eq x13 (0 : Int))) = false → Fits [.i (some ((0), (8)))] [(.i (2 : Int))] ∧ I4 [(.i (2 : Int))] ∧ mu4 [(.i (2 : Int))] < mu4 [.i x49]))) ∧ ((Cmp.den .le x49 (1 : Int)) = false → ((Cmp.den .le x49 (2 : Int)) = true → ((Cmp.den .le (6 : Int) x9) = true → ((!(Cmp.den .eq x42 x14)) = true → R (Value.bool false)) ∧ ((!(Cmp.den .eq x42 x14)) = false → Fits [.i (some ((0), (8)))] [(.i (3 : Int))] ∧ I4 [(.i (3 : Int))] ∧ mu4 [(.i (3 : Int))] < mu4 [.i x49])) ∧ ((Cmp.den .le (6 : Int) x9) = false → ((!(Cmp.den .eq x14 (0 : Int))) = true → R (Value.bool false)) ∧ ((!(Cmp.den .eq x14 (0 : Int))) = false → Fits [.i (some ((0), (8)))] [(.i (3 : Int))] ∧ I4 [(.i (3 : Int))] ∧ mu4 [(.i (3 : Int))] < mu4 [.i x49]))) ∧ ((Cmp.den .le x49 (2 : Int)) = false → ((Cmp.den .le x49 (3 : Int)) = true → ((Cmp.den .le (14 : Int) x9) = true → ((!(Cmp.den .eq x43 x15)) = true → R (Value.bool false)) ∧ ((!(Cmp.den .eq x43 x15)) = false → Fits [.i (some ((0), (8)))] [(.i (4 : Int))] ∧ I4 [(.i (4 : Int))] ∧ mu4 [(.i (4 : Int))] < mu4 [.i x49])) ∧ ((Cmp.den .le (14 : Int) x9) = false → ((!(Cmp.den .eq x15 (0 : Int))) = true → R (Value.bool false)) ∧ ((!(Cmp.den .eq x15 (0 : Int))) = false → Fits [.i (some ((0), (8)))] [(.i (4 : Int))] ∧ I4 [(.i (4 : Int))] ∧ mu4 [(.i (4 : Int))] < mu4 [.i x49]))) ∧ ((Cmp.den .le x49 (3 : Int)) = false → ((Cmp.den .le x49 (4 : Int)) = true → ((Cmp.den .le (3 : Int) x9) = true → ((!(Cmp.den .eq x44 x16)) = true → R (Value.bool false)) ∧ ((!(Cmp.den .eq x44 x16)) = false → Fits [.i (some ((0), (8)))] [(.i (5 : Int))] ∧ I4 [(.i (5 : Int))] ∧ mu4 [(.i (5 : Int))] < mu4 [.i x49])) ∧ ((Cmp.den .le (3 : Int) x9) = false → ((!(Cmp.den .eq x16 (0 : Int))) = true → R (Value.bool false)) ∧ ((!(Cmp.den .eq x16 (0 : Int))) = false → Fits [.i (some ((0), (8)))] [(.i (5 : Int))] ∧ I4 [(.i (5 : Int))] ∧ mu4 [(.i (5 : Int))] < mu4 [.i x49]))) ∧ ((Cmp.den .le x49 (4 : Int)) = false → ((Cmp.den .le x49 (5 : Int)) = true → ((Cmp.den .le (5 : Int) x9) = true → ((!(Cmp.den .eq x45 x17)) = true → R (Value.bool false)) ∧ ((!(Cmp.den .eq x45 x17)) = false → Fits [.i (some ((0), (8)))] [(.i (6 : Int))] ∧ I4 [(.i (6 : Int))] ∧ mu4 [(.i (6 : Int))] < mu4 [.i x49])) ∧ ((Cmp.den .le (5 : Int) x9) = false → ((!(Cmp.den .eq x17 (0 : Int))) = true → R (Value.bool false)) ∧ ((!(Cmp.den .eq x17 (0 : Int))) = false → Fits [.i (some ((0), (8)))] [(.i (6 : Int))] ∧ I4 [(.i (6 : Int))] ∧ mu4 [(.i (6 : Int))] < mu4 [.i x49]))) ∧ ((Cmp.den .le x49 (5 : Int)) = false → ((Cmp.den .le x49 (6 : Int)) = true → ((Cmp.den .le (15 : Int) x9) = true → ((!(Cmp.den .eq x46 x18)) = true → R (Value.bool false)) ∧ ((!(Cmp.den .eq x46 x18)) = false → Fits [.i (some ((0), (8)))] [(.i (7 : Int))] ∧ I4 [(.i (7 : Int))] ∧ mu4 [(.i (7 : Int))] < mu4 [.i x49])) ∧ ((Cmp.den .le (15 : Int) x9) = false → ((!(Cmp.den .eq x18 (0 : Int))) = true → R (Value.bool false)) ∧ ((!(Cmp.den .eq x18 (0 : Int))) = false → Fits [.i (some ((0), (8)))] [(.i (7 : Int))] ∧ I4 [(.i (7 : Int))] ∧ mu4 [(.i (7 : Int))] < mu4 [.i x49]))) ∧ ((Cmp.den .le x49 (6 : Int)) = false → ((Cmp.den .le (8 : Int) x9) = true → ((!(Cmp.den .eq x47 x19)) = true → R (Value.bool false)) ∧ ((!(Cmp.den .eq x47 x19)) = false → Fits [.i (some ((0), (8)))] [(.i (8 : Int))] ∧ I4 [(.i (8 : Int))] ∧ mu4 [(.i (8 : Int))] < mu4 [.i x49])) ∧ ((Cmp.den .le (8 : Int) x9) = false → ((!(Cmp.den .eq x19 (0 : Int))) = true → R (Value.bool false)) ∧ ((!(Cmp.den .eq x19 (0 : Int))) = false → Fits [.i (some ((0), (8)))] [(.i (8 : Int))] ∧ I4 [(.i (8 : Int))] ∧ mu4 [(.i (8 : Int))] < mu4 [.i x49])))))))))) ∧ ((Cmp.den .lt x49 (8 : Int)) = false → R (Value.bool true)))))))))) ∧ ((Cmp.den .le x32 x31) = false → False))))))))))))) ∧ ((Cmp.den .le x3 x2) = false → False)) := by kernel_rfl

def lntu_sem : SpecSem := { pre := fun cs => match cs with | [.l a, .l b] => InI a ∧ InI b | _ => False, out := fun cs => match cs with | [.l a, .l b] => [.b true] | _ => [], g := tzG }
set_option maxRecDepth 10000 in
set_option maxHeartbeats 16000000 in
theorem lntu_ok : SpecOK Tryd.prog 7 lntu_sp lntu_sem := by
  refine spec_of_tree lntu_cxok Tryd.func7 (by kernel_rfl) (by kernel_rfl) lntu_walk rfl ?_
  intro cs hpre
  match cs, hpre with
  | [.l a, .l b], ⟨j_a, j_b⟩ =>
    refine ⟨rfl, IvsB.ok (by simp only [lntu_ivs, IvsB, Cv.int, and_true, j_a, j_b, true_and] <;> omega), ?_, ?_⟩
    · simp only [lntu_sem, lntu_sp, Fits]
    · rw [lntu_den]
      have hF : List.take ((if 15 < (a.length : Int) then (15 : Int) else (a.length : Int)).toNat - Int.toNat 0) (List.drop (Int.toNat 0) a) = a.take 15 := by
        rw [show Int.toNat 0 = 0 from rfl, List.drop_zero, Nat.sub_zero]
        split
        · rfl
        · rw [List.take_of_length_le (by omega), List.take_of_length_le (by omega)]
      have hF2 : List.take ((if 15 < (b.length : Int) then (15 : Int) else (b.length : Int)).toNat - Int.toNat 0) (List.drop (Int.toNat 0) b) = b.take 15 := by
        rw [show Int.toNat 0 = 0 from rfl, List.drop_zero, Nat.sub_zero]
        split
        · rfl
        · rw [List.take_of_length_le (by omega), List.take_of_length_le (by omega)]
      have hlen : (a.take 15).length ≤ 15 := by rw [List.length_take]; omega
      have hlen2 : (b.take 15).length ≤ 15 := by rw [List.length_take]; omega
      have b1 : ((if 15 < (a.length : Int) then (15 : Int) else (a.length : Int)) ≤ (a.length : Int)) = True := eq_true (by split <;> omega)
      have b2 : ((a.length : Int) < (if 15 < (a.length : Int) then (15 : Int) else (a.length : Int))) = False := eq_false (by split <;> omega)
      have b3 : ((if 15 < (b.length : Int) then (15 : Int) else (b.length : Int)) ≤ (b.length : Int)) = True := eq_true (by split <;> omega)
      have b4 : ((b.length : Int) < (if 15 < (b.length : Int) then (15 : Int) else (b.length : Int))) = False := eq_false (by split <;> omega)
      have hmk : ∀ x : Int, 1 + (Int.tmod x 511 + 511) % 511 = mkM x := fun _ => rfl
      have hMk : ∀ x : Int, IsM (mkM x) = True := fun x => eq_true (mkM_rng x)
      have hIk : ∀ x : Int, IsI (mkM x) = True := fun x => eq_true ⟨by have := (mkM_rng x).1; omega, by have := (mkM_rng x).2; omega⟩
      simp only [lntu_sem, lntu_sp, ntell_sem, nmay_sem, clone_sem, nal_sem, r13has_sem, lntu_den, ntell_sem, nmay_sem, nal_sem, r13has_sem, clone_sem, Tree.den, LE.den, Cv.list, placeA, List.getElem?_cons_zero, List.getElem?_cons_succ, IE.den, BE.den, At.den, CA.den, Env.get, Cv.int, Cv.bool, List.cons_append, List.nil_append, List.map_cons, List.map_nil, bindRes, bindEq, Fits, SV.den, denL, place, placeL, eq_t, eq_f, lt_t, lt_f, le_t, le_f, beq_iff_eq, beq_eq_false_iff_ne, ne_eq, reduceCtorEq, b_dec, decide_eq_true_eq, decide_eq_false_iff_not, Bool.not_eq_false', Bool.or_eq_true, Bool.or_eq_false_iff, Bool.and_eq_false_iff, true_iff, false_iff, Bool.false_eq_true, Bool.not_eq_true', Bool.and_eq_true, Bool.not_true, Bool.not_false, List.cons.injEq, Cv.i.injEq, Cv.b.injEq, and_true, true_and, agg_inj, tup_inj, Value.int.injEq, Value.bool.injEq, hF, hF2, b1, b2, b3, b4, hmk, hMk, hIk, Int.le_refl, Int.lt_irrefl, forall_eq, eq_self, if_true, if_false, true_and, and_true, false_and, and_false, true_or, or_true, false_or, or_false, true_iff, iff_true, false_iff, iff_false, not_true_eq_false, not_false_eq_true, true_implies, false_implies, implies_true, forall_const, decide_true, decide_false, reduceCtorEq]
      generalize a.take 15 = v at *
      generalize b.take 15 = v2 at *
      refine ⟨someI (v.length : Int), someMu, ⟨by omega, inI_nil, inI_nil⟩, ⟨by omega, rfl, fun m h => (by cases h), row_nil.2 rfl⟩, ?_⟩
      intro i i0 i1 x hx y hy hS
      refine ⟨fun hlt => ?_, fun hge => ?_⟩
      · have hM := mkM_rng (v.getD i.toNat 0)
        generalize mkM (v.getD i.toNat 0) = m at *
        refine cls_loop (m := m) ?_
        have hp := cls_pos hM
        have t := some_tail (c := (clsA m 9).getD (Int.toNat 0) 0) (by omega) hS i0 hlt hM (clsA_has.1 (getD_mem (show Int.toNat 0 < (clsA m 9).length from hp))) hx hy
        exact ⟨fun _ => ⟨⟨t, t⟩, t⟩, fun q => by omega⟩
      · obtain ⟨h1, h2, h3, h4⟩ : i ≤ (v.length : Int) ∧ (x.length : Int) = i ∧ (∀ m ∈ x, IsM m) ∧ Row x y := hS
        have hxl : x.length ≤ 15 := by omega
        have hms : IsMs x := ⟨hxl, h3⟩
        refine ⟨fun vs => match vs with | [.i i, .l ys] => i ≤ (x.length : Int) ∧ ys = (x.take i.toNat).map turnM | _ => False, fun vs => match vs with | [.i i, .l _] => (100 - i).toNat | _ => 0, ⟨by omega, inI_nil⟩, ⟨by omega, rfl⟩, ?_⟩
        intro j j0 j1 z hz hJ
        obtain ⟨hjn, rfl⟩ : j ≤ (x.length : Int) ∧ z = (x.take j.toNat).map turnM := hJ
        refine ⟨fun hjlt => ?_, fun hjge => ?_⟩
        · have hm := h3 _ (getD_mem (show j.toNat < x.length by omega))
          have hmi : IsI (x.getD j.toNat 0) = True := eq_true ⟨by have := hm.1; omega, by have := hm.2; omega⟩
          obtain ⟨f1, f2, f3⟩ := turn_facts hm
          have hT : (x.take j.toNat).map turnM ++ [turnM (x.getD j.toNat 0)] = (x.take (j + 1).toNat).map turnM := by
            rw [show (j + 1).toNat = j.toNat + 1 by omega, take_snoc (by omega), List.map_append]; rfl
          have hms2 := turn_ms (ms := x.take (j + 1).toNat) ⟨by rw [List.length_take]; omega, fun m h => h3 m (List.mem_of_mem_take h)⟩
          refine ⟨fun vs => match vs with | [.i c, .i g] => g = (tb (x.getD j.toNat 0).toNat (c + 4).toNat : Int) | _ => False, fun vs => match vs with | [.i c, .i _] => (5 - c).toNat | _ => 0, (by omega), rfl, ?_⟩
          intro c c0 c1 g g0 g1 hg
          obtain rfl : g = (tb (x.getD j.toNat 0).toNat (c + 4).toNat : Int) := hg
          have hc9 := f1 (c + 4).toNat (by omega)
          have hstep : tb (x.getD j.toNat 0).toNat ((c + 4).toNat + 1) = tb (x.getD j.toNat 0).toNat (c + 4).toNat + (if (x.getD j.toNat 0).toNat.testBit (c + 4).toNat then 2 ^ (8 - (c + 4).toNat) else 0) := rfl
          refine ⟨fun hc => ?_, fun hc => ?_⟩
          · have hc10 := f1 ((c + 4).toNat + 1) (by omega)
            have ec : (c + 1 + 4).toNat = (c + 4).toNat + 1 := by omega
            have kmu : (5 - (c + 1)).toNat < (5 - c).toNat := by omega
            have hIc : IsI c := ⟨by omega, by omega⟩
            simp only [hm, hmi, hIc, true_and]
            refine ⟨fun hh => ?_, fun hh => ?_⟩
            · have hh2 : (x.getD j.toNat 0).toNat.testBit (c + 4).toNat = true := hh.2
              rw [if_pos hh2] at hstep
              have e1 : IntKind.i64.wrap (1 * 2 ^ (min (4 - c).toNat IntKind.i64.bits)) = p2 (4 - c) := by
                rw [p2_deni (n := 4 - c) (by omega) (by omega), Int.one_mul]
                have := p2_9 (n := 4 - c) (by omega) (by omega)
                exact w64 (by omega) (by omega)
              have e2 : p2 (4 - c) = ((2 ^ (8 - (c + 4).toNat) : Nat) : Int) := by unfold p2; rw [show (4 - c).toNat = 8 - (c + 4).toNat by omega]
              have e3 : IntKind.i64.wrap ((tb (x.getD j.toNat 0).toNat (c + 4).toNat : Int) + p2 (4 - c)) = (tb (x.getD j.toNat 0).toNat ((c + 4).toNat + 1) : Int) := by
                rw [e2, hstep, w64 (by omega) (by omega)]; omega
              rw [e1, e3]
              exact ⟨by omega, by show _ = (tb _ (c + 1 + 4).toNat : Int); rw [ec], kmu⟩
            · have hh2 : ¬ (x.getD j.toNat 0).toNat.testBit (c + 4).toNat = true := fun q => hh ⟨by omega, q⟩
              rw [if_neg hh2] at hstep
              exact ⟨by omega, by show _ = (tb _ (c + 1 + 4).toNat : Int); rw [ec, hstep]; rfl, kmu⟩
          · have ec : (c + 4).toNat = 9 := by omega
            rw [ec]
            refine ⟨fun _ => ?_, fun q => ?_⟩
            · have hT2 : (x.take j.toNat).map turnM ++ [((tb (x.getD j.toNat 0).toNat 9 : Nat) : Int)] = (x.take (j + 1).toNat).map turnM := hT
              rw [hT2]
              exact ⟨⟨by omega, by omega, inI_ms hms2.2⟩, ⟨by omega, rfl⟩, by show (100 - (j + 1)).toNat < (100 - j).toNat; omega⟩
            · rw [List.length_map, List.length_take] at q; omega
        · have et : x.take j.toNat = x := List.take_of_length_le (by omega)
          rw [et] at hz ⊢
          have hmt := turn_ms hms
          simp only [hx, hz, hms, hmt, tell_turn hms g1n, tell_turn hms g2n, tell_turn hms g3n, tell_turn hms g4n, tell_turn hms g5n, tell_turn hms g6n, tell_turn hms g7n, tell_turn hms g8n, eq_self, if_true, if_false, true_and, and_true, false_and, and_false, true_or, or_true, false_or, or_false, true_iff, iff_true, false_iff, iff_false, not_true_eq_false, not_false_eq_true, true_implies, false_implies, implies_true, forall_const, decide_true, decide_false, reduceCtorEq]
          intros
          refine ⟨someI (v2.length : Int), someMu, ⟨by omega, inI_nil, inI_nil⟩, ⟨by omega, rfl, fun m h => (by cases h), row_nil.2 rfl⟩, ?_⟩
          intro i2 i20 i21 x2 hx2 y2 hy2 hS2
          refine ⟨fun hlt2 => ?_, fun hge2 => ?_⟩
          · have hM := mkM_rng (v2.getD i2.toNat 0)
            generalize mkM (v2.getD i2.toNat 0) = m at *
            refine cls_loop (m := m) ?_
            have hp := cls_pos hM
            have t := some_tail (c := (clsA m 9).getD (Int.toNat 0) 0) (by omega) hS2 i20 hlt2 hM (clsA_has.1 (getD_mem (show Int.toNat 0 < (clsA m 9).length from hp))) hx2 hy2
            exact ⟨fun _ => ⟨⟨t, t⟩, t⟩, fun q => by omega⟩
          · obtain ⟨l1, l2, l3, l4⟩ : i2 ≤ (v2.length : Int) ∧ (x2.length : Int) = i2 ∧ (∀ m ∈ x2, IsM m) ∧ Row x2 y2 := hS2
            have hms2 : IsMs x2 := ⟨by omega, l3⟩
            refine ⟨fun vs => match vs with | [.i j, .l w] => j ≤ (x.length : Int) ∧ WinI x j.toNat w | _ => False, fun vs => match vs with | [.i j, .l _] => (100 - j).toNat | _ => 0, ⟨by omega, hx2⟩, ⟨by omega, win_zero hms2⟩, ?_⟩
            intro e e0 e1 w hw hE
            obtain ⟨hen, hWin⟩ : e ≤ (x.length : Int) ∧ WinI x e.toNat w := hE
            have hwm := hWin.1
            have hwl := hwm.1
            refine ⟨fun hlt3 => ?_, fun hge3 => ?_⟩
            · have hM := h3 _ (getD_mem (show e.toNat < x.length by omega))
              have hstep := win_step hWin (show e.toNat < x.length by omega) hM
              have hIm : IsI (x.getD e.toNat 0) := ⟨by have := hM.1; omega, by have := hM.2; omega⟩
              generalize x.getD e.toNat 0 = m at *
              have hI1 : InI [m] := fun y hy => by rw [List.mem_singleton] at hy; subst hy; exact hIm
              have hM1 : IsMs [m] := ⟨by simp, fun x hx => by rw [List.mem_singleton] at hx; subst hx; exact hM⟩
              have hl1000 : w.length ≤ 1000 := by omega
              have hW := pushW (m := m) hwl
              have hwr : IntKind.i64.wrap ((w.length : Int) + 1) = (w.length : Int) + 1 := w64 (by omega) (by omega)
              have hpl : ((pushV w m).length : Int) = if 15 < (w.length : Int) + 1 then 15 else (w.length : Int) + 1 := by
                unfold pushV
                split
                · rw [if_neg (by omega), List.length_append, List.length_singleton]; omega
                · rw [if_pos (by omega), List.length_append, List.length_drop, List.length_singleton]; omega
              have hWI : InI (pushV w m) := pushV_inI hw hIm
              simp only [hw, hwm, hI1, hM1, hl1000, hW, hwr, if_true, if_false, true_and, and_true, false_and, and_false, true_or, or_true, false_or, or_false, true_iff, iff_true, false_iff, iff_false, not_true_eq_false, not_false_eq_true, true_implies, false_implies, implies_true, forall_const, decide_true, decide_false, reduceCtorEq]
              refine ⟨fun _ => ⟨fun _ => ⟨fun q => q hpl, fun _ => ⟨⟨by omega, by omega, hWI⟩, ⟨by omega, ?_⟩, by show (100 - (e + 1)).toNat < (100 - e).toNat; omega⟩⟩, fun q => ?_⟩, fun q => by omega⟩
              · rw [show (e + 1).toNat = e.toNat + 1 by omega]; exact hstep
              · split at q <;> omega
            · have ee : e.toNat = x.length := by omega
              rw [ee] at hWin
              have w1 := win_tell (G := G1) (n := 1) hms hWin (by omega)
              have w2 := win_tell (G := G2) (n := 9) hms hWin (by omega)
              have w3 := win_tell (G := G3) (n := 6) hms hWin (by omega)
              have w4 := win_tell (G := G4) (n := 14) hms hWin (by omega)
              have w5 := win_tell (G := G5) (n := 3) hms hWin (by omega)
              have w6 := win_tell (G := G6) (n := 5) hms hWin (by omega)
              have w7 := win_tell (G := G7) (n := 15) hms hWin (by omega)
              have w8 := win_tell (G := G8) (n := 8) hms hWin (by omega)
              simp only [hw, hwm, eq_self, if_true, if_false, true_and, and_true, false_and, and_false, true_or, or_true, false_or, or_false, true_iff, iff_true, false_iff, iff_false, not_true_eq_false, not_false_eq_true, true_implies, false_implies, implies_true, forall_const, decide_true, decide_false, reduceCtorEq]
              intros
              refine ⟨fun vs => match vs with | [.i k] => 0 ≤ k ∧ k ≤ 8 | _ => False, fun vs => match vs with | [.i k] => (8 - k).toNat | _ => 0, (by omega), (by omega), ?_⟩
              intro k k0 k1 _
              exact fun _ => ⟨fun _ => ⟨fun q => ⟨fun z => absurd (w1.1 (by omega)) z, fun _ => ⟨by omega, ⟨by omega, by omega⟩, by show (8 - 1 : Int).toNat < (8 - k).toNat; omega⟩⟩, fun q => ⟨fun z => absurd (w1.2 (by omega)) z, fun _ => ⟨by omega, ⟨by omega, by omega⟩, by show (8 - 1 : Int).toNat < (8 - k).toNat; omega⟩⟩⟩, fun _ => ⟨fun _ => ⟨fun q => ⟨fun z => absurd (w2.1 (by omega)) z, fun _ => ⟨by omega, ⟨by omega, by omega⟩, by show (8 - 2 : Int).toNat < (8 - k).toNat; omega⟩⟩, fun q => ⟨fun z => absurd (w2.2 (by omega)) z, fun _ => ⟨by omega, ⟨by omega, by omega⟩, by show (8 - 2 : Int).toNat < (8 - k).toNat; omega⟩⟩⟩, fun _ => ⟨fun _ => ⟨fun q => ⟨fun z => absurd (w3.1 (by omega)) z, fun _ => ⟨by omega, ⟨by omega, by omega⟩, by show (8 - 3 : Int).toNat < (8 - k).toNat; omega⟩⟩, fun q => ⟨fun z => absurd (w3.2 (by omega)) z, fun _ => ⟨by omega, ⟨by omega, by omega⟩, by show (8 - 3 : Int).toNat < (8 - k).toNat; omega⟩⟩⟩, fun _ => ⟨fun _ => ⟨fun q => ⟨fun z => absurd (w4.1 (by omega)) z, fun _ => ⟨by omega, ⟨by omega, by omega⟩, by show (8 - 4 : Int).toNat < (8 - k).toNat; omega⟩⟩, fun q => ⟨fun z => absurd (w4.2 (by omega)) z, fun _ => ⟨by omega, ⟨by omega, by omega⟩, by show (8 - 4 : Int).toNat < (8 - k).toNat; omega⟩⟩⟩, fun _ => ⟨fun _ => ⟨fun q => ⟨fun z => absurd (w5.1 (by omega)) z, fun _ => ⟨by omega, ⟨by omega, by omega⟩, by show (8 - 5 : Int).toNat < (8 - k).toNat; omega⟩⟩, fun q => ⟨fun z => absurd (w5.2 (by omega)) z, fun _ => ⟨by omega, ⟨by omega, by omega⟩, by show (8 - 5 : Int).toNat < (8 - k).toNat; omega⟩⟩⟩, fun _ => ⟨fun _ => ⟨fun q => ⟨fun z => absurd (w6.1 (by omega)) z, fun _ => ⟨by omega, ⟨by omega, by omega⟩, by show (8 - 6 : Int).toNat < (8 - k).toNat; omega⟩⟩, fun q => ⟨fun z => absurd (w6.2 (by omega)) z, fun _ => ⟨by omega, ⟨by omega, by omega⟩, by show (8 - 6 : Int).toNat < (8 - k).toNat; omega⟩⟩⟩, fun _ => ⟨fun _ => ⟨fun q => ⟨fun z => absurd (w7.1 (by omega)) z, fun _ => ⟨by omega, ⟨by omega, by omega⟩, by show (8 - 7 : Int).toNat < (8 - k).toNat; omega⟩⟩, fun q => ⟨fun z => absurd (w7.2 (by omega)) z, fun _ => ⟨by omega, ⟨by omega, by omega⟩, by show (8 - 7 : Int).toNat < (8 - k).toNat; omega⟩⟩⟩, fun _ => ⟨fun q => ⟨fun z => absurd (w8.1 (by omega)) z, fun _ => ⟨by omega, ⟨by omega, by omega⟩, by show (8 - 8 : Int).toNat < (8 - k).toNat; omega⟩⟩, fun q => ⟨fun z => absurd (w8.2 (by omega)) z, fun _ => ⟨by omega, ⟨by omega, by omega⟩, by show (8 - 8 : Int).toNat < (8 - k).toNat; omega⟩⟩⟩⟩⟩⟩⟩⟩⟩⟩
end Go.Proofs.YtmnpeneplobpdaaDoor.X
