/-
  nelson.Tell, by contract.
-/
import Derived.Test.YtmnpeneplobpdaaDoorSxNeD
import Derived.Test.YtmnpeneplobpdaaDoorSxNeF
namespace Go.Proofs.YtmnpeneplobpdaaDoor.X
open Go Go.SX Go.RowKit
set_option linter.unusedVariables false
set_option linter.unusedSimpArgs false

























noncomputable def tellV (G : List Int → Prop) (n : Nat) (l : List Int) : Int := if IsMs l then ruleV G n l else 0
theorem tellV_rng (G : List Int → Prop) (n : Nat) (l : List Int) : 0 ≤ tellV G n l ∧ tellV G n l ≤ 2 := by
  unfold tellV; split
  · exact ruleV_rng _ _ _
  · omega
def ntell_sp : SpecSh := { args := [(.lst 0)], res := (.tup [(.agg [(.int .i64 (.z 0)), (.int .i64 (.z 0)), (.int .i64 (.z 0)), (.int .i64 (.z 0)), (.int .i64 (.z 0)), (.int .i64 (.z 0)), (.int .i64 (.z 0)), (.int .i64 (.z 0))]), (.int .i64 (.z 0))]), sh := [.i (some (0, 2)), .i (some (0, 2)), .i (some (0, 2)), .i (some (0, 2)), .i (some (0, 2)), .i (some (0, 2)), .i (some (0, 2)), .i (some (0, 2)), .i (some (0, 1))] }
set_option maxRecDepth 100000 in
def ntell_tree : Tree :=
.call 24 [.b] [.l (.v 0)] <|
.ite (.not (.v 1)) (.ret (.tup [(.agg [(.int .i64 (.z 0)), (.int .i64 (.z 0)), (.int .i64 (.z 0)), (.int .i64 (.z 0)), (.int .i64 (.z 0)), (.int .i64 (.z 0)), (.int .i64 (.z 0)), (.int .i64 (.z 0))]), (.int .i64 (.z 1))])) <|
.lett (.len 0) <|
.loop [.i (some (0, 100000)), .l] [.i (.z 0), .l (.nil)] <|
.ite (.cmp .lt (.v 3) (.v 2)) (.lett (.nth 0 (.v 3)) <|
.call 25 [.i (some ((-4), 4)), .i (some ((-4), 4)), .i (some (0, 1))] [.i (.v 5)] <|
.lett (.cnt 4 3) <|
.ite (.cmp .le (.v 9) (.z 100000)) (.letl (.app 4 [.v 5, .v 6, .v 7]) <|
.lett (.add (.v 3) (.z 1)) <|
.again 0 [.i (.v 11), .l (.v 10)]) <|
.bad 113) <|
.loop [.i (some (0, 8)), .i (some (0, 2)), .i (some (0, 2)), .i (some (0, 2)), .i (some (0, 2)), .i (some (0, 2)), .i (some (0, 2)), .i (some (0, 2)), .i (some (0, 2))] [.i (.z 0), .i (.z 0), .i (.z 0), .i (.z 0), .i (.z 0), .i (.z 0), .i (.z 0), .i (.z 0), .i (.z 0)] <|
.ite (.cmp .lt (.v 5) (.z 8)) (.ite (.cmp .le (.v 5) (.z 0)) (.call 34 [.i (some (0, 2))] [.l (.v 4)] <|
.again 1 [.i (.z 1), .i (.v 14), .i (.v 7), .i (.v 8), .i (.v 9), .i (.v 10), .i (.v 11), .i (.v 12), .i (.v 13)]) <|
.ite (.cmp .le (.v 5) (.z 1)) (.call 35 [.i (some (0, 2))] [.l (.v 4)] <|
.again 1 [.i (.z 2), .i (.v 6), .i (.v 14), .i (.v 8), .i (.v 9), .i (.v 10), .i (.v 11), .i (.v 12), .i (.v 13)]) <|
.ite (.cmp .le (.v 5) (.z 2)) (.call 36 [.i (some (0, 2))] [.l (.v 4)] <|
.again 1 [.i (.z 3), .i (.v 6), .i (.v 7), .i (.v 14), .i (.v 9), .i (.v 10), .i (.v 11), .i (.v 12), .i (.v 13)]) <|
.ite (.cmp .le (.v 5) (.z 3)) (.call 37 [.i (some (0, 2))] [.l (.v 4)] <|
.again 1 [.i (.z 4), .i (.v 6), .i (.v 7), .i (.v 8), .i (.v 14), .i (.v 10), .i (.v 11), .i (.v 12), .i (.v 13)]) <|
.ite (.cmp .le (.v 5) (.z 4)) (.call 38 [.i (some (0, 2))] [.l (.v 4)] <|
.again 1 [.i (.z 5), .i (.v 6), .i (.v 7), .i (.v 8), .i (.v 9), .i (.v 14), .i (.v 11), .i (.v 12), .i (.v 13)]) <|
.ite (.cmp .le (.v 5) (.z 5)) (.call 39 [.i (some (0, 2))] [.l (.v 4)] <|
.again 1 [.i (.z 6), .i (.v 6), .i (.v 7), .i (.v 8), .i (.v 9), .i (.v 10), .i (.v 14), .i (.v 12), .i (.v 13)]) <|
.ite (.cmp .le (.v 5) (.z 6)) (.call 40 [.i (some (0, 2))] [.l (.v 4)] <|
.again 1 [.i (.z 7), .i (.v 6), .i (.v 7), .i (.v 8), .i (.v 9), .i (.v 10), .i (.v 11), .i (.v 14), .i (.v 13)]) <|
.call 41 [.i (some (0, 2))] [.l (.v 4)] <|
.again 1 [.i (.z 8), .i (.v 6), .i (.v 7), .i (.v 8), .i (.v 9), .i (.v 10), .i (.v 11), .i (.v 12), .i (.v 14)]) <|
.ret (.tup [(.agg [(.int .i64 (.v 6)), (.int .i64 (.v 7)), (.int .i64 (.v 8)), (.int .i64 (.v 9)), (.int .i64 (.v 10)), (.int .i64 (.v 11)), (.int .i64 (.v 12)), (.int .i64 (.v 13))]), (.int .i64 (.z 0))])
noncomputable def ntell_cx : Ctx := { tys := tys, fns := fns, mets := mets, sps := [(24, nmay_sp), (25, zends_sp), (34, nbeyond_sp), (35, nside_sp), (36, ntrend_sp), (37, nturns_sp), (38, ntwo_sp), (39, nfour_sp), (40, nnear_sp), (41, nfar_sp)], anns := [((14, 6), { slots := [19], cells := [], ivs := [some (0, 100000)], lsts := [5], elem := (3 * 10000 + 51) }), ((14, 12), { slots := [38], cells := [], ivs := [some (0, 8), some (0, 2), some (0, 2), some (0, 2), some (0, 2), some (0, 2), some (0, 2), some (0, 2), some (0, 2)], pc := [(4, 0), (4, 1), (4, 2), (4, 3), (4, 4), (4, 5), (4, 6), (4, 7)] })], trys := [] }
def ntell_ivs : List (Option (Int × Int)) := [none]
set_option maxRecDepth 100000 in
theorem ntell_walk : runFn ntell_cx 3000 14 Tryd.f14 ntell_sp.args ntell_ivs = ntell_tree := by kernel_rfl
noncomputable def ntell_M : Nat → SpecSem
  | 24 => nmay_sem
  | 25 => zends_sem
  | 34 => nbeyond_sem
  | 35 => nside_sem
  | 36 => ntrend_sem
  | 37 => nturns_sem
  | 38 => ntwo_sem
  | 39 => nfour_sem
  | 40 => nnear_sem
  | 41 => nfar_sem
  | _ => noSem
theorem ntell_M24 : ntell_M 24 = nmay_sem := rfl
theorem ntell_M25 : ntell_M 25 = zends_sem := rfl
theorem ntell_M34 : ntell_M 34 = nbeyond_sem := rfl
theorem ntell_M35 : ntell_M 35 = nside_sem := rfl
theorem ntell_M36 : ntell_M 36 = ntrend_sem := rfl
theorem ntell_M37 : ntell_M 37 = nturns_sem := rfl
theorem ntell_M38 : ntell_M 38 = ntwo_sem := rfl
theorem ntell_M39 : ntell_M 39 = nfour_sem := rfl
theorem ntell_M40 : ntell_M 40 = nnear_sem := rfl
theorem ntell_M41 : ntell_M 41 = nfar_sem := rfl
theorem ntell_cxok : CxOK Tryd.prog ntell_cx ntell_M tzG := ⟨tysOK, fnsOK, spCons nmay_ok <| spCons zends_ok <| spCons nbeyond_ok <| spCons nside_ok <| spCons ntrend_ok <| spCons nturns_ok <| spCons ntwo_ok <| spCons nfour_ok <| spCons nnear_ok <| spCons nfar_ok <| fun _ _ h => spNil h, mixedOK, fun _ _ h => trNil h, fun _ _ h => atNil h, metsOK, fun _ _ h => efNil h, fun _ _ h => lsNil h⟩
set_option maxRecDepth 100000 in
set_option maxHeartbeats 8000000 in
theorem ntell_den (R RP : Value → Prop) (F : Ex → St → Js → Env → Prop) (x0 : List Int) : Tree.den ntell_M R RP F ntell_tree [] [(.l x0)] = (
  (nmay_sem.pre [(.l (x0))]) ∧ (
((!(Cv.bool (Env.get (nmay_sem.out [(.l (x0))]) 0))) = true → R (Value.tuple [(Value.agg [(Value.int .i64 (0 : Int)), (Value.int .i64 (0 : Int)), (Value.int .i64 (0 : Int)), (Value.int .i64 (0 : Int)), (Value.int .i64 (0 : Int)), (Value.int .i64 (0 : Int)), (Value.int .i64 (0 : Int)), (Value.int .i64 (0 : Int))].toArray), (Value.int .i64 (1 : Int))].toArray)) ∧ ((!(Cv.bool (Env.get (nmay_sem.out [(.l (x0))]) 0))) = false → ∀ x2 : Int, x2 = ((List.length x0 : Int)) →
∃ (I0 : List Cv → Prop) (mu0 : List Cv → Nat), Fits [.i (some ((0), (100000))), .l] [(.i (0 : Int)), (.l (([] : List Int)))] ∧ I0 [(.i (0 : Int)), (.l (([] : List Int)))] ∧ (
∀ x3 : Int, (0 : Int) ≤ x3 → x3 ≤ (100000 : Int) → ∀ x4 : List Int, InI x4 → I0 [.i x3, .l x4] →
((Cmp.den .lt x3 x2) = true → ∀ x5 : Int, x5 = (List.getD x0 (Int.toNat x3) 0) →
(zends_sem.pre [(.i x5)]) ∧ (
∀ x6 : Int, x6 = (Cv.int (Env.get (zends_sem.out [(.i x5)]) 0)) → (-4 : Int) ≤ x6 → x6 ≤ (4 : Int) →
∀ x7 : Int, x7 = (Cv.int (Env.get (zends_sem.out [(.i x5)]) 1)) → (-4 : Int) ≤ x7 → x7 ≤ (4 : Int) →
∀ x8 : Int, x8 = (Cv.int (Env.get (zends_sem.out [(.i x5)]) 2)) → (0 : Int) ≤ x8 → x8 ≤ (1 : Int) →
∀ x9 : Int, x9 = (((List.length x4 / 3 : Nat) : Int)) →
((Cmp.den .le x9 (100000 : Int)) = true → ∀ x10 : List Int, x10 = (x4 ++ ([x5, x6, x7] : List Int)) →
∀ x11 : Int, x11 = (x3 + (1 : Int)) →
Fits [.i (some ((0), (100000))), .l] [(.i x11), (.l (x10))] ∧ I0 [(.i x11), (.l (x10))] ∧ mu0 [(.i x11), (.l (x10))] < mu0 [.i x3, .l x4]) ∧ ((Cmp.den .le x9 (100000 : Int)) = false → False))) ∧ ((Cmp.den .lt x3 x2) = false → ∃ (I1 : List Cv → Prop) (mu1 : List Cv → Nat), Fits [.i (some ((0), (8))), .i (some ((0), (2))), .i (some ((0), (2))), .i (some ((0), (2))), .i (some ((0), (2))), .i (some ((0), (2))), .i (some ((0), (2))), .i (some ((0), (2))), .i (some ((0), (2)))] [(.i (0 : Int)), (.i (0 : Int)), (.i (0 : Int)), (.i (0 : Int)), (.i (0 : Int)), (.i (0 : Int)), (.i (0 : Int)), (.i (0 : Int)), (.i (0 : Int))] ∧ I1 [(.i (0 : Int)), (.i (0 : Int)), (.i (0 : Int)), (.i (0 : Int)), (.i (0 : Int)), (.i (0 : Int)), (.i (0 : Int)), (.i (0 : Int)), (.i (0 : Int))] ∧ (
∀ x5 : Int, (0 : Int) ≤ x5 → x5 ≤ (8 : Int) → ∀ x6 : Int, (0 : Int) ≤ x6 → x6 ≤ (2 : Int) → ∀ x7 : Int, (0 : Int) ≤ x7 → x7 ≤ (2 : Int) → ∀ x8 : Int, (0 : Int) ≤ x8 → x8 ≤ (2 : Int) → ∀ x9 : Int, (0 : Int) ≤ x9 → x9 ≤ (2 : Int) → ∀ x10 : Int, (0 : Int) ≤ x10 → x10 ≤ (2 : Int) → ∀ x11 : Int, (0 : Int) ≤ x11 → x11 ≤ (2 : Int) → ∀ x12 : Int, (0 : Int) ≤ x12 → x12 ≤ (2 : Int) → ∀ x13 : Int, (0 : Int) ≤ x13 → x13 ≤ (2 : Int) → I1 [.i x5, .i x6, .i x7, .i x8, .i x9, .i x10, .i x11, .i x12, .i x13] →
((Cmp.den .lt x5 (8 : Int)) = true → ((Cmp.den .le x5 (0 : Int)) = true → (nbeyond_sem.pre [(.l (x4))]) ∧ (
∀ x14 : Int, x14 = (Cv.int (Env.get (nbeyond_sem.out [(.l (x4))]) 0)) → (0 : Int) ≤ x14 → x14 ≤ (2 : Int) →
Fits [.i (some ((0), (8))), .i (some ((0), (2))), .i (some ((0), (2))), .i (some ((0), (2))), .i (some ((0), (2))), .i (some ((0), (2))), .i (some ((0), (2))), .i (some ((0), (2))), .i (some ((0), (2)))] [(.i (1 : Int)), (.i x14), (.i x7), (.i x8), (.i x9), (.i x10), (.i x11), (.i x12), (.i x13)] ∧ I1 [(.i (1 : Int)), (.i x14), (.i x7), (.i x8), (.i x9), (.i x10), (.i x11), (.i x12), (.i x13)] ∧ mu1 [(.i (1 : Int)), (.i x14), (.i x7), (.i x8), (.i x9), (.i x10), (.i x11), (.i x12), (.i x13)] < mu1 [.i x5, .i x6, .i x7, .i x8, .i x9, .i x10, .i x11, .i x12, .i x13])) ∧ ((Cmp.den .le x5 (0 : Int)) = false → ((Cmp.den .le x5 (1 : Int)) = true → (nside_sem.pre [(.l (x4))]) ∧ (
∀ x14 : Int, x14 = (Cv.int (Env.get (nside_sem.out [(.l (x4))]) 0)) → (0 : Int) ≤ x14 → x14 ≤ (2 : Int) →
Fits [.i (some ((0), (8))), .i (some ((0), (2))), .i (some ((0), (2))), .i (some ((0), (2))), .i (some ((0), (2))), .i (some ((0), (2))), .i (some ((0), (2))), .i (some ((0), (2))), .i (some ((0), (2)))] [(.i (2 : Int)), (.i x6), (.i x14), (.i x8), (.i x9), (.i x10), (.i x11), (.i x12), (.i x13)] ∧ I1 [(.i (2 : Int)), (.i x6), (.i x14), (.i x8), (.i x9), (.i x10), (.i x11), (.i x12), (.i x13)] ∧ mu1 [(.i (2 : Int)), (.i x6), (.i x14), (.i x8), (.i x9), (.i x10), (.i x11), (.i x12), (.i x13)] < mu1 [.i x5, .i x6, .i x7, .i x8, .i x9, .i x10, .i x11, .i x12, .i x13])) ∧ ((Cmp.den .le x5 (1 : Int)) = false → ((Cmp.den .le x5 (2 : Int)) = true → (ntrend_sem.pre [(.l (x4))]) ∧ (
∀ x14 : Int, x14 = (Cv.int (Env.get (ntrend_sem.out [(.l (x4))]) 0)) → (0 : Int) ≤ x14 → x14 ≤ (2 : Int) →
Fits [.i (some ((0), (8))), .i (some ((0), (2))), .i (some ((0), (2))), .i (some ((0), (2))), .i (some ((0), (2))), .i (some ((0), (2))), .i (some ((0), (2))), .i (some ((0), (2))), .i (some ((0), (2)))] [(.i (3 : Int)), (.i x6), (.i x7), (.i x14), (.i x9), (.i x10), (.i x11), (.i x12), (.i x13)] ∧ I1 [(.i (3 : Int)), (.i x6), (.i x7), (.i x14), (.i x9), (.i x10), (.i x11), (.i x12), (.i x13)] ∧ mu1 [(.i (3 : Int)), (.i x6), (.i x7), (.i x14), (.i x9), (.i x10), (.i x11), (.i x12), (.i x13)] < mu1 [.i x5, .i x6, .i x7, .i x8, .i x9, .i x10, .i x11, .i x12, .i x13])) ∧ ((Cmp.den .le x5 (2 : Int)) = false → ((Cmp.den .le x5 (3 : Int)) = true → (nturns_sem.pre [(.l (x4))]) ∧ (
∀ x14 : Int, x14 = (Cv.int (Env.get (nturns_sem.out [(.l (x4))]) 0)) → (0 : Int) ≤ x14 → x14 ≤ (2 : Int) →
Fits [.i (some ((0), (8))), .i (some ((0), (2))), .i (some ((0), (2))), .i (some ((0), (2))), .i (some ((0), (2))), .i (some ((0), (2))), .i (some ((0), (2))), .i (some ((0), (2))), .i (some ((0), (2)))] [(.i (4 : Int)), (.i x6), (.i x7), (.i x8), (.i x14), (.i x10), (.i x11), (.i x12), (.i x13)] ∧ I1 [(.i (4 : Int)), (.i x6), (.i x7), (.i x8), (.i x14), (.i x10), (.i x11), (.i x12), (.i x13)] ∧ mu1 [(.i (4 : Int)), (.i x6), (.i x7), (.i x8), (.i x14), (.i x10), (.i x11), (.i x12), (.i x13)] < mu1 [.i x5, .i x6, .i x7, .i x8, .i x9, .i x10, .i x11, .i x12, .i x13])) ∧ ((Cmp.den .le x5 (3 : Int)) = false → ((Cmp.den .le x5 (4 : Int)) = true → (ntwo_sem.pre [(.l (x4))]) ∧ (
∀ x14 : Int, x14 = (Cv.int (Env.get (ntwo_sem.out [(.l (x4))]) 0)) → (0 : Int) ≤ x14 → x14 ≤ (2 : Int) →
Fits [.i (some ((0), (8))), .i (some ((0), (2))), .i (some ((0), (2))), .i (some ((0), (2))), .i (some ((0), (2))), .i (some ((0), (2))), .i (some ((0), (2))), .i (some ((0), (2))), .i (some ((0), (2)))] [(.i (5 : Int)), (.i x6), (.i x7), (.i x8), (.i x9), (.i x14), (.i x11), (.i x12), (.i x13)] ∧ I1 [(.i (5 : Int)), (.i x6), (.i x7), (.i x8), (.i x9), (.i x14), (.i x11), (.i x12), (.i x13)] ∧ mu1 [(.i (5 : Int)), (.i x6), (.i x7), (.i x8), (.i x9), (.i x14), (.i x11), (.i x12), (.i x13)] < mu1 [.i x5, .i x6, .i x7, .i x8, .i x9, .i x10, .i x11, .i x12, .i x13])) ∧ ((Cmp.den .le x5 (4 : Int)) = false → ((Cmp.den .le x5 (5 : Int)) = true → (nfour_sem.pre [(.l (x4))]) ∧ (
∀ x14 : Int, x14 = (Cv.int (Env.get (nfour_sem.out [(.l (x4))]) 0)) → (0 : Int) ≤ x14 → x14 ≤ (2 : Int) →
Fits [.i (some ((0), (8))), .i (some ((0), (2))), .i (some ((0), (2))), .i (some ((0), (2))), .i (some ((0), (2))), .i (some ((0), (2))), .i (some ((0), (2))), .i (some ((0), (2))), .i (some ((0), (2)))] [(.i (6 : Int)), (.i x6), (.i x7), (.i x8), (.i x9), (.i x10), (.i x14), (.i x12), (.i x13)] ∧ I1 [(.i (6 : Int)), (.i x6), (.i x7), (.i x8), (.i x9), (.i x10), (.i x14), (.i x12), (.i x13)] ∧ mu1 [(.i (6 : Int)), (.i x6), (.i x7), (.i x8), (.i x9), (.i x10), (.i x14), (.i x12), (.i x13)] < mu1 [.i x5, .i x6, .i x7, .i x8, .i x9, .i x10, .i x11, .i x12, .i x13])) ∧ ((Cmp.den .le x5 (5 : Int)) = false → ((Cmp.den .le x5 (6 : Int)) = true → (nnear_sem.pre [(.l (x4))]) ∧ (
∀ x14 : Int, x14 = (Cv.int (Env.get (nnear_sem.out [(.l (x4))]) 0)) → (0 : Int) ≤ x14 → x14 ≤ (2 : Int) →
Fits [.i (some ((0), (8))), .i (some ((0), (2))), .i (some ((0), (2))), .i (some ((0), (2))), .i (some ((0), (2))), .i (some ((0), (2))), .i (some ((0), (2))), .i (some ((0), (2))), .i (some ((0), (2)))] [(.i (7 : Int)), (.i x6), (.i x7), (.i x8), (.i x9), (.i x10), (.i x11), (.i x14), (.i x13)] ∧ I1 [(.i (7 : Int)), (.i x6), (.i x7), (.i x8), (.i x9), (.i x10), (.i x11), (.i x14), (.i x13)] ∧ mu1 [(.i (7 : Int)), (.i x6), (.i x7), (.i x8), (.i x9), (.i x10), (.i x11), (.i x14), (.i x13)] < mu1 [.i x5, .i x6, .i x7, .i x8, .i x9, .i x10, .i x11, .i x12, .i x13])) ∧ ((Cmp.den .le x5 (6 : Int)) = false → (nfar_sem.pre [(.l (x4))]) ∧ (
∀ x14 : Int, x14 = (Cv.int (Env.get (nfar_sem.out [(.l (x4))]) 0)) → (0 : Int) ≤ x14 → x14 ≤ (2 : Int) →
Fits [.i (some ((0), (8))), .i (some ((0), (2))), .i (some ((0), (2))), .i (some ((0), (2))), .i (some ((0), (2))), .i (some ((0), (2))), .i (some ((0), (2))), .i (some ((0), (2))), .i (some ((0), (2)))] [(.i (8 : Int)), (.i x6), (.i x7), (.i x8), (.i x9), (.i x10), (.i x11), (.i x12), (.i x14)] ∧ I1 [(.i (8 : Int)), (.i x6), (.i x7), (.i x8), (.i x9), (.i x10), (.i x11), (.i x12), (.i x14)] ∧ mu1 [(.i (8 : Int)), (.i x6), (.i x7), (.i x8), (.i x9), (.i x10), (.i x11), (.i x12), (.i x14)] < mu1 [.i x5, .i x6, .i x7, .i x8, .i x9, .i x10, .i x11, .i x12, .i x13]))))))))) ∧ ((Cmp.den .lt x5 (8 : Int)) = false → R (Value.tuple [(Value.agg [(Value.int .i64 x6), (Value.int .i64 x7), (Value.int .i64 x8), (Value.int .i64 x9), (Value.int .i64 x10), (Value.int .i64 x11), (Value.int .i64 x12), (Value.int .i64 x13)].toArray), (Value.int .i64 (0 : Int))].toArray)))))))) := by kernel_rfl

noncomputable def ntell_sem : SpecSem := { pre := fun cs => match cs with | [.l l] => InI l | _ => False, out := fun cs => match cs with | [.l l] => [.i (tellV G1 1 l), .i (tellV G2 9 l), .i (tellV G3 6 l), .i (tellV G4 14 l), .i (tellV G5 3 l), .i (tellV G6 5 l), .i (tellV G7 15 l), .i (tellV G8 8 l), .i (if IsMs l then 0 else 1)] | _ => [], g := tzG }
set_option maxRecDepth 10000 in
set_option maxHeartbeats 16000000 in
theorem ntell_ok : SpecOK Tryd.prog 14 ntell_sp ntell_sem := by
  refine spec_of_tree ntell_cxok Tryd.func14 (by kernel_rfl) (by kernel_rfl) ntell_walk rfl ?_
  intro cs hpre
  match cs, hpre with
  | [.l l], j_l =>
    have j_l : InI l := j_l
    refine ⟨rfl, IvsB.ok (by simp only [ntell_ivs, IvsB, Cv.int, and_true, j_l, true_and] <;> omega), ?_, ?_⟩
    · have q := fun G n => tellV_rng G n l
      simp only [ntell_sem, ntell_sp, Fits, and_true]
      (repeat' (refine And.intro ?_ ?_)) <;> first | exact (q _ _).1 | exact (q _ _).2 | (split <;> omega)
    · rw [ntell_den]
      rcases Decidable.em (IsMs l) with hl | hl
      · have ev := fun G n => show tellV G n l = ruleV G n l from if_pos hl
        have el : (if IsMs l then (0 : Int) else 1) = 0 := if_pos hl
        simp only [ntell_sem, ntell_sp, nmay_sem, zends_sem, nbeyond_sem, nside_sem, ntrend_sem, nturns_sem, ntwo_sem, nfour_sem, nnear_sem, nfar_sem, ntell_den, nmay_sem, zends_sem, nbeyond_sem, nside_sem, ntrend_sem, nturns_sem, ntwo_sem, nfour_sem, nnear_sem, nfar_sem, Tree.den, LE.den, Cv.list, placeA, List.getElem?_cons_zero, List.getElem?_cons_succ, IE.den, BE.den, At.den, CA.den, Env.get, Cv.int, Cv.bool, List.cons_append, List.nil_append, List.map_cons, List.map_nil, bindRes, bindEq, Fits, SV.den, denL, place, placeL, eq_t, eq_f, lt_t, lt_f, le_t, le_f, beq_iff_eq, beq_eq_false_iff_ne, ne_eq, reduceCtorEq, b_dec, decide_eq_true_eq, decide_eq_false_iff_not, Bool.not_eq_false', Bool.or_eq_true, Bool.or_eq_false_iff, Bool.and_eq_false_iff, true_iff, false_iff, Bool.false_eq_true, Bool.not_eq_true', Bool.and_eq_true, Bool.not_true, Bool.not_false, List.cons.injEq, Cv.i.injEq, Cv.b.injEq, and_true, true_and, agg_inj, tup_inj, Value.int.injEq, Value.bool.injEq, hl, ev, el, j_l, forall_eq, eq_self, if_true, if_false, true_and, and_true, false_and, and_false, true_or, or_true, false_or, or_false, true_iff, iff_true, false_iff, iff_false, not_true_eq_false, not_false_eq_true, true_implies, false_implies, implies_true, forall_const, decide_true, decide_false, reduceCtorEq]
        have hlen := hl.1
        refine ⟨fun vs => match vs with | [.i i, .l ys] => i ≤ (l.length : Int) ∧ ys = ptOf (l.take i.toNat) | _ => False, fun vs => match vs with | [.i i, .l _] => (100 - i).toNat | _ => 0, ⟨by omega, by omega, inI_nil⟩, ⟨by omega, rfl⟩, ?_⟩
        intro i i0 i1 ys hys hI
        obtain ⟨h1, rfl⟩ : i ≤ (l.length : Int) ∧ ys = ptOf (l.take i.toNat) := hI
        refine ⟨fun hlt => ?_, fun hge => ?_⟩
        · have hM := hl.2 _ (getD_mem (show i.toNat < l.length by omega))
          have hE := ends_of hM
          have d1 : (1 ≤ l.getD i.toNat 0 ∧ l.getD i.toNat 0 ≤ 511) = True := eq_true hM
          have hT : l.take (i + 1).toNat = l.take i.toNat ++ [l.getD i.toNat 0] := by
            rw [show (i + 1).toNat = i.toNat + 1 by omega, ← List.take_append_getElem (show i.toNat < l.length by omega)]
            simp [List.getD, show i.toNat < l.length by omega]
          have hI2 := inI_pt (ms := l.take (i + 1).toNat) fun m hm => hl.2 m (List.mem_of_mem_take hm)
          have hS : ptOf (l.take i.toNat) ++ [l.getD i.toNat 0, loZ (l.getD i.toNat 0), hiZ (l.getD i.toNat 0)] = ptOf (l.take (i + 1).toNat) := by rw [hT, ← pt_app]
          simp only [d1, hS, pt_cnt, if_true]
          refine ⟨⟨by have := hM.1; omega, by have := hM.2; omega⟩, fun _ _ _ _ _ _ => ⟨fun _ => ⟨⟨by omega, by omega, hI2⟩, ⟨by omega, by first | exact trivial | rfl⟩, by show (100 - (i + 1)).toNat < (100 - i).toNat; omega⟩, fun q => ?_⟩⟩
          rw [List.length_take] at q; omega
        · have et : l.take i.toNat = l := List.take_of_length_le (by omega)
          rw [et] at hys ⊢
          have hP : IsP (ptOf l) := ⟨l, rfl, hl.2, hlen⟩
          simp only [mks_pt]
          have q1 := ruleV_rng G1 1 l; have q2 := ruleV_rng G2 9 l; have q3 := ruleV_rng G3 6 l; have q4 := ruleV_rng G4 14 l
          have q5 := ruleV_rng G5 3 l; have q6 := ruleV_rng G6 5 l; have q7 := ruleV_rng G7 15 l; have q8 := ruleV_rng G8 8 l
          generalize ruleV G1 1 l = v1 at *
          generalize ruleV G2 9 l = v2 at *
          generalize ruleV G3 6 l = v3 at *
          generalize ruleV G4 14 l = v4 at *
          generalize ruleV G5 3 l = v5 at *
          generalize ruleV G6 5 l = v6 at *
          generalize ruleV G7 15 l = v7 at *
          generalize ruleV G8 8 l = v8 at *
          refine ⟨fun vs => match vs with | [.i k, .i a1, .i a2, .i a3, .i a4, .i a5, .i a6, .i a7, .i a8] => (0 < k → a1 = v1) ∧ (1 < k → a2 = v2) ∧ (2 < k → a3 = v3) ∧ (3 < k → a4 = v4) ∧ (4 < k → a5 = v5) ∧ (5 < k → a6 = v6) ∧ (6 < k → a7 = v7) ∧ (7 < k → a8 = v8) | _ => False, fun vs => match vs with | .i k :: _ => (8 - k).toNat | _ => 0, (by omega), (by omega), ?_⟩
          intro k k0 k1 a1 a10 a11 a2 a20 a21 a3 a30 a31 a4 a40 a41 a5 a50 a51 a6 a60 a61 a7 a70 a71 a8 a80 a81 hJ
          have hJ : (0 < k → a1 = v1) ∧ (1 < k → a2 = v2) ∧ (2 < k → a3 = v3) ∧ (3 < k → a4 = v4) ∧ (4 < k → a5 = v5) ∧ (5 < k → a6 = v6) ∧ (6 < k → a7 = v7) ∧ (7 < k → a8 = v8) := hJ
          (repeat' (first | exact hP | exact hys | intro _ | refine And.intro ?_ ?_)) <;> first | omega | (show (8 - _ : Int).toNat < (8 - _ : Int).toNat; omega)
      · have ev := fun G n => show tellV G n l = 0 from if_neg hl
        have el : (if IsMs l then (0 : Int) else 1) = 1 := if_neg hl
        simp only [ntell_sem, ntell_sp, nmay_sem, ntell_den, nmay_sem, zends_sem, nbeyond_sem, nside_sem, ntrend_sem, nturns_sem, ntwo_sem, nfour_sem, nnear_sem, nfar_sem, Tree.den, LE.den, Cv.list, placeA, List.getElem?_cons_zero, List.getElem?_cons_succ, IE.den, BE.den, At.den, CA.den, Env.get, Cv.int, Cv.bool, List.cons_append, List.nil_append, List.map_cons, List.map_nil, bindRes, bindEq, Fits, SV.den, denL, place, placeL, eq_t, eq_f, lt_t, lt_f, le_t, le_f, beq_iff_eq, beq_eq_false_iff_ne, ne_eq, reduceCtorEq, b_dec, decide_eq_true_eq, decide_eq_false_iff_not, Bool.not_eq_false', Bool.or_eq_true, Bool.or_eq_false_iff, Bool.and_eq_false_iff, true_iff, false_iff, Bool.false_eq_true, Bool.not_eq_true', Bool.and_eq_true, Bool.not_true, Bool.not_false, List.cons.injEq, Cv.i.injEq, Cv.b.injEq, and_true, true_and, agg_inj, tup_inj, Value.int.injEq, Value.bool.injEq, hl, ev, el, j_l, forall_eq, eq_self, if_true, if_false, true_and, and_true, false_and, and_false, true_or, or_true, false_or, or_false, true_iff, iff_true, false_iff, iff_false, not_true_eq_false, not_false_eq_true, true_implies, false_implies, implies_true, forall_const, decide_true, decide_false, reduceCtorEq]
end Go.Proofs.YtmnpeneplobpdaaDoor.X
