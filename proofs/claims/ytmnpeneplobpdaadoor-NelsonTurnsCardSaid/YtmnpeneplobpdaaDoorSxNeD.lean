/-
  nelson's rules of steps: trend, turns. (Printed by wip/gen_steps.py.)
-/
import Derived.Test.YtmnpeneplobpdaaDoorSxNeStep
import Derived.Test.YtmnpeneplobpdaaDoorSxNeC
namespace Go.Proofs.YtmnpeneplobpdaaDoor.X
open Go Go.SX Go.RowKit
set_option linter.unusedVariables false
set_option linter.unusedSimpArgs false











theorem shl_below {h : Int} (h0 : -4 ≤ h) (h1 : h ≤ 4) : IntKind.i64.wrap (IntKind.i64.wrap (1 * 2 ^ (min (h + 4).toNat IntKind.i64.bits)) - 1) = belowZ (h - 1) := by
  rw [p2_deni (n := h + 4) (by omega) (by omega), Int.one_mul]
  have := p2_9 (n := h + 4) (by omega) (by omega)
  rw [w64 (x := p2 (h + 4)) (by omega) (by omega), w64 (by omega) (by omega)]
  unfold belowZ
  rw [show h - 1 + 5 = h + 4 by omega]
def ntrend_sp : SpecSh := { args := [(.sptr 0 (.z 0) 1003 0)], res := (.int .i64 (.z 0)), sh := [.i (some (0, 2))] }
set_option maxRecDepth 100000 in
def ntrend_tree : Tree :=
.lett (.cnt 0 3) <|
.ite (.cmp .lt (.v 1) (.z 6)) (.loop [.b, .b, .i (some (0, 511)), .i (some (0, 100000))] [.b (.cmp .lt (.z 0) (.z 0)), .b (.cmp .lt (.z 0) (.z 0)), .i (.z 0), .i (.z 0)] <|
.call 62 [.i (some (0, 2))] [.b (.v 2), .b (.v 3)] <|
.loop [.b, .b, .i (some (0, 511)), .i (some (0, 100000))] [.b (.cmp .lt (.z 0) (.z 0)), .b (.cmp .lt (.z 0) (.z 0)), .i (.z 0), .i (.z 0)] <|
.call 62 [.i (some (0, 2))] [.b (.v 7), .b (.v 8)] <|
.lett (.ite (.cmp .lt (.v 6) (.v 11)) (.v 11) (.v 6)) <|
.ret (.int .i64 (.v 12))) <|
.lett (.sub (.v 1) (.z 6)) <|
.ite (.cmp .le (.v 2) (.v 1)) (.ite (.cmp .le (.v 1) (.v 1)) (.letl (.subS 0 3 (.v 2) (.v 1)) <|
.lett (.cnt 3 3) <|
.loop [.b, .b, .i (some (0, 511)), .i (some (0, 100000))] [.b (.cmp .lt (.z 0) (.v 4)), .b (.cmp .lt (.z 0) (.v 4)), .i (.z 0), .i (.z 0)] <|
.ite (.cmp .lt (.v 8) (.v 4)) (.lett (.nthS 3 3 0 (.v 8)) <|
.lett (.nthS 3 3 1 (.v 8)) <|
.lett (.nthS 3 3 2 (.v 8)) <|
.ite (.cmp .eq (.v 8) (.z 0)) (.again 0 [.b (.v 5), .b (.v 6), .i (.v 9), .i (.z 1)]) <|
.lett (.sub (.v 8) (.z 1)) <|
.ite (.cmp .lt (.v 12) (.v 4)) (.lett (.nthS 3 3 0 (.v 12)) <|
.lett (.nthS 3 3 1 (.v 12)) <|
.lett (.nthS 3 3 2 (.v 12)) <|
.lett (.ite (.cmp .lt (.v 7) (.z 1)) (.z 1) (.v 7)) <|
.call 25 [.i (some ((-4), 4)), .i (some ((-4), 4)), .i (some (0, 1))] [.i (.v 16)] <|
.lett (.add (.v 17) (.z 1)) <|
.call 51 [.i (some (0, 511)), .i (some (0, 511))] [.i (.v 20)] <|
.lett (.bit .and .i64 (.v 9) (.v 21)) <|
.ite (.v 5) (.ite (.v 6) (.lett (.add (.v 8) (.z 1)) <|
.again 0 [.b (.cmp .lt (.v 15) (.v 10)), .b (.not (.cmp .eq (.v 23) (.z 0))), .i (.v 23), .i (.v 24)]) <|
.lett (.add (.v 8) (.z 1)) <|
.again 0 [.b (.cmp .lt (.v 15) (.v 10)), .b .f, .i (.v 23), .i (.v 24)]) <|
.ite (.v 6) (.lett (.add (.v 8) (.z 1)) <|
.again 0 [.b .f, .b (.not (.cmp .eq (.v 23) (.z 0))), .i (.v 23), .i (.v 24)]) <|
.lett (.add (.v 8) (.z 1)) <|
.again 0 [.b .f, .b .f, .i (.v 23), .i (.v 24)]) <|
.bad 29) <|
.call 62 [.i (some (0, 2))] [.b (.v 5), .b (.v 6)] <|
.loop [.b, .b, .i (some (0, 511)), .i (some (0, 100000))] [.b (.cmp .lt (.z 0) (.v 4)), .b (.cmp .lt (.z 0) (.v 4)), .i (.z 0), .i (.z 0)] <|
.ite (.cmp .lt (.v 13) (.v 4)) (.lett (.nthS 3 3 0 (.v 13)) <|
.lett (.nthS 3 3 1 (.v 13)) <|
.lett (.nthS 3 3 2 (.v 13)) <|
.ite (.cmp .eq (.v 13) (.z 0)) (.again 1 [.b (.v 10), .b (.v 11), .i (.v 14), .i (.z 1)]) <|
.lett (.sub (.v 13) (.z 1)) <|
.ite (.cmp .lt (.v 17) (.v 4)) (.lett (.nthS 3 3 0 (.v 17)) <|
.lett (.nthS 3 3 1 (.v 17)) <|
.lett (.nthS 3 3 2 (.v 17)) <|
.lett (.ite (.cmp .lt (.v 12) (.z 1)) (.z 1) (.v 12)) <|
.call 25 [.i (some ((-4), 4)), .i (some ((-4), 4)), .i (some (0, 1))] [.i (.v 21)] <|
.lett (.add (.v 23) (.z 4)) <|
.lett (.shl .i64 (.z 1) (.v 25)) <|
.lett (.subw .i64 (.v 26) (.z 1)) <|
.lett (.bit .and .i64 (.v 14) (.v 27)) <|
.ite (.v 10) (.ite (.v 11) (.lett (.add (.v 13) (.z 1)) <|
.again 1 [.b (.cmp .lt (.v 16) (.v 19)), .b (.not (.cmp .eq (.v 28) (.z 0))), .i (.v 28), .i (.v 29)]) <|
.lett (.add (.v 13) (.z 1)) <|
.again 1 [.b (.cmp .lt (.v 16) (.v 19)), .b .f, .i (.v 28), .i (.v 29)]) <|
.ite (.v 11) (.lett (.add (.v 13) (.z 1)) <|
.again 1 [.b .f, .b (.not (.cmp .eq (.v 28) (.z 0))), .i (.v 28), .i (.v 29)]) <|
.lett (.add (.v 13) (.z 1)) <|
.again 1 [.b .f, .b .f, .i (.v 28), .i (.v 29)]) <|
.bad 29) <|
.call 62 [.i (some (0, 2))] [.b (.v 10), .b (.v 11)] <|
.lett (.ite (.cmp .lt (.v 9) (.v 14)) (.v 14) (.v 9)) <|
.ret (.int .i64 (.v 15))) <|
.bad 120) <|
.bad 121
noncomputable def ntrend_cx : Ctx := { tys := tys, fns := fns, mets := mets, sps := [(51, nfrom_sp), (62, nsure_sp), (25, zends_sp)], anns := [((55, 4), { slots := [5, 6, 7, 25], cells := [], ivs := [none, none, some (0, 511), some (0, 100000)] })], trys := [] }
def ntrend_ivs : List (Option (Int × Int)) := [none]
set_option maxRecDepth 100000 in
theorem ntrend_walk : runFn ntrend_cx 3000 36 Tryd.f36 ntrend_sp.args ntrend_ivs = ntrend_tree := by kernel_rfl
noncomputable def ntrend_M : Nat → SpecSem
  | 51 => nfrom_sem
  | 62 => nsure_sem
  | 25 => zends_sem
  | _ => noSem
theorem ntrend_M51 : ntrend_M 51 = nfrom_sem := rfl
theorem ntrend_M62 : ntrend_M 62 = nsure_sem := rfl
theorem ntrend_M25 : ntrend_M 25 = zends_sem := rfl
theorem ntrend_cxok : CxOK Tryd.prog ntrend_cx ntrend_M tzG := ⟨tysOK, fnsOK, spCons nfrom_ok <| spCons nsure_ok <| spCons zends_ok <| fun _ _ h => spNil h, mixedOK, fun _ _ h => trNil h, fun _ _ h => atNil h, metsOK, fun _ _ h => efNil h, fun _ _ h => lsNil h⟩
set_option maxRecDepth 100000 in
set_option maxHeartbeats 8000000 in
theorem ntrend_den (R RP : Value → Prop) (F : Ex → St → Js → Env → Prop) (x0 : List Int) : Tree.den ntrend_M R RP F ntrend_tree [] [(.l x0)] = (
  ∀ x1 : Int, x1 = (((List.length x0 / 3 : Nat) : Int)) →
((Cmp.den .lt x1 (6 : Int)) = true → ∃ (I0 : List Cv → Prop) (mu0 : List Cv → Nat), Fits [.b, .b, .i (some ((0), (511))), .i (some ((0), (100000)))] [(.b (Cmp.den .lt (0 : Int) (0 : Int))), (.b (Cmp.den .lt (0 : Int) (0 : Int))), (.i (0 : Int)), (.i (0 : Int))] ∧ I0 [(.b (Cmp.den .lt (0 : Int) (0 : Int))), (.b (Cmp.den .lt (0 : Int) (0 : Int))), (.i (0 : Int)), (.i (0 : Int))] ∧ (
∀ x2 : Bool, ∀ x3 : Bool, ∀ x4 : Int, (0 : Int) ≤ x4 → x4 ≤ (511 : Int) → ∀ x5 : Int, (0 : Int) ≤ x5 → x5 ≤ (100000 : Int) → I0 [.b x2, .b x3, .i x4, .i x5] →
(nsure_sem.pre [(.b x2), (.b x3)]) ∧ (
∀ x6 : Int, x6 = (Cv.int (Env.get (nsure_sem.out [(.b x2), (.b x3)]) 0)) → (0 : Int) ≤ x6 → x6 ≤ (2 : Int) →
∃ (I1 : List Cv → Prop) (mu1 : List Cv → Nat), Fits [.b, .b, .i (some ((0), (511))), .i (some ((0), (100000)))] [(.b (Cmp.den .lt (0 : Int) (0 : Int))), (.b (Cmp.den .lt (0 : Int) (0 : Int))), (.i (0 : Int)), (.i (0 : Int))] ∧ I1 [(.b (Cmp.den .lt (0 : Int) (0 : Int))), (.b (Cmp.den .lt (0 : Int) (0 : Int))), (.i (0 : Int)), (.i (0 : Int))] ∧ (
∀ x7 : Bool, ∀ x8 : Bool, ∀ x9 : Int, (0 : Int) ≤ x9 → x9 ≤ (511 : Int) → ∀ x10 : Int, (0 : Int) ≤ x10 → x10 ≤ (100000 : Int) → I1 [.b x7, .b x8, .i x9, .i x10] →
(nsure_sem.pre [(.b x7), (.b x8)]) ∧ (
∀ x11 : Int, x11 = (Cv.int (Env.get (nsure_sem.out [(.b x7), (.b x8)]) 0)) → (0 : Int) ≤ x11 → x11 ≤ (2 : Int) →
∀ x12 : Int, x12 = (if (Cmp.den .lt x6 x11) = true then x11 else x6) →
R (Value.int .i64 x12)))))) ∧ ((Cmp.den .lt x1 (6 : Int)) = false → ∀ x2 : Int, x2 = (x1 - (6 : Int)) →
((Cmp.den .le x2 x1) = true → ((Cmp.den .le x1 x1) = true → ∀ x3 : List Int, x3 = (List.take ((Int.toNat x1 - Int.toNat x2) * 3) (List.drop (Int.toNat x2 * 3) x0)) →
∀ x4 : Int, x4 = (((List.length x3 / 3 : Nat) : Int)) →
∃ (I0 : List Cv → Prop) (mu0 : List Cv → Nat), Fits [.b, .b, .i (some ((0), (511))), .i (some ((0), (100000)))] [(.b (Cmp.den .lt (0 : Int) x4)), (.b (Cmp.den .lt (0 : Int) x4)), (.i (0 : Int)), (.i (0 : Int))] ∧ I0 [(.b (Cmp.den .lt (0 : Int) x4)), (.b (Cmp.den .lt (0 : Int) x4)), (.i (0 : Int)), (.i (0 : Int))] ∧ (
∀ x5 : Bool, ∀ x6 : Bool, ∀ x7 : Int, (0 : Int) ≤ x7 → x7 ≤ (511 : Int) → ∀ x8 : Int, (0 : Int) ≤ x8 → x8 ≤ (100000 : Int) → I0 [.b x5, .b x6, .i x7, .i x8] →
((Cmp.den .lt x8 x4) = true → ∀ x9 : Int, x9 = (List.getD x3 (Int.toNat x8 * 3 + 0) 0) →
∀ x10 : Int, x10 = (List.getD x3 (Int.toNat x8 * 3 + 1) 0) →
∀ x11 : Int, x11 = (List.getD x3 (Int.toNat x8 * 3 + 2) 0) →
((Cmp.den .eq x8 (0 : Int)) = true → Fits [.b, .b, .i (some ((0), (511))), .i (some ((0), (100000)))] [(.b x5), (.b x6), (.i x9), (.i (1 : Int))] ∧ I0 [(.b x5), (.b x6), (.i x9), (.i (1 : Int))] ∧ mu0 [(.b x5), (.b x6), (.i x9), (.i (1 : Int))] < mu0 [.b x5, .b x6, .i x7, .i x8]) ∧ ((Cmp.den .eq x8 (0 : Int)) = false → ∀ x12 : Int, x12 = (x8 - (1 : Int)) →
((Cmp.den .lt x12 x4) = true → ∀ x13 : Int, x13 = (List.getD x3 (Int.toNat x12 * 3 + 0) 0) →
∀ x14 : Int, x14 = (List.getD x3 (Int.toNat x12 * 3 + 1) 0) →
∀ x15 : Int, x15 = (List.getD x3 (Int.toNat x12 * 3 + 2) 0) →
∀ x16 : Int, x16 = (if (Cmp.den .lt x7 (1 : Int)) = true then (1 : Int) else x7) →
(zends_sem.pre [(.i x16)]) ∧ (
∀ x17 : Int, x17 = (Cv.int (Env.get (zends_sem.out [(.i x16)]) 0)) → (-4 : Int) ≤ x17 → x17 ≤ (4 : Int) →
∀ x18 : Int, x18 = (Cv.int (Env.get (zends_sem.out [(.i x16)]) 1)) → (-4 : Int) ≤ x18 → x18 ≤ (4 : Int) →
∀ x19 : Int, x19 = (Cv.int (Env.get (zends_sem.out [(.i x16)]) 2)) → (0 : Int) ≤ x19 → x19 ≤ (1 : Int) →
∀ x20 : Int, x20 = (x17 + (1 : Int)) →
(nfrom_sem.pre [(.i x20)]) ∧ (
∀ x21 : Int, x21 = (Cv.int (Env.get (nfrom_sem.out [(.i x20)]) 0)) → (0 : Int) ≤ x21 → x21 ≤ (511 : Int) →
∀ x22 : Int, x22 = (Cv.int (Env.get (nfrom_sem.out [(.i x20)]) 1)) → (0 : Int) ≤ x22 → x22 ≤ (511 : Int) →
∀ x23 : Int, x23 = (bitDen .and .i64 x9 x21) →
(x5 = true → (x6 = true → ∀ x24 : Int, x24 = (x8 + (1 : Int)) →
Fits [.b, .b, .i (some ((0), (511))), .i (some ((0), (100000)))] [(.b (Cmp.den .lt x15 x10)), (.b (!(Cmp.den .eq x23 (0 : Int)))), (.i x23), (.i x24)] ∧ I0 [(.b (Cmp.den .lt x15 x10)), (.b (!(Cmp.den .eq x23 (0 : Int)))), (.i x23), (.i x24)] ∧ mu0 [(.b (Cmp.den .lt x15 x10)), (.b (!(Cmp.den .eq x23 (0 : Int)))), (.i x23), (.i x24)] < mu0 [.b x5, .b x6, .i x7, .i x8]) ∧ (x6 = false → ∀ x24 : Int, x24 = (x8 + (1 : Int)) →
Fits [.b, .b, .i (some ((0), (511))), .i (some ((0), (100000)))] [(.b (Cmp.den .lt x15 x10)), (.b false), (.i x23), (.i x24)] ∧ I0 [(.b (Cmp.den .lt x15 x10)), (.b false), (.i x23), (.i x24)] ∧ mu0 [(.b (Cmp.den .lt x15 x10)), (.b false), (.i x23), (.i x24)] < mu0 [.b x5, .b x6, .i x7, .i x8])) ∧ (x5 = false → (x6 = true → ∀ x24 : Int, x24 = (x8 + (1 : Int)) →
Fits [.b, .b, .i (some ((0), (511))), .i (some ((0), (100000)))] [(.b false), (.b (!(Cmp.den .eq x23 (0 : Int)))), (.i x23), (.i x24)] ∧ I0 [(.b false), (.b (!(Cmp.den .eq x23 (0 : Int)))), (.i x23), (.i x24)] ∧ mu0 [(.b false), (.b (!(Cmp.den .eq x23 (0 : Int)))), (.i x23), (.i x24)] < mu0 [.b x5, .b x6, .i x7, .i x8]) ∧ (x6 = false → ∀ x24 : Int, x24 = (x8 + (1 : Int)) →
Fits [.b, .b, .i (some ((0), (511))), .i (some ((0), (100000)))] [(.b false), (.b false), (.i x23), (.i x24)] ∧ I0 [(.b false), (.b false), (.i x23), (.i x24)] ∧ mu0 [(.b false), (.b false), (.i x23), (.i x24)] < mu0 [.b x5, .b x6, .i x7, .i x8]))))) ∧ ((Cmp.den .lt x12 x4) = false → False))) ∧ ((Cmp.den .lt x8 x4) = false → (nsure_sem.pre [(.b x5), (.b x6)]) ∧ (
∀ x9 : Int, x9 = (Cv.int (Env.get (nsure_sem.out [(.b x5), (.b x6)]) 0)) → (0 : Int) ≤ x9 → x9 ≤ (2 : Int) →
∃ (I1 : List Cv → Prop) (mu1 : List Cv → Nat), Fits [.b, .b, .i (some ((0), (511))), .i (some ((0), (100000)))] [(.b (Cmp.den .lt (0 : Int) x4)), (.b (Cmp.den .lt (0 : Int) x4)), (.i (0 : Int)), (.i (0 : Int))] ∧ I1 [(.b (Cmp.den .lt (0 : Int) x4)), (.b (Cmp.den .lt (0 : Int) x4)), (.i (0 : Int)), (.i (0 : Int))] ∧ (
∀ x10 : Bool, ∀ x11 : Bool, ∀ x12 : Int, (0 : Int) ≤ x12 → x12 ≤ (511 : Int) → ∀ x13 : Int, (0 : Int) ≤ x13 → x13 ≤ (100000 : Int) → I1 [.b x10, .b x11, .i x12, .i x13] →
((Cmp.den .lt x13 x4) = true → ∀ x14 : Int, x14 = (List.getD x3 (Int.toNat x13 * 3 + 0) 0) →
∀ x15 : Int, x15 = (List.getD x3 (Int.toNat x13 * 3 + 1) 0) →
∀ x16 : Int, x16 = (List.getD x3 (Int.toNat x13 * 3 + 2) 0) →
((Cmp.den .eq x13 (0 : Int)) = true → Fits [.b, .b, .i (some ((0), (511))), .i (some ((0), (100000)))] [(.b x10), (.b x11), (.i x14), (.i (1 : Int))] ∧ I1 [(.b x10), (.b x11), (.i x14), (.i (1 : Int))] ∧ mu1 [(.b x10), (.b x11), (.i x14), (.i (1 : Int))] < mu1 [.b x10, .b x11, .i x12, .i x13]) ∧ ((Cmp.den .eq x13 (0 : Int)) = false → ∀ x17 : Int, x17 = (x13 - (1 : Int)) →
((Cmp.den .lt x17 x4) = true → ∀ x18 : Int, x18 = (List.getD x3 (Int.toNat x17 * 3 + 0) 0) →
∀ x19 : Int, x19 = (List.getD x3 (Int.toNat x17 * 3 + 1) 0) →
∀ x20 : Int, x20 = (List.getD x3 (Int.toNat x17 * 3 + 2) 0) →
∀ x21 : Int, x21 = (if (Cmp.den .lt x12 (1 : Int)) = true then (1 : Int) else x12) →
(zends_sem.pre [(.i x21)]) ∧ (
∀ x22 : Int, x22 = (Cv.int (Env.get (zends_sem.out [(.i x21)]) 0)) → (-4 : Int) ≤ x22 → x22 ≤ (4 : Int) →
∀ x23 : Int, x23 = (Cv.int (Env.get (zends_sem.out [(.i x21)]) 1)) → (-4 : Int) ≤ x23 → x23 ≤ (4 : Int) →
∀ x24 : Int, x24 = (Cv.int (Env.get (zends_sem.out [(.i x21)]) 2)) → (0 : Int) ≤ x24 → x24 ≤ (1 : Int) →
∀ x25 : Int, x25 = (x23 + (4 : Int)) →
∀ x26 : Int, x26 = (IntKind.i64.wrap ((1 : Int) * 2 ^ (min (Int.toNat x25) (IntKind.i64).bits))) →
∀ x27 : Int, x27 = (IntKind.i64.wrap (x26 - (1 : Int))) →
∀ x28 : Int, x28 = (bitDen .and .i64 x14 x27) →
(x10 = true → (x11 = true → ∀ x29 : Int, x29 = (x13 + (1 : Int)) →
Fits [.b, .b, .i (some ((0), (511))), .i (some ((0), (100000)))] [(.b (Cmp.den .lt x16 x19)), (.b (!(Cmp.den .eq x28 (0 : Int)))), (.i x28), (.i x29)] ∧ I1 [(.b (Cmp.den .lt x16 x19)), (.b (!(Cmp.den .eq x28 (0 : Int)))), (.i x28), (.i x29)] ∧ mu1 [(.b (Cmp.den .lt x16 x19)), (.b (!(Cmp.den .eq x28 (0 : Int)))), (.i x28), (.i x29)] < mu1 [.b x10, .b x11, .i x12, .i x13]) ∧ (x11 = false → ∀ x29 : Int, x29 = (x13 + (1 : Int)) →
Fits [.b, .b, .i (some ((0), (511))), .i (some ((0), (100000)))] [(.b (Cmp.den .lt x16 x19)), (.b false), (.i x28), (.i x29)] ∧ I1 [(.b (Cmp.den .lt x16 x19)), (.b false), (.i x28), (.i x29)] ∧ mu1 [(.b (Cmp.den .lt x16 x19)), (.b false), (.i x28), (.i x29)] < mu1 [.b x10, .b x11, .i x12, .i x13])) ∧ (x10 = false → (x11 = true → ∀ x29 : Int, x29 = (x13 + (1 : Int)) →
Fits [.b, .b, .i (some ((0), (511))), .i (some ((0), (100000)))] [(.b false), (.b (!(Cmp.den .eq x28 (0 : Int)))), (.i x28), (.i x29)] ∧ I1 [(.b false), (.b (!(Cmp.den .eq x28 (0 : Int)))), (.i x28), (.i x29)] ∧ mu1 [(.b false), (.b (!(Cmp.den .eq x28 (0 : Int)))), (.i x28), (.i x29)] < mu1 [.b x10, .b x11, .i x12, .i x13]) ∧ (x11 = false → ∀ x29 : Int, x29 = (x13 + (1 : Int)) →
Fits [.b, .b, .i (some ((0), (511))), .i (some ((0), (100000)))] [(.b false), (.b false), (.i x28), (.i x29)] ∧ I1 [(.b false), (.b false), (.i x28), (.i x29)] ∧ mu1 [(.b false), (.b false), (.i x28), (.i x29)] < mu1 [.b x10, .b x11, .i x12, .i x13])))) ∧ ((Cmp.den .lt x17 x4) = false → False))) ∧ ((Cmp.den .lt x13 x4) = false → (nsure_sem.pre [(.b x10), (.b x11)]) ∧ (
∀ x14 : Int, x14 = (Cv.int (Env.get (nsure_sem.out [(.b x10), (.b x11)]) 0)) → (0 : Int) ≤ x14 → x14 ≤ (2 : Int) →
∀ x15 : Int, x15 = (if (Cmp.den .lt x9 x14) = true then x14 else x9) →
R (Value.int .i64 x15)))))))) ∧ ((Cmp.den .le x1 x1) = false → False)) ∧ ((Cmp.den .le x2 x1) = false → False))) := by kernel_rfl

noncomputable def ntrend_sem : SpecSem := { pre := fun cs => match cs with | [.l l] => InI l ∧ (IsP l) | _ => False, out := fun cs => match cs with | [.l l] => [.i (ruleV G3 6 (mks l))] | _ => [], g := tzG }
set_option maxRecDepth 10000 in
set_option maxHeartbeats 16000000 in
theorem ntrend_ok : SpecOK Tryd.prog 36 ntrend_sp ntrend_sem := by
  refine spec_of_tree ntrend_cxok Tryd.func36 (by kernel_rfl) (by kernel_rfl) ntrend_walk rfl ?_
  intro cs hpre
  match cs, hpre with
  | [.l l], ⟨j_l, hx⟩ =>
    refine ⟨rfl, IvsB.ok (by simp only [ntrend_ivs, IvsB, Cv.int, and_true, j_l, true_and] <;> omega), ?_, ?_⟩
    · simp only [ntrend_sem, ntrend_sp, Fits, and_true]; exact ruleV_rng _ _ _
    · rw [ntrend_den]
      obtain ⟨ms, rfl, hm, hl⟩ := hx
      rcases Nat.lt_or_ge ms.length 6 with h | h
      · have hfin := ruleV_few (G := G3) h
        have hf : ((ms.length : Int) < 6) = True := eq_true (by omega)
        have hg : ((6 : Int) ≤ (ms.length : Int)) = False := eq_false (by omega)
        simp only [ntrend_sem, ntrend_sp, nfrom_sem, zends_sem, nsure_sem, ntrend_den, nfrom_sem, nsure_sem, zends_sem, Tree.den, LE.den, Cv.list, placeA, List.getElem?_cons_zero, List.getElem?_cons_succ, IE.den, BE.den, At.den, CA.den, Env.get, Cv.int, Cv.bool, List.cons_append, List.nil_append, List.map_cons, List.map_nil, bindRes, bindEq, Fits, SV.den, denL, place, placeL, eq_t, eq_f, lt_t, lt_f, le_t, le_f, beq_iff_eq, beq_eq_false_iff_ne, ne_eq, reduceCtorEq, b_dec, decide_eq_true_eq, decide_eq_false_iff_not, Bool.not_eq_false', Bool.or_eq_true, Bool.or_eq_false_iff, Bool.and_eq_false_iff, true_iff, false_iff, Bool.false_eq_true, Bool.not_eq_true', Bool.and_eq_true, Bool.not_true, Bool.not_false, List.cons.injEq, Cv.i.injEq, Cv.b.injEq, and_true, true_and, agg_inj, tup_inj, Value.int.injEq, Value.bool.injEq, mks_pt, pt_cnt, hfin, hf, hg, forall_eq, eq_self, if_true, if_false, true_and, and_true, false_and, and_false, true_or, or_true, false_or, or_false, true_iff, iff_true, false_iff, iff_false, not_true_eq_false, not_false_eq_true, true_implies, false_implies, implies_true, forall_const, decide_true, decide_false, reduceCtorEq]
        have hz : ∀ m ∈ ([] : List Int), IsM m := fun m h => (by cases h)
        refine ⟨stI (fun _ => true) [], stMu, (by omega), st_zero, ?_⟩
        intro e s g g0 g1 i i0 i1 hI _ _
        rw [st_end hz hI (by simpa using i0)]
        refine ⟨stI (fun _ => false) [], stMu, (by omega), st_zero, ?_⟩
        intro e' s' g' g0' g1' i' i0' i1' hI' _ _
        rw [st_end hz hI' (by simpa using i0'), stepsV_nil, stepsV_nil]
        rfl
      · have hf : ((ms.length : Int) < 6) = False := eq_false (by omega)
        have hg : ((6 : Int) ≤ (ms.length : Int)) = True := eq_true (by omega)
        have hL := last_pt (ms := ms) (n := 6) 6 rfl (by omega)
        have hl1 : ((ms.length : Int) - 6 ≤ (ms.length : Int)) = True := eq_true (by omega)
        have hl2 : ((ms.length : Int) < (ms.length : Int) - 6) = False := eq_false (by omega)
        simp only [ntrend_sem, ntrend_sp, nfrom_sem, zends_sem, nsure_sem, ntrend_den, nfrom_sem, nsure_sem, zends_sem, Tree.den, LE.den, Cv.list, placeA, List.getElem?_cons_zero, List.getElem?_cons_succ, IE.den, BE.den, At.den, CA.den, Env.get, Cv.int, Cv.bool, List.cons_append, List.nil_append, List.map_cons, List.map_nil, bindRes, bindEq, Fits, SV.den, denL, place, placeL, eq_t, eq_f, lt_t, lt_f, le_t, le_f, beq_iff_eq, beq_eq_false_iff_ne, ne_eq, reduceCtorEq, b_dec, decide_eq_true_eq, decide_eq_false_iff_not, Bool.not_eq_false', Bool.or_eq_true, Bool.or_eq_false_iff, Bool.and_eq_false_iff, true_iff, false_iff, Bool.false_eq_true, Bool.not_eq_true', Bool.and_eq_true, Bool.not_true, Bool.not_false, List.cons.injEq, Cv.i.injEq, Cv.b.injEq, and_true, true_and, agg_inj, tup_inj, Value.int.injEq, Value.bool.injEq, mks_pt, pt_cnt, hf, hg, hl1, hl2, hL, Int.lt_irrefl, Int.le_refl, forall_eq, eq_self, if_true, if_false, true_and, and_true, false_and, and_false, true_or, or_true, false_or, or_false, true_iff, iff_true, false_iff, iff_false, not_true_eq_false, not_false_eq_true, true_implies, false_implies, implies_true, forall_const, decide_true, decide_false, reduceCtorEq]
        have hm := lst_mem (n := 6) hm
        have hk := lst_len h
        have hfin : (if stepsV (fun _ => true) (lst 6 ms) < stepsV (fun _ => false) (lst 6 ms) then stepsV (fun _ => false) (lst 6 ms) else stepsV (fun _ => true) (lst 6 ms)) = ruleV G3 6 ms := by
          rw [ruleV_of h]
          exact steps_max hm (by omega) (fun i => rfl)
        clear hL hl1 hl2 hf hg j_l
        generalize lst 6 ms = ns at *
        refine ⟨stI (fun _ => true) ns, stMu, (by omega), st_zero, ?_⟩
        intro e1 s1 g1 g10 g11 i1 i10 i11 hI1
        have hI1r : (0 ≤ i1 ∧ i1 ≤ (ns.length : Int)) ∧ IsM0 g1 := ⟨hI1.1, hI1.2.1⟩
        refine ⟨fun hlt => ?_, fun hge _ _ => ?_⟩
        · have hM : IsM (if g1 < 1 then 1 else g1) := gm_rng hI1r.2
          have hE := ends_of hM
          have d1 : (1 ≤ (if g1 < 1 then 1 else g1) ∧ (if g1 < 1 then 1 else g1) ≤ 511) = True := eq_true hM
          have c0 := pt_get ns i1.toNat (by omega)
          have hcm := hm _ (getD_mem (show i1.toNat < ns.length by omega))
          have kmu : (100 - (i1 + 1)).toNat < (100 - i1).toNat := by omega
          rcases Decidable.em (i1 = 0) with z | z
          · subst z
            have c0 := pt_get ns 0 (by omega)
            have z0 : (0 : Int).toNat = 0 := rfl
            have hcm0 := hm _ (getD_mem (show 0 < ns.length by omega))
            refine ⟨fun _ => ?_, fun q => absurd rfl q⟩
            simp only [z0, c0]
            exact ⟨⟨by have := hcm0.1; omega, hcm0.2, by omega, by omega⟩, st_one hm hI1 hlt, (by show (100 - 1 : Int).toNat < (100 - 0 : Int).toNat; decide)⟩
          · refine ⟨fun q => absurd q z, fun _ => ⟨fun hp => ?_, fun q => by omega⟩⟩
            have cp := pt_get ns (i1 - 1).toNat (by omega)
            have ep : (i1 - 1).toNat = i1.toNat - 1 := by omega
            rw [ep] at cp
            have hA := above_rng (n := loZ (if g1 < 1 then 1 else g1) + 1) (by omega) (by omega)
            have hg := and_rng hcm.m0 hA
            have hgc : ∀ c, has (bitDen .and .i64 (ns.getD i1.toNat 0) (aboveZ (loZ (if g1 < 1 then 1 else g1) + 1))) c ↔ has (ns.getD i1.toNat 0) c ∧ if (fun _ => true) i1.toNat = true then loZ (gm g1) < c else c < hiZ (gm g1) := fun c => by
              have hq : (if (fun _ => true) i1.toNat = true then loZ (gm g1) < c else c < hiZ (gm g1)) = (loZ (gm g1) < c) := if_pos rfl
              rw [has_and hcm.m0 hA, hq]
              refine and_congr_right fun hc => ?_
              rw [has_above (by omega) (by omega) hc.1]
              exact Int.add_one_le_iff
            have st := fun e' s' p1 p2 p3 p4 => st_step (e' := e') (s' := s') hm hI1 (by omega) hlt p1 p2 p3 p4 hg hgc
            have hSE : ∀ x : Bool, (x = true ↔ hiZ (ns.getD (i1.toNat - 1) 0) < loZ (ns.getD i1.toNat 0)) → (x = true ↔ StepE (fun _ => true) ns i1.toNat) := fun x hx => hx.trans (Iff.of_eq (if_pos rfl).symm)
            simp only [d1, c0, cp, ep, if_true, true_and, true_implies, and_true]
            exact ⟨⟨by have := hM.1; omega, by have := hM.2; omega⟩, fun _ _ _ _ _ _ => ⟨⟨⟨by omega, by omega⟩, by omega, by omega⟩, fun _ _ _ _ => ⟨fun he => ⟨fun hs => ⟨⟨hg.1, hg.2, by omega, by omega⟩, st _ _ (fun _ => hSE _ (by rw [lt_t])) (fun q => by rw [he] at q; cases q) (fun _ => by simp only [Bool.not_eq_true', eq_f, ne_eq]) (fun q => by rw [hs] at q; cases q), kmu⟩, fun hs => ⟨⟨hg.1, hg.2, by omega, by omega⟩, st _ _ (fun _ => hSE _ (by rw [lt_t])) (fun q => by rw [he] at q; cases q) (fun q => by rw [hs] at q; cases q) (fun _ => rfl), kmu⟩⟩, fun he => ⟨fun hs => ⟨⟨hg.1, hg.2, by omega, by omega⟩, st _ _ (fun q => by rw [he] at q; cases q) (fun _ => rfl) (fun _ => by simp only [Bool.not_eq_true', eq_f, ne_eq]) (fun q => by rw [hs] at q; cases q), kmu⟩, fun hs => ⟨⟨hg.1, hg.2, by omega, by omega⟩, st _ _ (fun q => by rw [he] at q; cases q) (fun _ => rfl) (fun q => by rw [hs] at q; cases q) (fun _ => rfl), kmu⟩⟩⟩⟩⟩
        · rw [st_end hm hI1 hge]
          refine ⟨stI (fun _ => false) ns, stMu, (by omega), st_zero, ?_⟩
          intro e2 s2 g2 g20 g21 i2 i20 i21 hI2
          have hI2r : (0 ≤ i2 ∧ i2 ≤ (ns.length : Int)) ∧ IsM0 g2 := ⟨hI2.1, hI2.2.1⟩
          refine ⟨fun hlt => ?_, fun hge _ _ => ?_⟩
          · have hM : IsM (if g2 < 1 then 1 else g2) := gm_rng hI2r.2
            have hE := ends_of hM
            have d1 : (1 ≤ (if g2 < 1 then 1 else g2) ∧ (if g2 < 1 then 1 else g2) ≤ 511) = True := eq_true hM
            have c0 := pt_get ns i2.toNat (by omega)
            have hcm := hm _ (getD_mem (show i2.toNat < ns.length by omega))
            have kmu : (100 - (i2 + 1)).toNat < (100 - i2).toNat := by omega
            rcases Decidable.em (i2 = 0) with z | z
            · subst z
              have c0 := pt_get ns 0 (by omega)
              have z0 : (0 : Int).toNat = 0 := rfl
              have hcm0 := hm _ (getD_mem (show 0 < ns.length by omega))
              refine ⟨fun _ => ?_, fun q => absurd rfl q⟩
              simp only [z0, c0]
              exact ⟨⟨by have := hcm0.1; omega, hcm0.2, by omega, by omega⟩, st_one hm hI2 hlt, (by show (100 - 1 : Int).toNat < (100 - 0 : Int).toNat; decide)⟩
            · refine ⟨fun q => absurd q z, fun _ => ⟨fun hp => ?_, fun q => by omega⟩⟩
              have cp := pt_get ns (i2 - 1).toNat (by omega)
              have ep : (i2 - 1).toNat = i2.toNat - 1 := by omega
              rw [ep] at cp
              have hA := below_rng (n := hiZ (if g2 < 1 then 1 else g2) - 1) (by omega) (by omega)
              have hg := and_rng hcm.m0 hA
              have w := shl_below (h := hiZ (if g2 < 1 then 1 else g2)) (by omega) (by omega)
              have hgc : ∀ c, has (bitDen .and .i64 (ns.getD i2.toNat 0) (belowZ (hiZ (if g2 < 1 then 1 else g2) - 1))) c ↔ has (ns.getD i2.toNat 0) c ∧ if (fun _ => false) i2.toNat = true then loZ (gm g2) < c else c < hiZ (gm g2) := fun c => by
                have hq : (if (fun _ => false) i2.toNat = true then loZ (gm g2) < c else c < hiZ (gm g2)) = (c < hiZ (gm g2)) := if_neg (by simp)
                rw [has_and hcm.m0 hA, hq]
                refine and_congr_right fun hc => ?_
                rw [has_below (by omega) (by omega) hc.1]
                exact Int.le_sub_one_iff
              have st := fun e' s' p1 p2 p3 p4 => st_step (e' := e') (s' := s') hm hI2 (by omega) hlt p1 p2 p3 p4 hg hgc
              have hSE : ∀ x : Bool, (x = true ↔ hiZ (ns.getD i2.toNat 0) < loZ (ns.getD (i2.toNat - 1) 0)) → (x = true ↔ StepE (fun _ => false) ns i2.toNat) := fun x hx => hx.trans (Iff.of_eq (if_neg (by simp)).symm)
              simp only [d1, c0, cp, ep, w, if_true, true_and, true_implies, and_true]
              exact ⟨⟨by have := hM.1; omega, by have := hM.2; omega⟩, fun _ _ _ _ _ _ => ⟨fun he => ⟨fun hs => ⟨⟨hg.1, hg.2, by omega, by omega⟩, st _ _ (fun _ => hSE _ (by rw [lt_t])) (fun q => by rw [he] at q; cases q) (fun _ => by simp only [Bool.not_eq_true', eq_f, ne_eq]) (fun q => by rw [hs] at q; cases q), kmu⟩, fun hs => ⟨⟨hg.1, hg.2, by omega, by omega⟩, st _ _ (fun _ => hSE _ (by rw [lt_t])) (fun q => by rw [he] at q; cases q) (fun q => by rw [hs] at q; cases q) (fun _ => rfl), kmu⟩⟩, fun he => ⟨fun hs => ⟨⟨hg.1, hg.2, by omega, by omega⟩, st _ _ (fun q => by rw [he] at q; cases q) (fun _ => rfl) (fun _ => by simp only [Bool.not_eq_true', eq_f, ne_eq]) (fun q => by rw [hs] at q; cases q), kmu⟩, fun hs => ⟨⟨hg.1, hg.2, by omega, by omega⟩, st _ _ (fun q => by rw [he] at q; cases q) (fun _ => rfl) (fun q => by rw [hs] at q; cases q) (fun _ => rfl), kmu⟩⟩⟩⟩
          · rw [st_end hm hI2 hge]
            exact hfin

def nturns_sp : SpecSh := { args := [(.sptr 0 (.z 0) 1003 0)], res := (.int .i64 (.z 0)), sh := [.i (some (0, 2))] }
set_option maxRecDepth 100000 in
def nturns_tree : Tree :=
.lett (.cnt 0 3) <|
.ite (.cmp .lt (.v 1) (.z 14)) (.loop [.b, .b, .i (some (0, 511)), .i (some (0, 100000))] [.b (.cmp .lt (.z 0) (.z 0)), .b (.cmp .lt (.z 0) (.z 0)), .i (.z 0), .i (.z 0)] <|
.call 62 [.i (some (0, 2))] [.b (.v 2), .b (.v 3)] <|
.loop [.b, .b, .i (some (0, 511)), .i (some (0, 100000))] [.b (.cmp .lt (.z 0) (.z 0)), .b (.cmp .lt (.z 0) (.z 0)), .i (.z 0), .i (.z 0)] <|
.call 62 [.i (some (0, 2))] [.b (.v 7), .b (.v 8)] <|
.lett (.ite (.cmp .lt (.v 6) (.v 11)) (.v 11) (.v 6)) <|
.ret (.int .i64 (.v 12))) <|
.lett (.sub (.v 1) (.z 14)) <|
.ite (.cmp .le (.v 2) (.v 1)) (.ite (.cmp .le (.v 1) (.v 1)) (.letl (.subS 0 3 (.v 2) (.v 1)) <|
.lett (.cnt 3 3) <|
.loop [.b, .b, .i (some (0, 511)), .i (some (0, 100000))] [.b (.cmp .lt (.z 0) (.v 4)), .b (.cmp .lt (.z 0) (.v 4)), .i (.z 0), .i (.z 0)] <|
.ite (.cmp .lt (.v 8) (.v 4)) (.lett (.nthS 3 3 0 (.v 8)) <|
.lett (.nthS 3 3 1 (.v 8)) <|
.lett (.nthS 3 3 2 (.v 8)) <|
.ite (.cmp .eq (.v 8) (.z 0)) (.again 0 [.b (.v 5), .b (.v 6), .i (.v 9), .i (.z 1)]) <|
.lett (.sub (.v 8) (.z 1)) <|
.ite (.cmp .lt (.v 12) (.v 4)) (.lett (.nthS 3 3 0 (.v 12)) <|
.lett (.nthS 3 3 1 (.v 12)) <|
.lett (.nthS 3 3 2 (.v 12)) <|
.lett (.ite (.cmp .lt (.v 7) (.z 1)) (.z 1) (.v 7)) <|
.call 25 [.i (some ((-4), 4)), .i (some ((-4), 4)), .i (some (0, 1))] [.i (.v 16)] <|
.lett (.mod (.v 8) (.z 2)) <|
.ite (.cmp .eq (.v 20) (.z 0)) (.lett (.add (.v 17) (.z 1)) <|
.call 51 [.i (some (0, 511)), .i (some (0, 511))] [.i (.v 21)] <|
.lett (.bit .and .i64 (.v 9) (.v 22)) <|
.ite (.v 5) (.ite (.v 6) (.lett (.add (.v 8) (.z 1)) <|
.again 0 [.b (.cmp .lt (.v 15) (.v 10)), .b (.not (.cmp .eq (.v 24) (.z 0))), .i (.v 24), .i (.v 25)]) <|
.lett (.add (.v 8) (.z 1)) <|
.again 0 [.b (.cmp .lt (.v 15) (.v 10)), .b .f, .i (.v 24), .i (.v 25)]) <|
.ite (.v 6) (.lett (.add (.v 8) (.z 1)) <|
.again 0 [.b .f, .b (.not (.cmp .eq (.v 24) (.z 0))), .i (.v 24), .i (.v 25)]) <|
.lett (.add (.v 8) (.z 1)) <|
.again 0 [.b .f, .b .f, .i (.v 24), .i (.v 25)]) <|
.lett (.add (.v 18) (.z 4)) <|
.lett (.shl .i64 (.z 1) (.v 21)) <|
.lett (.subw .i64 (.v 22) (.z 1)) <|
.lett (.bit .and .i64 (.v 9) (.v 23)) <|
.ite (.v 5) (.ite (.v 6) (.lett (.add (.v 8) (.z 1)) <|
.again 0 [.b (.cmp .lt (.v 11) (.v 14)), .b (.not (.cmp .eq (.v 24) (.z 0))), .i (.v 24), .i (.v 25)]) <|
.lett (.add (.v 8) (.z 1)) <|
.again 0 [.b (.cmp .lt (.v 11) (.v 14)), .b .f, .i (.v 24), .i (.v 25)]) <|
.ite (.v 6) (.lett (.add (.v 8) (.z 1)) <|
.again 0 [.b .f, .b (.not (.cmp .eq (.v 24) (.z 0))), .i (.v 24), .i (.v 25)]) <|
.lett (.add (.v 8) (.z 1)) <|
.again 0 [.b .f, .b .f, .i (.v 24), .i (.v 25)]) <|
.bad 29) <|
.call 62 [.i (some (0, 2))] [.b (.v 5), .b (.v 6)] <|
.loop [.b, .b, .i (some (0, 511)), .i (some (0, 100000))] [.b (.cmp .lt (.z 0) (.v 4)), .b (.cmp .lt (.z 0) (.v 4)), .i (.z 0), .i (.z 0)] <|
.ite (.cmp .lt (.v 13) (.v 4)) (.lett (.nthS 3 3 0 (.v 13)) <|
.lett (.nthS 3 3 1 (.v 13)) <|
.lett (.nthS 3 3 2 (.v 13)) <|
.ite (.cmp .eq (.v 13) (.z 0)) (.again 1 [.b (.v 10), .b (.v 11), .i (.v 14), .i (.z 1)]) <|
.lett (.sub (.v 13) (.z 1)) <|
.ite (.cmp .lt (.v 17) (.v 4)) (.lett (.nthS 3 3 0 (.v 17)) <|
.lett (.nthS 3 3 1 (.v 17)) <|
.lett (.nthS 3 3 2 (.v 17)) <|
.lett (.ite (.cmp .lt (.v 12) (.z 1)) (.z 1) (.v 12)) <|
.call 25 [.i (some ((-4), 4)), .i (some ((-4), 4)), .i (some (0, 1))] [.i (.v 21)] <|
.lett (.mod (.v 13) (.z 2)) <|
.ite (.cmp .eq (.v 25) (.z 1)) (.lett (.add (.v 22) (.z 1)) <|
.call 51 [.i (some (0, 511)), .i (some (0, 511))] [.i (.v 26)] <|
.lett (.bit .and .i64 (.v 14) (.v 27)) <|
.ite (.v 10) (.ite (.v 11) (.lett (.add (.v 13) (.z 1)) <|
.again 1 [.b (.cmp .lt (.v 20) (.v 15)), .b (.not (.cmp .eq (.v 29) (.z 0))), .i (.v 29), .i (.v 30)]) <|
.lett (.add (.v 13) (.z 1)) <|
.again 1 [.b (.cmp .lt (.v 20) (.v 15)), .b .f, .i (.v 29), .i (.v 30)]) <|
.ite (.v 11) (.lett (.add (.v 13) (.z 1)) <|
.again 1 [.b .f, .b (.not (.cmp .eq (.v 29) (.z 0))), .i (.v 29), .i (.v 30)]) <|
.lett (.add (.v 13) (.z 1)) <|
.again 1 [.b .f, .b .f, .i (.v 29), .i (.v 30)]) <|
.lett (.add (.v 23) (.z 4)) <|
.lett (.shl .i64 (.z 1) (.v 26)) <|
.lett (.subw .i64 (.v 27) (.z 1)) <|
.lett (.bit .and .i64 (.v 14) (.v 28)) <|
.ite (.v 10) (.ite (.v 11) (.lett (.add (.v 13) (.z 1)) <|
.again 1 [.b (.cmp .lt (.v 16) (.v 19)), .b (.not (.cmp .eq (.v 29) (.z 0))), .i (.v 29), .i (.v 30)]) <|
.lett (.add (.v 13) (.z 1)) <|
.again 1 [.b (.cmp .lt (.v 16) (.v 19)), .b .f, .i (.v 29), .i (.v 30)]) <|
.ite (.v 11) (.lett (.add (.v 13) (.z 1)) <|
.again 1 [.b .f, .b (.not (.cmp .eq (.v 29) (.z 0))), .i (.v 29), .i (.v 30)]) <|
.lett (.add (.v 13) (.z 1)) <|
.again 1 [.b .f, .b .f, .i (.v 29), .i (.v 30)]) <|
.bad 29) <|
.call 62 [.i (some (0, 2))] [.b (.v 10), .b (.v 11)] <|
.lett (.ite (.cmp .lt (.v 9) (.v 14)) (.v 14) (.v 9)) <|
.ret (.int .i64 (.v 15))) <|
.bad 120) <|
.bad 121
noncomputable def nturns_cx : Ctx := { tys := tys, fns := fns, mets := mets, sps := [(51, nfrom_sp), (62, nsure_sp), (25, zends_sp)], anns := [((55, 4), { slots := [5, 6, 7, 25], cells := [], ivs := [none, none, some (0, 511), some (0, 100000)] })], trys := [] }
def nturns_ivs : List (Option (Int × Int)) := [none]
set_option maxRecDepth 100000 in
theorem nturns_walk : runFn nturns_cx 3000 37 Tryd.f37 nturns_sp.args nturns_ivs = nturns_tree := by kernel_rfl
noncomputable def nturns_M : Nat → SpecSem
  | 51 => nfrom_sem
  | 62 => nsure_sem
  | 25 => zends_sem
  | _ => noSem
theorem nturns_M51 : nturns_M 51 = nfrom_sem := rfl
theorem nturns_M62 : nturns_M 62 = nsure_sem := rfl
theorem nturns_M25 : nturns_M 25 = zends_sem := rfl
theorem nturns_cxok : CxOK Tryd.prog nturns_cx nturns_M tzG := ⟨tysOK, fnsOK, spCons nfrom_ok <| spCons nsure_ok <| spCons zends_ok <| fun _ _ h => spNil h, mixedOK, fun _ _ h => trNil h, fun _ _ h => atNil h, metsOK, fun _ _ h => efNil h, fun _ _ h => lsNil h⟩
set_option maxRecDepth 100000 in
set_option maxHeartbeats 8000000 in
theorem nturns_den (R RP : Value → Prop) (F : Ex → St → Js → Env → Prop) (x0 : List Int) : Tree.den nturns_M R RP F nturns_tree [] [(.l x0)] = (
  ∀ x1 : Int, x1 = (((List.length x0 / 3 : Nat) : Int)) →
((Cmp.den .lt x1 (14 : Int)) = true → ∃ (I0 : List Cv → Prop) (mu0 : List Cv → Nat), Fits [.b, .b, .i (some ((0), (511))), .i (some ((0), (100000)))] [(.b (Cmp.den .lt (0 : Int) (0 : Int))), (.b (Cmp.den .lt (0 : Int) (0 : Int))), (.i (0 : Int)), (.i (0 : Int))] ∧ I0 [(.b (Cmp.den .lt (0 : Int) (0 : Int))), (.b (Cmp.den .lt (0 : Int) (0 : Int))), (.i (0 : Int)), (.i (0 : Int))] ∧ (
∀ x2 : Bool, ∀ x3 : Bool, ∀ x4 : Int, (0 : Int) ≤ x4 → x4 ≤ (511 : Int) → ∀ x5 : Int, (0 : Int) ≤ x5 → x5 ≤ (100000 : Int) → I0 [.b x2, .b x3, .i x4, .i x5] →
(nsure_sem.pre [(.b x2), (.b x3)]) ∧ (
∀ x6 : Int, x6 = (Cv.int (Env.get (nsure_sem.out [(.b x2), (.b x3)]) 0)) → (0 : Int) ≤ x6 → x6 ≤ (2 : Int) →
∃ (I1 : List Cv → Prop) (mu1 : List Cv → Nat), Fits [.b, .b, .i (some ((0), (511))), .i (some ((0), (100000)))] [(.b (Cmp.den .lt (0 : Int) (0 : Int))), (.b (Cmp.den .lt (0 : Int) (0 : Int))), (.i (0 : Int)), (.i (0 : Int))] ∧ I1 [(.b (Cmp.den .lt (0 : Int) (0 : Int))), (.b (Cmp.den .lt (0 : Int) (0 : Int))), (.i (0 : Int)), (.i (0 : Int))] ∧ (
∀ x7 : Bool, ∀ x8 : Bool, ∀ x9 : Int, (0 : Int) ≤ x9 → x9 ≤ (511 : Int) → ∀ x10 : Int, (0 : Int) ≤ x10 → x10 ≤ (100000 : Int) → I1 [.b x7, .b x8, .i x9, .i x10] →
(nsure_sem.pre [(.b x7), (.b x8)]) ∧ (
∀ x11 : Int, x11 = (Cv.int (Env.get (nsure_sem.out [(.b x7), (.b x8)]) 0)) → (0 : Int) ≤ x11 → x11 ≤ (2 : Int) →
∀ x12 : Int, x12 = (if (Cmp.den .lt x6 x11) = true then x11 else x6) →
R (Value.int .i64 x12)))))) ∧ ((Cmp.den .lt x1 (14 : Int)) = false → ∀ x2 : Int, x2 = (x1 - (14 : Int)) →
((Cmp.den .le x2 x1) = true → ((Cmp.den .le x1 x1) = true → ∀ x3 : List Int, x3 = (List.take ((Int.toNat x1 - Int.toNat x2) * 3) (List.drop (Int.toNat x2 * 3) x0)) →
∀ x4 : Int, x4 = (((List.length x3 / 3 : Nat) : Int)) →
∃ (I0 : List Cv → Prop) (mu0 : List Cv → Nat), Fits [.b, .b, .i (some ((0), (511))), .i (some ((0), (100000)))] [(.b (Cmp.den .lt (0 : Int) x4)), (.b (Cmp.den .lt (0 : Int) x4)), (.i (0 : Int)), (.i (0 : Int))] ∧ I0 [(.b (Cmp.den .lt (0 : Int) x4)), (.b (Cmp.den .lt (0 : Int) x4)), (.i (0 : Int)), (.i (0 : Int))] ∧ (
∀ x5 : Bool, ∀ x6 : Bool, ∀ x7 : Int, (0 : Int) ≤ x7 → x7 ≤ (511 : Int) → ∀ x8 : Int, (0 : Int) ≤ x8 → x8 ≤ (100000 : Int) → I0 [.b x5, .b x6, .i x7, .i x8] →
((Cmp.den .lt x8 x4) = true → ∀ x9 : Int, x9 = (List.getD x3 (Int.toNat x8 * 3 + 0) 0) →
∀ x10 : Int, x10 = (List.getD x3 (Int.toNat x8 * 3 + 1) 0) →
∀ x11 : Int, x11 = (List.getD x3 (Int.toNat x8 * 3 + 2) 0) →
((Cmp.den .eq x8 (0 : Int)) = true → Fits [.b, .b, .i (some ((0), (511))), .i (some ((0), (100000)))] [(.b x5), (.b x6), (.i x9), (.i (1 : Int))] ∧ I0 [(.b x5), (.b x6), (.i x9), (.i (1 : Int))] ∧ mu0 [(.b x5), (.b x6), (.i x9), (.i (1 : Int))] < mu0 [.b x5, .b x6, .i x7, .i x8]) ∧ ((Cmp.den .eq x8 (0 : Int)) = false → ∀ x12 : Int, x12 = (x8 - (1 : Int)) →
((Cmp.den .lt x12 x4) = true → ∀ x13 : Int, x13 = (List.getD x3 (Int.toNat x12 * 3 + 0) 0) →
∀ x14 : Int, x14 = (List.getD x3 (Int.toNat x12 * 3 + 1) 0) →
∀ x15 : Int, x15 = (List.getD x3 (Int.toNat x12 * 3 + 2) 0) →
∀ x16 : Int, x16 = (if (Cmp.den .lt x7 (1 : Int)) = true then (1 : Int) else x7) →
(zends_sem.pre [(.i x16)]) ∧ (
∀ x17 : Int, x17 = (Cv.int (Env.get (zends_sem.out [(.i x16)]) 0)) → (-4 : Int) ≤ x17 → x17 ≤ (4 : Int) →
∀ x18 : Int, x18 = (Cv.int (Env.get (zends_sem.out [(.i x16)]) 1)) → (-4 : Int) ≤ x18 → x18 ≤ (4 : Int) →
∀ x19 : Int, x19 = (Cv.int (Env.get (zends_sem.out [(.i x16)]) 2)) → (0 : Int) ≤ x19 → x19 ≤ (1 : Int) →
∀ x20 : Int, x20 = (x8 % (2 : Int)) →
((Cmp.den .eq x20 (0 : Int)) = true → ∀ x21 : Int, x21 = (x17 + (1 : Int)) →
(nfrom_sem.pre [(.i x21)]) ∧ (
∀ x22 : Int, x22 = (Cv.int (Env.get (nfrom_sem.out [(.i x21)]) 0)) → (0 : Int) ≤ x22 → x22 ≤ (511 : Int) →
∀ x23 : Int, x23 = (Cv.int (Env.get (nfrom_sem.out [(.i x21)]) 1)) → (0 : Int) ≤ x23 → x23 ≤ (511 : Int) →
∀ x24 : Int, x24 = (bitDen .and .i64 x9 x22) →
(x5 = true → (x6 = true → ∀ x25 : Int, x25 = (x8 + (1 : Int)) →
Fits [.b, .b, .i (some ((0), (511))), .i (some ((0), (100000)))] [(.b (Cmp.den .lt x15 x10)), (.b (!(Cmp.den .eq x24 (0 : Int)))), (.i x24), (.i x25)] ∧ I0 [(.b (Cmp.den .lt x15 x10)), (.b (!(Cmp.den .eq x24 (0 : Int)))), (.i x24), (.i x25)] ∧ mu0 [(.b (Cmp.den .lt x15 x10)), (.b (!(Cmp.den .eq x24 (0 : Int)))), (.i x24), (.i x25)] < mu0 [.b x5, .b x6, .i x7, .i x8]) ∧ (x6 = false → ∀ x25 : Int, x25 = (x8 + (1 : Int)) →
Fits [.b, .b, .i (some ((0), (511))), .i (some ((0), (100000)))] [(.b (Cmp.den .lt x15 x10)), (.b false), (.i x24), (.i x25)] ∧ I0 [(.b (Cmp.den .lt x15 x10)), (.b false), (.i x24), (.i x25)] ∧ mu0 [(.b (Cmp.den .lt x15 x10)), (.b false), (.i x24), (.i x25)] < mu0 [.b x5, .b x6, .i x7, .i x8])) ∧ (x5 = false → (x6 = true → ∀ x25 : Int, x25 = (x8 + (1 : Int)) →
Fits [.b, .b, .i (some ((0), (511))), .i (some ((0), (100000)))] [(.b false), (.b (!(Cmp.den .eq x24 (0 : Int)))), (.i x24), (.i x25)] ∧ I0 [(.b false), (.b (!(Cmp.den .eq x24 (0 : Int)))), (.i x24), (.i x25)] ∧ mu0 [(.b false), (.b (!(Cmp.den .eq x24 (0 : Int)))), (.i x24), (.i x25)] < mu0 [.b x5, .b x6, .i x7, .i x8]) ∧ (x6 = false → ∀ x25 : Int, x25 = (x8 + (1 : Int)) →
Fits [.b, .b, .i (some ((0), (511))), .i (some ((0), (100000)))] [(.b false), (.b false), (.i x24), (.i x25)] ∧ I0 [(.b false), (.b false), (.i x24), (.i x25)] ∧ mu0 [(.b false), (.b false), (.i x24), (.i x25)] < mu0 [.b x5, .b x6, .i x7, .i x8])))) ∧ ((Cmp.den .eq x20 (0 : Int)) = false → ∀ x21 : Int, x21 = (x18 + (4 : Int)) →
∀ x22 : Int, x22 = (IntKind.i64.wrap ((1 : Int) * 2 ^ (min (Int.toNat x21) (IntKind.i64).bits))) →
∀ x23 : Int, x23 = (IntKind.i64.wrap (x22 - (1 : Int))) →
∀ x24 : Int, x24 = (bitDen .and .i64 x9 x23) →
(x5 = true → (x6 = true → ∀ x25 : Int, x25 = (x8 + (1 : Int)) →
Fits [.b, .b, .i (some ((0), (511))), .i (some ((0), (100000)))] [(.b (Cmp.den .lt x11 x14)), (.b (!(Cmp.den .eq x24 (0 : Int)))), (.i x24), (.i x25)] ∧ I0 [(.b (Cmp.den .lt x11 x14)), (.b (!(Cmp.den .eq x24 (0 : Int)))), (.i x24), (.i x25)] ∧ mu0 [(.b (Cmp.den .lt x11 x14)), (.b (!(Cmp.den .eq x24 (0 : Int)))), (.i x24), (.i x25)] < mu0 [.b x5, .b x6, .i x7, .i x8]) ∧ (x6 = false → ∀ x25 : Int, x25 = (x8 + (1 : Int)) →
Fits [.b, .b, .i (some ((0), (511))), .i (some ((0), (100000)))] [(.b (Cmp.den .lt x11 x14)), (.b false), (.i x24), (.i x25)] ∧ I0 [(.b (Cmp.den .lt x11 x14)), (.b false), (.i x24), (.i x25)] ∧ mu0 [(.b (Cmp.den .lt x11 x14)), (.b false), (.i x24), (.i x25)] < mu0 [.b x5, .b x6, .i x7, .i x8])) ∧ (x5 = false → (x6 = true → ∀ x25 : Int, x25 = (x8 + (1 : Int)) →
Fits [.b, .b, .i (some ((0), (511))), .i (some ((0), (100000)))] [(.b false), (.b (!(Cmp.den .eq x24 (0 : Int)))), (.i x24), (.i x25)] ∧ I0 [(.b false), (.b (!(Cmp.den .eq x24 (0 : Int)))), (.i x24), (.i x25)] ∧ mu0 [(.b false), (.b (!(Cmp.den .eq x24 (0 : Int)))), (.i x24), (.i x25)] < mu0 [.b x5, .b x6, .i x7, .i x8]) ∧ (x6 = false → ∀ x25 : Int, x25 = (x8 + (1 : Int)) →
Fits [.b, .b, .i (some ((0), (511))), .i (some ((0), (100000)))] [(.b false), (.b false), (.i x24), (.i x25)] ∧ I0 [(.b false), (.b false), (.i x24), (.i x25)] ∧ mu0 [(.b false), (.b false), (.i x24), (.i x25)] < mu0 [.b x5, .b x6, .i x7, .i x8]))))) ∧ ((Cmp.den .lt x12 x4) = false → False))) ∧ ((Cmp.den .lt x8 x4) = false → (nsure_sem.pre [(.b x5), (.b x6)]) ∧ (
∀ x9 : Int, x9 = (Cv.int (Env.get (nsure_sem.out [(.b x5), (.b x6)]) 0)) → (0 : Int) ≤ x9 → x9 ≤ (2 : Int) →
∃ (I1 : List Cv → Prop) (mu1 : List Cv → Nat), Fits [.b, .b, .i (some ((0), (511))), .i (some ((0), (100000)))] [(.b (Cmp.den .lt (0 : Int) x4)), (.b (Cmp.den .lt (0 : Int) x4)), (.i (0 : Int)), (.i (0 : Int))] ∧ I1 [(.b (Cmp.den .lt (0 : Int) x4)), (.b (Cmp.den .lt (0 : Int) x4)), (.i (0 : Int)), (.i (0 : Int))] ∧ (
∀ x10 : Bool, ∀ x11 : Bool, ∀ x12 : Int, (0 : Int) ≤ x12 → x12 ≤ (511 : Int) → ∀ x13 : Int, (0 : Int) ≤ x13 → x13 ≤ (100000 : Int) → I1 [.b x10, .b x11, .i x12, .i x13] →
((Cmp.den .lt x13 x4) = true → ∀ x14 : Int, x14 = (List.getD x3 (Int.toNat x13 * 3 + 0) 0) →
∀ x15 : Int, x15 = (List.getD x3 (Int.toNat x13 * 3 + 1) 0) →
∀ x16 : Int, x16 = (List.getD x3 (Int.toNat x13 * 3 + 2) 0) →
((Cmp.den .eq x13 (0 : Int)) = true → Fits [.b, .b, .i (some ((0), (511))), .i (some ((0), (100000)))] [(.b x10), (.b x11), (.i x14), (.i (1 : Int))] ∧ I1 [(.b x10), (.b x11), (.i x14), (.i (1 : Int))] ∧ mu1 [(.b x10), (.b x11), (.i x14), (.i (1 : Int))] < mu1 [.b x10, .b x11, .i x12, .i x13]) ∧ ((Cmp.den .eq x13 (0 : Int)) = false → ∀ x17 : Int, x17 = (x13 - (1 : Int)) →
((Cmp.den .lt x17 x4) = true → ∀ x18 : Int, x18 = (List.getD x3 (Int.toNat x17 * 3 + 0) 0) →
∀ x19 : Int, x19 = (List.getD x3 (Int.toNat x17 * 3 + 1) 0) →
∀ x20 : Int, x20 = (List.getD x3 (Int.toNat x17 * 3 + 2) 0) →
∀ x21 : Int, x21 = (if (Cmp.den .lt x12 (1 : Int)) = true then (1 : Int) else x12) →
(zends_sem.pre [(.i x21)]) ∧ (
∀ x22 : Int, x22 = (Cv.int (Env.get (zends_sem.out [(.i x21)]) 0)) → (-4 : Int) ≤ x22 → x22 ≤ (4 : Int) →
∀ x23 : Int, x23 = (Cv.int (Env.get (zends_sem.out [(.i x21)]) 1)) → (-4 : Int) ≤ x23 → x23 ≤ (4 : Int) →
∀ x24 : Int, x24 = (Cv.int (Env.get (zends_sem.out [(.i x21)]) 2)) → (0 : Int) ≤ x24 → x24 ≤ (1 : Int) →
∀ x25 : Int, x25 = (x13 % (2 : Int)) →
((Cmp.den .eq x25 (1 : Int)) = true → ∀ x26 : Int, x26 = (x22 + (1 : Int)) →
(nfrom_sem.pre [(.i x26)]) ∧ (
∀ x27 : Int, x27 = (Cv.int (Env.get (nfrom_sem.out [(.i x26)]) 0)) → (0 : Int) ≤ x27 → x27 ≤ (511 : Int) →
∀ x28 : Int, x28 = (Cv.int (Env.get (nfrom_sem.out [(.i x26)]) 1)) → (0 : Int) ≤ x28 → x28 ≤ (511 : Int) →
∀ x29 : Int, x29 = (bitDen .and .i64 x14 x27) →
(x10 = true → (x11 = true → ∀ x30 : Int, x30 = (x13 + (1 : Int)) →
Fits [.b, .b, .i (some ((0), (511))), .i (some ((0), (100000)))] [(.b (Cmp.den .lt x20 x15)), (.b (!(Cmp.den .eq x29 (0 : Int)))), (.i x29), (.i x30)] ∧ I1 [(.b (Cmp.den .lt x20 x15)), (.b (!(Cmp.den .eq x29 (0 : Int)))), (.i x29), (.i x30)] ∧ mu1 [(.b (Cmp.den .lt x20 x15)), (.b (!(Cmp.den .eq x29 (0 : Int)))), (.i x29), (.i x30)] < mu1 [.b x10, .b x11, .i x12, .i x13]) ∧ (x11 = false → ∀ x30 : Int, x30 = (x13 + (1 : Int)) →
Fits [.b, .b, .i (some ((0), (511))), .i (some ((0), (100000)))] [(.b (Cmp.den .lt x20 x15)), (.b false), (.i x29), (.i x30)] ∧ I1 [(.b (Cmp.den .lt x20 x15)), (.b false), (.i x29), (.i x30)] ∧ mu1 [(.b (Cmp.den .lt x20 x15)), (.b false), (.i x29), (.i x30)] < mu1 [.b x10, .b x11, .i x12, .i x13])) ∧ (x10 = false → (x11 = true → ∀ x30 : Int, x30 = (x13 + (1 : Int)) →
Fits [.b, .b, .i (some ((0), (511))), .i (some ((0), (100000)))] [(.b false), (.b (!(Cmp.den .eq x29 (0 : Int)))), (.i x29), (.i x30)] ∧ I1 [(.b false), (.b (!(Cmp.den .eq x29 (0 : Int)))), (.i x29), (.i x30)] ∧ mu1 [(.b false), (.b (!(Cmp.den .eq x29 (0 : Int)))), (.i x29), (.i x30)] < mu1 [.b x10, .b x11, .i x12, .i x13]) ∧ (x11 = false → ∀ x30 : Int, x30 = (x13 + (1 : Int)) →
Fits [.b, .b, .i (some ((0), (511))), .i (some ((0), (100000)))] [(.b false), (.b false), (.i x29), (.i x30)] ∧ I1 [(.b false), (.b false), (.i x29), (.i x30)] ∧ mu1 [(.b false), (.b false), (.i x29), (.i x30)] < mu1 [.b x10, .b x11, .i x12, .i x13])))) ∧ ((Cmp.den .eq x25 (1 : Int)) = false → ∀ x26 : Int, x26 = (x23 + (4 : Int)) →
∀ x27 : Int, x27 = (IntKind.i64.wrap ((1 : Int) * 2 ^ (min (Int.toNat x26) (IntKind.i64).bits))) →
∀ x28 : Int, x28 = (IntKind.i64.wrap (x27 - (1 : Int))) →
∀ x29 : Int, x29 = (bitDen .and .i64 x14 x28) →
(x10 = true → (x11 = true → ∀ x30 : Int, x30 = (x13 + (1 : Int)) →
Fits [.b, .b, .i (some ((0), (511))), .i (some ((0), (100000)))] [(.b (Cmp.den .lt x16 x19)), (.b (!(Cmp.den .eq x29 (0 : Int)))), (.i x29), (.i x30)] ∧ I1 [(.b (Cmp.den .lt x16 x19)), (.b (!(Cmp.den .eq x29 (0 : Int)))), (.i x29), (.i x30)] ∧ mu1 [(.b (Cmp.den .lt x16 x19)), (.b (!(Cmp.den .eq x29 (0 : Int)))), (.i x29), (.i x30)] < mu1 [.b x10, .b x11, .i x12, .i x13]) ∧ (x11 = false → ∀ x30 : Int, x30 = (x13 + (1 : Int)) →
Fits [.b, .b, .i (some ((0), (511))), .i (some ((0), (100000)))] [(.b (Cmp.den .lt x16 x19)), (.b false), (.i x29), (.i x30)] ∧ I1 [(.b (Cmp.den .lt x16 x19)), (.b false), (.i x29), (.i x30)] ∧ mu1 [(.b (Cmp.den .lt x16 x19)), (.b false), (.i x29), (.i x30)] < mu1 [.b x10, .b x11, .i x12, .i x13])) ∧ (x10 = false → (x11 = true → ∀ x30 : Int, x30 = (x13 + (1 : Int)) →
Fits [.b, .b, .i (some ((0), (511))), .i (some ((0), (100000)))] [(.b false), (.b (!(Cmp.den .eq x29 (0 : Int)))), (.i x29), (.i x30)] ∧ I1 [(.b false), (.b (!(Cmp.den .eq x29 (0 : Int)))), (.i x29), (.i x30)] ∧ mu1 [(.b false), (.b (!(Cmp.den .eq x29 (0 : Int)))), (.i x29), (.i x30)] < mu1 [.b x10, .b x11, .i x12, .i x13]) ∧ (x11 = false → ∀ x30 : Int, x30 = (x13 + (1 : Int)) →
Fits [.b, .b, .i (some ((0), (511))), .i (some ((0), (100000)))] [(.b false), (.b false), (.i x29), (.i x30)] ∧ I1 [(.b false), (.b false), (.i x29), (.i x30)] ∧ mu1 [(.b false), (.b false), (.i x29), (.i x30)] < mu1 [.b x10, .b x11, .i x12, .i x13]))))) ∧ ((Cmp.den .lt x17 x4) = false → False))) ∧ ((Cmp.den .lt x13 x4) = false → (nsure_sem.pre [(.b x10), (.b x11)]) ∧ (
∀ x14 : Int, x14 = (Cv.int (Env.get (nsure_sem.out [(.b x10), (.b x11)]) 0)) → (0 : Int) ≤ x14 → x14 ≤ (2 : Int) →
∀ x15 : Int, x15 = (if (Cmp.den .lt x9 x14) = true then x14 else x9) →
R (Value.int .i64 x15)))))))) ∧ ((Cmp.den .le x1 x1) = false → False)) ∧ ((Cmp.den .le x2 x1) = false → False))) := by kernel_rfl

noncomputable def nturns_sem : SpecSem := { pre := fun cs => match cs with | [.l l] => InI l ∧ (IsP l) | _ => False, out := fun cs => match cs with | [.l l] => [.i (ruleV G4 14 (mks l))] | _ => [], g := tzG }
set_option maxRecDepth 10000 in
set_option maxHeartbeats 16000000 in
theorem nturns_ok : SpecOK Tryd.prog 37 nturns_sp nturns_sem := by
  refine spec_of_tree nturns_cxok Tryd.func37 (by kernel_rfl) (by kernel_rfl) nturns_walk rfl ?_
  intro cs hpre
  match cs, hpre with
  | [.l l], ⟨j_l, hx⟩ =>
    refine ⟨rfl, IvsB.ok (by simp only [nturns_ivs, IvsB, Cv.int, and_true, j_l, true_and] <;> omega), ?_, ?_⟩
    · simp only [nturns_sem, nturns_sp, Fits, and_true]; exact ruleV_rng _ _ _
    · rw [nturns_den]
      obtain ⟨ms, rfl, hm, hl⟩ := hx
      rcases Nat.lt_or_ge ms.length 14 with h | h
      · have hfin := ruleV_few (G := G4) h
        have hf : ((ms.length : Int) < 14) = True := eq_true (by omega)
        have hg : ((14 : Int) ≤ (ms.length : Int)) = False := eq_false (by omega)
        simp only [nturns_sem, nturns_sp, nfrom_sem, zends_sem, nsure_sem, nturns_den, nfrom_sem, nsure_sem, zends_sem, Tree.den, LE.den, Cv.list, placeA, List.getElem?_cons_zero, List.getElem?_cons_succ, IE.den, BE.den, At.den, CA.den, Env.get, Cv.int, Cv.bool, List.cons_append, List.nil_append, List.map_cons, List.map_nil, bindRes, bindEq, Fits, SV.den, denL, place, placeL, eq_t, eq_f, lt_t, lt_f, le_t, le_f, beq_iff_eq, beq_eq_false_iff_ne, ne_eq, reduceCtorEq, b_dec, decide_eq_true_eq, decide_eq_false_iff_not, Bool.not_eq_false', Bool.or_eq_true, Bool.or_eq_false_iff, Bool.and_eq_false_iff, true_iff, false_iff, Bool.false_eq_true, Bool.not_eq_true', Bool.and_eq_true, Bool.not_true, Bool.not_false, List.cons.injEq, Cv.i.injEq, Cv.b.injEq, and_true, true_and, agg_inj, tup_inj, Value.int.injEq, Value.bool.injEq, mks_pt, pt_cnt, hfin, hf, hg, forall_eq, eq_self, if_true, if_false, true_and, and_true, false_and, and_false, true_or, or_true, false_or, or_false, true_iff, iff_true, false_iff, iff_false, not_true_eq_false, not_false_eq_true, true_implies, false_implies, implies_true, forall_const, decide_true, decide_false, reduceCtorEq]
        have hz : ∀ m ∈ ([] : List Int), IsM m := fun m h => (by cases h)
        refine ⟨stI (fun i => i % 2 == 0) [], stMu, (by omega), st_zero, ?_⟩
        intro e s g g0 g1 i i0 i1 hI _ _
        rw [st_end hz hI (by simpa using i0)]
        refine ⟨stI (fun i => i % 2 == 1) [], stMu, (by omega), st_zero, ?_⟩
        intro e' s' g' g0' g1' i' i0' i1' hI' _ _
        rw [st_end hz hI' (by simpa using i0'), stepsV_nil, stepsV_nil]
        rfl
      · have hf : ((ms.length : Int) < 14) = False := eq_false (by omega)
        have hg : ((14 : Int) ≤ (ms.length : Int)) = True := eq_true (by omega)
        have hL := last_pt (ms := ms) (n := 14) 14 rfl (by omega)
        have hl1 : ((ms.length : Int) - 14 ≤ (ms.length : Int)) = True := eq_true (by omega)
        have hl2 : ((ms.length : Int) < (ms.length : Int) - 14) = False := eq_false (by omega)
        simp only [nturns_sem, nturns_sp, nfrom_sem, zends_sem, nsure_sem, nturns_den, nfrom_sem, nsure_sem, zends_sem, Tree.den, LE.den, Cv.list, placeA, List.getElem?_cons_zero, List.getElem?_cons_succ, IE.den, BE.den, At.den, CA.den, Env.get, Cv.int, Cv.bool, List.cons_append, List.nil_append, List.map_cons, List.map_nil, bindRes, bindEq, Fits, SV.den, denL, place, placeL, eq_t, eq_f, lt_t, lt_f, le_t, le_f, beq_iff_eq, beq_eq_false_iff_ne, ne_eq, reduceCtorEq, b_dec, decide_eq_true_eq, decide_eq_false_iff_not, Bool.not_eq_false', Bool.or_eq_true, Bool.or_eq_false_iff, Bool.and_eq_false_iff, true_iff, false_iff, Bool.false_eq_true, Bool.not_eq_true', Bool.and_eq_true, Bool.not_true, Bool.not_false, List.cons.injEq, Cv.i.injEq, Cv.b.injEq, and_true, true_and, agg_inj, tup_inj, Value.int.injEq, Value.bool.injEq, mks_pt, pt_cnt, hf, hg, hl1, hl2, hL, Int.lt_irrefl, Int.le_refl, forall_eq, eq_self, if_true, if_false, true_and, and_true, false_and, and_false, true_or, or_true, false_or, or_false, true_iff, iff_true, false_iff, iff_false, not_true_eq_false, not_false_eq_true, true_implies, false_implies, implies_true, forall_const, decide_true, decide_false, reduceCtorEq]
        have hm := lst_mem (n := 14) hm
        have hk := lst_len h
        have hfin : (if stepsV (fun i => i % 2 == 0) (lst 14 ms) < stepsV (fun i => i % 2 == 1) (lst 14 ms) then stepsV (fun i => i % 2 == 1) (lst 14 ms) else stepsV (fun i => i % 2 == 0) (lst 14 ms)) = ruleV G4 14 ms := by
          rw [ruleV_of h]
          exact steps_max hm (by omega) (fun i => (by rcases Nat.mod_two_eq_zero_or_one i with q | q <;> simp [q]))
        clear hL hl1 hl2 hf hg j_l
        generalize lst 14 ms = ns at *
        refine ⟨stI (fun i => i % 2 == 0) ns, stMu, (by omega), st_zero, ?_⟩
        intro e1 s1 g1 g10 g11 i1 i10 i11 hI1
        have hI1r : (0 ≤ i1 ∧ i1 ≤ (ns.length : Int)) ∧ IsM0 g1 := ⟨hI1.1, hI1.2.1⟩
        refine ⟨fun hlt => ?_, fun hge _ _ => ?_⟩
        · have hM : IsM (if g1 < 1 then 1 else g1) := gm_rng hI1r.2
          have hE := ends_of hM
          have d1 : (1 ≤ (if g1 < 1 then 1 else g1) ∧ (if g1 < 1 then 1 else g1) ≤ 511) = True := eq_true hM
          have c0 := pt_get ns i1.toNat (by omega)
          have hcm := hm _ (getD_mem (show i1.toNat < ns.length by omega))
          have kmu : (100 - (i1 + 1)).toNat < (100 - i1).toNat := by omega
          rcases Decidable.em (i1 = 0) with z | z
          · subst z
            have c0 := pt_get ns 0 (by omega)
            have z0 : (0 : Int).toNat = 0 := rfl
            have hcm0 := hm _ (getD_mem (show 0 < ns.length by omega))
            refine ⟨fun _ => ?_, fun q => absurd rfl q⟩
            simp only [z0, c0]
            exact ⟨⟨by have := hcm0.1; omega, hcm0.2, by omega, by omega⟩, st_one hm hI1 hlt, (by show (100 - 1 : Int).toNat < (100 - 0 : Int).toNat; decide)⟩
          · refine ⟨fun q => absurd q z, fun _ => ⟨fun hp => ?_, fun q => by omega⟩⟩
            have cp := pt_get ns (i1 - 1).toNat (by omega)
            have ep : (i1 - 1).toNat = i1.toNat - 1 := by omega
            rw [ep] at cp
            rcases Nat.mod_two_eq_zero_or_one i1.toNat with hp2 | hp2
            · have hu : (fun i => i % 2 == 0) i1.toNat = true := by show (i1.toNat % 2 == 0) = _; rw [hp2]; rfl
              have hm0 : (i1 % 2 = 0) = True := eq_true (by omega)
              have hA := above_rng (n := loZ (if g1 < 1 then 1 else g1) + 1) (by omega) (by omega)
              have hg := and_rng hcm.m0 hA
              have hgc : ∀ c, has (bitDen .and .i64 (ns.getD i1.toNat 0) (aboveZ (loZ (if g1 < 1 then 1 else g1) + 1))) c ↔ has (ns.getD i1.toNat 0) c ∧ if (fun i => i % 2 == 0) i1.toNat = true then loZ (gm g1) < c else c < hiZ (gm g1) := fun c => by
                have hq : (if (fun i => i % 2 == 0) i1.toNat = true then loZ (gm g1) < c else c < hiZ (gm g1)) = (loZ (gm g1) < c) := if_pos hu
                rw [has_and hcm.m0 hA, hq]
                refine and_congr_right fun hc => ?_
                rw [has_above (by omega) (by omega) hc.1]
                exact Int.add_one_le_iff
              have st := fun e' s' p1 p2 p3 p4 => st_step (e' := e') (s' := s') hm hI1 (by omega) hlt p1 p2 p3 p4 hg hgc
              have hSE : ∀ x : Bool, (x = true ↔ hiZ (ns.getD (i1.toNat - 1) 0) < loZ (ns.getD i1.toNat 0)) → (x = true ↔ StepE (fun i => i % 2 == 0) ns i1.toNat) := fun x hx => hx.trans (Iff.of_eq (if_pos hu).symm)
              simp only [d1, c0, cp, ep, hm0, if_false, false_implies, not_true_eq_false, not_false_eq_true, if_true, true_and, true_implies, and_true]
              exact ⟨⟨by have := hM.1; omega, by have := hM.2; omega⟩, fun _ _ _ _ _ _ => ⟨⟨⟨by omega, by omega⟩, by omega, by omega⟩, fun _ _ _ _ => ⟨fun he => ⟨fun hs => ⟨⟨hg.1, hg.2, by omega, by omega⟩, st _ _ (fun _ => hSE _ (by rw [lt_t])) (fun q => by rw [he] at q; cases q) (fun _ => by simp only [Bool.not_eq_true', eq_f, ne_eq]) (fun q => by rw [hs] at q; cases q), kmu⟩, fun hs => ⟨⟨hg.1, hg.2, by omega, by omega⟩, st _ _ (fun _ => hSE _ (by rw [lt_t])) (fun q => by rw [he] at q; cases q) (fun q => by rw [hs] at q; cases q) (fun _ => rfl), kmu⟩⟩, fun he => ⟨fun hs => ⟨⟨hg.1, hg.2, by omega, by omega⟩, st _ _ (fun q => by rw [he] at q; cases q) (fun _ => rfl) (fun _ => by simp only [Bool.not_eq_true', eq_f, ne_eq]) (fun q => by rw [hs] at q; cases q), kmu⟩, fun hs => ⟨⟨hg.1, hg.2, by omega, by omega⟩, st _ _ (fun q => by rw [he] at q; cases q) (fun _ => rfl) (fun q => by rw [hs] at q; cases q) (fun _ => rfl), kmu⟩⟩⟩⟩⟩
            · have hu : (fun i => i % 2 == 0) i1.toNat = false := by show (i1.toNat % 2 == 0) = _; rw [hp2]; rfl
              have hm0 : (i1 % 2 = 0) = False := eq_false (by omega)
              have hA := below_rng (n := hiZ (if g1 < 1 then 1 else g1) - 1) (by omega) (by omega)
              have hg := and_rng hcm.m0 hA
              have w := shl_below (h := hiZ (if g1 < 1 then 1 else g1)) (by omega) (by omega)
              have hgc : ∀ c, has (bitDen .and .i64 (ns.getD i1.toNat 0) (belowZ (hiZ (if g1 < 1 then 1 else g1) - 1))) c ↔ has (ns.getD i1.toNat 0) c ∧ if (fun i => i % 2 == 0) i1.toNat = true then loZ (gm g1) < c else c < hiZ (gm g1) := fun c => by
                have hq : (if (fun i => i % 2 == 0) i1.toNat = true then loZ (gm g1) < c else c < hiZ (gm g1)) = (c < hiZ (gm g1)) := if_neg (by rw [hu]; simp)
                rw [has_and hcm.m0 hA, hq]
                refine and_congr_right fun hc => ?_
                rw [has_below (by omega) (by omega) hc.1]
                exact Int.le_sub_one_iff
              have st := fun e' s' p1 p2 p3 p4 => st_step (e' := e') (s' := s') hm hI1 (by omega) hlt p1 p2 p3 p4 hg hgc
              have hSE : ∀ x : Bool, (x = true ↔ hiZ (ns.getD i1.toNat 0) < loZ (ns.getD (i1.toNat - 1) 0)) → (x = true ↔ StepE (fun i => i % 2 == 0) ns i1.toNat) := fun x hx => hx.trans (Iff.of_eq (if_neg (by rw [hu]; simp)).symm)
              simp only [d1, c0, cp, ep, w, hm0, if_false, false_implies, not_true_eq_false, not_false_eq_true, if_true, true_and, true_implies, and_true]
              exact ⟨⟨by have := hM.1; omega, by have := hM.2; omega⟩, fun _ _ _ _ _ _ => ⟨fun he => ⟨fun hs => ⟨⟨hg.1, hg.2, by omega, by omega⟩, st _ _ (fun _ => hSE _ (by rw [lt_t])) (fun q => by rw [he] at q; cases q) (fun _ => by simp only [Bool.not_eq_true', eq_f, ne_eq]) (fun q => by rw [hs] at q; cases q), kmu⟩, fun hs => ⟨⟨hg.1, hg.2, by omega, by omega⟩, st _ _ (fun _ => hSE _ (by rw [lt_t])) (fun q => by rw [he] at q; cases q) (fun q => by rw [hs] at q; cases q) (fun _ => rfl), kmu⟩⟩, fun he => ⟨fun hs => ⟨⟨hg.1, hg.2, by omega, by omega⟩, st _ _ (fun q => by rw [he] at q; cases q) (fun _ => rfl) (fun _ => by simp only [Bool.not_eq_true', eq_f, ne_eq]) (fun q => by rw [hs] at q; cases q), kmu⟩, fun hs => ⟨⟨hg.1, hg.2, by omega, by omega⟩, st _ _ (fun q => by rw [he] at q; cases q) (fun _ => rfl) (fun q => by rw [hs] at q; cases q) (fun _ => rfl), kmu⟩⟩⟩⟩
        · rw [st_end hm hI1 hge]
          refine ⟨stI (fun i => i % 2 == 1) ns, stMu, (by omega), st_zero, ?_⟩
          intro e2 s2 g2 g20 g21 i2 i20 i21 hI2
          have hI2r : (0 ≤ i2 ∧ i2 ≤ (ns.length : Int)) ∧ IsM0 g2 := ⟨hI2.1, hI2.2.1⟩
          refine ⟨fun hlt => ?_, fun hge _ _ => ?_⟩
          · have hM : IsM (if g2 < 1 then 1 else g2) := gm_rng hI2r.2
            have hE := ends_of hM
            have d1 : (1 ≤ (if g2 < 1 then 1 else g2) ∧ (if g2 < 1 then 1 else g2) ≤ 511) = True := eq_true hM
            have c0 := pt_get ns i2.toNat (by omega)
            have hcm := hm _ (getD_mem (show i2.toNat < ns.length by omega))
            have kmu : (100 - (i2 + 1)).toNat < (100 - i2).toNat := by omega
            rcases Decidable.em (i2 = 0) with z | z
            · subst z
              have c0 := pt_get ns 0 (by omega)
              have z0 : (0 : Int).toNat = 0 := rfl
              have hcm0 := hm _ (getD_mem (show 0 < ns.length by omega))
              refine ⟨fun _ => ?_, fun q => absurd rfl q⟩
              simp only [z0, c0]
              exact ⟨⟨by have := hcm0.1; omega, hcm0.2, by omega, by omega⟩, st_one hm hI2 hlt, (by show (100 - 1 : Int).toNat < (100 - 0 : Int).toNat; decide)⟩
            · refine ⟨fun q => absurd q z, fun _ => ⟨fun hp => ?_, fun q => by omega⟩⟩
              have cp := pt_get ns (i2 - 1).toNat (by omega)
              have ep : (i2 - 1).toNat = i2.toNat - 1 := by omega
              rw [ep] at cp
              rcases Nat.mod_two_eq_zero_or_one i2.toNat with hp2 | hp2
              · have hu : (fun i => i % 2 == 1) i2.toNat = false := by show (i2.toNat % 2 == 1) = _; rw [hp2]; rfl
                have hm0 : (i2 % 2 = 1) = False := eq_false (by omega)
                have hA := below_rng (n := hiZ (if g2 < 1 then 1 else g2) - 1) (by omega) (by omega)
                have hg := and_rng hcm.m0 hA
                have w := shl_below (h := hiZ (if g2 < 1 then 1 else g2)) (by omega) (by omega)
                have hgc : ∀ c, has (bitDen .and .i64 (ns.getD i2.toNat 0) (belowZ (hiZ (if g2 < 1 then 1 else g2) - 1))) c ↔ has (ns.getD i2.toNat 0) c ∧ if (fun i => i % 2 == 1) i2.toNat = true then loZ (gm g2) < c else c < hiZ (gm g2) := fun c => by
                  have hq : (if (fun i => i % 2 == 1) i2.toNat = true then loZ (gm g2) < c else c < hiZ (gm g2)) = (c < hiZ (gm g2)) := if_neg (by rw [hu]; simp)
                  rw [has_and hcm.m0 hA, hq]
                  refine and_congr_right fun hc => ?_
                  rw [has_below (by omega) (by omega) hc.1]
                  exact Int.le_sub_one_iff
                have st := fun e' s' p1 p2 p3 p4 => st_step (e' := e') (s' := s') hm hI2 (by omega) hlt p1 p2 p3 p4 hg hgc
                have hSE : ∀ x : Bool, (x = true ↔ hiZ (ns.getD i2.toNat 0) < loZ (ns.getD (i2.toNat - 1) 0)) → (x = true ↔ StepE (fun i => i % 2 == 1) ns i2.toNat) := fun x hx => hx.trans (Iff.of_eq (if_neg (by rw [hu]; simp)).symm)
                simp only [d1, c0, cp, ep, w, hm0, if_false, false_implies, not_true_eq_false, not_false_eq_true, if_true, true_and, true_implies, and_true]
                exact ⟨⟨by have := hM.1; omega, by have := hM.2; omega⟩, fun _ _ _ _ _ _ => ⟨fun he => ⟨fun hs => ⟨⟨hg.1, hg.2, by omega, by omega⟩, st _ _ (fun _ => hSE _ (by rw [lt_t])) (fun q => by rw [he] at q; cases q) (fun _ => by simp only [Bool.not_eq_true', eq_f, ne_eq]) (fun q => by rw [hs] at q; cases q), kmu⟩, fun hs => ⟨⟨hg.1, hg.2, by omega, by omega⟩, st _ _ (fun _ => hSE _ (by rw [lt_t])) (fun q => by rw [he] at q; cases q) (fun q => by rw [hs] at q; cases q) (fun _ => rfl), kmu⟩⟩, fun he => ⟨fun hs => ⟨⟨hg.1, hg.2, by omega, by omega⟩, st _ _ (fun q => by rw [he] at q; cases q) (fun _ => rfl) (fun _ => by simp only [Bool.not_eq_true', eq_f, ne_eq]) (fun q => by rw [hs] at q; cases q), kmu⟩, fun hs => ⟨⟨hg.1, hg.2, by omega, by omega⟩, st _ _ (fun q => by rw [he] at q; cases q) (fun _ => rfl) (fun q => by rw [hs] at q; cases q) (fun _ => rfl), kmu⟩⟩⟩⟩
              · have hu : (fun i => i % 2 == 1) i2.toNat = true := by show (i2.toNat % 2 == 1) = _; rw [hp2]; rfl
                have hm0 : (i2 % 2 = 1) = True := eq_true (by omega)
                have hA := above_rng (n := loZ (if g2 < 1 then 1 else g2) + 1) (by omega) (by omega)
                have hg := and_rng hcm.m0 hA
                have hgc : ∀ c, has (bitDen .and .i64 (ns.getD i2.toNat 0) (aboveZ (loZ (if g2 < 1 then 1 else g2) + 1))) c ↔ has (ns.getD i2.toNat 0) c ∧ if (fun i => i % 2 == 1) i2.toNat = true then loZ (gm g2) < c else c < hiZ (gm g2) := fun c => by
                  have hq : (if (fun i => i % 2 == 1) i2.toNat = true then loZ (gm g2) < c else c < hiZ (gm g2)) = (loZ (gm g2) < c) := if_pos hu
                  rw [has_and hcm.m0 hA, hq]
                  refine and_congr_right fun hc => ?_
                  rw [has_above (by omega) (by omega) hc.1]
                  exact Int.add_one_le_iff
                have st := fun e' s' p1 p2 p3 p4 => st_step (e' := e') (s' := s') hm hI2 (by omega) hlt p1 p2 p3 p4 hg hgc
                have hSE : ∀ x : Bool, (x = true ↔ hiZ (ns.getD (i2.toNat - 1) 0) < loZ (ns.getD i2.toNat 0)) → (x = true ↔ StepE (fun i => i % 2 == 1) ns i2.toNat) := fun x hx => hx.trans (Iff.of_eq (if_pos hu).symm)
                simp only [d1, c0, cp, ep, hm0, if_false, false_implies, not_true_eq_false, not_false_eq_true, if_true, true_and, true_implies, and_true]
                exact ⟨⟨by have := hM.1; omega, by have := hM.2; omega⟩, fun _ _ _ _ _ _ => ⟨⟨⟨by omega, by omega⟩, by omega, by omega⟩, fun _ _ _ _ => ⟨fun he => ⟨fun hs => ⟨⟨hg.1, hg.2, by omega, by omega⟩, st _ _ (fun _ => hSE _ (by rw [lt_t])) (fun q => by rw [he] at q; cases q) (fun _ => by simp only [Bool.not_eq_true', eq_f, ne_eq]) (fun q => by rw [hs] at q; cases q), kmu⟩, fun hs => ⟨⟨hg.1, hg.2, by omega, by omega⟩, st _ _ (fun _ => hSE _ (by rw [lt_t])) (fun q => by rw [he] at q; cases q) (fun q => by rw [hs] at q; cases q) (fun _ => rfl), kmu⟩⟩, fun he => ⟨fun hs => ⟨⟨hg.1, hg.2, by omega, by omega⟩, st _ _ (fun q => by rw [he] at q; cases q) (fun _ => rfl) (fun _ => by simp only [Bool.not_eq_true', eq_f, ne_eq]) (fun q => by rw [hs] at q; cases q), kmu⟩, fun hs => ⟨⟨hg.1, hg.2, by omega, by omega⟩, st _ _ (fun q => by rw [he] at q; cases q) (fun _ => rfl) (fun q => by rw [hs] at q; cases q) (fun _ => rfl), kmu⟩⟩⟩⟩⟩
          · rw [st_end hm hI2 hge]
            exact hfin
end Go.Proofs.YtmnpeneplobpdaaDoor.X
