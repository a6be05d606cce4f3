/-
  datumref14.Rule, by contract.
-/
import Derived.Test.YtmnpeneplobpdaaDoorSxNeR3
namespace Go.Proofs.YtmnpeneplobpdaaDoor.X
open Go Go.SX Go.RowKit
set_option linter.unusedVariables false
set_option linter.unusedSimpArgs false








theorem cls_loop {m : Int} {Q : List Int → Prop} (hQ : Q (clsA m 9)) :
    ∃ (I0 : List Cv → Prop) (mu0 : List Cv → Nat), ((-4 : Int) ≤ 5 ∧ InI []) ∧ I0 [Cv.i (-4), Cv.l []] ∧ ∀ (x13 : Int), -4 ≤ x13 → x13 ≤ 5 → ∀ (x14 : List Int), InI x14 → I0 [Cv.i x13, Cv.l x14] →
      (x13 ≤ 4 → IsI x13 ∧ (has m x13 → ((x14.length : Int) ≤ 100000 → (-4 ≤ x13 + 1 ∧ x13 + 1 ≤ 5 ∧ InI (x14 ++ [x13])) ∧ I0 [Cv.i (x13 + 1), Cv.l (x14 ++ [x13])] ∧ mu0 [Cv.i (x13 + 1), Cv.l (x14 ++ [x13])] < mu0 [Cv.i x13, Cv.l x14]) ∧ (100000 < (x14.length : Int) → False)) ∧ (¬has m x13 → (-4 ≤ x13 + 1 ∧ x13 + 1 ≤ 5 ∧ InI x14) ∧ I0 [Cv.i (x13 + 1), Cv.l x14] ∧ mu0 [Cv.i (x13 + 1), Cv.l x14] < mu0 [Cv.i x13, Cv.l x14])) ∧ (4 < x13 → Q x14) := by
  refine ⟨fun vs => match vs with | [.i i, .l ys] => ys = clsA m (i + 4).toNat | _ => False, fun vs => match vs with | .i i :: _ => (5 - i).toNat | _ => 0, ⟨by omega, fun y hy => (by cases hy)⟩, rfl, ?_⟩
  intro i i0 i1 ys hys hI
  obtain rfl : ys = clsA m (i + 4).toNat := hI
  have e : (i + 1 + 4).toNat = (i + 4).toNat + 1 := by omega
  have e2 : (((i + 4).toNat : Nat) : Int) - 4 = i := by omega
  have hl := clsA_len m (i + 4).toNat
  refine ⟨fun hle => ⟨⟨by omega, by omega⟩, fun hp => ⟨fun _ => ⟨⟨by omega, by omega, ?_⟩, ?_, ?_⟩, fun hgt => by omega⟩, fun hp => ⟨⟨by omega, by omega, hys⟩, ?_, ?_⟩⟩, fun hgt => ?_⟩
  · intro y hy
    rw [List.mem_append, List.mem_singleton] at hy
    rcases hy with hy | rfl
    · exact hys y hy
    · omega
  · show clsA m (i + 4).toNat ++ [i] = clsA m (i + 1 + 4).toNat
    rw [e, clsA, e2, if_pos hp]
  · show (5 - (i + 1)).toNat < (5 - i).toNat
    omega
  · show clsA m (i + 4).toNat = clsA m (i + 1 + 4).toNat
    rw [e, clsA, e2, if_neg hp]
  · show (5 - (i + 1)).toNat < (5 - i).toNat
    omega
  · rw [show (i + 4).toNat = 9 by omega]
    exact hQ
theorem longZ_rng {k : Int} : 1 ≤ longZ k ∧ longZ k ≤ 15 := by unfold longZ; (repeat' split) <;> omega
def r14rule_sp : SpecSh := { args := [(.int .i64 (.z 0)), (.lst 0)], res := (.int .i64 (.z 0)), sh := [.i (some (0, 2))] }
set_option maxRecDepth 100000 in
def r14rule_tree : Tree :=
.call 42 [.i (some (1, 15))] [.i (.v 0)] <|
.lett (.len 1) <|
.ite (.cmp .lt (.v 3) (.v 2)) (.ret (.int .i64 (.z 0))) <|
.lett (.sub (.v 3) (.v 2)) <|
.ite (.cmp .le (.z 0) (.v 4)) (.ite (.cmp .le (.v 4) (.v 3)) (.ite (.cmp .le (.v 3) (.v 3)) (.letl (.sub 1 (.v 4) (.v 3)) <|
.lett (.len 5) <|
.loop [.i (some (0, 15)), .l] [.i (.z 0), .l (.lit [.z 0, .z 0, .z 0, .z 0])] <|
.ite (.cmp .lt (.v 7) (.v 6)) (.lett (.nth 5 (.v 7)) <|
.lett (.cnt 8 4) <|
.loop [.i (some (0, 100000)), .l] [.i (.z 0), .l (.nil)] <|
.ite (.cmp .lt (.v 11) (.v 10)) (.lett (.nthS 8 4 0 (.v 11)) <|
.lett (.nthS 8 4 1 (.v 11)) <|
.lett (.nthS 8 4 2 (.v 11)) <|
.lett (.nthS 8 4 3 (.v 11)) <|
.loop [.i (some ((-4), 5)), .l] [.i (.z (-4)), .l (.nil)] <|
.ite (.cmp .le (.v 17) (.z 4)) (.call 22 [.b] [.i (.v 9), .i (.v 17)] <|
.ite (.v 19) (.lett (.len 18) <|
.ite (.cmp .le (.v 20) (.z 100000)) (.letl (.app 18 [.v 17]) <|
.lett (.add (.v 17) (.z 1)) <|
.again 2 [.i (.v 22), .l (.v 21)]) <|
.bad 113) <|
.lett (.add (.v 17) (.z 1)) <|
.again 2 [.i (.v 20), .l (.v 18)]) <|
.lett (.len 18) <|
.loop [.i (some (0, 9)), .l] [.i (.z 0), .l (.v 12)] <|
.ite (.cmp .lt (.v 20) (.v 19)) (.lett (.nth 18 (.v 20)) <|
.call 44 [.i (some (0, 16)), .i (some (0, 16)), .i (some (0, 16)), .i (some ((-4), 4))] [.i (.v 0), .i (.v 13), .i (.v 14), .i (.v 15), .i (.v 16), .i (.v 22)] <|
.lett (.cnt 21 4) <|
.loop [.i (some (0, 100000))] [.i (.z 0)] <|
.ite (.cmp .lt (.v 28) (.v 27)) (.lett (.nthS 21 4 0 (.v 28)) <|
.lett (.nthS 21 4 1 (.v 28)) <|
.lett (.nthS 21 4 2 (.v 28)) <|
.lett (.nthS 21 4 3 (.v 28)) <|
.ite (.and (.cmp .eq (.v 29) (.v 23)) (.and (.cmp .eq (.v 30) (.v 24)) (.and (.cmp .eq (.v 31) (.v 25)) (.cmp .eq (.v 32) (.v 26))))) (.lett (.add (.v 20) (.z 1)) <|
.again 3 [.i (.v 33), .l (.v 21)]) <|
.lett (.add (.v 28) (.z 1)) <|
.again 4 [.i (.v 33)]) <|
.letl (.app 21 [.v 23, .v 24, .v 25, .v 26]) <|
.lett (.add (.v 20) (.z 1)) <|
.again 3 [.i (.v 30), .l (.v 29)]) <|
.lett (.add (.v 11) (.z 1)) <|
.again 1 [.i (.v 22), .l (.v 21)]) <|
.lett (.add (.v 7) (.z 1)) <|
.again 0 [.i (.v 13), .l (.v 12)]) <|
.lett (.cnt 8 4) <|
.loop [.i (some (0, 100000)), .i (some (0, 100000))] [.i (.z 0), .i (.z 0)] <|
.ite (.cmp .lt (.v 10) (.v 9)) (.lett (.nthS 8 4 0 (.v 10)) <|
.lett (.nthS 8 4 1 (.v 10)) <|
.lett (.nthS 8 4 2 (.v 10)) <|
.lett (.nthS 8 4 3 (.v 10)) <|
.call 45 [.b] [.i (.v 0), .i (.v 12), .i (.v 13), .i (.v 14), .i (.v 15)] <|
.ite (.v 16) (.lett (.add (.v 11) (.z 1)) <|
.lett (.add (.v 10) (.z 1)) <|
.again 1 [.i (.v 18), .i (.v 17)]) <|
.lett (.add (.v 10) (.z 1)) <|
.again 1 [.i (.v 17), .i (.v 11)]) <|
.ite (.cmp .eq (.v 11) (.z 0)) (.ret (.int .i64 (.z 0))) <|
.ite (.cmp .lt (.v 11) (.v 9)) (.ret (.int .i64 (.z 1))) <|
.ret (.int .i64 (.z 2))) <|
.bad 120) <|
.bad 121) <|
.bad 122
noncomputable def r14rule_cx : Ctx := { tys := tys, fns := fns, mets := mets, sps := [(22, r13has_sp), (42, r14long_sp), (44, r14next_sp), (45, r14holds_sp)], anns := [((28, 6), { slots := [32], cells := [], ivs := [some (0, 15)], lsts := [6], elem := (4 * 10000 + 62) }), ((28, 10), { slots := [39], cells := [], ivs := [some (0, 100000)], lsts := [9], elem := (4 * 10000 + 62) }), ((23, 3), { slots := [4], cells := [], ivs := [some ((-4), 5)], lsts := [3], elem := 3 }), ((28, 13), { slots := [46], cells := [], ivs := [some (0, 9)], lsts := [9], elem := (4 * 10000 + 62) }), ((43, 2), { slots := [9], cells := [], ivs := [some (0, 100000)] }), ((28, 22), { slots := [62, 14], cells := [], ivs := [some (0, 100000), some (0, 100000)] })], trys := [] }
def r14rule_ivs : List (Option (Int × Int)) := [some (1, 8), none]
set_option maxRecDepth 100000 in
theorem r14rule_walk : runFn r14rule_cx 3000 28 Tryd.f28 r14rule_sp.args r14rule_ivs = r14rule_tree := by kernel_rfl
noncomputable def r14rule_M : Nat → SpecSem
  | 22 => r13has_sem
  | 42 => r14long_sem
  | 44 => r14next_sem
  | 45 => r14holds_sem
  | _ => noSem
theorem r14rule_M22 : r14rule_M 22 = r13has_sem := rfl
theorem r14rule_M42 : r14rule_M 42 = r14long_sem := rfl
theorem r14rule_M44 : r14rule_M 44 = r14next_sem := rfl
theorem r14rule_M45 : r14rule_M 45 = r14holds_sem := rfl
theorem r14rule_cxok : CxOK Tryd.prog r14rule_cx r14rule_M := ⟨tysOK, fnsOK, spCons r13has_ok <| spCons r14long_ok <| spCons r14next_ok <| spCons r14holds_ok <| fun _ _ h => spNil h, mixedOK, fun _ _ h => trNil h, fun _ _ h => atNil h, metsOK, fun _ _ h => efNil h, fun _ _ h => lsNil h⟩
set_option maxRecDepth 100000 in
set_option maxHeartbeats 8000000 in
theorem r14rule_den (R RP : Value → Prop) (F : Ex → St → Js → Env → Prop) (x0 : Int) (x1 : List Int) : Tree.den r14rule_M R RP F r14rule_tree [] [(.i x0), (.l x1)] = (
  (r14long_sem.pre [(.i x0)]) ∧ (
∀ x2 : Int, x2 = (Cv.int (Env.get (r14long_sem.out [(.i x0)]) 0)) → (1 : Int) ≤ x2 → x2 ≤ (15 : Int) →
∀ x3 : Int, x3 = ((List.length x1 : Int)) →
((Cmp.den .lt x3 x2) = true → R (Value.int .i64 (0 : Int))) ∧ ((Cmp.den .lt x3 x2) = false → ∀ x4 : Int, x4 = (x3 - x2) →
((Cmp.den .le (0 : Int) x4) = true → ((Cmp.den .le x4 x3) = true → ((Cmp.den .le x3 x3) = true → ∀ x5 : List Int, x5 = (List.take (Int.toNat x3 - Int.toNat x4) (List.drop (Int.toNat x4) x1)) →
∀ x6 : Int, x6 = ((List.length x5 : Int)) →
∃ (I0 : List Cv → Prop) (mu0 : List Cv → Nat), Fits [.i (some ((0), (15))), .l] [(.i (0 : Int)), (.l (([(0 : Int), (0 : Int), (0 : Int), (0 : Int)] : List Int)))] ∧ I0 [(.i (0 : Int)), (.l (([(0 : Int), (0 : Int), (0 : Int), (0 : Int)] : List Int)))] ∧ (
∀ x7 : Int, (0 : Int) ≤ x7 → x7 ≤ (15 : Int) → ∀ x8 : List Int, InI x8 → I0 [.i x7, .l x8] →
((Cmp.den .lt x7 x6) = true → ∀ x9 : Int, x9 = (List.getD x5 (Int.toNat x7) 0) →
∀ x10 : Int, x10 = (((List.length x8 / 4 : Nat) : Int)) →
∃ (I1 : List Cv → Prop) (mu1 : List Cv → Nat), Fits [.i (some ((0), (100000))), .l] [(.i (0 : Int)), (.l (([] : List Int)))] ∧ I1 [(.i (0 : Int)), (.l (([] : List Int)))] ∧ (
∀ x11 : Int, (0 : Int) ≤ x11 → x11 ≤ (100000 : Int) → ∀ x12 : List Int, InI x12 → I1 [.i x11, .l x12] →
((Cmp.den .lt x11 x10) = true → ∀ x13 : Int, x13 = (List.getD x8 (Int.toNat x11 * 4 + 0) 0) →
∀ x14 : Int, x14 = (List.getD x8 (Int.toNat x11 * 4 + 1) 0) →
∀ x15 : Int, x15 = (List.getD x8 (Int.toNat x11 * 4 + 2) 0) →
∀ x16 : Int, x16 = (List.getD x8 (Int.toNat x11 * 4 + 3) 0) →
∃ (I2 : List Cv → Prop) (mu2 : List Cv → Nat), Fits [.i (some ((-4), (5))), .l] [(.i (-4 : Int)), (.l (([] : List Int)))] ∧ I2 [(.i (-4 : Int)), (.l (([] : List Int)))] ∧ (
∀ x17 : Int, (-4 : Int) ≤ x17 → x17 ≤ (5 : Int) → ∀ x18 : List Int, InI x18 → I2 [.i x17, .l x18] →
((Cmp.den .le x17 (4 : Int)) = true → (r13has_sem.pre [(.i x9), (.i x17)]) ∧ (
((Cv.bool (Env.get (r13has_sem.out [(.i x9), (.i x17)]) 0)) = true → ∀ x20 : Int, x20 = ((List.length x18 : Int)) →
((Cmp.den .le x20 (100000 : Int)) = true → ∀ x21 : List Int, x21 = (x18 ++ ([x17] : List Int)) →
∀ x22 : Int, x22 = (x17 + (1 : Int)) →
Fits [.i (some ((-4), (5))), .l] [(.i x22), (.l (x21))] ∧ I2 [(.i x22), (.l (x21))] ∧ mu2 [(.i x22), (.l (x21))] < mu2 [.i x17, .l x18]) ∧ ((Cmp.den .le x20 (100000 : Int)) = false → False)) ∧ ((Cv.bool (Env.get (r13has_sem.out [(.i x9), (.i x17)]) 0)) = false → ∀ x20 : Int, x20 = (x17 + (1 : Int)) →
Fits [.i (some ((-4), (5))), .l] [(.i x20), (.l (x18))] ∧ I2 [(.i x20), (.l (x18))] ∧ mu2 [(.i x20), (.l (x18))] < mu2 [.i x17, .l x18]))) ∧ ((Cmp.den .le x17 (4 : Int)) = false → ∀ x19 : Int, x19 = ((List.length x18 : Int)) →
∃ (I3 : List Cv → Prop) (mu3 : List Cv → Nat), Fits [.i (some ((0), (9))), .l] [(.i (0 : Int)), (.l (x12))] ∧ I3 [(.i (0 : Int)), (.l (x12))] ∧ (
∀ x20 : Int, (0 : Int) ≤ x20 → x20 ≤ (9 : Int) → ∀ x21 : List Int, InI x21 → I3 [.i x20, .l x21] →
((Cmp.den .lt x20 x19) = true → ∀ x22 : Int, x22 = (List.getD x18 (Int.toNat x20) 0) →
(r14next_sem.pre [(.i x0), (.i x13), (.i x14), (.i x15), (.i x16), (.i x22)]) ∧ (
∀ x23 : Int, x23 = (Cv.int (Env.get (r14next_sem.out [(.i x0), (.i x13), (.i x14), (.i x15), (.i x16), (.i x22)]) 0)) → (0 : Int) ≤ x23 → x23 ≤ (16 : Int) →
∀ x24 : Int, x24 = (Cv.int (Env.get (r14next_sem.out [(.i x0), (.i x13), (.i x14), (.i x15), (.i x16), (.i x22)]) 1)) → (0 : Int) ≤ x24 → x24 ≤ (16 : Int) →
∀ x25 : Int, x25 = (Cv.int (Env.get (r14next_sem.out [(.i x0), (.i x13), (.i x14), (.i x15), (.i x16), (.i x22)]) 2)) → (0 : Int) ≤ x25 → x25 ≤ (16 : Int) →
∀ x26 : Int, x26 = (Cv.int (Env.get (r14next_sem.out [(.i x0), (.i x13), (.i x14), (.i x15), (.i x16), (.i x22)]) 3)) → (-4 : Int) ≤ x26 → x26 ≤ (4 : Int) →
∀ x27 : Int, x27 = (((List.length x21 / 4 : Nat) : Int)) →
∃ (I4 : List Cv → Prop) (mu4 : List Cv → Nat), Fits [.i (some ((0), (100000)))] [(.i (0 : Int))] ∧ I4 [(.i (0 : Int))] ∧ (
∀ x28 : Int, (0 : Int) ≤ x28 → x28 ≤ (100000 : Int) → I4 [.i x28] →
((Cmp.den .lt x28 x27) = true → ∀ x29 : Int, x29 = (List.getD x21 (Int.toNat x28 * 4 + 0) 0) →
∀ x30 : Int, x30 = (List.getD x21 (Int.toNat x28 * 4 + 1) 0) →
∀ x31 : Int, x31 = (List.getD x21 (Int.toNat x28 * 4 + 2) 0) →
∀ x32 : Int, x32 = (List.getD x21 (Int.toNat x28 * 4 + 3) 0) →
(((Cmp.den .eq x29 x23) && ((Cmp.den .eq x30 x24) && ((Cmp.den .eq x31 x25) && (Cmp.den .eq x32 x26)))) = true → ∀ x33 : Int, x33 = (x20 + (1 : Int)) →
Fits [.i (some ((0), (9))), .l] [(.i x33), (.l (x21))] ∧ I3 [(.i x33), (.l (x21))] ∧ mu3 [(.i x33), (.l (x21))] < mu3 [.i x20, .l x21]) ∧ (((Cmp.den .eq x29 x23) && ((Cmp.den .eq x30 x24) && ((Cmp.den .eq x31 x25) && (Cmp.den .eq x32 x26)))) = false → ∀ x33 : Int, x33 = (x28 + (1 : Int)) →
Fits [.i (some ((0), (100000)))] [(.i x33)] ∧ I4 [(.i x33)] ∧ mu4 [(.i x33)] < mu4 [.i x28])) ∧ ((Cmp.den .lt x28 x27) = false → ∀ x29 : List Int, x29 = (x21 ++ ([x23, x24, x25, x26] : List Int)) →
∀ x30 : Int, x30 = (x20 + (1 : Int)) →
Fits [.i (some ((0), (9))), .l] [(.i x30), (.l (x29))] ∧ I3 [(.i x30), (.l (x29))] ∧ mu3 [(.i x30), (.l (x29))] < mu3 [.i x20, .l x21])))) ∧ ((Cmp.den .lt x20 x19) = false → ∀ x22 : Int, x22 = (x11 + (1 : Int)) →
Fits [.i (some ((0), (100000))), .l] [(.i x22), (.l (x21))] ∧ I1 [(.i x22), (.l (x21))] ∧ mu1 [(.i x22), (.l (x21))] < mu1 [.i x11, .l x12]))))) ∧ ((Cmp.den .lt x11 x10) = false → ∀ x13 : Int, x13 = (x7 + (1 : Int)) →
Fits [.i (some ((0), (15))), .l] [(.i x13), (.l (x12))] ∧ I0 [(.i x13), (.l (x12))] ∧ mu0 [(.i x13), (.l (x12))] < mu0 [.i x7, .l x8]))) ∧ ((Cmp.den .lt x7 x6) = false → ∀ x9 : Int, x9 = (((List.length x8 / 4 : Nat) : Int)) →
∃ (I1 : List Cv → Prop) (mu1 : List Cv → Nat), Fits [.i (some ((0), (100000))), .i (some ((0), (100000)))] [(.i (0 : Int)), (.i (0 : Int))] ∧ I1 [(.i (0 : Int)), (.i (0 : Int))] ∧ (
∀ x10 : Int, (0 : Int) ≤ x10 → x10 ≤ (100000 : Int) → ∀ x11 : Int, (0 : Int) ≤ x11 → x11 ≤ (100000 : Int) → I1 [.i x10, .i x11] →
((Cmp.den .lt x10 x9) = true → ∀ x12 : Int, x12 = (List.getD x8 (Int.toNat x10 * 4 + 0) 0) →
∀ x13 : Int, x13 = (List.getD x8 (Int.toNat x10 * 4 + 1) 0) →
∀ x14 : Int, x14 = (List.getD x8 (Int.toNat x10 * 4 + 2) 0) →
∀ x15 : Int, x15 = (List.getD x8 (Int.toNat x10 * 4 + 3) 0) →
(r14holds_sem.pre [(.i x0), (.i x12), (.i x13), (.i x14), (.i x15)]) ∧ (
((Cv.bool (Env.get (r14holds_sem.out [(.i x0), (.i x12), (.i x13), (.i x14), (.i x15)]) 0)) = true → ∀ x17 : Int, x17 = (x11 + (1 : Int)) →
∀ x18 : Int, x18 = (x10 + (1 : Int)) →
Fits [.i (some ((0), (100000))), .i (some ((0), (100000)))] [(.i x18), (.i x17)] ∧ I1 [(.i x18), (.i x17)] ∧ mu1 [(.i x18), (.i x17)] < mu1 [.i x10, .i x11]) ∧ ((Cv.bool (Env.get (r14holds_sem.out [(.i x0), (.i x12), (.i x13), (.i x14), (.i x15)]) 0)) = false → ∀ x17 : Int, x17 = (x10 + (1 : Int)) →
Fits [.i (some ((0), (100000))), .i (some ((0), (100000)))] [(.i x17), (.i x11)] ∧ I1 [(.i x17), (.i x11)] ∧ mu1 [(.i x17), (.i x11)] < mu1 [.i x10, .i x11]))) ∧ ((Cmp.den .lt x10 x9) = false → ((Cmp.den .eq x11 (0 : Int)) = true → R (Value.int .i64 (0 : Int))) ∧ ((Cmp.den .eq x11 (0 : Int)) = false → ((Cmp.den .lt x11 x9) = true → R (Value.int .i64 (1 : Int))) ∧ ((Cmp.den .lt x11 x9) = false → R (Value.int .i64 (2 : Int))))))))) ∧ ((Cmp.den .le x3 x3) = false → False)) ∧ ((Cmp.den .le x4 x3) = false → False)) ∧ ((Cmp.den .le (0 : Int) x4) = false → False)))) := by kernel_rfl

noncomputable def r14rule_sem : SpecSem := { pre := fun cs => match cs with | [.i k, .l l] => IsI k ∧ InI l ∧ ((1 ≤ k ∧ k ≤ 8) ∧ IsMs l) | _ => False, out := fun cs => match cs with | [.i k, .l l] => [.i (refV k l)] | _ => [] }
set_option maxRecDepth 10000 in
set_option maxHeartbeats 16000000 in
theorem r14rule_ok : SpecOK Tryd.prog 28 r14rule_sp r14rule_sem := by
  refine spec_of_tree r14rule_cxok Tryd.func28 (by kernel_rfl) (by kernel_rfl) r14rule_walk rfl ?_
  intro cs hpre
  match cs, hpre with
  | [.i k, .l l], ⟨j_k, j_l, hx⟩ =>
    have h_k := j_k
    unfold IsI at h_k
    refine ⟨rfl, IvsB.ok (by simp only [r14rule_ivs, IvsB, Cv.int, and_true, j_l, true_and] <;> omega), ?_, ?_⟩
    · simp only [r14rule_sem, r14rule_sp, Fits, and_true]; exact ruleV_rng _ _ _
    · rw [r14rule_den]
      obtain ⟨hk, hl⟩ := hx
      have hlen := hl.1
      have hz := longZ_rng (k := k)
      rcases Decidable.em ((l.length : Int) < longZ k) with h | h
      · have hfin : refV k l = 0 := ruleV_few (by omega)
        have hg : (longZ k ≤ (l.length : Int)) = False := eq_false (by omega)
        simp only [r14rule_sem, r14rule_sp, r14long_sem, r14rule_den, r13has_sem, r14long_sem, r14next_sem, r14holds_sem, Tree.den, LE.den, Cv.list, placeA, List.getElem?_cons_zero, List.getElem?_cons_succ, IE.den, BE.den, At.den, CA.den, Env.get, Cv.int, Cv.bool, List.cons_append, List.nil_append, List.map_cons, List.map_nil, bindRes, bindEq, Fits, SV.den, denL, place, placeL, eq_t, eq_f, lt_t, lt_f, le_t, le_f, beq_iff_eq, beq_eq_false_iff_ne, ne_eq, reduceCtorEq, b_dec, decide_eq_true_eq, decide_eq_false_iff_not, Bool.not_eq_false', Bool.or_eq_true, Bool.or_eq_false_iff, Bool.and_eq_false_iff, true_iff, false_iff, Bool.false_eq_true, Bool.not_eq_true', Bool.and_eq_true, Bool.not_true, Bool.not_false, List.cons.injEq, Cv.i.injEq, Cv.b.injEq, and_true, true_and, agg_inj, tup_inj, Value.int.injEq, Value.bool.injEq, j_k, hk, hfin, h, hg, forall_eq, eq_self, if_true, if_false, true_and, and_true, false_and, and_false, true_or, or_true, false_or, or_false, true_iff, iff_true, false_iff, iff_false, not_true_eq_false, not_false_eq_true, true_implies, false_implies, implies_true, forall_const, decide_true, decide_false, reduceCtorEq]
      · have hf : ((l.length : Int) < longZ k) = False := eq_false h
        have hg : (longZ k ≤ (l.length : Int)) = True := eq_true (by omega)
        have hL : List.take ((l.length : Int).toNat - ((l.length : Int) - longZ k).toNat) (List.drop ((l.length : Int) - longZ k).toNat l) = lst (longZ k).toNat l := by
          unfold lst
          have e : ((l.length : Int) - longZ k).toNat = l.length - (longZ k).toNat := by omega
          rw [e, List.take_of_length_le (by rw [List.length_drop]; omega)]
        have g1 : (0 ≤ (l.length : Int) - longZ k) = True := eq_true (by omega)
        have g2 : ((l.length : Int) - longZ k ≤ (l.length : Int)) = True := eq_true (by omega)
        have g3 : ((l.length : Int) < (l.length : Int) - longZ k) = False := eq_false (by omega)
        have g4 : ((l.length : Int) - longZ k < 0) = False := eq_false (by omega)
        simp only [r14rule_sem, r14rule_sp, r13has_sem, r14long_sem, r14next_sem, r14holds_sem, r14rule_den, r13has_sem, r14long_sem, r14next_sem, r14holds_sem, Tree.den, LE.den, Cv.list, placeA, List.getElem?_cons_zero, List.getElem?_cons_succ, IE.den, BE.den, At.den, CA.den, Env.get, Cv.int, Cv.bool, List.cons_append, List.nil_append, List.map_cons, List.map_nil, bindRes, bindEq, Fits, SV.den, denL, place, placeL, eq_t, eq_f, lt_t, lt_f, le_t, le_f, beq_iff_eq, beq_eq_false_iff_ne, ne_eq, reduceCtorEq, b_dec, decide_eq_true_eq, decide_eq_false_iff_not, Bool.not_eq_false', Bool.or_eq_true, Bool.or_eq_false_iff, Bool.and_eq_false_iff, true_iff, false_iff, Bool.false_eq_true, Bool.not_eq_true', Bool.and_eq_true, Bool.not_true, Bool.not_false, List.cons.injEq, Cv.i.injEq, Cv.b.injEq, and_true, true_and, agg_inj, tup_inj, Value.int.injEq, Value.bool.injEq, j_k, hk, hf, hg, hL, g1, g2, g3, g4, Int.lt_irrefl, Int.le_refl, forall_eq, eq_self, if_true, if_false, true_and, and_true, false_and, and_false, true_or, or_true, false_or, or_false, true_iff, iff_true, false_iff, iff_false, not_true_eq_false, not_false_eq_true, true_implies, false_implies, implies_true, forall_const, decide_true, decide_false, reduceCtorEq]
        have hfin : refV k l = val3 (∀ row, Row (lst (longZ k).toNat l) row → hold k (st k row)) (∃ row, Row (lst (longZ k).toNat l) row ∧ hold k (st k row)) := ruleV_of (by omega)
        have hns := lst_mem (n := (longZ k).toNat) hl.2
        have hnl := lst_len (n := (longZ k).toNat) (ms := l) (by omega)
        rw [hfin]
        generalize lst (longZ k).toNat l = ns at *
        intro _ _
        have hz4 : ∀ s ∈ [z4], StN 0 s := fun s hs => by
          rw [List.mem_singleton] at hs; subst hs
          exact ⟨by unfold StR; simp, rfl⟩
        refine ⟨fun vs => match vs with | [.i i, .l g] => i ≤ (ns.length : Int) ∧ ∃ L, g = fl L ∧ OutI k ns i.toNat L | _ => False, fun vs => match vs with | [.i i, .l _] => (100 - i).toNat | _ => 0, ⟨by omega, inI_fl (n := 0) (by omega) [z4] hz4⟩, ⟨by omega, [z4], rfl, out_zero⟩, ?_⟩
        intro i i0 i1 g hgI hI
        obtain ⟨hin, L, rfl, hO⟩ : i ≤ (ns.length : Int) ∧ ∃ L, g = fl L ∧ OutI k ns i.toNat L := hI
        have hR : ∀ s ∈ L, StN i s := fun s hs => by
          have := hO.rng (by omega) s hs
          rwa [show ((i.toNat : Nat) : Int) = i by omega] at this
        have hbd := few_states (n := i) ⟨i0, by omega⟩ hO.1 hR
        simp only [fl_cnt]
        refine ⟨fun hlt => ?_, fun hge => ?_⟩
        · have hM := hns _ (getD_mem (show i.toNat < ns.length by omega))
          have hMo : ∀ M, MidI k (ns.getD i.toNat 0) L L.length M → OutI k ns (i.toNat + 1) M := fun M h => mid_out (by omega) hO h
          have hMI : IsI (ns.getD i.toNat 0) = True := eq_true ⟨by have := hM.1; omega, by have := hM.2; omega⟩
          generalize ns.getD i.toNat 0 = m at *
          simp only [hM, hMI, true_and]
          refine ⟨fun vs => match vs with | [.i j, .l t] => j ≤ (L.length : Int) ∧ ∃ M, t = fl M ∧ MidI k m L j.toNat M | _ => False, fun vs => match vs with | [.i j, .l _] => (100001 - j).toNat | _ => 0, ⟨by omega, inI_nil⟩, ⟨by omega, [], rfl, mid_zero⟩, ?_⟩
          intro j j0 j1 t htI hJ
          obtain ⟨hjn, M, rfl, hMid⟩ : j ≤ (L.length : Int) ∧ ∃ M, t = fl M ∧ MidI k m L j.toNat M := hJ
          refine ⟨fun hjlt => ?_, fun hjge => ?_⟩
          · have hs := hR _ (getD_memS (show j.toNat < L.length by omega))
            have q := fl_get L j.toNat (by omega)
            simp only [q.1, q.2.1, q.2.2.1, q.2.2.2]
            refine cls_loop (m := m) ?_
            refine ⟨fun vs => match vs with | [.i q, .l t] => q ≤ ((clsA m 9).length : Int) ∧ ∃ M, t = fl M ∧ InnI k m L j.toNat q.toNat M | _ => False, fun vs => match vs with | [.i q, .l _] => (100 - q).toNat | _ => 0, ⟨by omega, htI⟩, ⟨by omega, M, rfl, inn_zero hMid⟩, ?_⟩
            intro q q0 q1 t2 ht2 hK
            obtain ⟨hqn, M2, rfl, hInn⟩ : q ≤ ((clsA m 9).length : Int) ∧ ∃ M, t2 = fl M ∧ InnI k m L j.toNat q.toNat M := hK
            refine ⟨fun hqlt => ?_, fun hqge => ?_⟩
            · have hc := clsA_has.1 (getD_mem (show q.toNat < (clsA m 9).length by omega))
              simp only [fl_cnt]
              obtain ⟨⟨r1, r2, r3, r4⟩, r5⟩ := hs
              have hc1 := hc.1
              have hcl := clsA_len m 9
              have hM2 : ∀ s ∈ M2, StN (i + 1) s := fun s h => inn_rng (by omega) (by omega) hR ((hInn.2 s).1 h)
              have hbd2 := few_states (n := i + 1) ⟨by omega, by omega⟩ hInn.1 hM2
              refine ⟨⟨⟨by omega, by omega⟩, ⟨by omega, by omega⟩, ⟨by omega, by omega⟩, ⟨by omega, by omega⟩, ⟨by omega, by omega⟩, by omega, by omega, by omega, by omega, by omega, by omega⟩, fun _ _ _ _ _ _ _ _ => ?_⟩
              have hfx := fl_app M2 (nx k (L.getD j.toNat z4) ((clsA m 9).getD q.toNat 0))
              simp only [nx] at hfx
              simp only [hfx]
              refine ⟨fun vs => match vs with | [.i r] => r ≤ (M2.length : Int) ∧ ∀ p : Nat, (p : Int) < r → M2.getD p z4 ≠ nx k (L.getD j.toNat z4) ((clsA m 9).getD q.toNat 0) | _ => False, fun vs => match vs with | [.i r] => (100001 - r).toNat | _ => 0, (by omega), ⟨by omega, fun p hp => by omega⟩, ?_⟩
              intro r r0 r1' hr
              obtain ⟨hrn, hne⟩ : r ≤ (M2.length : Int) ∧ ∀ p : Nat, (p : Int) < r → M2.getD p z4 ≠ nx k (L.getD j.toNat z4) ((clsA m 9).getD q.toNat 0) := hr
              refine ⟨fun hrlt => ?_, fun hrge => ?_⟩
              · have e := fl_get M2 r.toNat (by omega)
                simp only [e.1, e.2.1, e.2.2.1, e.2.2.2]
                refine ⟨fun hq => ⟨⟨by omega, by omega, ht2⟩, ⟨by omega, M2, rfl, ?_⟩, by omega⟩, fun hq => ⟨by omega, ⟨by omega, fun p hp => ?_⟩, by show (100001 - (r + 1)).toNat < (100001 - r).toNat; omega⟩⟩
                · rw [show (q + 1).toNat = q.toNat + 1 by omega]
                  refine inn_found hInn ?_
                  have : M2.getD r.toNat z4 = nx k (L.getD j.toNat z4) ((clsA m 9).getD q.toNat 0) := Prod.ext hq.1 (Prod.ext hq.2.1 (Prod.ext hq.2.2.1 hq.2.2.2))
                  rw [← this]; exact getD_memS (by omega)
                · by_cases hp2 : (p : Int) < r
                  · exact hne p hp2
                  · have : p = r.toNat := by omega
                    subst this
                    intro e2
                    rw [e2] at hq
                    simp only [nx] at hq
                    rcases hq with hq | hq | hq | hq <;> first | exact hq trivial | exact hq rfl
              · have hx : nx k (L.getD j.toNat z4) ((clsA m 9).getD q.toNat 0) ∉ M2 := fun h => by
                  obtain ⟨p, hp, e⟩ := mem_getDS h
                  exact hne p (by omega) e
                have hnew := inn_new hInn hx
                have hrng' : ∀ s ∈ M2 ++ [nx k (L.getD j.toNat z4) ((clsA m 9).getD q.toNat 0)], StN (i + 1) s := fun s h => inn_rng (j := j.toNat) (q := q.toNat + 1) (by omega) (by omega) hR ((hnew.2 s).1 h)
                refine ⟨⟨by omega, by omega, inI_fl (n := i + 1) ⟨by omega, by omega⟩ _ hrng'⟩, ⟨by omega, _, rfl, ?_⟩, by omega⟩
                rw [show (q + 1).toNat = q.toNat + 1 by omega]
                exact hnew
            · have hq9 : q.toNat = (clsA m 9).length := by omega
              rw [hq9] at hInn
              refine ⟨⟨by omega, by omega, ht2⟩, ⟨by omega, M2, rfl, ?_⟩, by show (100001 - (j + 1)).toNat < (100001 - j).toNat; omega⟩
              rw [show (j + 1).toNat = j.toNat + 1 by omega]
              exact inn_mid hInn
          · have hj : j.toNat = L.length := by omega
            rw [hj] at hMid
            refine ⟨⟨by omega, by omega, htI⟩, ⟨by omega, M, rfl, ?_⟩, ?_⟩
            · rw [show (i + 1).toNat = i.toNat + 1 by omega]; exact hMo M hMid
            · show (100 - (i + 1)).toNat < (100 - i).toNat
              omega
        · have hi : i.toNat = ns.length := by omega
          rw [hi] at hO
          rw [← cnt_fin hns hO]
          refine ⟨fun vs => match vs with | [.i j, .i x] => j ≤ (L.length : Int) ∧ x = (cntH k L j.toNat : Int) | _ => False, fun vs => match vs with | [.i j, .i _] => (100001 - j).toNat | _ => 0, (by omega), ⟨by omega, rfl⟩, ?_⟩
          intro j j0 j1 x x0 x1 hJ
          obtain ⟨hjn, hx⟩ : j ≤ (L.length : Int) ∧ x = (cntH k L j.toNat : Int) := hJ
          have hle := cntH_le (k := k) (L := L) (j := j.toNat)
          refine ⟨fun hjlt => ?_, fun hjge => ?_⟩
          · obtain ⟨⟨r1, r2, r3, r4⟩, r5⟩ := hR _ (getD_memS (show j.toNat < L.length by omega))
            have q := fl_get L j.toNat (by omega)
            have hst := cntH_step (k := k) (L := L) (j := j.toNat) (by omega)
            simp only [q.1, q.2.1, q.2.2.1, q.2.2.2]
            have ej : (j + 1).toNat = j.toNat + 1 := by omega
            have hle2 := cntH_le (k := k) (L := L) (j := j.toNat + 1)
            have kmu : (100001 - (j + 1)).toNat < (100001 - j).toNat := by omega
            refine ⟨⟨⟨by omega, by omega⟩, ⟨by omega, by omega⟩, ⟨by omega, by omega⟩, ⟨by omega, by omega⟩, by omega, by omega, by omega, by omega, by omega⟩, fun hh => ⟨by rw [if_pos (show hold k (L.getD j.toNat z4) from hh)] at hst; omega, ⟨by omega, ?_⟩, kmu⟩, fun hh => ⟨by omega, ⟨by omega, ?_⟩, kmu⟩⟩
            · rw [ej, hst, if_pos (show hold k (L.getD j.toNat z4) from hh)]; omega
            · rw [ej, hst, if_neg (show ¬ hold k (L.getD j.toNat z4) from hh)]; omega
          · have hj : j.toNat = L.length := by omega
            rw [hj] at hx
            rw [← hx]
            refine ⟨fun a => by rw [if_pos a], fun a => ⟨fun b => by rw [if_neg a, if_pos b], fun b => by rw [if_neg a, if_neg (by omega)]⟩⟩
end Go.Proofs.YtmnpeneplobpdaaDoor.X
