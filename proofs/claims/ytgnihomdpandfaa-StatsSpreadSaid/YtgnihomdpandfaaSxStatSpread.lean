/-
  StatsSpread tells true, for every input.
-/
import Derived.Test.YtgnihomdpandfaaSxStatLaw
namespace Go.Proofs.Ytgnihomdpandfaa.X
open Go Go.SX Go.RowKit
set_option linter.unusedVariables false
set_option linter.unusedSimpArgs false





theorem difL_app (x : Int) : ∀ a b : List Int, difL x (a ++ b) = difL x a + difL x b
  | [], b => by simp [difL]
  | y :: r, b => by simp only [List.cons_append, difL, difL_app x r b]; omega
theorem difL_take (x : Int) (l : List Int) (n : Nat) : difL x (l.take n) ≤ difL x l := by
  have h := difL_app x (l.take n) (l.drop n)
  rw [List.take_append_drop] at h
  have := difL_nonneg x (l.drop n)
  omega
theorem pairL_drop {l : List Int} {i : Int} (h0 : 0 ≤ i) (h : i < (l.length : Int)) : pairL (l.drop i.toNat) = difL (l.getD i.toNat 0) (l.drop (i + 1).toNat) + pairL (l.drop (i + 1).toNat) := by
  have hk : i.toNat < l.length := by omega
  have e : l.getD i.toNat 0 = l[i.toNat] := by simp [List.getD, hk]
  rw [List.drop_eq_getElem_cons hk, e, show (i + 1).toNat = i.toNat + 1 by omega]
  rfl
theorem sq_zero {a : Int} : a * a = 0 ↔ a = 0 := by rw [Int.mul_eq_zero]; omega
theorem pair_rng {l : List Int} (h : inS l) (hl : (l.length : Int) ≤ 40) : 0 ≤ pairL l ∧ pairL l ≤ 1600000000000000 := by
  refine ⟨pairL_nonneg l, ?_⟩
  rw [pairL_eq]
  have h1 := sq_rng (K := 1000000) (by omega) l h
  have h2 := sq_nonneg (sumL l)
  have h3 := sqL_nonneg l
  have h4 : (l.length : Int) * sqL l ≤ 40 * 40000000000000 := Int.mul_le_mul hl (by omega) h3 (by omega)
  omega
def lsspr_sp : SpecSh := { args := [(.lst 0)], res := (.bool .f), sh := [.b] }
set_option maxRecDepth 100000 in
def lsspr_tree : Tree :=
.lett (.len 0) <|
.lett (.ite (.cmp .lt (.z 40) (.v 1)) (.z 40) (.v 1)) <|
.ite (.cmp .le (.v 2) (.v 1)) (.letl (.sub 0 (.z 0) (.v 2)) <|
.lett (.len 3) <|
.loop [.i (some (0, 40)), .l] [.i (.z 0), .l (.nil)] <|
.ite (.cmp .lt (.v 5) (.v 4)) (.lett (.nth 3 (.v 5)) <|
.lett (.ite (.cmp .lt (.v 7) (.z (-1000000))) (.z (-1000000)) (.v 7)) <|
.lett (.ite (.cmp .lt (.z 1000000) (.v 8)) (.z 1000000) (.v 8)) <|
.lett (.len 6) <|
.ite (.cmp .le (.v 10) (.z 100000)) (.letl (.app 6 [.v 9]) <|
.lett (.add (.v 5) (.z 1)) <|
.again 0 [.i (.v 12), .l (.v 11)]) <|
.bad 113) <|
.call 15 [.i (some ((-9223372036854775808), 9223372036854775807)), .i (some ((-9223372036854775808), 9223372036854775807)), .i (some (0, 18446744073709551615)), .i (some (0, 18446744073709551615)), .i (some ((-9223372036854775808), 9223372036854775807)), .i (some ((-9223372036854775808), 9223372036854775807)), .i (some ((-9223372036854775808), 9223372036854775807))] [.l (.v 6)] <|
.call 16 [.i (some (0, 18446744073709551615)), .i (some (0, 18446744073709551615)), .i (some ((-9223372036854775808), 9223372036854775807))] [.i (.v 7), .i (.v 8), .i (.v 9), .i (.v 10), .i (.v 11), .i (.v 12)] <|
.ite (.not (.cmp .eq (.v 13) (.z 0))) (.ret (.bool .f)) <|
.call 17 [.b] [] <|
.ite (.not (.v 17)) (.ret (.bool .f)) <|
.lett (.len 6) <|
.ite (.cmp .eq (.v 18) (.z 0)) (.ite (.cmp .eq (.v 16) (.z 6)) (.ret (.bool (.and (.cmp .eq (.v 14) (.z 0)) (.cmp .eq (.v 15) (.z 0))))) <|
.ret (.bool .f)) <|
.loop [.i (some (0, 40)), .b, .i (some (0, 0)), .i (some (0, 100000000000000000))] [.i (.z 0), .b .t, .i (.z 0), .i (.z 0)] <|
.ite (.cmp .lt (.v 19) (.v 18)) (.lett (.nth 6 (.v 19)) <|
.lett (.add (.v 19) (.z 1)) <|
.ite (.cmp .le (.v 24) (.v 18)) (.ite (.cmp .le (.v 18) (.v 18)) (.letl (.sub 6 (.v 24) (.v 18)) <|
.lett (.len 25) <|
.loop [.i (some (0, 40)), .b, .i (some (0, 0)), .i (some (0, 100000000000000000))] [.i (.z 0), .b (.v 20), .i (.v 21), .i (.v 22)] <|
.ite (.cmp .lt (.v 27) (.v 26)) (.lett (.nth 25 (.v 27)) <|
.lett (.subw .i64 (.v 23) (.v 31)) <|
.lett (.subw .i64 (.v 31) (.v 23)) <|
.lett (.ite (.cmp .lt (.v 32) (.v 33)) (.v 33) (.v 32)) <|
.lett (.wrap .u64 (.v 34)) <|
.call 19 [.i (some (0, 18446744073709551615)), .i (some (0, 18446744073709551615))] [.i (.v 35), .i (.v 35)] <|
.call 18 [.i (some (0, 18446744073709551615)), .i (some (0, 18446744073709551615)), .b] [.i (.v 29), .i (.v 30), .i (.v 36), .i (.v 37)] <|
.ite (.v 28) (.lett (.add (.v 27) (.z 1)) <|
.again 2 [.i (.v 41), .b (.cmp .eq (.v 23) (.v 31)), .i (.v 38), .i (.v 39)]) <|
.lett (.add (.v 27) (.z 1)) <|
.again 2 [.i (.v 41), .b .f, .i (.v 38), .i (.v 39)]) <|
.lett (.add (.v 19) (.z 1)) <|
.again 1 [.i (.v 31), .b (.v 28), .i (.v 29), .i (.v 30)]) <|
.bad 120) <|
.bad 121) <|
.ite (.cmp .eq (.v 16) (.z 0)) (.ite (.and (.cmp .eq (.v 14) (.v 21)) (.cmp .eq (.v 15) (.v 22))) (.ret (.bool (.eqv (.v 20) (.and (.cmp .eq (.v 14) (.z 0)) (.cmp .eq (.v 15) (.z 0)))))) <|
.ret (.bool .f)) <|
.ret (.bool .f)) <|
.bad 120
noncomputable def lsspr_cx : Ctx := { tys := tys, fns := fns, sps := [(15, sof_sp), (16, sspread_sp), (19, mul_sp), (18, wadd_sp), (17, s11al_sp)], anns := [((14, 3), { slots := [15], cells := [], ivs := [some (0, 40)], lsts := [5], elem := 3 }), ((4, 11), { slots := [45, 8], cells := [(4, 0), (4, 1)], ivs := [some (0, 40), none, some (0, 0), some (0, 100000000000000000)], frz := [1] }), ((4, 14), { slots := [55, 8], cells := [(4, 0), (4, 1)], ivs := [some (0, 40), none, some (0, 0), some (0, 100000000000000000)] })], trys := [] }
def lsspr_ivs : List (Option (Int × Int)) := [none]
set_option maxRecDepth 100000 in
theorem lsspr_walk : runFn lsspr_cx 3000 4 Try.f4 lsspr_sp.args lsspr_ivs = lsspr_tree := by kernel_rfl
noncomputable def lsspr_M : Nat → SpecSem
  | 15 => sof_sem
  | 16 => sspread_sem
  | 19 => mul_sem
  | 18 => wadd_sem
  | 17 => s11al_sem
  | _ => noSem
theorem lsspr_M15 : lsspr_M 15 = sof_sem := rfl
theorem lsspr_M16 : lsspr_M 16 = sspread_sem := rfl
theorem lsspr_M19 : lsspr_M 19 = mul_sem := rfl
theorem lsspr_M18 : lsspr_M 18 = wadd_sem := rfl
theorem lsspr_M17 : lsspr_M 17 = s11al_sem := rfl
theorem lsspr_cxok : CxOK Try.prog lsspr_cx lsspr_M := ⟨tysOK, fnsOK, spCons sof_ok <| spCons sspread_ok <| spCons mul_ok <| spCons wadd_ok <| spCons s11al_ok <| fun _ _ h => spNil h, mixedOK, fun _ _ h => trNil h⟩
set_option maxRecDepth 100000 in
set_option maxHeartbeats 8000000 in
theorem lsspr_den (R RP : Value → Prop) (F : Ex → St → Js → Env → Prop) (x0 : List Int) : Tree.den lsspr_M R RP F lsspr_tree [] [(.l x0)] = (
  ∀ x1 : Int, x1 = ((List.length x0 : Int)) →
∀ x2 : Int, x2 = (if (Cmp.den .lt (40 : Int) x1) = true then (40 : Int) else x1) →
((Cmp.den .le x2 x1) = true → ∀ x3 : List Int, x3 = (List.take (Int.toNat x2 - Int.toNat (0 : Int)) (List.drop (Int.toNat (0 : Int)) x0)) →
∀ x4 : Int, x4 = ((List.length x3 : Int)) →
∃ (I0 : List Cv → Prop) (mu0 : List Cv → Nat), Fits [.i (some ((0), (40))), .l] [(.i (0 : Int)), (.l (([] : List Int)))] ∧ I0 [(.i (0 : Int)), (.l (([] : List Int)))] ∧ (
∀ x5 : Int, (0 : Int) ≤ x5 → x5 ≤ (40 : Int) → ∀ x6 : List Int, InI x6 → I0 [.i x5, .l x6] →
((Cmp.den .lt x5 x4) = true → ∀ x7 : Int, x7 = (List.getD x3 (Int.toNat x5) 0) →
∀ x8 : Int, x8 = (if (Cmp.den .lt x7 (-1000000 : Int)) = true then (-1000000 : Int) else x7) →
∀ x9 : Int, x9 = (if (Cmp.den .lt (1000000 : Int) x8) = true then (1000000 : Int) else x8) →
∀ x10 : Int, x10 = ((List.length x6 : Int)) →
((Cmp.den .le x10 (100000 : Int)) = true → ∀ x11 : List Int, x11 = (x6 ++ ([x9] : List Int)) →
∀ x12 : Int, x12 = (x5 + (1 : Int)) →
Fits [.i (some ((0), (40))), .l] [(.i x12), (.l (x11))] ∧ I0 [(.i x12), (.l (x11))] ∧ mu0 [(.i x12), (.l (x11))] < mu0 [.i x5, .l x6]) ∧ ((Cmp.den .le x10 (100000 : Int)) = false → False)) ∧ ((Cmp.den .lt x5 x4) = false → (sof_sem.pre [(.l (x6))]) ∧ (
∀ x7 : Int, x7 = (Cv.int (Env.get (sof_sem.out [(.l (x6))]) 0)) → (-9223372036854775808 : Int) ≤ x7 → x7 ≤ (9223372036854775807 : Int) →
∀ x8 : Int, x8 = (Cv.int (Env.get (sof_sem.out [(.l (x6))]) 1)) → (-9223372036854775808 : Int) ≤ x8 → x8 ≤ (9223372036854775807 : Int) →
∀ x9 : Int, x9 = (Cv.int (Env.get (sof_sem.out [(.l (x6))]) 2)) → (0 : Int) ≤ x9 → x9 ≤ (18446744073709551615 : Int) →
∀ x10 : Int, x10 = (Cv.int (Env.get (sof_sem.out [(.l (x6))]) 3)) → (0 : Int) ≤ x10 → x10 ≤ (18446744073709551615 : Int) →
∀ x11 : Int, x11 = (Cv.int (Env.get (sof_sem.out [(.l (x6))]) 4)) → (-9223372036854775808 : Int) ≤ x11 → x11 ≤ (9223372036854775807 : Int) →
∀ x12 : Int, x12 = (Cv.int (Env.get (sof_sem.out [(.l (x6))]) 5)) → (-9223372036854775808 : Int) ≤ x12 → x12 ≤ (9223372036854775807 : Int) →
∀ x13 : Int, x13 = (Cv.int (Env.get (sof_sem.out [(.l (x6))]) 6)) → (-9223372036854775808 : Int) ≤ x13 → x13 ≤ (9223372036854775807 : Int) →
(sspread_sem.pre [(.i x7), (.i x8), (.i x9), (.i x10), (.i x11), (.i x12)]) ∧ (
∀ x14 : Int, x14 = (Cv.int (Env.get (sspread_sem.out [(.i x7), (.i x8), (.i x9), (.i x10), (.i x11), (.i x12)]) 0)) → (0 : Int) ≤ x14 → x14 ≤ (18446744073709551615 : Int) →
∀ x15 : Int, x15 = (Cv.int (Env.get (sspread_sem.out [(.i x7), (.i x8), (.i x9), (.i x10), (.i x11), (.i x12)]) 1)) → (0 : Int) ≤ x15 → x15 ≤ (18446744073709551615 : Int) →
∀ x16 : Int, x16 = (Cv.int (Env.get (sspread_sem.out [(.i x7), (.i x8), (.i x9), (.i x10), (.i x11), (.i x12)]) 2)) → (-9223372036854775808 : Int) ≤ x16 → x16 ≤ (9223372036854775807 : Int) →
((!(Cmp.den .eq x13 (0 : Int))) = true → R (Value.bool false)) ∧ ((!(Cmp.den .eq x13 (0 : Int))) = false → (s11al_sem.pre []) ∧ (
((!(Cv.bool (Env.get (s11al_sem.out []) 0))) = true → R (Value.bool false)) ∧ ((!(Cv.bool (Env.get (s11al_sem.out []) 0))) = false → ∀ x18 : Int, x18 = ((List.length x6 : Int)) →
((Cmp.den .eq x18 (0 : Int)) = true → ((Cmp.den .eq x16 (6 : Int)) = true → R (Value.bool ((Cmp.den .eq x14 (0 : Int)) && (Cmp.den .eq x15 (0 : Int))))) ∧ ((Cmp.den .eq x16 (6 : Int)) = false → R (Value.bool false))) ∧ ((Cmp.den .eq x18 (0 : Int)) = false → ∃ (I1 : List Cv → Prop) (mu1 : List Cv → Nat), Fits [.i (some ((0), (40))), .b, .i (some ((0), (0))), .i (some ((0), (100000000000000000)))] [(.i (0 : Int)), (.b true), (.i (0 : Int)), (.i (0 : Int))] ∧ I1 [(.i (0 : Int)), (.b true), (.i (0 : Int)), (.i (0 : Int))] ∧ (
∀ x19 : Int, (0 : Int) ≤ x19 → x19 ≤ (40 : Int) → ∀ x20 : Bool, ∀ x21 : Int, (0 : Int) ≤ x21 → x21 ≤ (0 : Int) → ∀ x22 : Int, (0 : Int) ≤ x22 → x22 ≤ (100000000000000000 : Int) → I1 [.i x19, .b x20, .i x21, .i x22] →
((Cmp.den .lt x19 x18) = true → ∀ x23 : Int, x23 = (List.getD x6 (Int.toNat x19) 0) →
∀ x24 : Int, x24 = (x19 + (1 : Int)) →
((Cmp.den .le x24 x18) = true → ((Cmp.den .le x18 x18) = true → ∀ x25 : List Int, x25 = (List.take (Int.toNat x18 - Int.toNat x24) (List.drop (Int.toNat x24) x6)) →
∀ x26 : Int, x26 = ((List.length x25 : Int)) →
∃ (I2 : List Cv → Prop) (mu2 : List Cv → Nat), Fits [.i (some ((0), (40))), .b, .i (some ((0), (0))), .i (some ((0), (100000000000000000)))] [(.i (0 : Int)), (.b x20), (.i x21), (.i x22)] ∧ I2 [(.i (0 : Int)), (.b x20), (.i x21), (.i x22)] ∧ (
∀ x27 : Int, (0 : Int) ≤ x27 → x27 ≤ (40 : Int) → ∀ x28 : Bool, ∀ x29 : Int, (0 : Int) ≤ x29 → x29 ≤ (0 : Int) → ∀ x30 : Int, (0 : Int) ≤ x30 → x30 ≤ (100000000000000000 : Int) → I2 [.i x27, .b x28, .i x29, .i x30] →
((Cmp.den .lt x27 x26) = true → ∀ x31 : Int, x31 = (List.getD x25 (Int.toNat x27) 0) →
∀ x32 : Int, x32 = (IntKind.i64.wrap (x23 - x31)) →
∀ x33 : Int, x33 = (IntKind.i64.wrap (x31 - x23)) →
∀ x34 : Int, x34 = (if (Cmp.den .lt x32 x33) = true then x33 else x32) →
∀ x35 : Int, x35 = (IntKind.u64.wrap x34) →
(mul_sem.pre [(.i x35), (.i x35)]) ∧ (
∀ x36 : Int, x36 = (Cv.int (Env.get (mul_sem.out [(.i x35), (.i x35)]) 0)) → (0 : Int) ≤ x36 → x36 ≤ (18446744073709551615 : Int) →
∀ x37 : Int, x37 = (Cv.int (Env.get (mul_sem.out [(.i x35), (.i x35)]) 1)) → (0 : Int) ≤ x37 → x37 ≤ (18446744073709551615 : Int) →
(wadd_sem.pre [(.i x29), (.i x30), (.i x36), (.i x37)]) ∧ (
∀ x38 : Int, x38 = (Cv.int (Env.get (wadd_sem.out [(.i x29), (.i x30), (.i x36), (.i x37)]) 0)) → (0 : Int) ≤ x38 → x38 ≤ (18446744073709551615 : Int) →
∀ x39 : Int, x39 = (Cv.int (Env.get (wadd_sem.out [(.i x29), (.i x30), (.i x36), (.i x37)]) 1)) → (0 : Int) ≤ x39 → x39 ≤ (18446744073709551615 : Int) →
(x28 = true → ∀ x41 : Int, x41 = (x27 + (1 : Int)) →
Fits [.i (some ((0), (40))), .b, .i (some ((0), (0))), .i (some ((0), (100000000000000000)))] [(.i x41), (.b (Cmp.den .eq x23 x31)), (.i x38), (.i x39)] ∧ I2 [(.i x41), (.b (Cmp.den .eq x23 x31)), (.i x38), (.i x39)] ∧ mu2 [(.i x41), (.b (Cmp.den .eq x23 x31)), (.i x38), (.i x39)] < mu2 [.i x27, .b x28, .i x29, .i x30]) ∧ (x28 = false → ∀ x41 : Int, x41 = (x27 + (1 : Int)) →
Fits [.i (some ((0), (40))), .b, .i (some ((0), (0))), .i (some ((0), (100000000000000000)))] [(.i x41), (.b false), (.i x38), (.i x39)] ∧ I2 [(.i x41), (.b false), (.i x38), (.i x39)] ∧ mu2 [(.i x41), (.b false), (.i x38), (.i x39)] < mu2 [.i x27, .b x28, .i x29, .i x30])))) ∧ ((Cmp.den .lt x27 x26) = false → ∀ x31 : Int, x31 = (x19 + (1 : Int)) →
Fits [.i (some ((0), (40))), .b, .i (some ((0), (0))), .i (some ((0), (100000000000000000)))] [(.i x31), (.b x28), (.i x29), (.i x30)] ∧ I1 [(.i x31), (.b x28), (.i x29), (.i x30)] ∧ mu1 [(.i x31), (.b x28), (.i x29), (.i x30)] < mu1 [.i x19, .b x20, .i x21, .i x22]))) ∧ ((Cmp.den .le x18 x18) = false → False)) ∧ ((Cmp.den .le x24 x18) = false → False)) ∧ ((Cmp.den .lt x19 x18) = false → ((Cmp.den .eq x16 (0 : Int)) = true → (((Cmp.den .eq x14 x21) && (Cmp.den .eq x15 x22)) = true → R (Value.bool (x20 == ((Cmp.den .eq x14 (0 : Int)) && (Cmp.den .eq x15 (0 : Int)))))) ∧ (((Cmp.den .eq x14 x21) && (Cmp.den .eq x15 x22)) = false → R (Value.bool false))) ∧ ((Cmp.den .eq x16 (0 : Int)) = false → R (Value.bool false))))))))))))) ∧ ((Cmp.den .le x2 x1) = false → False)) := by kernel_rfl

def lsspr_sem : SpecSem := { pre := fun cs => match cs with | [.l xs] => InI xs | _ => False, out := fun cs => match cs with | [.l xs] => [.b true] | _ => [] }
set_option maxRecDepth 10000 in
set_option maxHeartbeats 16000000 in
theorem lsspr_ok : SpecOK Try.prog 4 lsspr_sp lsspr_sem := by
  refine spec_of_tree lsspr_cxok Try.func4 (by kernel_rfl) (by kernel_rfl) lsspr_walk rfl ?_
  intro cs hpre
  match cs, hpre with
  | [.l xs], j_xs =>
    have j_xs : InI xs := j_xs
    refine ⟨rfl, IvsB.ok (by simp only [lsspr_ivs, IvsB, Cv.int, and_true, j_xs, true_and] <;> omega), ?_, ?_⟩
    · simp only [lsspr_sem, lsspr_sp, Fits]
    · rw [lsspr_den]
      simp only [lsspr_sem, lsspr_sp, lsspr_den, sof_sem, sspread_sem, mul_sem, wadd_sem, s11al_sem, Tree.den, LE.den, Cv.list, placeA, List.getElem?_cons_zero, List.getElem?_cons_succ, IE.den, BE.den, At.den, CA.den, Env.get, Cv.int, Cv.bool, List.cons_append, List.nil_append, List.map_cons, List.map_nil, bindRes, bindEq, Fits, SV.den, denL, place, placeL, eq_t, eq_f, lt_t, lt_f, le_t, le_f, beq_iff_eq, beq_eq_false_iff_ne, ne_eq, reduceCtorEq, b_dec, decide_eq_true_eq, decide_eq_false_iff_not, Bool.not_eq_false', Bool.or_eq_true, Bool.or_eq_false_iff, Bool.and_eq_false_iff, true_iff, false_iff, Bool.false_eq_true, Bool.not_eq_true', Bool.and_eq_true, Bool.not_true, Bool.not_false, List.cons.injEq, Cv.i.injEq, Cv.b.injEq, and_true, true_and, agg_inj, tup_inj, Value.int.injEq, Value.bool.injEq]
      intro x1 e1 x2 e2
      refine ⟨fun hle => ?_, fun h => by split at e2 <;> omega⟩
      intro x3 e3 x4 e4
      have h4 : x4 ≤ 40 := by
        have k1 := List.length_take_le (x2.toNat - Int.toNat 0) (List.drop (Int.toNat 0) xs)
        rw [← e3] at k1
        have k2 : x2 ≤ 40 := by split at e2 <;> omega
        have k3 : x2.toNat - Int.toNat 0 ≤ 40 := by omega
        omega
      clear e3 e2 e1 hle
      refine ⟨fun vs => match vs with | [.i i, .l ys] => (ys.length : Int) = i ∧ inS ys | _ => False, fun vs => match vs with | [.i i, .l ys] => (x4 - i).toNat | _ => 0, ⟨by omega, by omega, fun _ h => nomatch h⟩, ⟨rfl, fun _ h => nomatch h⟩, ?_⟩
      intro x5 l5 g5 x6 hI6 hI
      obtain ⟨hlen, hmem⟩ : (x6.length : Int) = x5 ∧ inS x6 := hI
      refine ⟨fun hlt => ?_, fun hge => ?_⟩
      · intro x7 e7 x8 e8 x9 e9 x10 e10
        refine ⟨fun k => ?_, fun k => by omega⟩
        intro x11 e11 x12 e12
        have r9 : -1000000 ≤ x9 ∧ x9 ≤ 1000000 := by split at e8 <;> split at e9 <;> omega
        have m11 : inS x11 := by rw [e11]; exact inS_snoc hmem r9
        have n11 : (x11.length : Int) = x12 := by rw [e11, List.length_append, List.length_singleton]; omega
        exact ⟨⟨by omega, by omega, fun y hy => by have := m11 y hy; exact ⟨by omega, by omega⟩⟩, ⟨n11, m11⟩, by show (x4 - x12).toNat < (x4 - x5).toNat; omega⟩
      · have hL : (x6.length : Int) ≤ 40 := by omega
        have hx : (x6.length : Int) ≤ 100000 := by omega
        clear hge g5 l5 hlen h4 e4 x5 x4
        have st0 := of_stOK hmem hx
        have rg := sts_rng hmem hx
        have rp := pair_rng hmem hL
        have eP : (x6.length : Int) * sqL x6 - sumL x6 * sumL x6 = pairL x6 := (pairL_eq x6).symm
        have d1 : pairL x6 / 18446744073709551616 = 0 := by omega
        have d2 : pairL x6 % 18446744073709551616 = pairL x6 := by omega
        have k1 : IsI (x6.length : Int) := ⟨by omega, by omega⟩
        have k2 : IsI (sumL x6) := ⟨by omega, by omega⟩
        have k3 : IsU (sqL x6) := ⟨by omega, by omega⟩
        have k4 : IsI (minS x6) := ⟨by omega, by omega⟩
        have k5 : IsI (maxS x6) := ⟨by omega, by omega⟩
        have i0 : IsU 0 := ⟨by omega, by omega⟩
        have f6 : ((6 : Int) = 0) = False := by simp
        by_cases hn : (x6.length : Int) = 0
        · have hp : pairL x6 = 0 := by
            rw [← eP, hn, Int.zero_mul]
            have : x6 = [] := List.eq_nil_of_length_eq_zero (by omega)
            rw [this]; rfl
          simp only [hmem, st0, hx, hI6, k1, k2, k3, k4, k5, i0, val0, eP, d1, d2, hn, hp, f6, forall_eq, eq_self, f00, if_true, if_false, true_and, and_true, false_and, and_false, true_or, or_true, false_or, or_false, true_iff, iff_true, false_iff, iff_false, not_true_eq_false, not_false_eq_true, true_implies, false_implies, implies_true, forall_const, decide_true, decide_false, reduceCtorEq]
          simp only [hn] at k1 st0
          simp only [st0, k1, if_true, if_false, true_and, and_true, false_and, and_false, true_or, or_true, false_or, or_false, true_iff, iff_true, false_iff, iff_false, not_true_eq_false, not_false_eq_true, true_implies, false_implies, implies_true, forall_const, decide_true, decide_false, reduceCtorEq]
          intros
          have y := eP
          rw [hn, hp] at y
          exact ⟨by omega, by intros; rw [y]; exact ⟨rfl, rfl⟩⟩
        · simp only [hmem, st0, hx, hI6, k1, k2, k3, k4, k5, i0, val0, eP, d1, d2, hn, f6, forall_eq, eq_self, f00, if_true, if_false, true_and, and_true, false_and, and_false, true_or, or_true, false_or, or_false, true_iff, iff_true, false_iff, iff_false, not_true_eq_false, not_false_eq_true, true_implies, false_implies, implies_true, forall_const, decide_true, decide_false, reduceCtorEq]
          intros
          refine ⟨fun vs => match vs with | [.i i, .b t, .i h, .i l] => l = pairL x6 - pairL (x6.drop i.toNat) ∧ (t = true ↔ l = 0) ∧ i ≤ (x6.length : Int) | _ => False, fun vs => match vs with | .i i :: _ => ((x6.length : Int) - i).toNat | _ => 0, by omega, ⟨by show (0 : Int) = pairL x6 - pairL x6; omega, by simp, by omega⟩, ?_⟩
          intro x19 l19 g19 x20 x21 l21 g21 x22 l22 g22 hI
          obtain ⟨i1, i2, i3⟩ : x22 = pairL x6 - pairL (x6.drop x19.toNat) ∧ (x20 = true ↔ x22 = 0) ∧ x19 ≤ (x6.length : Int) := hI
          have z21 : x21 = 0 := by omega
          subst z21
          refine ⟨fun hlt => ?_, fun hge => ?_⟩
          · refine ⟨fun h24 => ⟨fun _ => ?_, fun h => by omega⟩, fun h => by omega⟩
            generalize e23 : x6.getD x19.toNat 0 = x23
            have m23 : x23 ∈ x6 := by rw [← e23]; exact getD_mem l19 hlt
            have r23 := hmem x23 m23
            have hdr := pairL_drop l19 hlt
            rw [e23] at hdr
            generalize e25 : List.take (Int.toNat (x6.length : Int) - (x19 + 1).toNat) (List.drop (x19 + 1).toNat x6) = x25
            have q25 : x25 = x6.drop (x19 + 1).toNat := by
              rw [← e25]; exact List.take_of_length_le (by rw [List.length_drop]; omega)
            have n25 : (x25.length : Int) = (x6.length : Int) - (x19 + 1) := by rw [q25, List.length_drop]; omega
            rw [← q25] at hdr
            have nn := pairL_nonneg x25
            have m25 : inS x25 := fun y hy => hmem y (by rw [q25] at hy; exact List.mem_of_mem_drop hy)
            refine ⟨fun vs => match vs with | [.i j, .b t, .i h, .i l] => l = x22 + difL x23 (x25.take j.toNat) ∧ (t = true ↔ l = 0) ∧ j ≤ (x25.length : Int) | _ => False, fun vs => match vs with | .i j :: _ => ((x25.length : Int) - j).toNat | _ => 0, by omega, ⟨by show x22 = x22 + 0; omega, i2, by omega⟩, ?_⟩
            intro x27 l27 g27 x28 x29 l29 g29 x30 l30 g30 hJ
            obtain ⟨j1, j2, j3⟩ : x30 = x22 + difL x23 (x25.take x27.toNat) ∧ (x28 = true ↔ x30 = 0) ∧ x27 ≤ (x25.length : Int) := hJ
            have z29 : x29 = 0 := by omega
            subst z29
            refine ⟨fun klt => ?_, fun kge => ?_⟩
            · generalize e31 : x25.getD x27.toNat 0 = x31
              have m31 : x31 ∈ x25 := by rw [← e31]; exact getD_mem l27 klt
              have r31 := m25 x31 m31
              have ht := take_snoc l27 klt
              rw [e31] at ht
              have hd := difL_snoc x23 x31 (x25.take x27.toNat)
              rw [← ht] at hd
              have hle := difL_take x23 x25 (x27 + 1).toNat
              have w1 : IntKind.i64.wrap (x23 - x31) = x23 - x31 := w64 (by omega) (by omega)
              have w2 : IntKind.i64.wrap (x31 - x23) = x31 - x23 := w64 (by omega) (by omega)
              have ea : (if x23 - x31 < x31 - x23 then x31 - x23 else x23 - x31) = absZ (x23 - x31) := by unfold absZ; split <;> split <;> omega
              have a1 : 0 ≤ absZ (x23 - x31) ∧ absZ (x23 - x31) ≤ 2000000 := by unfold absZ; split <;> omega
              have w3 : IntKind.u64.wrap (absZ (x23 - x31)) = absZ (x23 - x31) := wu64 (by omega) (by omega)
              have u1 : IsU (absZ (x23 - x31)) := ⟨by omega, by omega⟩
              have s0 := sq_nonneg (x23 - x31)
              have sz : (x23 - x31) * (x23 - x31) = 0 ↔ x23 = x31 := by rw [sq_zero]; omega
              have hAA := abs_sq (x23 - x31)
              generalize (x23 - x31) * (x23 - x31) = D at *
              have hD : x30 + D ≤ 1600000000000000 := by omega
              have c1 : D / 18446744073709551616 = 0 := by omega
              have c2 : D % 18446744073709551616 = D := by omega
              have c3 : (x30 + D) / 18446744073709551616 % 18446744073709551616 = 0 := by omega
              have c4 : (x30 + D) % 18446744073709551616 = x30 + D := by omega
              have u2 : IsU D := ⟨by omega, by omega⟩
              have u3 : IsU x30 := ⟨by omega, by omega⟩
              simp only [w1, w2, ea, w3, u1, u2, u3, i0, hAA, val0, c1, c2, c3, c4, forall_eq, eq_self, if_true, if_false, true_and, and_true, false_and, and_false, true_or, or_true, false_or, or_false, true_iff, iff_true, false_iff, iff_false, not_true_eq_false, not_false_eq_true, true_implies, false_implies, implies_true, forall_const, decide_true, decide_false, reduceCtorEq]
              intros
              refine ⟨fun t => ⟨by omega, ⟨by omega, ?_, by omega⟩, by omega⟩, fun t => ⟨by omega, ⟨by omega, ?_, by omega⟩, by omega⟩⟩
              · have t0 := j2.1 t
                simp only [Cmp.den, decide_eq_true_eq]
                omega
              · have t0 : x30 ≠ 0 := fun k => by rw [j2.2 k] at t; cases t
                exact fun k => absurd (show x30 = 0 by omega) t0
            · have tk : x25.take x27.toNat = x25 := List.take_of_length_le (by omega)
              rw [tk] at j1
              exact ⟨by omega, ⟨by rw [← q25]; omega, j2, by omega⟩, by show (((x6.length : Int) - (x19 + 1)).toNat < ((x6.length : Int) - x19).toNat); omega⟩
          · have dn : x6.drop x19.toNat = [] := List.drop_eq_nil_of_le (by omega)
            rw [dn] at i1
            have i1' : x22 = pairL x6 := by rw [i1]; simp [pairL]
            subst i1'
            refine ⟨fun _ => ?_, fun h => ?_⟩
            · cases x20 with
              | true => simp only [Cmp.den, i2.1 rfl, decide_true, Bool.and_self]
              | false =>
                have : pairL x6 ≠ 0 := fun k => by have := i2.2 k; cases this
                simp only [Cmp.den, this, decide_true, decide_false, Bool.and_false]
            · rcases h with h | h <;> exact h rfl
end Go.Proofs.Ytgnihomdpandfaa.X
