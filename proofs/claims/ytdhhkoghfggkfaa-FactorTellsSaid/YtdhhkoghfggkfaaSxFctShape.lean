/-
  FactorShapes.
-/
import Derived.Test.YtdhhkoghfggkfaaSxFct
namespace Go.Proofs.Ytdhhkoghfggkfaa.X
open Go Go.SX
set_option linter.unusedVariables false
set_option linter.unusedSimpArgs false




theorem av0_2 : allV 0 2 = 18800 := by decide
theorem av0_3 : allV 0 3 = 10230 := by decide
theorem av0_4 : allV 0 4 = 7290 := by decide
theorem av0_5 : allV 0 5 = 5770 := by decide
theorem av0_6 : allV 0 6 = 4830 := by decide
theorem av0_7 : allV 0 7 = 4190 := by decide
theorem av0_8 : allV 0 8 = 3730 := by decide
theorem av0_9 : allV 0 9 = 3370 := by decide
theorem av0_10 : allV 0 10 = 3080 := by decide
theorem av1_2 : allV 1 2 = 0 := by decide
theorem av1_3 : allV 1 3 = 0 := by decide
theorem av1_4 : allV 1 4 = 0 := by decide
theorem av1_5 : allV 1 5 = 0 := by decide
theorem av1_6 : allV 1 6 = 0 := by decide
theorem av1_7 : allV 1 7 = 760 := by decide
theorem av1_8 : allV 1 8 = 1360 := by decide
theorem av1_9 : allV 1 9 = 1840 := by decide
theorem av1_10 : allV 1 10 = 2230 := by decide
theorem av2_2 : allV 2 2 = 32670 := by decide
theorem av2_3 : allV 2 3 = 25740 := by decide
theorem av2_4 : allV 2 4 = 22820 := by decide
theorem av2_5 : allV 2 5 = 21140 := by decide
theorem av2_6 : allV 2 6 = 20040 := by decide
theorem av2_7 : allV 2 7 = 19240 := by decide
theorem av2_8 : allV 2 8 = 18640 := by decide
theorem av2_9 : allV 2 9 = 18160 := by decide
theorem av2_10 : allV 2 10 = 17770 := by decide
theorem av3_2 : allV 3 2 = 11280 := by decide
theorem av3_3 : allV 3 3 = 16930 := by decide
theorem av3_4 : allV 3 4 = 20590 := by decide
theorem av3_5 : allV 3 5 = 23260 := by decide
theorem av3_6 : allV 3 6 = 25340 := by decide
theorem av3_7 : allV 3 7 = 27040 := by decide
theorem av3_8 : allV 3 8 = 28470 := by decide
theorem av3_9 : allV 3 9 = 29700 := by decide
theorem av3_10 : allV 3 10 = 30780 := by decide
theorem av4_2 : allV 4 2 = 26590 := by decide
theorem av4_3 : allV 4 3 = 19540 := by decide
theorem av4_4 : allV 4 4 = 16280 := by decide
theorem av4_5 : allV 4 5 = 14270 := by decide
theorem av4_6 : allV 4 6 = 12870 := by decide
theorem av4_7 : allV 4 7 = 11820 := by decide
theorem av4_8 : allV 4 8 = 10990 := by decide
theorem av4_9 : allV 4 9 = 10320 := by decide
theorem av4_10 : allV 4 10 = 9750 := by decide
theorem av5_2 : allV 5 2 = 0 := by decide
theorem av5_3 : allV 5 3 = 0 := by decide
theorem av5_4 : allV 5 4 = 0 := by decide
theorem av5_5 : allV 5 5 = 0 := by decide
theorem av5_6 : allV 5 6 = 300 := by decide
theorem av5_7 : allV 5 7 = 1180 := by decide
theorem av5_8 : allV 5 8 = 1850 := by decide
theorem av5_9 : allV 5 9 = 2390 := by decide
theorem av5_10 : allV 5 10 = 2840 := by decide
theorem av6_2 : allV 6 2 = 32670 := by decide
theorem av6_3 : allV 6 3 = 25680 := by decide
theorem av6_4 : allV 6 4 = 22660 := by decide
theorem av6_5 : allV 6 5 = 20890 := by decide
theorem av6_6 : allV 6 6 = 19700 := by decide
theorem av6_7 : allV 6 7 = 18820 := by decide
theorem av6_8 : allV 6 8 = 18150 := by decide
theorem av6_9 : allV 6 9 = 17610 := by decide
theorem av6_10 : allV 6 10 = 17160 := by decide
theorem ae_2 : allE 2 = 0 := by decide
theorem ae_3 : allE 3 = 0 := by decide
theorem ae_4 : allE 4 = 0 := by decide
theorem ae_5 : allE 5 = 0 := by decide
theorem ae_6 : allE 6 = 0 := by decide
theorem ae_7 : allE 7 = 0 := by decide
theorem ae_8 : allE 8 = 0 := by decide
theorem ae_9 : allE 9 = 0 := by decide
theorem ae_10 : allE 10 = 0 := by decide
theorem fv05 : facV 0 5 = 5770 := by decide
theorem fe05 : facE 0 5 = 0 := by decide
theorem isI_lit {x : Int} (h : -100 ≤ x) (g : x ≤ 100) : IsI x := ⟨by omega, by omega⟩
def fal9_sp : SpecSh := { args := [], res := (.bool .f), sh := [.b] }
set_option maxRecDepth 100000 in
def fal9_tree : Tree :=
.call 9 [.i (some (0, 32670)), .i (some (0, 3))] [.i (.z 0), .i (.z 5)] <|
.ite (.cmp .eq (.v 1) (.z 0)) (.ret (.bool (.cmp .eq (.v 0) (.z 5770)))) <|
.ret (.bool .f)
noncomputable def fal9_cx : Ctx := { tys := tys, fns := fns, sps := [(9, ffac_sp)], anns := [], trys := [] }
def fal9_ivs : List (Option (Int × Int)) := []
set_option maxRecDepth 100000 in
theorem fal9_walk : runFn fal9_cx 3000 7 Try.f7 fal9_sp.args fal9_ivs = fal9_tree := by kernel_rfl
noncomputable def fal9_M : Nat → SpecSem
  | 9 => ffac_sem
  | _ => noSem
theorem fal9_M9 : fal9_M 9 = ffac_sem := rfl
theorem fal9_cxok : CxOK Try.prog fal9_cx fal9_M := ⟨tysOK, fnsOK, spCons ffac_ok <| fun _ _ h => spNil h, mixedOK, fun _ _ h => trNil h, fun _ _ h => atNil h⟩
set_option maxRecDepth 100000 in
set_option maxHeartbeats 8000000 in
theorem fal9_den (R RP : Value → Prop) (F : Ex → St → Js → Env → Prop) (J : Js)  : Tree.den fal9_M R RP F fal9_tree J [] = (
  (ffac_sem.pre [(.i (0 : Int)), (.i (5 : Int))]) ∧ (
∀ x0 : Int, x0 = (Cv.int (Env.get (ffac_sem.out [(.i (0 : Int)), (.i (5 : Int))]) 0)) → (0 : Int) ≤ x0 → x0 ≤ (32670 : Int) →
∀ x1 : Int, x1 = (Cv.int (Env.get (ffac_sem.out [(.i (0 : Int)), (.i (5 : Int))]) 1)) → (0 : Int) ≤ x1 → x1 ≤ (3 : Int) →
((Cmp.den .eq x1 (0 : Int)) = true → R (Value.bool (Cmp.den .eq x0 (5770 : Int)))) ∧ ((Cmp.den .eq x1 (0 : Int)) = false → R (Value.bool false)))) := by kernel_rfl

def fal9_sem : SpecSem := { pre := fun cs => match cs with | [] => True | _ => False, out := fun cs => match cs with | [] => [.b true] | _ => [] }
set_option maxRecDepth 10000 in
set_option maxHeartbeats 16000000 in
theorem fal9_ok : SpecOK Try.prog 7 fal9_sp fal9_sem := by
  refine spec_of_tree fal9_cxok Try.func7 (by kernel_rfl) (by kernel_rfl) fal9_walk rfl ?_
  intro cs hpre
  match cs, hpre with
  | [], _ =>
    refine ⟨rfl, IvsB.ok (by simp only [fal9_ivs, IvsB, Cv.int, and_true] <;> omega), ?_, ?_⟩
    · simp only [fal9_sem, fal9_sp, Fits]
    · rw [fal9_den]
      have b0 : IsI 0 := isI_lit (by omega) (by omega)
      have b5 : IsI 5 := isI_lit (by omega) (by omega)
      simp only [fal9_sem, fal9_sp, ffac_sem, fal9_den, ffac_sem, Tree.den, LE.den, Cv.list, placeA, List.getElem?_cons_zero, List.getElem?_cons_succ, IE.den, BE.den, At.den, CA.den, Env.get, Cv.int, Cv.bool, List.cons_append, List.nil_append, List.map_cons, List.map_nil, bindRes, bindEq, Fits, SV.den, denL, place, placeL, eq_t, eq_f, lt_t, lt_f, le_t, le_f, beq_iff_eq, beq_eq_false_iff_ne, ne_eq, reduceCtorEq, b_dec, decide_eq_true_eq, decide_eq_false_iff_not, Bool.not_eq_false', Bool.or_eq_true, Bool.or_eq_false_iff, Bool.and_eq_false_iff, true_iff, false_iff, Bool.false_eq_true, Bool.not_eq_true', Bool.and_eq_true, Bool.not_true, Bool.not_false, List.cons.injEq, Cv.i.injEq, Cv.b.injEq, and_true, true_and, agg_inj, tup_inj, Value.int.injEq, Value.bool.injEq, fv05, fe05, b0, b5, forall_eq, eq_self, if_true, if_false, true_and, and_true, false_and, and_false, true_or, or_true, false_or, or_false, true_iff, iff_true, false_iff, iff_false, not_true_eq_false, not_false_eq_true, true_implies, false_implies, implies_true, forall_const, decide_true, decide_false, reduceCtorEq]
def lshp_sp : SpecSh := { args := [(.int .i64 (.z 0))], res := (.bool .f), sh := [.b] }
set_option maxRecDepth 100000 in
def lshp_tree : Tree :=
.lett (.rem (.v 0) (.z 9)) <|
.lett (.add (.v 1) (.z 9)) <|
.lett (.mod (.v 2) (.z 9)) <|
.lett (.add (.z 2) (.v 3)) <|
.call 6 [.i (some (0, 18800)), .i (some (0, 2230)), .i (some (0, 32670)), .i (some (0, 30780)), .i (some (0, 26590)), .i (some (0, 2840)), .i (some (0, 32670)), .i (some (0, 3))] [.i (.v 4)] <|
.ite (.not (.cmp .eq (.v 12) (.z 0))) (.ret (.bool .f)) <|
.call 7 [.b] [] <|
.ite (.not (.v 13)) (.ret (.bool .f)) <|
.lett (.mul (.v 5) (.v 8)) <|
.lett (.mul (.v 14) (.v 5)) <|
.lett (.mul (.v 15) (.v 8)) <|
.lett (.mul (.v 16) (.v 4)) <|
.lett (.sub (.v 17) (.z 90000000000000000)) <|
.lett (.sub (.z 90000000000000000) (.v 17)) <|
.lett (.ite (.cmp .lt (.v 18) (.v 19)) (.v 19) (.v 18)) <|
.ite (.cmp .lt (.z 300000000000000) (.v 20)) (.ret (.bool .f)) <|
.ite (.cmp .lt (.z 0) (.v 6)) (.lett (.add (.v 6) (.v 7)) <|
.ite (.not (.cmp .eq (.v 21) (.z 20000))) (.ret (.bool .f)) <|
.ite (.cmp .lt (.z 0) (.v 10)) (.lett (.add (.v 10) (.v 11)) <|
.ite (.not (.cmp .eq (.v 22) (.z 20000))) (.ret (.bool .f)) <|
.ite (.cmp .le (.v 7) (.z 10000)) (.ret (.bool .f)) <|
.ite (.cmp .le (.v 11) (.z 10000)) (.ret (.bool .f)) <|
.ite (.cmp .eq (.v 4) (.z 10)) (.ret (.bool .t)) <|
.lett (.add (.v 4) (.z 1)) <|
.call 6 [.i (some (0, 18800)), .i (some (0, 2230)), .i (some (0, 32670)), .i (some (0, 30780)), .i (some (0, 26590)), .i (some (0, 2840)), .i (some (0, 32670)), .i (some (0, 3))] [.i (.v 23)] <|
.ite (.cmp .le (.v 5) (.v 24)) (.ret (.bool .f)) <|
.ite (.cmp .le (.v 7) (.v 26)) (.ret (.bool .f)) <|
.ite (.cmp .le (.v 9) (.v 28)) (.ret (.bool .f)) <|
.ite (.cmp .le (.v 11) (.v 30)) (.ret (.bool .f)) <|
.ite (.cmp .eq (.v 31) (.z 0)) (.ite (.cmp .lt (.v 8) (.v 27)) (.ite (.cmp .le (.v 6) (.v 25)) (.ret (.bool (.cmp .le (.v 10) (.v 29)))) <|
.ret (.bool .f)) <|
.ret (.bool .f)) <|
.ret (.bool .f)) <|
.ite (.cmp .le (.v 7) (.z 10000)) (.ret (.bool .f)) <|
.ite (.cmp .le (.v 11) (.z 10000)) (.ret (.bool .f)) <|
.ite (.cmp .eq (.v 4) (.z 10)) (.ret (.bool .t)) <|
.lett (.add (.v 4) (.z 1)) <|
.call 6 [.i (some (0, 18800)), .i (some (0, 2230)), .i (some (0, 32670)), .i (some (0, 30780)), .i (some (0, 26590)), .i (some (0, 2840)), .i (some (0, 32670)), .i (some (0, 3))] [.i (.v 22)] <|
.ite (.cmp .le (.v 5) (.v 23)) (.ret (.bool .f)) <|
.ite (.cmp .le (.v 7) (.v 25)) (.ret (.bool .f)) <|
.ite (.cmp .le (.v 9) (.v 27)) (.ret (.bool .f)) <|
.ite (.cmp .le (.v 11) (.v 29)) (.ret (.bool .f)) <|
.ite (.cmp .eq (.v 30) (.z 0)) (.ite (.cmp .lt (.v 8) (.v 26)) (.ite (.cmp .le (.v 6) (.v 24)) (.ret (.bool (.cmp .le (.v 10) (.v 28)))) <|
.ret (.bool .f)) <|
.ret (.bool .f)) <|
.ret (.bool .f)) <|
.ite (.cmp .lt (.z 0) (.v 10)) (.lett (.add (.v 10) (.v 11)) <|
.ite (.not (.cmp .eq (.v 21) (.z 20000))) (.ret (.bool .f)) <|
.ite (.cmp .le (.v 7) (.z 10000)) (.ret (.bool .f)) <|
.ite (.cmp .le (.v 11) (.z 10000)) (.ret (.bool .f)) <|
.ite (.cmp .eq (.v 4) (.z 10)) (.ret (.bool .t)) <|
.lett (.add (.v 4) (.z 1)) <|
.call 6 [.i (some (0, 18800)), .i (some (0, 2230)), .i (some (0, 32670)), .i (some (0, 30780)), .i (some (0, 26590)), .i (some (0, 2840)), .i (some (0, 32670)), .i (some (0, 3))] [.i (.v 22)] <|
.ite (.cmp .le (.v 5) (.v 23)) (.ret (.bool .f)) <|
.ite (.cmp .le (.v 7) (.v 25)) (.ret (.bool .f)) <|
.ite (.cmp .le (.v 9) (.v 27)) (.ret (.bool .f)) <|
.ite (.cmp .le (.v 11) (.v 29)) (.ret (.bool .f)) <|
.ite (.cmp .eq (.v 30) (.z 0)) (.ite (.cmp .lt (.v 8) (.v 26)) (.ret (.bool (.cmp .le (.v 10) (.v 28)))) <|
.ret (.bool .f)) <|
.ret (.bool .f)) <|
.ite (.cmp .le (.v 7) (.z 10000)) (.ret (.bool .f)) <|
.ite (.cmp .le (.v 11) (.z 10000)) (.ret (.bool .f)) <|
.ite (.cmp .eq (.v 4) (.z 10)) (.ret (.bool .t)) <|
.lett (.add (.v 4) (.z 1)) <|
.call 6 [.i (some (0, 18800)), .i (some (0, 2230)), .i (some (0, 32670)), .i (some (0, 30780)), .i (some (0, 26590)), .i (some (0, 2840)), .i (some (0, 32670)), .i (some (0, 3))] [.i (.v 21)] <|
.ite (.cmp .le (.v 5) (.v 22)) (.ret (.bool .f)) <|
.ite (.cmp .le (.v 7) (.v 24)) (.ret (.bool .f)) <|
.ite (.cmp .le (.v 9) (.v 26)) (.ret (.bool .f)) <|
.ite (.cmp .le (.v 11) (.v 28)) (.ret (.bool .f)) <|
.ite (.cmp .eq (.v 29) (.z 0)) (.ite (.cmp .lt (.v 8) (.v 25)) (.ret (.bool (.cmp .le (.v 10) (.v 27)))) <|
.ret (.bool .f)) <|
.ret (.bool .f)
noncomputable def lshp_cx : Ctx := { tys := tys, fns := fns, sps := [(6, fall_sp), (7, fal9_sp)], anns := [], trys := [] }
def lshp_ivs : List (Option (Int × Int)) := [some ((-9223372036854775808), 9223372036854775807)]
set_option maxRecDepth 100000 in
theorem lshp_walk : runFn lshp_cx 3000 3 Try.f3 lshp_sp.args lshp_ivs = lshp_tree := by kernel_rfl
noncomputable def lshp_M : Nat → SpecSem
  | 6 => fall_sem
  | 7 => fal9_sem
  | _ => noSem
theorem lshp_M6 : lshp_M 6 = fall_sem := rfl
theorem lshp_M7 : lshp_M 7 = fal9_sem := rfl
theorem lshp_cxok : CxOK Try.prog lshp_cx lshp_M := ⟨tysOK, fnsOK, spCons fall_ok <| spCons fal9_ok <| fun _ _ h => spNil h, mixedOK, fun _ _ h => trNil h, fun _ _ h => atNil h⟩
set_option maxRecDepth 100000 in
set_option maxHeartbeats 8000000 in
theorem lshp_den (R RP : Value → Prop) (F : Ex → St → Js → Env → Prop) (J : Js) (x0 : Int) : Tree.den lshp_M R RP F lshp_tree J [(.i x0)] = (
  ∀ x1 : Int, x1 = (Int.tmod x0 (9 : Int)) →
∀ x2 : Int, x2 = (x1 + (9 : Int)) →
∀ x3 : Int, x3 = (x2 % (9 : Int)) →
∀ x4 : Int, x4 = ((2 : Int) + x3) →
(fall_sem.pre [(.i x4)]) ∧ (
∀ x5 : Int, x5 = (Cv.int (Env.get (fall_sem.out [(.i x4)]) 0)) → (0 : Int) ≤ x5 → x5 ≤ (18800 : Int) →
∀ x6 : Int, x6 = (Cv.int (Env.get (fall_sem.out [(.i x4)]) 1)) → (0 : Int) ≤ x6 → x6 ≤ (2230 : Int) →
∀ x7 : Int, x7 = (Cv.int (Env.get (fall_sem.out [(.i x4)]) 2)) → (0 : Int) ≤ x7 → x7 ≤ (32670 : Int) →
∀ x8 : Int, x8 = (Cv.int (Env.get (fall_sem.out [(.i x4)]) 3)) → (0 : Int) ≤ x8 → x8 ≤ (30780 : Int) →
∀ x9 : Int, x9 = (Cv.int (Env.get (fall_sem.out [(.i x4)]) 4)) → (0 : Int) ≤ x9 → x9 ≤ (26590 : Int) →
∀ x10 : Int, x10 = (Cv.int (Env.get (fall_sem.out [(.i x4)]) 5)) → (0 : Int) ≤ x10 → x10 ≤ (2840 : Int) →
∀ x11 : Int, x11 = (Cv.int (Env.get (fall_sem.out [(.i x4)]) 6)) → (0 : Int) ≤ x11 → x11 ≤ (32670 : Int) →
∀ x12 : Int, x12 = (Cv.int (Env.get (fall_sem.out [(.i x4)]) 7)) → (0 : Int) ≤ x12 → x12 ≤ (3 : Int) →
((!(Cmp.den .eq x12 (0 : Int))) = true → R (Value.bool false)) ∧ ((!(Cmp.den .eq x12 (0 : Int))) = false → (fal9_sem.pre []) ∧ (
((!(Cv.bool (Env.get (fal9_sem.out []) 0))) = true → R (Value.bool false)) ∧ ((!(Cv.bool (Env.get (fal9_sem.out []) 0))) = false → ∀ x14 : Int, x14 = (x5 * x8) →
∀ x15 : Int, x15 = (x14 * x5) →
∀ x16 : Int, x16 = (x15 * x8) →
∀ x17 : Int, x17 = (x16 * x4) →
∀ x18 : Int, x18 = (x17 - (90000000000000000 : Int)) →
∀ x19 : Int, x19 = ((90000000000000000 : Int) - x17) →
∀ x20 : Int, x20 = (if (Cmp.den .lt x18 x19) = true then x19 else x18) →
((Cmp.den .lt (300000000000000 : Int) x20) = true → R (Value.bool false)) ∧ ((Cmp.den .lt (300000000000000 : Int) x20) = false → ((Cmp.den .lt (0 : Int) x6) = true → ∀ x21 : Int, x21 = (x6 + x7) →
((!(Cmp.den .eq x21 (20000 : Int))) = true → R (Value.bool false)) ∧ ((!(Cmp.den .eq x21 (20000 : Int))) = false → ((Cmp.den .lt (0 : Int) x10) = true → ∀ x22 : Int, x22 = (x10 + x11) →
((!(Cmp.den .eq x22 (20000 : Int))) = true → R (Value.bool false)) ∧ ((!(Cmp.den .eq x22 (20000 : Int))) = false → ((Cmp.den .le x7 (10000 : Int)) = true → R (Value.bool false)) ∧ ((Cmp.den .le x7 (10000 : Int)) = false → ((Cmp.den .le x11 (10000 : Int)) = true → R (Value.bool false)) ∧ ((Cmp.den .le x11 (10000 : Int)) = false → ((Cmp.den .eq x4 (10 : Int)) = true → R (Value.bool true)) ∧ ((Cmp.den .eq x4 (10 : Int)) = false → ∀ x23 : Int, x23 = (x4 + (1 : Int)) →
(fall_sem.pre [(.i x23)]) ∧ (
∀ x24 : Int, x24 = (Cv.int (Env.get (fall_sem.out [(.i x23)]) 0)) → (0 : Int) ≤ x24 → x24 ≤ (18800 : Int) →
∀ x25 : Int, x25 = (Cv.int (Env.get (fall_sem.out [(.i x23)]) 1)) → (0 : Int) ≤ x25 → x25 ≤ (2230 : Int) →
∀ x26 : Int, x26 = (Cv.int (Env.get (fall_sem.out [(.i x23)]) 2)) → (0 : Int) ≤ x26 → x26 ≤ (32670 : Int) →
∀ x27 : Int, x27 = (Cv.int (Env.get (fall_sem.out [(.i x23)]) 3)) → (0 : Int) ≤ x27 → x27 ≤ (30780 : Int) →
∀ x28 : Int, x28 = (Cv.int (Env.get (fall_sem.out [(.i x23)]) 4)) → (0 : Int) ≤ x28 → x28 ≤ (26590 : Int) →
∀ x29 : Int, x29 = (Cv.int (Env.get (fall_sem.out [(.i x23)]) 5)) → (0 : Int) ≤ x29 → x29 ≤ (2840 : Int) →
∀ x30 : Int, x30 = (Cv.int (Env.get (fall_sem.out [(.i x23)]) 6)) → (0 : Int) ≤ x30 → x30 ≤ (32670 : Int) →
∀ x31 : Int, x31 = (Cv.int (Env.get (fall_sem.out [(.i x23)]) 7)) → (0 : Int) ≤ x31 → x31 ≤ (3 : Int) →
((Cmp.den .le x5 x24) = true → R (Value.bool false)) ∧ ((Cmp.den .le x5 x24) = false → ((Cmp.den .le x7 x26) = true → R (Value.bool false)) ∧ ((Cmp.den .le x7 x26) = false → ((Cmp.den .le x9 x28) = true → R (Value.bool false)) ∧ ((Cmp.den .le x9 x28) = false → ((Cmp.den .le x11 x30) = true → R (Value.bool false)) ∧ ((Cmp.den .le x11 x30) = false → ((Cmp.den .eq x31 (0 : Int)) = true → ((Cmp.den .lt x8 x27) = true → ((Cmp.den .le x6 x25) = true → R (Value.bool (Cmp.den .le x10 x29))) ∧ ((Cmp.den .le x6 x25) = false → R (Value.bool false))) ∧ ((Cmp.den .lt x8 x27) = false → R (Value.bool false))) ∧ ((Cmp.den .eq x31 (0 : Int)) = false → R (Value.bool false)))))))))))) ∧ ((Cmp.den .lt (0 : Int) x10) = false → ((Cmp.den .le x7 (10000 : Int)) = true → R (Value.bool false)) ∧ ((Cmp.den .le x7 (10000 : Int)) = false → ((Cmp.den .le x11 (10000 : Int)) = true → R (Value.bool false)) ∧ ((Cmp.den .le x11 (10000 : Int)) = false → ((Cmp.den .eq x4 (10 : Int)) = true → R (Value.bool true)) ∧ ((Cmp.den .eq x4 (10 : Int)) = false → ∀ x22 : Int, x22 = (x4 + (1 : Int)) →
(fall_sem.pre [(.i x22)]) ∧ (
∀ x23 : Int, x23 = (Cv.int (Env.get (fall_sem.out [(.i x22)]) 0)) → (0 : Int) ≤ x23 → x23 ≤ (18800 : Int) →
∀ x24 : Int, x24 = (Cv.int (Env.get (fall_sem.out [(.i x22)]) 1)) → (0 : Int) ≤ x24 → x24 ≤ (2230 : Int) →
∀ x25 : Int, x25 = (Cv.int (Env.get (fall_sem.out [(.i x22)]) 2)) → (0 : Int) ≤ x25 → x25 ≤ (32670 : Int) →
∀ x26 : Int, x26 = (Cv.int (Env.get (fall_sem.out [(.i x22)]) 3)) → (0 : Int) ≤ x26 → x26 ≤ (30780 : Int) →
∀ x27 : Int, x27 = (Cv.int (Env.get (fall_sem.out [(.i x22)]) 4)) → (0 : Int) ≤ x27 → x27 ≤ (26590 : Int) →
∀ x28 : Int, x28 = (Cv.int (Env.get (fall_sem.out [(.i x22)]) 5)) → (0 : Int) ≤ x28 → x28 ≤ (2840 : Int) →
∀ x29 : Int, x29 = (Cv.int (Env.get (fall_sem.out [(.i x22)]) 6)) → (0 : Int) ≤ x29 → x29 ≤ (32670 : Int) →
∀ x30 : Int, x30 = (Cv.int (Env.get (fall_sem.out [(.i x22)]) 7)) → (0 : Int) ≤ x30 → x30 ≤ (3 : Int) →
((Cmp.den .le x5 x23) = true → R (Value.bool false)) ∧ ((Cmp.den .le x5 x23) = false → ((Cmp.den .le x7 x25) = true → R (Value.bool false)) ∧ ((Cmp.den .le x7 x25) = false → ((Cmp.den .le x9 x27) = true → R (Value.bool false)) ∧ ((Cmp.den .le x9 x27) = false → ((Cmp.den .le x11 x29) = true → R (Value.bool false)) ∧ ((Cmp.den .le x11 x29) = false → ((Cmp.den .eq x30 (0 : Int)) = true → ((Cmp.den .lt x8 x26) = true → ((Cmp.den .le x6 x24) = true → R (Value.bool (Cmp.den .le x10 x28))) ∧ ((Cmp.den .le x6 x24) = false → R (Value.bool false))) ∧ ((Cmp.den .lt x8 x26) = false → R (Value.bool false))) ∧ ((Cmp.den .eq x30 (0 : Int)) = false → R (Value.bool false))))))))))))) ∧ ((Cmp.den .lt (0 : Int) x6) = false → ((Cmp.den .lt (0 : Int) x10) = true → ∀ x21 : Int, x21 = (x10 + x11) →
((!(Cmp.den .eq x21 (20000 : Int))) = true → R (Value.bool false)) ∧ ((!(Cmp.den .eq x21 (20000 : Int))) = false → ((Cmp.den .le x7 (10000 : Int)) = true → R (Value.bool false)) ∧ ((Cmp.den .le x7 (10000 : Int)) = false → ((Cmp.den .le x11 (10000 : Int)) = true → R (Value.bool false)) ∧ ((Cmp.den .le x11 (10000 : Int)) = false → ((Cmp.den .eq x4 (10 : Int)) = true → R (Value.bool true)) ∧ ((Cmp.den .eq x4 (10 : Int)) = false → ∀ x22 : Int, x22 = (x4 + (1 : Int)) →
(fall_sem.pre [(.i x22)]) ∧ (
∀ x23 : Int, x23 = (Cv.int (Env.get (fall_sem.out [(.i x22)]) 0)) → (0 : Int) ≤ x23 → x23 ≤ (18800 : Int) →
∀ x24 : Int, x24 = (Cv.int (Env.get (fall_sem.out [(.i x22)]) 1)) → (0 : Int) ≤ x24 → x24 ≤ (2230 : Int) →
∀ x25 : Int, x25 = (Cv.int (Env.get (fall_sem.out [(.i x22)]) 2)) → (0 : Int) ≤ x25 → x25 ≤ (32670 : Int) →
∀ x26 : Int, x26 = (Cv.int (Env.get (fall_sem.out [(.i x22)]) 3)) → (0 : Int) ≤ x26 → x26 ≤ (30780 : Int) →
∀ x27 : Int, x27 = (Cv.int (Env.get (fall_sem.out [(.i x22)]) 4)) → (0 : Int) ≤ x27 → x27 ≤ (26590 : Int) →
∀ x28 : Int, x28 = (Cv.int (Env.get (fall_sem.out [(.i x22)]) 5)) → (0 : Int) ≤ x28 → x28 ≤ (2840 : Int) →
∀ x29 : Int, x29 = (Cv.int (Env.get (fall_sem.out [(.i x22)]) 6)) → (0 : Int) ≤ x29 → x29 ≤ (32670 : Int) →
∀ x30 : Int, x30 = (Cv.int (Env.get (fall_sem.out [(.i x22)]) 7)) → (0 : Int) ≤ x30 → x30 ≤ (3 : Int) →
((Cmp.den .le x5 x23) = true → R (Value.bool false)) ∧ ((Cmp.den .le x5 x23) = false → ((Cmp.den .le x7 x25) = true → R (Value.bool false)) ∧ ((Cmp.den .le x7 x25) = false → ((Cmp.den .le x9 x27) = true → R (Value.bool false)) ∧ ((Cmp.den .le x9 x27) = false → ((Cmp.den .le x11 x29) = true → R (Value.bool false)) ∧ ((Cmp.den .le x11 x29) = false → ((Cmp.den .eq x30 (0 : Int)) = true → ((Cmp.den .lt x8 x26) = true → R (Value.bool (Cmp.den .le x10 x28))) ∧ ((Cmp.den .lt x8 x26) = false → R (Value.bool false))) ∧ ((Cmp.den .eq x30 (0 : Int)) = false → R (Value.bool false)))))))))))) ∧ ((Cmp.den .lt (0 : Int) x10) = false → ((Cmp.den .le x7 (10000 : Int)) = true → R (Value.bool false)) ∧ ((Cmp.den .le x7 (10000 : Int)) = false → ((Cmp.den .le x11 (10000 : Int)) = true → R (Value.bool false)) ∧ ((Cmp.den .le x11 (10000 : Int)) = false → ((Cmp.den .eq x4 (10 : Int)) = true → R (Value.bool true)) ∧ ((Cmp.den .eq x4 (10 : Int)) = false → ∀ x21 : Int, x21 = (x4 + (1 : Int)) →
(fall_sem.pre [(.i x21)]) ∧ (
∀ x22 : Int, x22 = (Cv.int (Env.get (fall_sem.out [(.i x21)]) 0)) → (0 : Int) ≤ x22 → x22 ≤ (18800 : Int) →
∀ x23 : Int, x23 = (Cv.int (Env.get (fall_sem.out [(.i x21)]) 1)) → (0 : Int) ≤ x23 → x23 ≤ (2230 : Int) →
∀ x24 : Int, x24 = (Cv.int (Env.get (fall_sem.out [(.i x21)]) 2)) → (0 : Int) ≤ x24 → x24 ≤ (32670 : Int) →
∀ x25 : Int, x25 = (Cv.int (Env.get (fall_sem.out [(.i x21)]) 3)) → (0 : Int) ≤ x25 → x25 ≤ (30780 : Int) →
∀ x26 : Int, x26 = (Cv.int (Env.get (fall_sem.out [(.i x21)]) 4)) → (0 : Int) ≤ x26 → x26 ≤ (26590 : Int) →
∀ x27 : Int, x27 = (Cv.int (Env.get (fall_sem.out [(.i x21)]) 5)) → (0 : Int) ≤ x27 → x27 ≤ (2840 : Int) →
∀ x28 : Int, x28 = (Cv.int (Env.get (fall_sem.out [(.i x21)]) 6)) → (0 : Int) ≤ x28 → x28 ≤ (32670 : Int) →
∀ x29 : Int, x29 = (Cv.int (Env.get (fall_sem.out [(.i x21)]) 7)) → (0 : Int) ≤ x29 → x29 ≤ (3 : Int) →
((Cmp.den .le x5 x22) = true → R (Value.bool false)) ∧ ((Cmp.den .le x5 x22) = false → ((Cmp.den .le x7 x24) = true → R (Value.bool false)) ∧ ((Cmp.den .le x7 x24) = false → ((Cmp.den .le x9 x26) = true → R (Value.bool false)) ∧ ((Cmp.den .le x9 x26) = false → ((Cmp.den .le x11 x28) = true → R (Value.bool false)) ∧ ((Cmp.den .le x11 x28) = false → ((Cmp.den .eq x29 (0 : Int)) = true → ((Cmp.den .lt x8 x25) = true → R (Value.bool (Cmp.den .le x10 x27))) ∧ ((Cmp.den .lt x8 x25) = false → R (Value.bool false))) ∧ ((Cmp.den .eq x29 (0 : Int)) = false → R (Value.bool false)))))))))))))))))) := by kernel_rfl

def lshp_sem : SpecSem := { pre := fun cs => match cs with | [.i n] => IsI n | _ => False, out := fun cs => match cs with | [.i n] => [.b true] | _ => [] }
set_option maxRecDepth 10000 in
set_option maxHeartbeats 16000000 in
theorem lshp_ok : SpecOK Try.prog 3 lshp_sp lshp_sem := by
  refine spec_of_tree lshp_cxok Try.func3 (by kernel_rfl) (by kernel_rfl) lshp_walk rfl ?_
  intro cs hpre
  match cs, hpre with
  | [.i n], j_n =>
    have j_n : IsI n := j_n
    have h_n := j_n
    unfold IsI at h_n
    refine ⟨rfl, IvsB.ok (by simp only [lshp_ivs, IvsB, Cv.int, and_true] <;> omega), ?_, ?_⟩
    · simp only [lshp_sem, lshp_sp, Fits]
    · rw [lshp_den]
      intro x1 e1 x2 e2 x3 e3 x4 e4
      have hm : x4 = 2 ∨ x4 = 3 ∨ x4 = 4 ∨ x4 = 5 ∨ x4 = 6 ∨ x4 = 7 ∨ x4 = 8 ∨ x4 = 9 ∨ x4 = 10 := by clear e1 e2; omega
      clear e1 e2 e3 e4 j_n h_n
      have b2 : IsI 2 := isI_lit (by omega) (by omega)
      have b3 : IsI 3 := isI_lit (by omega) (by omega)
      have b4 : IsI 4 := isI_lit (by omega) (by omega)
      have b5 : IsI 5 := isI_lit (by omega) (by omega)
      have b6 : IsI 6 := isI_lit (by omega) (by omega)
      have b7 : IsI 7 := isI_lit (by omega) (by omega)
      have b8 : IsI 8 := isI_lit (by omega) (by omega)
      have b9 : IsI 9 := isI_lit (by omega) (by omega)
      have b10 : IsI 10 := isI_lit (by omega) (by omega)
      rcases hm with rfl | rfl | rfl | rfl | rfl | rfl | rfl | rfl | rfl <;>
        simp only [lshp_sem, lshp_sp, fall_sem, fal9_sem, lshp_den, fall_sem, fal9_sem, Tree.den, LE.den, Cv.list, placeA, List.getElem?_cons_zero, List.getElem?_cons_succ, IE.den, BE.den, At.den, CA.den, Env.get, Cv.int, Cv.bool, List.cons_append, List.nil_append, List.map_cons, List.map_nil, bindRes, bindEq, Fits, SV.den, denL, place, placeL, eq_t, eq_f, lt_t, lt_f, le_t, le_f, beq_iff_eq, beq_eq_false_iff_ne, ne_eq, reduceCtorEq, b_dec, decide_eq_true_eq, decide_eq_false_iff_not, Bool.not_eq_false', Bool.or_eq_true, Bool.or_eq_false_iff, Bool.and_eq_false_iff, true_iff, false_iff, Bool.false_eq_true, Bool.not_eq_true', Bool.and_eq_true, Bool.not_true, Bool.not_false, List.cons.injEq, Cv.i.injEq, Cv.b.injEq, and_true, true_and, agg_inj, tup_inj, Value.int.injEq, Value.bool.injEq, Cmp.den, b2, b3, b4, b5, b6, b7, b8, b9, b10, av0_2, av0_3, av0_4, av0_5, av0_6, av0_7, av0_8, av0_9, av0_10, av1_2, av1_3, av1_4, av1_5, av1_6, av1_7, av1_8, av1_9, av1_10, av2_2, av2_3, av2_4, av2_5, av2_6, av2_7, av2_8, av2_9, av2_10, av3_2, av3_3, av3_4, av3_5, av3_6, av3_7, av3_8, av3_9, av3_10, av4_2, av4_3, av4_4, av4_5, av4_6, av4_7, av4_8, av4_9, av4_10, av5_2, av5_3, av5_4, av5_5, av5_6, av5_7, av5_8, av5_9, av5_10, av6_2, av6_3, av6_4, av6_5, av6_6, av6_7, av6_8, av6_9, av6_10, ae_2, ae_3, ae_4, ae_5, ae_6, ae_7, ae_8, ae_9, ae_10, forall_eq, eq_self, Int.reduceMul, Int.reduceAdd, Int.reduceSub, Int.reduceLE, Int.reduceLT, if_true, if_false, true_and, and_true, false_and, and_false, true_or, or_true, false_or, or_false, true_iff, iff_true, false_iff, iff_false, not_true_eq_false, not_false_eq_true, true_implies, false_implies, implies_true, forall_const, decide_true, decide_false, reduceCtorEq]
end Go.Proofs.Ytdhhkoghfggkfaa.X
