/-
  datumref09 by contract.
-/
import Derived.Test.YtglpelnaeipenaaGreatSxFct
namespace Go.Proofs.YtglpelnaeipenaaGreat.X
open Go Go.SX
set_option linter.unusedVariables false
set_option linter.unusedSimpArgs false

def rfac_sp : SpecSh := { args := [(.int .i64 (.z 0)), (.int .i64 (.z 0))], res := (.int .i64 (.z 0)), sh := [.i (some (0, 32670))] }
set_option maxRecDepth 100000 in
def rfac_tree : Tree :=
.ite (.cmp .eq (.v 0) (.z 0)) (.lett (.sub (.v 1) (.z 2)) <|
.ite (.cmp .le (.v 2) (.z 0)) (.ret (.int .i64 (.z 18800))) <|
.ite (.cmp .le (.v 2) (.z 1)) (.ret (.int .i64 (.z 10230))) <|
.ite (.cmp .le (.v 2) (.z 2)) (.ret (.int .i64 (.z 7290))) <|
.ite (.cmp .le (.v 2) (.z 3)) (.ret (.int .i64 (.z 5770))) <|
.ite (.cmp .le (.v 2) (.z 4)) (.ret (.int .i64 (.z 4830))) <|
.ite (.cmp .le (.v 2) (.z 5)) (.ret (.int .i64 (.z 4190))) <|
.ite (.cmp .le (.v 2) (.z 6)) (.ret (.int .i64 (.z 3730))) <|
.ite (.cmp .le (.v 2) (.z 7)) (.ret (.int .i64 (.z 3370))) <|
.ret (.int .i64 (.z 3080))) <|
.ite (.cmp .eq (.v 0) (.z 1)) (.lett (.sub (.v 1) (.z 2)) <|
.ite (.cmp .le (.v 2) (.z 0)) (.ret (.int .i64 (.z 0))) <|
.ite (.cmp .le (.v 2) (.z 1)) (.ret (.int .i64 (.z 0))) <|
.ite (.cmp .le (.v 2) (.z 2)) (.ret (.int .i64 (.z 0))) <|
.ite (.cmp .le (.v 2) (.z 3)) (.ret (.int .i64 (.z 0))) <|
.ite (.cmp .le (.v 2) (.z 4)) (.ret (.int .i64 (.z 0))) <|
.ite (.cmp .le (.v 2) (.z 5)) (.ret (.int .i64 (.z 760))) <|
.ite (.cmp .le (.v 2) (.z 6)) (.ret (.int .i64 (.z 1360))) <|
.ite (.cmp .le (.v 2) (.z 7)) (.ret (.int .i64 (.z 1840))) <|
.ret (.int .i64 (.z 2230))) <|
.ite (.cmp .eq (.v 0) (.z 2)) (.lett (.sub (.v 1) (.z 2)) <|
.ite (.cmp .le (.v 2) (.z 0)) (.ret (.int .i64 (.z 32670))) <|
.ite (.cmp .le (.v 2) (.z 1)) (.ret (.int .i64 (.z 25740))) <|
.ite (.cmp .le (.v 2) (.z 2)) (.ret (.int .i64 (.z 22820))) <|
.ite (.cmp .le (.v 2) (.z 3)) (.ret (.int .i64 (.z 21140))) <|
.ite (.cmp .le (.v 2) (.z 4)) (.ret (.int .i64 (.z 20040))) <|
.ite (.cmp .le (.v 2) (.z 5)) (.ret (.int .i64 (.z 19240))) <|
.ite (.cmp .le (.v 2) (.z 6)) (.ret (.int .i64 (.z 18640))) <|
.ite (.cmp .le (.v 2) (.z 7)) (.ret (.int .i64 (.z 18160))) <|
.ret (.int .i64 (.z 17770))) <|
.ite (.cmp .eq (.v 0) (.z 3)) (.lett (.sub (.v 1) (.z 2)) <|
.ite (.cmp .le (.v 2) (.z 0)) (.ret (.int .i64 (.z 11280))) <|
.ite (.cmp .le (.v 2) (.z 1)) (.ret (.int .i64 (.z 16930))) <|
.ite (.cmp .le (.v 2) (.z 2)) (.ret (.int .i64 (.z 20590))) <|
.ite (.cmp .le (.v 2) (.z 3)) (.ret (.int .i64 (.z 23260))) <|
.ite (.cmp .le (.v 2) (.z 4)) (.ret (.int .i64 (.z 25340))) <|
.ite (.cmp .le (.v 2) (.z 5)) (.ret (.int .i64 (.z 27040))) <|
.ite (.cmp .le (.v 2) (.z 6)) (.ret (.int .i64 (.z 28470))) <|
.ite (.cmp .le (.v 2) (.z 7)) (.ret (.int .i64 (.z 29700))) <|
.ret (.int .i64 (.z 30780))) <|
.ite (.cmp .eq (.v 0) (.z 4)) (.lett (.sub (.v 1) (.z 2)) <|
.ite (.cmp .le (.v 2) (.z 0)) (.ret (.int .i64 (.z 26590))) <|
.ite (.cmp .le (.v 2) (.z 1)) (.ret (.int .i64 (.z 19540))) <|
.ite (.cmp .le (.v 2) (.z 2)) (.ret (.int .i64 (.z 16280))) <|
.ite (.cmp .le (.v 2) (.z 3)) (.ret (.int .i64 (.z 14270))) <|
.ite (.cmp .le (.v 2) (.z 4)) (.ret (.int .i64 (.z 12870))) <|
.ite (.cmp .le (.v 2) (.z 5)) (.ret (.int .i64 (.z 11820))) <|
.ite (.cmp .le (.v 2) (.z 6)) (.ret (.int .i64 (.z 10990))) <|
.ite (.cmp .le (.v 2) (.z 7)) (.ret (.int .i64 (.z 10320))) <|
.ret (.int .i64 (.z 9750))) <|
.ite (.cmp .eq (.v 0) (.z 5)) (.lett (.sub (.v 1) (.z 2)) <|
.ite (.cmp .le (.v 2) (.z 0)) (.ret (.int .i64 (.z 0))) <|
.ite (.cmp .le (.v 2) (.z 1)) (.ret (.int .i64 (.z 0))) <|
.ite (.cmp .le (.v 2) (.z 2)) (.ret (.int .i64 (.z 0))) <|
.ite (.cmp .le (.v 2) (.z 3)) (.ret (.int .i64 (.z 0))) <|
.ite (.cmp .le (.v 2) (.z 4)) (.ret (.int .i64 (.z 300))) <|
.ite (.cmp .le (.v 2) (.z 5)) (.ret (.int .i64 (.z 1180))) <|
.ite (.cmp .le (.v 2) (.z 6)) (.ret (.int .i64 (.z 1850))) <|
.ite (.cmp .le (.v 2) (.z 7)) (.ret (.int .i64 (.z 2390))) <|
.ret (.int .i64 (.z 2840))) <|
.lett (.sub (.v 1) (.z 2)) <|
.ite (.cmp .le (.v 2) (.z 0)) (.ret (.int .i64 (.z 32670))) <|
.ite (.cmp .le (.v 2) (.z 1)) (.ret (.int .i64 (.z 25680))) <|
.ite (.cmp .le (.v 2) (.z 2)) (.ret (.int .i64 (.z 22660))) <|
.ite (.cmp .le (.v 2) (.z 3)) (.ret (.int .i64 (.z 20890))) <|
.ite (.cmp .le (.v 2) (.z 4)) (.ret (.int .i64 (.z 19700))) <|
.ite (.cmp .le (.v 2) (.z 5)) (.ret (.int .i64 (.z 18820))) <|
.ite (.cmp .le (.v 2) (.z 6)) (.ret (.int .i64 (.z 18150))) <|
.ite (.cmp .le (.v 2) (.z 7)) (.ret (.int .i64 (.z 17610))) <|
.ret (.int .i64 (.z 17160))
noncomputable def rfac_cx : Ctx := { tys := tys, fns := fns, mets := mets, sps := [], anns := [], trys := [] }
def rfac_ivs : List (Option (Int × Int)) := [some (0, 6), some (2, 10)]
set_option maxRecDepth 100000 in
theorem rfac_walk : runFn rfac_cx 3000 23 Tryz.f23 rfac_sp.args rfac_ivs = rfac_tree := by kernel_rfl
noncomputable def rfac_M : Nat → SpecSem
  | _ => noSem
theorem rfac_cxok : CxOK Tryz.prog rfac_cx rfac_M := ⟨tysOK, fnsOK, fun _ _ h => spNil h, mixedOK, fun _ _ h => trNil h, fun _ _ h => atNil h, metsOK⟩
set_option maxRecDepth 100000 in
set_option maxHeartbeats 8000000 in
theorem rfac_den (R RP : Value → Prop) (F : Ex → St → Js → Env → Prop) (J : Js) (x0 : Int) (x1 : Int) : Tree.den rfac_M R RP F rfac_tree J [(.i x0), (.i x1)] = (
  ((Cmp.den .eq x0 (0 : Int)) = true → ∀ x2 : Int, x2 = (x1 - (2 : Int)) →
((Cmp.den .le x2 (0 : Int)) = true → R (Value.int .i64 (18800 : Int))) ∧ ((Cmp.den .le x2 (0 : Int)) = false → ((Cmp.den .le x2 (1 : Int)) = true → R (Value.int .i64 (10230 : Int))) ∧ ((Cmp.den .le x2 (1 : Int)) = false → ((Cmp.den .le x2 (2 : Int)) = true → R (Value.int .i64 (7290 : Int))) ∧ ((Cmp.den .le x2 (2 : Int)) = false → ((Cmp.den .le x2 (3 : Int)) = true → R (Value.int .i64 (5770 : Int))) ∧ ((Cmp.den .le x2 (3 : Int)) = false → ((Cmp.den .le x2 (4 : Int)) = true → R (Value.int .i64 (4830 : Int))) ∧ ((Cmp.den .le x2 (4 : Int)) = false → ((Cmp.den .le x2 (5 : Int)) = true → R (Value.int .i64 (4190 : Int))) ∧ ((Cmp.den .le x2 (5 : Int)) = false → ((Cmp.den .le x2 (6 : Int)) = true → R (Value.int .i64 (3730 : Int))) ∧ ((Cmp.den .le x2 (6 : Int)) = false → ((Cmp.den .le x2 (7 : Int)) = true → R (Value.int .i64 (3370 : Int))) ∧ ((Cmp.den .le x2 (7 : Int)) = false → R (Value.int .i64 (3080 : Int))))))))))) ∧ ((Cmp.den .eq x0 (0 : Int)) = false → ((Cmp.den .eq x0 (1 : Int)) = true → ∀ x2 : Int, x2 = (x1 - (2 : Int)) →
((Cmp.den .le x2 (0 : Int)) = true → R (Value.int .i64 (0 : Int))) ∧ ((Cmp.den .le x2 (0 : Int)) = false → ((Cmp.den .le x2 (1 : Int)) = true → R (Value.int .i64 (0 : Int))) ∧ ((Cmp.den .le x2 (1 : Int)) = false → ((Cmp.den .le x2 (2 : Int)) = true → R (Value.int .i64 (0 : Int))) ∧ ((Cmp.den .le x2 (2 : Int)) = false → ((Cmp.den .le x2 (3 : Int)) = true → R (Value.int .i64 (0 : Int))) ∧ ((Cmp.den .le x2 (3 : Int)) = false → ((Cmp.den .le x2 (4 : Int)) = true → R (Value.int .i64 (0 : Int))) ∧ ((Cmp.den .le x2 (4 : Int)) = false → ((Cmp.den .le x2 (5 : Int)) = true → R (Value.int .i64 (760 : Int))) ∧ ((Cmp.den .le x2 (5 : Int)) = false → ((Cmp.den .le x2 (6 : Int)) = true → R (Value.int .i64 (1360 : Int))) ∧ ((Cmp.den .le x2 (6 : Int)) = false → ((Cmp.den .le x2 (7 : Int)) = true → R (Value.int .i64 (1840 : Int))) ∧ ((Cmp.den .le x2 (7 : Int)) = false → R (Value.int .i64 (2230 : Int))))))))))) ∧ ((Cmp.den .eq x0 (1 : Int)) = false → ((Cmp.den .eq x0 (2 : Int)) = true → ∀ x2 : Int, x2 = (x1 - (2 : Int)) →
((Cmp.den .le x2 (0 : Int)) = true → R (Value.int .i64 (32670 : Int))) ∧ ((Cmp.den .le x2 (0 : Int)) = false → ((Cmp.den .le x2 (1 : Int)) = true → R (Value.int .i64 (25740 : Int))) ∧ ((Cmp.den .le x2 (1 : Int)) = false → ((Cmp.den .le x2 (2 : Int)) = true → R (Value.int .i64 (22820 : Int))) ∧ ((Cmp.den .le x2 (2 : Int)) = false → ((Cmp.den .le x2 (3 : Int)) = true → R (Value.int .i64 (21140 : Int))) ∧ ((Cmp.den .le x2 (3 : Int)) = false → ((Cmp.den .le x2 (4 : Int)) = true → R (Value.int .i64 (20040 : Int))) ∧ ((Cmp.den .le x2 (4 : Int)) = false → ((Cmp.den .le x2 (5 : Int)) = true → R (Value.int .i64 (19240 : Int))) ∧ ((Cmp.den .le x2 (5 : Int)) = false → ((Cmp.den .le x2 (6 : Int)) = true → R (Value.int .i64 (18640 : Int))) ∧ ((Cmp.den .le x2 (6 : Int)) = false → ((Cmp.den .le x2 (7 : Int)) = true → R (Value.int .i64 (18160 : Int))) ∧ ((Cmp.den .le x2 (7 : Int)) = false → R (Value.int .i64 (17770 : Int))))))))))) ∧ ((Cmp.den .eq x0 (2 : Int)) = false → ((Cmp.den .eq x0 (3 : Int)) = true → ∀ x2 : Int, x2 = (x1 - (2 : Int)) →
((Cmp.den .le x2 (0 : Int)) = true → R (Value.int .i64 (11280 : Int))) ∧ ((Cmp.den .le x2 (0 : Int)) = false → ((Cmp.den .le x2 (1 : Int)) = true → R (Value.int .i64 (16930 : Int))) ∧ ((Cmp.den .le x2 (1 : Int)) = false → ((Cmp.den .le x2 (2 : Int)) = true → R (Value.int .i64 (20590 : Int))) ∧ ((Cmp.den .le x2 (2 : Int)) = false → ((Cmp.den .le x2 (3 : Int)) = true → R (Value.int .i64 (23260 : Int))) ∧ ((Cmp.den .le x2 (3 : Int)) = false → ((Cmp.den .le x2 (4 : Int)) = true → R (Value.int .i64 (25340 : Int))) ∧ ((Cmp.den .le x2 (4 : Int)) = false → ((Cmp.den .le x2 (5 : Int)) = true → R (Value.int .i64 (27040 : Int))) ∧ ((Cmp.den .le x2 (5 : Int)) = false → ((Cmp.den .le x2 (6 : Int)) = true → R (Value.int .i64 (28470 : Int))) ∧ ((Cmp.den .le x2 (6 : Int)) = false → ((Cmp.den .le x2 (7 : Int)) = true → R (Value.int .i64 (29700 : Int))) ∧ ((Cmp.den .le x2 (7 : Int)) = false → R (Value.int .i64 (30780 : Int))))))))))) ∧ ((Cmp.den .eq x0 (3 : Int)) = false → ((Cmp.den .eq x0 (4 : Int)) = true → ∀ x2 : Int, x2 = (x1 - (2 : Int)) →
((Cmp.den .le x2 (0 : Int)) = true → R (Value.int .i64 (26590 : Int))) ∧ ((Cmp.den .le x2 (0 : Int)) = false → ((Cmp.den .le x2 (1 : Int)) = true → R (Value.int .i64 (19540 : Int))) ∧ ((Cmp.den .le x2 (1 : Int)) = false → ((Cmp.den .le x2 (2 : Int)) = true → R (Value.int .i64 (16280 : Int))) ∧ ((Cmp.den .le x2 (2 : Int)) = false → ((Cmp.den .le x2 (3 : Int)) = true → R (Value.int .i64 (14270 : Int))) ∧ ((Cmp.den .le x2 (3 : Int)) = false → ((Cmp.den .le x2 (4 : Int)) = true → R (Value.int .i64 (12870 : Int))) ∧ ((Cmp.den .le x2 (4 : Int)) = false → ((Cmp.den .le x2 (5 : Int)) = true → R (Value.int .i64 (11820 : Int))) ∧ ((Cmp.den .le x2 (5 : Int)) = false → ((Cmp.den .le x2 (6 : Int)) = true → R (Value.int .i64 (10990 : Int))) ∧ ((Cmp.den .le x2 (6 : Int)) = false → ((Cmp.den .le x2 (7 : Int)) = true → R (Value.int .i64 (10320 : Int))) ∧ ((Cmp.den .le x2 (7 : Int)) = false → R (Value.int .i64 (9750 : Int))))))))))) ∧ ((Cmp.den .eq x0 (4 : Int)) = false → ((Cmp.den .eq x0 (5 : Int)) = true → ∀ x2 : Int, x2 = (x1 - (2 : Int)) →
((Cmp.den .le x2 (0 : Int)) = true → R (Value.int .i64 (0 : Int))) ∧ ((Cmp.den .le x2 (0 : Int)) = false → ((Cmp.den .le x2 (1 : Int)) = true → R (Value.int .i64 (0 : Int))) ∧ ((Cmp.den .le x2 (1 : Int)) = false → ((Cmp.den .le x2 (2 : Int)) = true → R (Value.int .i64 (0 : Int))) ∧ ((Cmp.den .le x2 (2 : Int)) = false → ((Cmp.den .le x2 (3 : Int)) = true → R (Value.int .i64 (0 : Int))) ∧ ((Cmp.den .le x2 (3 : Int)) = false → ((Cmp.den .le x2 (4 : Int)) = true → R (Value.int .i64 (300 : Int))) ∧ ((Cmp.den .le x2 (4 : Int)) = false → ((Cmp.den .le x2 (5 : Int)) = true → R (Value.int .i64 (1180 : Int))) ∧ ((Cmp.den .le x2 (5 : Int)) = false → ((Cmp.den .le x2 (6 : Int)) = true → R (Value.int .i64 (1850 : Int))) ∧ ((Cmp.den .le x2 (6 : Int)) = false → ((Cmp.den .le x2 (7 : Int)) = true → R (Value.int .i64 (2390 : Int))) ∧ ((Cmp.den .le x2 (7 : Int)) = false → R (Value.int .i64 (2840 : Int))))))))))) ∧ ((Cmp.den .eq x0 (5 : Int)) = false → ∀ x2 : Int, x2 = (x1 - (2 : Int)) →
((Cmp.den .le x2 (0 : Int)) = true → R (Value.int .i64 (32670 : Int))) ∧ ((Cmp.den .le x2 (0 : Int)) = false → ((Cmp.den .le x2 (1 : Int)) = true → R (Value.int .i64 (25680 : Int))) ∧ ((Cmp.den .le x2 (1 : Int)) = false → ((Cmp.den .le x2 (2 : Int)) = true → R (Value.int .i64 (22660 : Int))) ∧ ((Cmp.den .le x2 (2 : Int)) = false → ((Cmp.den .le x2 (3 : Int)) = true → R (Value.int .i64 (20890 : Int))) ∧ ((Cmp.den .le x2 (3 : Int)) = false → ((Cmp.den .le x2 (4 : Int)) = true → R (Value.int .i64 (19700 : Int))) ∧ ((Cmp.den .le x2 (4 : Int)) = false → ((Cmp.den .le x2 (5 : Int)) = true → R (Value.int .i64 (18820 : Int))) ∧ ((Cmp.den .le x2 (5 : Int)) = false → ((Cmp.den .le x2 (6 : Int)) = true → R (Value.int .i64 (18150 : Int))) ∧ ((Cmp.den .le x2 (6 : Int)) = false → ((Cmp.den .le x2 (7 : Int)) = true → R (Value.int .i64 (17610 : Int))) ∧ ((Cmp.den .le x2 (7 : Int)) = false → R (Value.int .i64 (17160 : Int))))))))))))))))) := by kernel_rfl

def rfac_sem : SpecSem := { pre := fun cs => match cs with | [.i k, .i n] => IsI k ∧ IsI n ∧ ((0 ≤ k ∧ k ≤ 6) ∧ 2 ≤ n ∧ n ≤ 10) | _ => False, out := fun cs => match cs with | [.i k, .i n] => [.i (ftab k n)] | _ => [] }
set_option maxRecDepth 10000 in
set_option maxHeartbeats 16000000 in
theorem rfac_ok : SpecOK Tryz.prog 23 rfac_sp rfac_sem := by
  refine spec_of_tree rfac_cxok Tryz.func23 (by kernel_rfl) (by kernel_rfl) rfac_walk rfl ?_
  intro cs hpre
  match cs, hpre with
  | [.i k, .i n], ⟨j_k, j_n, hx⟩ =>
    have h_k := j_k
    unfold IsI at h_k
    have h_n := j_n
    unfold IsI at h_n
    refine ⟨rfl, IvsB.ok (by simp only [rfac_ivs, IvsB, Cv.int, and_true] <;> omega), ?_, ?_⟩
    · have := ftab_rng k n
      simp only [rfac_sem, rfac_sp, Fits, and_true]; omega
    · rw [rfac_den]
      obtain ⟨⟨k1, k2⟩, n1, n2⟩ := hx
      have hk : k = 0 ∨ k = 1 ∨ k = 2 ∨ k = 3 ∨ k = 4 ∨ k = 5 ∨ k = 6 := by omega
      have hn : n = 2 ∨ n = 3 ∨ n = 4 ∨ n = 5 ∨ n = 6 ∨ n = 7 ∨ n = 8 ∨ n = 9 ∨ n = 10 := by omega
      clear j_k j_n h_k h_n k1 k2 n1 n2
      rcases hk with rfl | rfl | rfl | rfl | rfl | rfl | rfl <;> rcases hn with rfl | rfl | rfl | rfl | rfl | rfl | rfl | rfl | rfl <;>
        simp only [rfac_sem, rfac_sp, rfac_den, Tree.den, LE.den, Cv.list, placeA, List.getElem?_cons_zero, List.getElem?_cons_succ, IE.den, BE.den, At.den, CA.den, Env.get, Cv.int, Cv.bool, List.cons_append, List.nil_append, List.map_cons, List.map_nil, bindRes, bindEq, Fits, SV.den, denL, place, placeL, eq_t, eq_f, lt_t, lt_f, le_t, le_f, beq_iff_eq, beq_eq_false_iff_ne, ne_eq, reduceCtorEq, b_dec, decide_eq_true_eq, decide_eq_false_iff_not, Bool.not_eq_false', Bool.or_eq_true, Bool.or_eq_false_iff, Bool.and_eq_false_iff, true_iff, false_iff, Bool.false_eq_true, Bool.not_eq_true', Bool.and_eq_true, Bool.not_true, Bool.not_false, List.cons.injEq, Cv.i.injEq, Cv.b.injEq, and_true, true_and, agg_inj, tup_inj, Value.int.injEq, Value.bool.injEq, Int.reduceAdd, Int.reduceSub, Int.reduceLE, Int.reduceLT, Int.reduceEq, Int.reduceNeg, forall_eq, eq_self, if_true, if_false, true_and, and_true, false_and, and_false, true_or, or_true, false_or, or_false, true_iff, iff_true, false_iff, iff_false, not_true_eq_false, not_false_eq_true, true_implies, false_implies, implies_true, forall_const, decide_true, decide_false, reduceCtorEq] <;> decide
end Go.Proofs.YtglpelnaeipenaaGreat.X
