/-
  datumref14.Tell; nelson.Exact; alive: by contract.
-/
import Derived.Test.YtmnpeneplobpdaaDoorSxNeR4
import Derived.Test.YtmnpeneplobpdaaDoorSxNeG
namespace Go.Proofs.YtmnpeneplobpdaaDoor.X
open Go Go.SX Go.RowKit
set_option linter.unusedVariables false
set_option linter.unusedSimpArgs false









noncomputable def rt (k : Int) (l : List Int) : Int := refV k l
def r14tell_sp : SpecSh := { args := [(.lst 0)], res := (.agg [(.int .i64 (.z 0)), (.int .i64 (.z 0)), (.int .i64 (.z 0)), (.int .i64 (.z 0)), (.int .i64 (.z 0)), (.int .i64 (.z 0)), (.int .i64 (.z 0)), (.int .i64 (.z 0))]), sh := [.i (some (0, 2)), .i (some (0, 2)), .i (some (0, 2)), .i (some (0, 2)), .i (some (0, 2)), .i (some (0, 2)), .i (some (0, 2)), .i (some (0, 2))] }
set_option maxRecDepth 100000 in
def r14tell_tree : Tree :=
.loop [.i (some (0, 8)), .i (some (0, 2)), .i (some (0, 2)), .i (some (0, 2)), .i (some (0, 2)), .i (some (0, 2)), .i (some (0, 2)), .i (some (0, 2)), .i (some (0, 2))] [.i (.z 0), .i (.z 0), .i (.z 0), .i (.z 0), .i (.z 0), .i (.z 0), .i (.z 0), .i (.z 0), .i (.z 0)] <|
.ite (.cmp .lt (.v 1) (.z 8)) (.lett (.add (.v 1) (.z 1)) <|
.call 28 [.i (some (0, 2))] [.i (.v 10), .l (.v 0)] <|
.ite (.cmp .le (.v 1) (.z 0)) (.again 0 [.i (.z 1), .i (.v 11), .i (.v 3), .i (.v 4), .i (.v 5), .i (.v 6), .i (.v 7), .i (.v 8), .i (.v 9)]) <|
.ite (.cmp .le (.v 1) (.z 1)) (.again 0 [.i (.z 2), .i (.v 2), .i (.v 11), .i (.v 4), .i (.v 5), .i (.v 6), .i (.v 7), .i (.v 8), .i (.v 9)]) <|
.ite (.cmp .le (.v 1) (.z 2)) (.again 0 [.i (.z 3), .i (.v 2), .i (.v 3), .i (.v 11), .i (.v 5), .i (.v 6), .i (.v 7), .i (.v 8), .i (.v 9)]) <|
.ite (.cmp .le (.v 1) (.z 3)) (.again 0 [.i (.z 4), .i (.v 2), .i (.v 3), .i (.v 4), .i (.v 11), .i (.v 6), .i (.v 7), .i (.v 8), .i (.v 9)]) <|
.ite (.cmp .le (.v 1) (.z 4)) (.again 0 [.i (.z 5), .i (.v 2), .i (.v 3), .i (.v 4), .i (.v 5), .i (.v 11), .i (.v 7), .i (.v 8), .i (.v 9)]) <|
.ite (.cmp .le (.v 1) (.z 5)) (.again 0 [.i (.z 6), .i (.v 2), .i (.v 3), .i (.v 4), .i (.v 5), .i (.v 6), .i (.v 11), .i (.v 8), .i (.v 9)]) <|
.ite (.cmp .le (.v 1) (.z 6)) (.again 0 [.i (.z 7), .i (.v 2), .i (.v 3), .i (.v 4), .i (.v 5), .i (.v 6), .i (.v 7), .i (.v 11), .i (.v 9)]) <|
.again 0 [.i (.z 8), .i (.v 2), .i (.v 3), .i (.v 4), .i (.v 5), .i (.v 6), .i (.v 7), .i (.v 8), .i (.v 11)]) <|
.ret (.agg [(.int .i64 (.v 2)), (.int .i64 (.v 3)), (.int .i64 (.v 4)), (.int .i64 (.v 5)), (.int .i64 (.v 6)), (.int .i64 (.v 7)), (.int .i64 (.v 8)), (.int .i64 (.v 9))])
noncomputable def r14tell_cx : Ctx := { tys := tys, fns := fns, mets := mets, sps := [(28, r14rule_sp)], anns := [((21, 3), { slots := [4], cells := [], ivs := [some (0, 8), some (0, 2), some (0, 2), some (0, 2), some (0, 2), some (0, 2), some (0, 2), some (0, 2), some (0, 2)], pc := [(3, 0), (3, 1), (3, 2), (3, 3), (3, 4), (3, 5), (3, 6), (3, 7)] })], trys := [] }
def r14tell_ivs : List (Option (Int × Int)) := [none]
set_option maxRecDepth 100000 in
theorem r14tell_walk : runFn r14tell_cx 3000 21 Tryd.f21 r14tell_sp.args r14tell_ivs = r14tell_tree := by kernel_rfl
noncomputable def r14tell_M : Nat → SpecSem
  | 28 => r14rule_sem
  | _ => noSem
theorem r14tell_M28 : r14tell_M 28 = r14rule_sem := rfl
theorem r14tell_cxok : CxOK Tryd.prog r14tell_cx r14tell_M := ⟨tysOK, fnsOK, spCons r14rule_ok <| fun _ _ h => spNil h, mixedOK, fun _ _ h => trNil h, fun _ _ h => atNil h, metsOK, fun _ _ h => efNil h, fun _ _ h => lsNil h⟩
set_option maxRecDepth 100000 in
set_option maxHeartbeats 8000000 in
theorem r14tell_den (R RP : Value → Prop) (F : Ex → St → Js → Env → Prop) (x0 : List Int) : Tree.den r14tell_M R RP F r14tell_tree [] [(.l x0)] = (
  ∃ (I0 : List Cv → Prop) (mu0 : List Cv → Nat), Fits [.i (some ((0), (8))), .i (some ((0), (2))), .i (some ((0), (2))), .i (some ((0), (2))), .i (some ((0), (2))), .i (some ((0), (2))), .i (some ((0), (2))), .i (some ((0), (2))), .i (some ((0), (2)))] [(.i (0 : Int)), (.i (0 : Int)), (.i (0 : Int)), (.i (0 : Int)), (.i (0 : Int)), (.i (0 : Int)), (.i (0 : Int)), (.i (0 : Int)), (.i (0 : Int))] ∧ I0 [(.i (0 : Int)), (.i (0 : Int)), (.i (0 : Int)), (.i (0 : Int)), (.i (0 : Int)), (.i (0 : Int)), (.i (0 : Int)), (.i (0 : Int)), (.i (0 : Int))] ∧ (
∀ x1 : Int, (0 : Int) ≤ x1 → x1 ≤ (8 : Int) → ∀ x2 : Int, (0 : Int) ≤ x2 → x2 ≤ (2 : Int) → ∀ x3 : Int, (0 : Int) ≤ x3 → x3 ≤ (2 : Int) → ∀ x4 : Int, (0 : Int) ≤ x4 → x4 ≤ (2 : Int) → ∀ x5 : Int, (0 : Int) ≤ x5 → x5 ≤ (2 : Int) → ∀ x6 : Int, (0 : Int) ≤ x6 → x6 ≤ (2 : Int) → ∀ x7 : Int, (0 : Int) ≤ x7 → x7 ≤ (2 : Int) → ∀ x8 : Int, (0 : Int) ≤ x8 → x8 ≤ (2 : Int) → ∀ x9 : Int, (0 : Int) ≤ x9 → x9 ≤ (2 : Int) → I0 [.i x1, .i x2, .i x3, .i x4, .i x5, .i x6, .i x7, .i x8, .i x9] →
((Cmp.den .lt x1 (8 : Int)) = true → ∀ x10 : Int, x10 = (x1 + (1 : Int)) →
(r14rule_sem.pre [(.i x10), (.l (x0))]) ∧ (
∀ x11 : Int, x11 = (Cv.int (Env.get (r14rule_sem.out [(.i x10), (.l (x0))]) 0)) → (0 : Int) ≤ x11 → x11 ≤ (2 : Int) →
((Cmp.den .le x1 (0 : Int)) = true → Fits [.i (some ((0), (8))), .i (some ((0), (2))), .i (some ((0), (2))), .i (some ((0), (2))), .i (some ((0), (2))), .i (some ((0), (2))), .i (some ((0), (2))), .i (some ((0), (2))), .i (some ((0), (2)))] [(.i (1 : Int)), (.i x11), (.i x3), (.i x4), (.i x5), (.i x6), (.i x7), (.i x8), (.i x9)] ∧ I0 [(.i (1 : Int)), (.i x11), (.i x3), (.i x4), (.i x5), (.i x6), (.i x7), (.i x8), (.i x9)] ∧ mu0 [(.i (1 : Int)), (.i x11), (.i x3), (.i x4), (.i x5), (.i x6), (.i x7), (.i x8), (.i x9)] < mu0 [.i x1, .i x2, .i x3, .i x4, .i x5, .i x6, .i x7, .i x8, .i x9]) ∧ ((Cmp.den .le x1 (0 : Int)) = false → ((Cmp.den .le x1 (1 : Int)) = true → Fits [.i (some ((0), (8))), .i (some ((0), (2))), .i (some ((0), (2))), .i (some ((0), (2))), .i (some ((0), (2))), .i (some ((0), (2))), .i (some ((0), (2))), .i (some ((0), (2))), .i (some ((0), (2)))] [(.i (2 : Int)), (.i x2), (.i x11), (.i x4), (.i x5), (.i x6), (.i x7), (.i x8), (.i x9)] ∧ I0 [(.i (2 : Int)), (.i x2), (.i x11), (.i x4), (.i x5), (.i x6), (.i x7), (.i x8), (.i x9)] ∧ mu0 [(.i (2 : Int)), (.i x2), (.i x11), (.i x4), (.i x5), (.i x6), (.i x7), (.i x8), (.i x9)] < mu0 [.i x1, .i x2, .i x3, .i x4, .i x5, .i x6, .i x7, .i x8, .i x9]) ∧ ((Cmp.den .le x1 (1 : Int)) = false → ((Cmp.den .le x1 (2 : Int)) = true → Fits [.i (some ((0), (8))), .i (some ((0), (2))), .i (some ((0), (2))), .i (some ((0), (2))), .i (some ((0), (2))), .i (some ((0), (2))), .i (some ((0), (2))), .i (some ((0), (2))), .i (some ((0), (2)))] [(.i (3 : Int)), (.i x2), (.i x3), (.i x11), (.i x5), (.i x6), (.i x7), (.i x8), (.i x9)] ∧ I0 [(.i (3 : Int)), (.i x2), (.i x3), (.i x11), (.i x5), (.i x6), (.i x7), (.i x8), (.i x9)] ∧ mu0 [(.i (3 : Int)), (.i x2), (.i x3), (.i x11), (.i x5), (.i x6), (.i x7), (.i x8), (.i x9)] < mu0 [.i x1, .i x2, .i x3, .i x4, .i x5, .i x6, .i x7, .i x8, .i x9]) ∧ ((Cmp.den .le x1 (2 : Int)) = false → ((Cmp.den .le x1 (3 : Int)) = true → Fits [.i (some ((0), (8))), .i (some ((0), (2))), .i (some ((0), (2))), .i (some ((0), (2))), .i (some ((0), (2))), .i (some ((0), (2))), .i (some ((0), (2))), .i (some ((0), (2))), .i (some ((0), (2)))] [(.i (4 : Int)), (.i x2), (.i x3), (.i x4), (.i x11), (.i x6), (.i x7), (.i x8), (.i x9)] ∧ I0 [(.i (4 : Int)), (.i x2), (.i x3), (.i x4), (.i x11), (.i x6), (.i x7), (.i x8), (.i x9)] ∧ mu0 [(.i (4 : Int)), (.i x2), (.i x3), (.i x4), (.i x11), (.i x6), (.i x7), (.i x8), (.i x9)] < mu0 [.i x1, .i x2, .i x3, .i x4, .i x5, .i x6, .i x7, .i x8, .i x9]) ∧ ((Cmp.den .le x1 (3 : Int)) = false → ((Cmp.den .le x1 (4 : Int)) = true → Fits [.i (some ((0), (8))), .i (some ((0), (2))), .i (some ((0), (2))), .i (some ((0), (2))), .i (some ((0), (2))), .i (some ((0), (2))), .i (some ((0), (2))), .i (some ((0), (2))), .i (some ((0), (2)))] [(.i (5 : Int)), (.i x2), (.i x3), (.i x4), (.i x5), (.i x11), (.i x7), (.i x8), (.i x9)] ∧ I0 [(.i (5 : Int)), (.i x2), (.i x3), (.i x4), (.i x5), (.i x11), (.i x7), (.i x8), (.i x9)] ∧ mu0 [(.i (5 : Int)), (.i x2), (.i x3), (.i x4), (.i x5), (.i x11), (.i x7), (.i x8), (.i x9)] < mu0 [.i x1, .i x2, .i x3, .i x4, .i x5, .i x6, .i x7, .i x8, .i x9]) ∧ ((Cmp.den .le x1 (4 : Int)) = false → ((Cmp.den .le x1 (5 : Int)) = true → Fits [.i (some ((0), (8))), .i (some ((0), (2))), .i (some ((0), (2))), .i (some ((0), (2))), .i (some ((0), (2))), .i (some ((0), (2))), .i (some ((0), (2))), .i (some ((0), (2))), .i (some ((0), (2)))] [(.i (6 : Int)), (.i x2), (.i x3), (.i x4), (.i x5), (.i x6), (.i x11), (.i x8), (.i x9)] ∧ I0 [(.i (6 : Int)), (.i x2), (.i x3), (.i x4), (.i x5), (.i x6), (.i x11), (.i x8), (.i x9)] ∧ mu0 [(.i (6 : Int)), (.i x2), (.i x3), (.i x4), (.i x5), (.i x6), (.i x11), (.i x8), (.i x9)] < mu0 [.i x1, .i x2, .i x3, .i x4, .i x5, .i x6, .i x7, .i x8, .i x9]) ∧ ((Cmp.den .le x1 (5 : Int)) = false → ((Cmp.den .le x1 (6 : Int)) = true → Fits [.i (some ((0), (8))), .i (some ((0), (2))), .i (some ((0), (2))), .i (some ((0), (2))), .i (some ((0), (2))), .i (some ((0), (2))), .i (some ((0), (2))), .i (some ((0), (2))), .i (some ((0), (2)))] [(.i (7 : Int)), (.i x2), (.i x3), (.i x4), (.i x5), (.i x6), (.i x7), (.i x11), (.i x9)] ∧ I0 [(.i (7 : Int)), (.i x2), (.i x3), (.i x4), (.i x5), (.i x6), (.i x7), (.i x11), (.i x9)] ∧ mu0 [(.i (7 : Int)), (.i x2), (.i x3), (.i x4), (.i x5), (.i x6), (.i x7), (.i x11), (.i x9)] < mu0 [.i x1, .i x2, .i x3, .i x4, .i x5, .i x6, .i x7, .i x8, .i x9]) ∧ ((Cmp.den .le x1 (6 : Int)) = false → Fits [.i (some ((0), (8))), .i (some ((0), (2))), .i (some ((0), (2))), .i (some ((0), (2))), .i (some ((0), (2))), .i (some ((0), (2))), .i (some ((0), (2))), .i (some ((0), (2))), .i (some ((0), (2)))] [(.i (8 : Int)), (.i x2), (.i x3), (.i x4), (.i x5), (.i x6), (.i x7), (.i x8), (.i x11)] ∧ I0 [(.i (8 : Int)), (.i x2), (.i x3), (.i x4), (.i x5), (.i x6), (.i x7), (.i x8), (.i x11)] ∧ mu0 [(.i (8 : Int)), (.i x2), (.i x3), (.i x4), (.i x5), (.i x6), (.i x7), (.i x8), (.i x11)] < mu0 [.i x1, .i x2, .i x3, .i x4, .i x5, .i x6, .i x7, .i x8, .i x9]))))))))) ∧ ((Cmp.den .lt x1 (8 : Int)) = false → R (Value.agg [(Value.int .i64 x2), (Value.int .i64 x3), (Value.int .i64 x4), (Value.int .i64 x5), (Value.int .i64 x6), (Value.int .i64 x7), (Value.int .i64 x8), (Value.int .i64 x9)].toArray)))) := by kernel_rfl

noncomputable def r14tell_sem : SpecSem := { pre := fun cs => match cs with | [.l l] => InI l ∧ (IsMs l) | _ => False, out := fun cs => match cs with | [.l l] => [.i (refV 1 l), .i (refV 2 l), .i (refV 3 l), .i (refV 4 l), .i (refV 5 l), .i (refV 6 l), .i (refV 7 l), .i (refV 8 l)] | _ => [] }
set_option maxRecDepth 10000 in
set_option maxHeartbeats 16000000 in
theorem r14tell_ok : SpecOK Tryd.prog 21 r14tell_sp r14tell_sem := by
  refine spec_of_tree r14tell_cxok Tryd.func21 (by kernel_rfl) (by kernel_rfl) r14tell_walk rfl ?_
  intro cs hpre
  match cs, hpre with
  | [.l l], ⟨j_l, hx⟩ =>
    refine ⟨rfl, IvsB.ok (by simp only [r14tell_ivs, IvsB, Cv.int, and_true, j_l, true_and] <;> omega), ?_, ?_⟩
    · have q : ∀ k, 0 ≤ refV k l ∧ refV k l ≤ 2 := fun k => ruleV_rng _ _ _
      simp only [r14tell_sem, r14tell_sp, Fits, and_true]
      (repeat' (refine And.intro ?_ ?_)) <;> first | exact (q _).1 | exact (q _).2
    · rw [r14tell_den]
      simp only [r14tell_sem, r14tell_sp, r14rule_sem, r14tell_den, r14rule_sem, Tree.den, LE.den, Cv.list, placeA, List.getElem?_cons_zero, List.getElem?_cons_succ, IE.den, BE.den, At.den, CA.den, Env.get, Cv.int, Cv.bool, List.cons_append, List.nil_append, List.map_cons, List.map_nil, bindRes, bindEq, Fits, SV.den, denL, place, placeL, eq_t, eq_f, lt_t, lt_f, le_t, le_f, beq_iff_eq, beq_eq_false_iff_ne, ne_eq, reduceCtorEq, b_dec, decide_eq_true_eq, decide_eq_false_iff_not, Bool.not_eq_false', Bool.or_eq_true, Bool.or_eq_false_iff, Bool.and_eq_false_iff, true_iff, false_iff, Bool.false_eq_true, Bool.not_eq_true', Bool.and_eq_true, Bool.not_true, Bool.not_false, List.cons.injEq, Cv.i.injEq, Cv.b.injEq, and_true, true_and, agg_inj, tup_inj, Value.int.injEq, Value.bool.injEq, hx, j_l, forall_eq, eq_self, if_true, if_false, true_and, and_true, false_and, and_false, true_or, or_true, false_or, or_false, true_iff, iff_true, false_iff, iff_false, not_true_eq_false, not_false_eq_true, true_implies, false_implies, implies_true, forall_const, decide_true, decide_false, reduceCtorEq]
      refine ⟨fun vs => match vs with | [.i k, .i a1, .i a2, .i a3, .i a4, .i a5, .i a6, .i a7, .i a8] => (0 < k → a1 = refV 1 l) ∧ (1 < k → a2 = refV 2 l) ∧ (2 < k → a3 = refV 3 l) ∧ (3 < k → a4 = refV 4 l) ∧ (4 < k → a5 = refV 5 l) ∧ (5 < k → a6 = refV 6 l) ∧ (6 < k → a7 = refV 7 l) ∧ (7 < k → a8 = refV 8 l) | _ => False, fun vs => match vs with | .i k :: _ => (8 - k).toNat | _ => 0, (by omega), (by omega), ?_⟩
      intro k k0 k1 a1 a10 a11 a2 a20 a21 a3 a30 a31 a4 a40 a41 a5 a50 a51 a6 a60 a61 a7 a70 a71 a8 a80 a81 hJ
      have hJ : (0 < k → a1 = refV 1 l) ∧ (1 < k → a2 = refV 2 l) ∧ (2 < k → a3 = refV 3 l) ∧ (3 < k → a4 = refV 4 l) ∧ (4 < k → a5 = refV 5 l) ∧ (5 < k → a6 = refV 6 l) ∧ (6 < k → a7 = refV 7 l) ∧ (7 < k → a8 = refV 8 l) := hJ
      have q : ∀ k, 0 ≤ refV k l ∧ refV k l ≤ 2 := fun k => ruleV_rng _ _ _
      have hk : k = 0 ∨ k = 1 ∨ k = 2 ∨ k = 3 ∨ k = 4 ∨ k = 5 ∨ k = 6 ∨ k = 7 ∨ k = 8 := by omega
      rcases hk with rfl | rfl | rfl | rfl | rfl | rfl | rfl | rfl | rfl
      all_goals simp only [Int.reduceLE, Int.reduceLT, Int.reduceAdd, if_true, if_false, true_and, and_true, false_and, and_false, true_or, or_true, false_or, or_false, true_iff, iff_true, false_iff, iff_false, not_true_eq_false, not_false_eq_true, true_implies, false_implies, implies_true, forall_const, decide_true, decide_false, reduceCtorEq] at hJ ⊢
      all_goals try simp only [hJ, q, eq_self, if_true, if_false, true_and, and_true, false_and, and_false, true_or, or_true, false_or, or_false, true_iff, iff_true, false_iff, iff_false, not_true_eq_false, not_false_eq_true, true_implies, false_implies, implies_true, forall_const, decide_true, decide_false, reduceCtorEq]
      all_goals (repeat' (first | intro _ | refine And.intro ?_ ?_ | exact trivial)) <;> first | exact (q _).1 | exact (q _).2 | omega | (show (8 - _ : Int).toNat < (8 - _ : Int).toNat; decide)
end Go.Proofs.YtmnpeneplobpdaaDoor.X
