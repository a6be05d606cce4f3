/-
  factor: Factor, All, Nearest, by contract.
-/
import Derived.Test.YtdhhkoghfggkfaaSxFctAt4
namespace Go.Proofs.Ytdhhkoghfggkfaa.X
open Go Go.SX
set_option linter.unusedVariables false
set_option linter.unusedSimpArgs false




def IsI (x : Int) : Prop := -9223372036854775808 ≤ x ∧ x ≤ 9223372036854775807
def facE (k n : Int) : Int := if 0 ≤ k ∧ k ≤ 6 then if 2 ≤ n ∧ n ≤ 10 then 0 else 3 else 1
def facV (k n : Int) : Int := if 0 ≤ k ∧ k ≤ 6 then if 2 ≤ n ∧ n ≤ 10 then ftab k n else 0 else 0
def allE (n : Int) : Int := if 2 ≤ n ∧ n ≤ 10 then 0 else 3
def allV (i n : Int) : Int := if 2 ≤ n ∧ n ≤ 10 then ftab i n else 0
theorem facE_rng (k n : Int) : 0 ≤ facE k n ∧ facE k n ≤ 3 := by unfold facE; (repeat' split) <;> omega
theorem facV_rng (k n : Int) : 0 ≤ facV k n ∧ facV k n ≤ 32670 := by have := ftab_rng k n; unfold facV; (repeat' split) <;> omega
theorem allE_rng (n : Int) : 0 ≤ allE n ∧ allE n ≤ 3 := by unfold allE; split <;> omega
theorem allV_rng (i n : Int) : 0 ≤ allV i n ∧ allV i n ≤ 32670 := by have := ftab_rng i n; unfold allV; split <;> omega
theorem allV_top (i : Int) (hi : 0 ≤ i ∧ i ≤ 6) (n : Int) : allV i n ≤ [18800, 2230, 32670, 30780, 26590, 2840, 32670].getD i.toNat 0 := by
  unfold allV
  split
  · rename_i h
    have h1 : i = 0 ∨ i = 1 ∨ i = 2 ∨ i = 3 ∨ i = 4 ∨ i = 5 ∨ i = 6 := by omega
    have h2 : n = 2 ∨ n = 3 ∨ n = 4 ∨ n = 5 ∨ n = 6 ∨ n = 7 ∨ n = 8 ∨ n = 9 ∨ n = 10 := by omega
    rcases h1 with rfl | rfl | rfl | rfl | rfl | rfl | rfl <;> rcases h2 with rfl | rfl | rfl | rfl | rfl | rfl | rfl | rfl | rfl <;> decide
  · have h1 : i = 0 ∨ i = 1 ∨ i = 2 ∨ i = 3 ∨ i = 4 ∨ i = 5 ∨ i = 6 := by omega
    rcases h1 with rfl | rfl | rfl | rfl | rfl | rfl | rfl <;> decide
def ffac_sp : SpecSh := { args := [(.int .i64 (.z 0)), (.int .i64 (.z 0))], res := (.tup [(.int .i64 (.z 0)), (.int .i64 (.z 0))]), sh := [.i (some (0, 32670)), .i (some (0, 3))] }
set_option maxRecDepth 100000 in
def ffac_tree : Tree :=
.ite (.cmp .le (.z 0) (.v 0)) (.ite (.not (.cmp .lt (.v 0) (.z 7))) (.ret (.tup [(.int .i64 (.z 0)), (.int .i64 (.z 1))])) <|
.ite (.cmp .le (.z 2) (.v 1)) (.ite (.not (.cmp .le (.v 1) (.z 10))) (.ret (.tup [(.int .i64 (.z 0)), (.int .i64 (.z 3))])) <|
.call 15 [.i (some (0, 32670))] [.i (.v 0), .i (.v 1)] <|
.ret (.tup [(.int .i64 (.v 2)), (.int .i64 (.z 0))])) <|
.ret (.tup [(.int .i64 (.z 0)), (.int .i64 (.z 3))])) <|
.ret (.tup [(.int .i64 (.z 0)), (.int .i64 (.z 1))])
noncomputable def ffac_cx : Ctx := { tys := tys, fns := fns, sps := [], anns := [], trys := [], ats := [(15, fat_at)] }
def ffac_ivs : List (Option (Int × Int)) := [some ((-9223372036854775808), 9223372036854775807), some ((-9223372036854775808), 9223372036854775807)]
set_option maxRecDepth 100000 in
theorem ffac_walk : runFn ffac_cx 3000 9 Try.f9 ffac_sp.args ffac_ivs = ffac_tree := by kernel_rfl
noncomputable def ffac_M : Nat → SpecSem
  | 15 => fat_sem
  | _ => noSem
theorem ffac_M15 : ffac_M 15 = fat_sem := rfl
theorem ffac_cxok : CxOK Try.prog ffac_cx ffac_M := ⟨tysOK, fnsOK, fun _ _ h => spNil h, mixedOK, fun _ _ h => trNil h, atCons fat_ok <| fun _ _ h => atNil h⟩
set_option maxRecDepth 100000 in
set_option maxHeartbeats 8000000 in
theorem ffac_den (R RP : Value → Prop) (F : Ex → St → Js → Env → Prop) (J : Js) (x0 : Int) (x1 : Int) : Tree.den ffac_M R RP F ffac_tree J [(.i x0), (.i x1)] = (
  ((Cmp.den .le (0 : Int) x0) = true → ((!(Cmp.den .lt x0 (7 : Int))) = true → R (Value.tuple [(Value.int .i64 (0 : Int)), (Value.int .i64 (1 : Int))].toArray)) ∧ ((!(Cmp.den .lt x0 (7 : Int))) = false → ((Cmp.den .le (2 : Int) x1) = true → ((!(Cmp.den .le x1 (10 : Int))) = true → R (Value.tuple [(Value.int .i64 (0 : Int)), (Value.int .i64 (3 : Int))].toArray)) ∧ ((!(Cmp.den .le x1 (10 : Int))) = false → (fat_sem.pre [(.i x0), (.i x1)]) ∧ (
∀ x2 : Int, x2 = (Cv.int (Env.get (fat_sem.out [(.i x0), (.i x1)]) 0)) → (0 : Int) ≤ x2 → x2 ≤ (32670 : Int) →
R (Value.tuple [(Value.int .i64 x2), (Value.int .i64 (0 : Int))].toArray)))) ∧ ((Cmp.den .le (2 : Int) x1) = false → R (Value.tuple [(Value.int .i64 (0 : Int)), (Value.int .i64 (3 : Int))].toArray)))) ∧ ((Cmp.den .le (0 : Int) x0) = false → R (Value.tuple [(Value.int .i64 (0 : Int)), (Value.int .i64 (1 : Int))].toArray))) := by kernel_rfl

def ffac_sem : SpecSem := { pre := fun cs => match cs with | [.i k, .i n] => IsI k ∧ IsI n | _ => False, out := fun cs => match cs with | [.i k, .i n] => [.i (facV k n), .i (facE k n)] | _ => [] }
set_option maxRecDepth 10000 in
set_option maxHeartbeats 16000000 in
theorem ffac_ok : SpecOK Try.prog 9 ffac_sp ffac_sem := by
  refine spec_of_tree ffac_cxok Try.func9 (by kernel_rfl) (by kernel_rfl) ffac_walk rfl ?_
  intro cs hpre
  match cs, hpre with
  | [.i k, .i n], ⟨j_k, j_n⟩ =>
    have h_k := j_k
    unfold IsI at h_k
    have h_n := j_n
    unfold IsI at h_n
    refine ⟨rfl, IvsB.ok (by simp only [ffac_ivs, IvsB, Cv.int, and_true] <;> omega), ?_, ?_⟩
    · have h1 := facE_rng k n; have h2 := facV_rng k n
      simp only [ffac_sem, ffac_sp, Fits, and_true]; omega
    · rw [ffac_den]
      have hr := ftab_rng k n
      simp only [ffac_sem, ffac_sp, ffac_den, fat_sem, Tree.den, LE.den, Cv.list, placeA, List.getElem?_cons_zero, List.getElem?_cons_succ, IE.den, BE.den, At.den, CA.den, Env.get, Cv.int, Cv.bool, List.cons_append, List.nil_append, List.map_cons, List.map_nil, bindRes, bindEq, Fits, SV.den, denL, place, placeL, eq_t, eq_f, lt_t, lt_f, le_t, le_f, beq_iff_eq, beq_eq_false_iff_ne, ne_eq, reduceCtorEq, b_dec, decide_eq_true_eq, decide_eq_false_iff_not, Bool.not_eq_false', Bool.or_eq_true, Bool.or_eq_false_iff, Bool.and_eq_false_iff, true_iff, false_iff, Bool.false_eq_true, Bool.not_eq_true', Bool.and_eq_true, Bool.not_true, Bool.not_false, List.cons.injEq, Cv.i.injEq, Cv.b.injEq, and_true, true_and, agg_inj, tup_inj, Value.int.injEq, Value.bool.injEq, facV, facE]
      by_cases h1 : 0 ≤ k ∧ k ≤ 6
      · by_cases h2 : 2 ≤ n ∧ n ≤ 10
        · simp only [h1, h2, h1.1, h1.2, h2.1, h2.2, and_self, forall_eq, if_true, if_false, true_and, and_true, false_and, and_false, true_or, or_true, false_or, or_false, true_iff, iff_true, false_iff, iff_false, not_true_eq_false, not_false_eq_true, true_implies, false_implies, implies_true, forall_const, decide_true, decide_false, reduceCtorEq]
          (repeat' (first | intro _ | refine And.intro ?_ ?_ | exact trivial)) <;> omega
        · simp only [h1, h2, h1.1, h1.2, and_self, forall_eq, if_true, if_false, true_and, and_true, false_and, and_false, true_or, or_true, false_or, or_false, true_iff, iff_true, false_iff, iff_false, not_true_eq_false, not_false_eq_true, true_implies, false_implies, implies_true, forall_const, decide_true, decide_false, reduceCtorEq]
          (repeat' (first | intro _ | refine And.intro ?_ ?_ | exact trivial)) <;> omega
      · simp only [h1, forall_eq, if_true, if_false, true_and, and_true, false_and, and_false, true_or, or_true, false_or, or_false, true_iff, iff_true, false_iff, iff_false, not_true_eq_false, not_false_eq_true, true_implies, false_implies, implies_true, forall_const, decide_true, decide_false, reduceCtorEq]
        (repeat' (first | intro _ | refine And.intro ?_ ?_ | exact trivial)) <;> omega
def fall_sp : SpecSh := { args := [(.int .i64 (.z 0))], res := (.tup [(.agg [(.int .i64 (.z 0)), (.int .i64 (.z 0)), (.int .i64 (.z 0)), (.int .i64 (.z 0)), (.int .i64 (.z 0)), (.int .i64 (.z 0)), (.int .i64 (.z 0))]), (.int .i64 (.z 0))]), sh := [.i (some (0, 18800)), .i (some (0, 2230)), .i (some (0, 32670)), .i (some (0, 30780)), .i (some (0, 26590)), .i (some (0, 2840)), .i (some (0, 32670)), .i (some (0, 3))] }
set_option maxRecDepth 100000 in
def fall_tree : Tree :=
.ite (.cmp .le (.z 2) (.v 0)) (.ite (.not (.cmp .le (.v 0) (.z 10))) (.ret (.tup [(.agg [(.int .i64 (.z 0)), (.int .i64 (.z 0)), (.int .i64 (.z 0)), (.int .i64 (.z 0)), (.int .i64 (.z 0)), (.int .i64 (.z 0)), (.int .i64 (.z 0))]), (.int .i64 (.z 3))])) <|
.call 15 [.i (some (0, 32670))] [.i (.z 0), .i (.v 0)] <|
.call 15 [.i (some (0, 32670))] [.i (.z 1), .i (.v 0)] <|
.call 15 [.i (some (0, 32670))] [.i (.z 2), .i (.v 0)] <|
.call 15 [.i (some (0, 32670))] [.i (.z 3), .i (.v 0)] <|
.call 15 [.i (some (0, 32670))] [.i (.z 4), .i (.v 0)] <|
.call 15 [.i (some (0, 32670))] [.i (.z 5), .i (.v 0)] <|
.call 15 [.i (some (0, 32670))] [.i (.z 6), .i (.v 0)] <|
.ret (.tup [(.agg [(.int .i64 (.v 1)), (.int .i64 (.v 2)), (.int .i64 (.v 3)), (.int .i64 (.v 4)), (.int .i64 (.v 5)), (.int .i64 (.v 6)), (.int .i64 (.v 7))]), (.int .i64 (.z 0))])) <|
.ret (.tup [(.agg [(.int .i64 (.z 0)), (.int .i64 (.z 0)), (.int .i64 (.z 0)), (.int .i64 (.z 0)), (.int .i64 (.z 0)), (.int .i64 (.z 0)), (.int .i64 (.z 0))]), (.int .i64 (.z 3))])
noncomputable def fall_cx : Ctx := { tys := tys, fns := fns, sps := [], anns := [], trys := [], ats := [(15, fat_at)] }
def fall_ivs : List (Option (Int × Int)) := [some ((-9223372036854775808), 9223372036854775807)]
set_option maxRecDepth 100000 in
theorem fall_walk : runFn fall_cx 3000 6 Try.f6 fall_sp.args fall_ivs = fall_tree := by kernel_rfl
noncomputable def fall_M : Nat → SpecSem
  | 15 => fat_sem
  | _ => noSem
theorem fall_M15 : fall_M 15 = fat_sem := rfl
theorem fall_cxok : CxOK Try.prog fall_cx fall_M := ⟨tysOK, fnsOK, fun _ _ h => spNil h, mixedOK, fun _ _ h => trNil h, atCons fat_ok <| fun _ _ h => atNil h⟩
set_option maxRecDepth 100000 in
set_option maxHeartbeats 8000000 in
theorem fall_den (R RP : Value → Prop) (F : Ex → St → Js → Env → Prop) (J : Js) (x0 : Int) : Tree.den fall_M R RP F fall_tree J [(.i x0)] = (
  ((Cmp.den .le (2 : Int) x0) = true → ((!(Cmp.den .le x0 (10 : Int))) = true → R (Value.tuple [(Value.agg [(Value.int .i64 (0 : Int)), (Value.int .i64 (0 : Int)), (Value.int .i64 (0 : Int)), (Value.int .i64 (0 : Int)), (Value.int .i64 (0 : Int)), (Value.int .i64 (0 : Int)), (Value.int .i64 (0 : Int))].toArray), (Value.int .i64 (3 : Int))].toArray)) ∧ ((!(Cmp.den .le x0 (10 : Int))) = false → (fat_sem.pre [(.i (0 : Int)), (.i x0)]) ∧ (
∀ x1 : Int, x1 = (Cv.int (Env.get (fat_sem.out [(.i (0 : Int)), (.i x0)]) 0)) → (0 : Int) ≤ x1 → x1 ≤ (32670 : Int) →
(fat_sem.pre [(.i (1 : Int)), (.i x0)]) ∧ (
∀ x2 : Int, x2 = (Cv.int (Env.get (fat_sem.out [(.i (1 : Int)), (.i x0)]) 0)) → (0 : Int) ≤ x2 → x2 ≤ (32670 : Int) →
(fat_sem.pre [(.i (2 : Int)), (.i x0)]) ∧ (
∀ x3 : Int, x3 = (Cv.int (Env.get (fat_sem.out [(.i (2 : Int)), (.i x0)]) 0)) → (0 : Int) ≤ x3 → x3 ≤ (32670 : Int) →
(fat_sem.pre [(.i (3 : Int)), (.i x0)]) ∧ (
∀ x4 : Int, x4 = (Cv.int (Env.get (fat_sem.out [(.i (3 : Int)), (.i x0)]) 0)) → (0 : Int) ≤ x4 → x4 ≤ (32670 : Int) →
(fat_sem.pre [(.i (4 : Int)), (.i x0)]) ∧ (
∀ x5 : Int, x5 = (Cv.int (Env.get (fat_sem.out [(.i (4 : Int)), (.i x0)]) 0)) → (0 : Int) ≤ x5 → x5 ≤ (32670 : Int) →
(fat_sem.pre [(.i (5 : Int)), (.i x0)]) ∧ (
∀ x6 : Int, x6 = (Cv.int (Env.get (fat_sem.out [(.i (5 : Int)), (.i x0)]) 0)) → (0 : Int) ≤ x6 → x6 ≤ (32670 : Int) →
(fat_sem.pre [(.i (6 : Int)), (.i x0)]) ∧ (
∀ x7 : Int, x7 = (Cv.int (Env.get (fat_sem.out [(.i (6 : Int)), (.i x0)]) 0)) → (0 : Int) ≤ x7 → x7 ≤ (32670 : Int) →
R (Value.tuple [(Value.agg [(Value.int .i64 x1), (Value.int .i64 x2), (Value.int .i64 x3), (Value.int .i64 x4), (Value.int .i64 x5), (Value.int .i64 x6), (Value.int .i64 x7)].toArray), (Value.int .i64 (0 : Int))].toArray)))))))))) ∧ ((Cmp.den .le (2 : Int) x0) = false → R (Value.tuple [(Value.agg [(Value.int .i64 (0 : Int)), (Value.int .i64 (0 : Int)), (Value.int .i64 (0 : Int)), (Value.int .i64 (0 : Int)), (Value.int .i64 (0 : Int)), (Value.int .i64 (0 : Int)), (Value.int .i64 (0 : Int))].toArray), (Value.int .i64 (3 : Int))].toArray))) := by kernel_rfl

def fall_sem : SpecSem := { pre := fun cs => match cs with | [.i n] => IsI n | _ => False, out := fun cs => match cs with | [.i n] => [.i (allV 0 n), .i (allV 1 n), .i (allV 2 n), .i (allV 3 n), .i (allV 4 n), .i (allV 5 n), .i (allV 6 n), .i (allE n)] | _ => [] }
set_option maxRecDepth 10000 in
set_option maxHeartbeats 16000000 in
theorem fall_ok : SpecOK Try.prog 6 fall_sp fall_sem := by
  refine spec_of_tree fall_cxok Try.func6 (by kernel_rfl) (by kernel_rfl) fall_walk rfl ?_
  intro cs hpre
  match cs, hpre with
  | [.i n], j_n =>
    have j_n : IsI n := j_n
    have h_n := j_n
    unfold IsI at h_n
    refine ⟨rfl, IvsB.ok (by simp only [fall_ivs, IvsB, Cv.int, and_true] <;> omega), ?_, ?_⟩
    · have h1 := allE_rng n; have h2 := fun i => allV_rng i n
      have a0 := h2 0; have a1 := h2 1; have a2 := h2 2; have a3 := h2 3; have a4 := h2 4; have a5 := h2 5; have a6 := h2 6
      have b0 : allV 0 n ≤ 18800 := allV_top 0 (by omega) n
      have b1 : allV 1 n ≤ 2230 := allV_top 1 (by omega) n
      have b2 : allV 2 n ≤ 32670 := allV_top 2 (by omega) n
      have b3 : allV 3 n ≤ 30780 := allV_top 3 (by omega) n
      have b4 : allV 4 n ≤ 26590 := allV_top 4 (by omega) n
      have b5 : allV 5 n ≤ 2840 := allV_top 5 (by omega) n
      have b6 : allV 6 n ≤ 32670 := allV_top 6 (by omega) n
      simp only [fall_sem, fall_sp, Fits, and_true]; omega
    · rw [fall_den]
      simp only [fall_sem, fall_sp, fall_den, fat_sem, Tree.den, LE.den, Cv.list, placeA, List.getElem?_cons_zero, List.getElem?_cons_succ, IE.den, BE.den, At.den, CA.den, Env.get, Cv.int, Cv.bool, List.cons_append, List.nil_append, List.map_cons, List.map_nil, bindRes, bindEq, Fits, SV.den, denL, place, placeL, eq_t, eq_f, lt_t, lt_f, le_t, le_f, beq_iff_eq, beq_eq_false_iff_ne, ne_eq, reduceCtorEq, b_dec, decide_eq_true_eq, decide_eq_false_iff_not, Bool.not_eq_false', Bool.or_eq_true, Bool.or_eq_false_iff, Bool.and_eq_false_iff, true_iff, false_iff, Bool.false_eq_true, Bool.not_eq_true', Bool.and_eq_true, Bool.not_true, Bool.not_false, List.cons.injEq, Cv.i.injEq, Cv.b.injEq, and_true, true_and, agg_inj, tup_inj, Value.int.injEq, Value.bool.injEq, allV, allE]
      by_cases h2 : 2 ≤ n ∧ n ≤ 10
      · simp only [h2, h2.1, h2.2, and_self, forall_eq, if_true, if_false, true_and, and_true, false_and, and_false, true_or, or_true, false_or, or_false, true_iff, iff_true, false_iff, iff_false, not_true_eq_false, not_false_eq_true, true_implies, false_implies, implies_true, forall_const, decide_true, decide_false, reduceCtorEq]
        (repeat' (first | intro _ | refine And.intro ?_ ?_ | exact trivial)) <;> omega
      · simp only [h2, forall_eq, if_true, if_false, true_and, and_true, false_and, and_false, true_or, or_true, false_or, or_false, true_iff, iff_true, false_iff, iff_false, not_true_eq_false, not_false_eq_true, true_implies, false_implies, implies_true, forall_const, decide_true, decide_false, reduceCtorEq]
        (repeat' (first | intro _ | refine And.intro ?_ ?_ | exact trivial)) <;> omega
end Go.Proofs.Ytdhhkoghfggkfaa.X
