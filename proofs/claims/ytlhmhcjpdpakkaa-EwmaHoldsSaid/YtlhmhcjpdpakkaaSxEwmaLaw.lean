/-
  EwmaReaches tells true, for every input.
-/
import Derived.Test.YtlhmhcjpdpakkaaSxEwmaNext
namespace Go.Proofs.Ytlhmhcjpdpakkaa.X
open Go Go.SX Go.RowKit
set_option linter.unusedVariables false
set_option linter.unusedSimpArgs false








def eal_sp : SpecSh := { args := [], res := (.bool .f), sh := [.b] }
set_option maxRecDepth 100000 in
def eal_tree : Tree :=
.call 133 [.i (some ((-9223372036854775808), 9223372036854775807)), .i (some ((-9223372036854775808), 9223372036854775807)), .i (some ((-9223372036854775808), 9223372036854775807)), .i (some ((-9223372036854775808), 9223372036854775807)), .i (some ((-9223372036854775808), 9223372036854775807)), .i (some ((-9223372036854775808), 9223372036854775807)), .i (some ((-9223372036854775808), 9223372036854775807)), .i (some ((-9223372036854775808), 9223372036854775807)), .i (some ((-9223372036854775808), 9223372036854775807))] [.i (.z 0), .i (.z 20), .i (.z 10)] <|
.call 71 [.i (some ((-9223372036854775808), 9223372036854775807)), .i (some ((-9223372036854775808), 9223372036854775807)), .i (some ((-9223372036854775808), 9223372036854775807)), .i (some ((-9223372036854775808), 9223372036854775807)), .i (some ((-9223372036854775808), 9223372036854775807)), .i (some ((-9223372036854775808), 9223372036854775807)), .i (some ((-9223372036854775808), 9223372036854775807)), .i (some ((-9223372036854775808), 9223372036854775807)), .b, .i (some ((-9223372036854775808), 9223372036854775807))] [.i (.v 0), .i (.v 1), .i (.v 2), .i (.v 3), .i (.v 4), .i (.v 5), .i (.v 6), .i (.v 7), .i (.z 5)] <|
.call 77 [.i (some ((-9223372036854775808), 9223372036854775807)), .i (some ((-9223372036854775808), 9223372036854775807)), .i (some ((-9223372036854775808), 9223372036854775807))] [.i (.v 9), .i (.v 10), .i (.v 11), .i (.v 12), .i (.v 13), .i (.v 14), .i (.v 15), .i (.v 16)] <|
.ite (.cmp .eq (.v 8) (.z 0)) (.ite (.cmp .eq (.v 18) (.z 0)) (.ite (.cmp .eq (.v 21) (.z 0)) (.ite (.not (.v 17)) (.ite (.cmp .eq (.v 13) (.z 1000)) (.ite (.cmp .eq (.v 16) (.z 640000)) (.ite (.cmp .eq (.v 19) (.z 6000)) (.ret (.bool (.cmp .eq (.v 20) (.z 6000)))) <|
.ret (.bool .f)) <|
.ret (.bool .f)) <|
.ret (.bool .f)) <|
.ret (.bool .f)) <|
.ret (.bool .f)) <|
.ret (.bool .f)) <|
.ret (.bool .f)
noncomputable def eal_cx : Ctx := { tys := tys, fns := fns, sps := [(133, enew_sp), (71, enext_sp), (77, ereach_sp)], anns := [], trys := [] }
def eal_ivs : List (Option (Int × Int)) := []
set_option maxRecDepth 100000 in
theorem eal_walk : runFn eal_cx 3000 70 Try.f70 eal_sp.args eal_ivs = eal_tree := by kernel_rfl
noncomputable def eal_M : Nat → SpecSem
  | 133 => enew_sem
  | 71 => enext_sem
  | 77 => ereach_sem
  | _ => noSem
theorem eal_M133 : eal_M 133 = enew_sem := rfl
theorem eal_M71 : eal_M 71 = enext_sem := rfl
theorem eal_M77 : eal_M 77 = ereach_sem := rfl
theorem eal_cxok : CxOK Try.prog eal_cx eal_M := ⟨tysOK, fnsOK, spCons enew_ok <| spCons enext_ok <| spCons ereach_ok <| fun _ _ h => spNil h, mixedOK, fun _ _ h => trNil h⟩
set_option maxRecDepth 100000 in
set_option maxHeartbeats 8000000 in
theorem eal_den (R RP : Value → Prop) (F : Ex → St → Js → Env → Prop) (J : Js)  : Tree.den eal_M R RP F eal_tree J [] = (
  (enew_sem.pre [(.i (0 : Int)), (.i (20 : Int)), (.i (10 : Int))]) ∧ (
∀ x0 : Int, x0 = (Cv.int (Env.get (enew_sem.out [(.i (0 : Int)), (.i (20 : Int)), (.i (10 : Int))]) 0)) → (-9223372036854775808 : Int) ≤ x0 → x0 ≤ (9223372036854775807 : Int) →
∀ x1 : Int, x1 = (Cv.int (Env.get (enew_sem.out [(.i (0 : Int)), (.i (20 : Int)), (.i (10 : Int))]) 1)) → (-9223372036854775808 : Int) ≤ x1 → x1 ≤ (9223372036854775807 : Int) →
∀ x2 : Int, x2 = (Cv.int (Env.get (enew_sem.out [(.i (0 : Int)), (.i (20 : Int)), (.i (10 : Int))]) 2)) → (-9223372036854775808 : Int) ≤ x2 → x2 ≤ (9223372036854775807 : Int) →
∀ x3 : Int, x3 = (Cv.int (Env.get (enew_sem.out [(.i (0 : Int)), (.i (20 : Int)), (.i (10 : Int))]) 3)) → (-9223372036854775808 : Int) ≤ x3 → x3 ≤ (9223372036854775807 : Int) →
∀ x4 : Int, x4 = (Cv.int (Env.get (enew_sem.out [(.i (0 : Int)), (.i (20 : Int)), (.i (10 : Int))]) 4)) → (-9223372036854775808 : Int) ≤ x4 → x4 ≤ (9223372036854775807 : Int) →
∀ x5 : Int, x5 = (Cv.int (Env.get (enew_sem.out [(.i (0 : Int)), (.i (20 : Int)), (.i (10 : Int))]) 5)) → (-9223372036854775808 : Int) ≤ x5 → x5 ≤ (9223372036854775807 : Int) →
∀ x6 : Int, x6 = (Cv.int (Env.get (enew_sem.out [(.i (0 : Int)), (.i (20 : Int)), (.i (10 : Int))]) 6)) → (-9223372036854775808 : Int) ≤ x6 → x6 ≤ (9223372036854775807 : Int) →
∀ x7 : Int, x7 = (Cv.int (Env.get (enew_sem.out [(.i (0 : Int)), (.i (20 : Int)), (.i (10 : Int))]) 7)) → (-9223372036854775808 : Int) ≤ x7 → x7 ≤ (9223372036854775807 : Int) →
∀ x8 : Int, x8 = (Cv.int (Env.get (enew_sem.out [(.i (0 : Int)), (.i (20 : Int)), (.i (10 : Int))]) 8)) → (-9223372036854775808 : Int) ≤ x8 → x8 ≤ (9223372036854775807 : Int) →
(enext_sem.pre [(.i x0), (.i x1), (.i x2), (.i x3), (.i x4), (.i x5), (.i x6), (.i x7), (.i (5 : Int))]) ∧ (
∀ x9 : Int, x9 = (Cv.int (Env.get (enext_sem.out [(.i x0), (.i x1), (.i x2), (.i x3), (.i x4), (.i x5), (.i x6), (.i x7), (.i (5 : Int))]) 0)) → (-9223372036854775808 : Int) ≤ x9 → x9 ≤ (9223372036854775807 : Int) →
∀ x10 : Int, x10 = (Cv.int (Env.get (enext_sem.out [(.i x0), (.i x1), (.i x2), (.i x3), (.i x4), (.i x5), (.i x6), (.i x7), (.i (5 : Int))]) 1)) → (-9223372036854775808 : Int) ≤ x10 → x10 ≤ (9223372036854775807 : Int) →
∀ x11 : Int, x11 = (Cv.int (Env.get (enext_sem.out [(.i x0), (.i x1), (.i x2), (.i x3), (.i x4), (.i x5), (.i x6), (.i x7), (.i (5 : Int))]) 2)) → (-9223372036854775808 : Int) ≤ x11 → x11 ≤ (9223372036854775807 : Int) →
∀ x12 : Int, x12 = (Cv.int (Env.get (enext_sem.out [(.i x0), (.i x1), (.i x2), (.i x3), (.i x4), (.i x5), (.i x6), (.i x7), (.i (5 : Int))]) 3)) → (-9223372036854775808 : Int) ≤ x12 → x12 ≤ (9223372036854775807 : Int) →
∀ x13 : Int, x13 = (Cv.int (Env.get (enext_sem.out [(.i x0), (.i x1), (.i x2), (.i x3), (.i x4), (.i x5), (.i x6), (.i x7), (.i (5 : Int))]) 4)) → (-9223372036854775808 : Int) ≤ x13 → x13 ≤ (9223372036854775807 : Int) →
∀ x14 : Int, x14 = (Cv.int (Env.get (enext_sem.out [(.i x0), (.i x1), (.i x2), (.i x3), (.i x4), (.i x5), (.i x6), (.i x7), (.i (5 : Int))]) 5)) → (-9223372036854775808 : Int) ≤ x14 → x14 ≤ (9223372036854775807 : Int) →
∀ x15 : Int, x15 = (Cv.int (Env.get (enext_sem.out [(.i x0), (.i x1), (.i x2), (.i x3), (.i x4), (.i x5), (.i x6), (.i x7), (.i (5 : Int))]) 6)) → (-9223372036854775808 : Int) ≤ x15 → x15 ≤ (9223372036854775807 : Int) →
∀ x16 : Int, x16 = (Cv.int (Env.get (enext_sem.out [(.i x0), (.i x1), (.i x2), (.i x3), (.i x4), (.i x5), (.i x6), (.i x7), (.i (5 : Int))]) 7)) → (-9223372036854775808 : Int) ≤ x16 → x16 ≤ (9223372036854775807 : Int) →
∀ x18 : Int, x18 = (Cv.int (Env.get (enext_sem.out [(.i x0), (.i x1), (.i x2), (.i x3), (.i x4), (.i x5), (.i x6), (.i x7), (.i (5 : Int))]) 9)) → (-9223372036854775808 : Int) ≤ x18 → x18 ≤ (9223372036854775807 : Int) →
(ereach_sem.pre [(.i x9), (.i x10), (.i x11), (.i x12), (.i x13), (.i x14), (.i x15), (.i x16)]) ∧ (
∀ x19 : Int, x19 = (Cv.int (Env.get (ereach_sem.out [(.i x9), (.i x10), (.i x11), (.i x12), (.i x13), (.i x14), (.i x15), (.i x16)]) 0)) → (-9223372036854775808 : Int) ≤ x19 → x19 ≤ (9223372036854775807 : Int) →
∀ x20 : Int, x20 = (Cv.int (Env.get (ereach_sem.out [(.i x9), (.i x10), (.i x11), (.i x12), (.i x13), (.i x14), (.i x15), (.i x16)]) 1)) → (-9223372036854775808 : Int) ≤ x20 → x20 ≤ (9223372036854775807 : Int) →
∀ x21 : Int, x21 = (Cv.int (Env.get (ereach_sem.out [(.i x9), (.i x10), (.i x11), (.i x12), (.i x13), (.i x14), (.i x15), (.i x16)]) 2)) → (-9223372036854775808 : Int) ≤ x21 → x21 ≤ (9223372036854775807 : Int) →
((Cmp.den .eq x8 (0 : Int)) = true → ((Cmp.den .eq x18 (0 : Int)) = true → ((Cmp.den .eq x21 (0 : Int)) = true → ((!(Cv.bool (Env.get (enext_sem.out [(.i x0), (.i x1), (.i x2), (.i x3), (.i x4), (.i x5), (.i x6), (.i x7), (.i (5 : Int))]) 8))) = true → ((Cmp.den .eq x13 (1000 : Int)) = true → ((Cmp.den .eq x16 (640000 : Int)) = true → ((Cmp.den .eq x19 (6000 : Int)) = true → R (Value.bool (Cmp.den .eq x20 (6000 : Int)))) ∧ ((Cmp.den .eq x19 (6000 : Int)) = false → R (Value.bool false))) ∧ ((Cmp.den .eq x16 (640000 : Int)) = false → R (Value.bool false))) ∧ ((Cmp.den .eq x13 (1000 : Int)) = false → R (Value.bool false))) ∧ ((!(Cv.bool (Env.get (enext_sem.out [(.i x0), (.i x1), (.i x2), (.i x3), (.i x4), (.i x5), (.i x6), (.i x7), (.i (5 : Int))]) 8))) = false → R (Value.bool false))) ∧ ((Cmp.den .eq x21 (0 : Int)) = false → R (Value.bool false))) ∧ ((Cmp.den .eq x18 (0 : Int)) = false → R (Value.bool false))) ∧ ((Cmp.den .eq x8 (0 : Int)) = false → R (Value.bool false)))))) := by kernel_rfl

def eal_sem : SpecSem := { pre := fun cs => match cs with | [] => True | _ => False, out := fun cs => match cs with | [] => [.b true] | _ => [] }
set_option maxRecDepth 10000 in
set_option maxHeartbeats 16000000 in
theorem eal_ok : SpecOK Try.prog 70 eal_sp eal_sem := by
  refine spec_of_tree eal_cxok Try.func70 (by kernel_rfl) (by kernel_rfl) eal_walk rfl ?_
  intro cs hpre
  match cs, hpre with
  | [], _ =>
    refine ⟨rfl, IvsB.ok (by simp only [eal_ivs, IvsB, Cv.int, and_true] <;> omega), ?_, ?_⟩
    · simp only [eal_sem, eal_sp, Fits]
    · rw [eal_den]
      have s0 : szOK 0 20 10 := by unfold szOK; omega
      have e0 : ewOK 0 20 10 0 0 0 1000000 1000000 := ⟨s0, by omega, Or.inl ⟨rfl, by omega, by omega, rfl, rfl⟩⟩
      have n0 : nxOK 0 20 10 0 0 0 1000000 1000000 5 := ⟨e0, by omega, by omega⟩
      have a1 : nxA 20 5 0 = 1000 := by unfold nxA; rw [dn_pos (by omega)]; omega
      have a2 : nxB 20 5 0 = 1000 := by unfold nxB; rw [up_pos (by omega)]; omega
      have a3 : nxC 20 1000000 = 640000 := by unfold nxC; rw [dn_pos (by omega)]; omega
      have a4 : nxD 20 1000000 = 640000 := by unfold nxD; rw [up_pos (by omega)]; omega
      have hw : ¬ nxW 20 5 0 0 := by unfold nxW; rw [a1, a2]; omega
      have e1 : ewOK 0 20 10 1 1000 1000 640000 640000 := by unfold ewOK szOK; omega
      have va : vaZ 10 20 640000 = 6480000000 := by unfold vaZ; omega
      have r60 : rootZ 36000000 = 6000 := rootZ_uniq (by omega) (by omega) (by omega)
      have rl : rcLo 10 20 640000 = 6000 := by unfold rcLo; rw [va]; exact r60
      have rh : rcHi 10 20 640000 = 6000 := by unfold rcHi; rw [va]; unfold upZ; rw [show (6480000000 / (200 - 20) + (if (6480000000 : Int) % (200 - 20) = 0 then 0 else 1) : Int) = 36000000 from rfl, r60]; rfl
      simp only [eal_sem, eal_sp, s0, e0, n0, a1, a2, a3, a4, hw, e1, rl, rh, IsI, forall_eq, Int.reduceMul, Int.reduceAdd, Int.reduceSub, Int.reduceLE, Int.reduceLT, Int.reduceNeg, if_true, if_false, true_and, and_true, false_and, and_false, true_or, or_true, false_or, or_false, true_iff, iff_true, false_iff, iff_false, not_true_eq_false, not_false_eq_true, true_implies, false_implies, implies_true, forall_const, decide_true, decide_false, reduceCtorEq, eal_den, enew_sem, enext_sem, ereach_sem, Tree.den, LE.den, Cv.list, placeA, List.getElem?_cons_zero, List.getElem?_cons_succ, IE.den, BE.den, At.den, CA.den, Env.get, Cv.int, Cv.bool, List.cons_append, List.nil_append, List.map_cons, List.map_nil, bindRes, bindEq, Fits, SV.den, denL, place, placeL, eq_t, eq_f, lt_t, lt_f, le_t, le_f, beq_iff_eq, beq_eq_false_iff_ne, ne_eq, reduceCtorEq, b_dec, decide_eq_true_eq, decide_eq_false_iff_not, Bool.not_eq_false', Bool.or_eq_true, Bool.or_eq_false_iff, Bool.and_eq_false_iff, true_iff, false_iff, Bool.false_eq_true, Bool.not_eq_true', Bool.and_eq_true, Bool.not_true, Bool.not_false, List.cons.injEq, Cv.i.injEq, Cv.b.injEq, and_true, true_and, agg_inj, tup_inj, Value.int.injEq, Value.bool.injEq] <;> (try ((repeat' (first | intro _ | refine And.intro ?_ ?_ | exact trivial)) <;> omega))

def lereach_sp : SpecSh := { args := [(.agg [(.int .i64 (.z 0)), (.int .i64 (.z 0)), (.int .i64 (.z 0)), (.int .i64 (.z 0)), (.int .i64 (.z 0)), (.int .i64 (.z 0)), (.int .i64 (.z 0)), (.int .i64 (.z 0))])], res := (.bool .f), sh := [.b] }
set_option maxRecDepth 100000 in
def lereach_tree : Tree :=
.call 77 [.i (some ((-9223372036854775808), 9223372036854775807)), .i (some ((-9223372036854775808), 9223372036854775807)), .i (some ((-9223372036854775808), 9223372036854775807))] [.i (.v 0), .i (.v 1), .i (.v 2), .i (.v 3), .i (.v 4), .i (.v 5), .i (.v 6), .i (.v 7)] <|
.call 78 [.i (some ((-9223372036854775808), 9223372036854775807)), .i (some ((-9223372036854775808), 9223372036854775807))] [.i (.v 0), .i (.v 1), .i (.v 2), .i (.v 3), .i (.v 4), .i (.v 5), .i (.v 6), .i (.v 7)] <|
.call 79 [.b] [.i (.v 0), .i (.v 1), .i (.v 2), .i (.v 3), .i (.v 4), .i (.v 5), .i (.v 6), .i (.v 7)] <|
.ite (.not (.v 13)) (.call 70 [.b] [] <|
.ite (.v 14) (.ite (.cmp .eq (.v 10) (.z 1)) (.ite (.cmp .eq (.v 12) (.z 1)) (.ite (.cmp .eq (.v 11) (.z 0)) (.ret (.bool (.and (.cmp .eq (.v 8) (.z 0)) (.cmp .eq (.v 9) (.z 0))))) <|
.ret (.bool .f)) <|
.ret (.bool .f)) <|
.ret (.bool .f)) <|
.ret (.bool .f)) <|
.ite (.cmp .eq (.v 3) (.z 0)) (.call 70 [.b] [] <|
.ite (.v 14) (.ite (.cmp .eq (.v 10) (.z 12)) (.ite (.cmp .eq (.v 12) (.z 12)) (.ite (.cmp .eq (.v 11) (.z 0)) (.ret (.bool (.and (.cmp .eq (.v 8) (.z 0)) (.cmp .eq (.v 9) (.z 0))))) <|
.ret (.bool .f)) <|
.ret (.bool .f)) <|
.ret (.bool .f)) <|
.ret (.bool .f)) <|
.call 70 [.b] [] <|
.ite (.v 14) (.ite (.cmp .eq (.v 10) (.z 0)) (.ite (.cmp .eq (.v 12) (.z 0)) (.call 80 [.i (some ((-9223372036854775808), 9223372036854775807)), .i (some ((-9223372036854775808), 9223372036854775807))] [.i (.v 0), .i (.v 1), .i (.v 2), .i (.v 3), .i (.v 4), .i (.v 5), .i (.v 6), .i (.v 7)] <|
.ite (.and (.cmp .eq (.v 8) (.v 15)) (.cmp .eq (.v 9) (.v 16))) (.call 81 [.i (some ((-9223372036854775808), 9223372036854775807))] [.i (.v 0), .i (.v 1), .i (.v 2), .i (.v 3), .i (.v 4), .i (.v 5), .i (.v 6), .i (.v 7)] <|
.ret (.bool (.cmp .eq (.v 11) (.v 17)))) <|
.ret (.bool .f)) <|
.ret (.bool .f)) <|
.ret (.bool .f)) <|
.ret (.bool .f)
noncomputable def lereach_cx : Ctx := { tys := tys, fns := fns, sps := [(77, ereach_sp), (78, everd_sp), (70, eal_sp), (79, r19right_sp), (80, r19reach_sp), (81, r19verd_sp)], anns := [], trys := [] }
def lereach_ivs : List (Option (Int × Int)) := [some ((-9223372036854775808), 9223372036854775807), some ((-9223372036854775808), 9223372036854775807), some ((-9223372036854775808), 9223372036854775807), some ((-9223372036854775808), 9223372036854775807), some ((-9223372036854775808), 9223372036854775807), some ((-9223372036854775808), 9223372036854775807), some ((-9223372036854775808), 9223372036854775807), some ((-9223372036854775808), 9223372036854775807)]
set_option maxRecDepth 100000 in
theorem lereach_walk : runFn lereach_cx 3000 18 Try.f18 lereach_sp.args lereach_ivs = lereach_tree := by kernel_rfl
noncomputable def lereach_M : Nat → SpecSem
  | 77 => ereach_sem
  | 78 => everd_sem
  | 70 => eal_sem
  | 79 => r19right_sem
  | 80 => r19reach_sem
  | 81 => r19verd_sem
  | _ => noSem
theorem lereach_M77 : lereach_M 77 = ereach_sem := rfl
theorem lereach_M78 : lereach_M 78 = everd_sem := rfl
theorem lereach_M70 : lereach_M 70 = eal_sem := rfl
theorem lereach_M79 : lereach_M 79 = r19right_sem := rfl
theorem lereach_M80 : lereach_M 80 = r19reach_sem := rfl
theorem lereach_M81 : lereach_M 81 = r19verd_sem := rfl
theorem lereach_cxok : CxOK Try.prog lereach_cx lereach_M := ⟨tysOK, fnsOK, spCons ereach_ok <| spCons everd_ok <| spCons eal_ok <| spCons r19right_ok <| spCons r19reach_ok <| spCons r19verd_ok <| fun _ _ h => spNil h, mixedOK, fun _ _ h => trNil h⟩
set_option maxRecDepth 100000 in
set_option maxHeartbeats 8000000 in
theorem lereach_den (R RP : Value → Prop) (F : Ex → St → Js → Env → Prop) (J : Js) (x0 : Int) (x1 : Int) (x2 : Int) (x3 : Int) (x4 : Int) (x5 : Int) (x6 : Int) (x7 : Int) : Tree.den lereach_M R RP F lereach_tree J [(.i x0), (.i x1), (.i x2), (.i x3), (.i x4), (.i x5), (.i x6), (.i x7)] = (
  (ereach_sem.pre [(.i x0), (.i x1), (.i x2), (.i x3), (.i x4), (.i x5), (.i x6), (.i x7)]) ∧ (
∀ x8 : Int, x8 = (Cv.int (Env.get (ereach_sem.out [(.i x0), (.i x1), (.i x2), (.i x3), (.i x4), (.i x5), (.i x6), (.i x7)]) 0)) → (-9223372036854775808 : Int) ≤ x8 → x8 ≤ (9223372036854775807 : Int) →
∀ x9 : Int, x9 = (Cv.int (Env.get (ereach_sem.out [(.i x0), (.i x1), (.i x2), (.i x3), (.i x4), (.i x5), (.i x6), (.i x7)]) 1)) → (-9223372036854775808 : Int) ≤ x9 → x9 ≤ (9223372036854775807 : Int) →
∀ x10 : Int, x10 = (Cv.int (Env.get (ereach_sem.out [(.i x0), (.i x1), (.i x2), (.i x3), (.i x4), (.i x5), (.i x6), (.i x7)]) 2)) → (-9223372036854775808 : Int) ≤ x10 → x10 ≤ (9223372036854775807 : Int) →
(everd_sem.pre [(.i x0), (.i x1), (.i x2), (.i x3), (.i x4), (.i x5), (.i x6), (.i x7)]) ∧ (
∀ x11 : Int, x11 = (Cv.int (Env.get (everd_sem.out [(.i x0), (.i x1), (.i x2), (.i x3), (.i x4), (.i x5), (.i x6), (.i x7)]) 0)) → (-9223372036854775808 : Int) ≤ x11 → x11 ≤ (9223372036854775807 : Int) →
∀ x12 : Int, x12 = (Cv.int (Env.get (everd_sem.out [(.i x0), (.i x1), (.i x2), (.i x3), (.i x4), (.i x5), (.i x6), (.i x7)]) 1)) → (-9223372036854775808 : Int) ≤ x12 → x12 ≤ (9223372036854775807 : Int) →
(r19right_sem.pre [(.i x0), (.i x1), (.i x2), (.i x3), (.i x4), (.i x5), (.i x6), (.i x7)]) ∧ (
((!(Cv.bool (Env.get (r19right_sem.out [(.i x0), (.i x1), (.i x2), (.i x3), (.i x4), (.i x5), (.i x6), (.i x7)]) 0))) = true → (eal_sem.pre []) ∧ (
((Cv.bool (Env.get (eal_sem.out []) 0)) = true → ((Cmp.den .eq x10 (1 : Int)) = true → ((Cmp.den .eq x12 (1 : Int)) = true → ((Cmp.den .eq x11 (0 : Int)) = true → R (Value.bool ((Cmp.den .eq x8 (0 : Int)) && (Cmp.den .eq x9 (0 : Int))))) ∧ ((Cmp.den .eq x11 (0 : Int)) = false → R (Value.bool false))) ∧ ((Cmp.den .eq x12 (1 : Int)) = false → R (Value.bool false))) ∧ ((Cmp.den .eq x10 (1 : Int)) = false → R (Value.bool false))) ∧ ((Cv.bool (Env.get (eal_sem.out []) 0)) = false → R (Value.bool false)))) ∧ ((!(Cv.bool (Env.get (r19right_sem.out [(.i x0), (.i x1), (.i x2), (.i x3), (.i x4), (.i x5), (.i x6), (.i x7)]) 0))) = false → ((Cmp.den .eq x3 (0 : Int)) = true → (eal_sem.pre []) ∧ (
((Cv.bool (Env.get (eal_sem.out []) 0)) = true → ((Cmp.den .eq x10 (12 : Int)) = true → ((Cmp.den .eq x12 (12 : Int)) = true → ((Cmp.den .eq x11 (0 : Int)) = true → R (Value.bool ((Cmp.den .eq x8 (0 : Int)) && (Cmp.den .eq x9 (0 : Int))))) ∧ ((Cmp.den .eq x11 (0 : Int)) = false → R (Value.bool false))) ∧ ((Cmp.den .eq x12 (12 : Int)) = false → R (Value.bool false))) ∧ ((Cmp.den .eq x10 (12 : Int)) = false → R (Value.bool false))) ∧ ((Cv.bool (Env.get (eal_sem.out []) 0)) = false → R (Value.bool false)))) ∧ ((Cmp.den .eq x3 (0 : Int)) = false → (eal_sem.pre []) ∧ (
((Cv.bool (Env.get (eal_sem.out []) 0)) = true → ((Cmp.den .eq x10 (0 : Int)) = true → ((Cmp.den .eq x12 (0 : Int)) = true → (r19reach_sem.pre [(.i x0), (.i x1), (.i x2), (.i x3), (.i x4), (.i x5), (.i x6), (.i x7)]) ∧ (
∀ x15 : Int, x15 = (Cv.int (Env.get (r19reach_sem.out [(.i x0), (.i x1), (.i x2), (.i x3), (.i x4), (.i x5), (.i x6), (.i x7)]) 0)) → (-9223372036854775808 : Int) ≤ x15 → x15 ≤ (9223372036854775807 : Int) →
∀ x16 : Int, x16 = (Cv.int (Env.get (r19reach_sem.out [(.i x0), (.i x1), (.i x2), (.i x3), (.i x4), (.i x5), (.i x6), (.i x7)]) 1)) → (-9223372036854775808 : Int) ≤ x16 → x16 ≤ (9223372036854775807 : Int) →
(((Cmp.den .eq x8 x15) && (Cmp.den .eq x9 x16)) = true → (r19verd_sem.pre [(.i x0), (.i x1), (.i x2), (.i x3), (.i x4), (.i x5), (.i x6), (.i x7)]) ∧ (
∀ x17 : Int, x17 = (Cv.int (Env.get (r19verd_sem.out [(.i x0), (.i x1), (.i x2), (.i x3), (.i x4), (.i x5), (.i x6), (.i x7)]) 0)) → (-9223372036854775808 : Int) ≤ x17 → x17 ≤ (9223372036854775807 : Int) →
R (Value.bool (Cmp.den .eq x11 x17)))) ∧ (((Cmp.den .eq x8 x15) && (Cmp.den .eq x9 x16)) = false → R (Value.bool false)))) ∧ ((Cmp.den .eq x12 (0 : Int)) = false → R (Value.bool false))) ∧ ((Cmp.den .eq x10 (0 : Int)) = false → R (Value.bool false))) ∧ ((Cv.bool (Env.get (eal_sem.out []) 0)) = false → R (Value.bool false))))))))) := by kernel_rfl

def lereach_sem : SpecSem := { pre := fun cs => match cs with | [.i t, .i w, .i s, .i n, .i zl, .i zh, .i ql, .i qh] => IsI t ∧ IsI w ∧ IsI s ∧ IsI n ∧ IsI zl ∧ IsI zh ∧ IsI ql ∧ IsI qh | _ => False, out := fun cs => match cs with | [.i t, .i w, .i s, .i n, .i zl, .i zh, .i ql, .i qh] => [.b true] | _ => [] }
set_option maxRecDepth 10000 in
set_option maxHeartbeats 16000000 in
theorem lereach_ok : SpecOK Try.prog 18 lereach_sp lereach_sem := by
  refine spec_of_tree lereach_cxok Try.func18 (by kernel_rfl) (by kernel_rfl) lereach_walk rfl ?_
  intro cs hpre
  match cs, hpre with
  | [.i t, .i w, .i s, .i n, .i zl, .i zh, .i ql, .i qh], ⟨j_t, j_w, j_s, j_n, j_zl, j_zh, j_ql, j_qh⟩ =>
    have h_t := j_t
    unfold IsI at h_t
    have h_w := j_w
    unfold IsI at h_w
    have h_s := j_s
    unfold IsI at h_s
    have h_n := j_n
    unfold IsI at h_n
    have h_zl := j_zl
    unfold IsI at h_zl
    have h_zh := j_zh
    unfold IsI at h_zh
    have h_ql := j_ql
    unfold IsI at h_ql
    have h_qh := j_qh
    unfold IsI at h_qh
    refine ⟨rfl, IvsB.ok (by simp only [lereach_ivs, IvsB, Cv.int, and_true] <;> omega), ?_, ?_⟩
    · simp only [lereach_sem, lereach_sp, Fits]
    · rw [lereach_den]
      simp only [lereach_sem, lereach_sp, lereach_den, ereach_sem, everd_sem, eal_sem, r19right_sem, r19reach_sem, r19verd_sem, Tree.den, LE.den, Cv.list, placeA, List.getElem?_cons_zero, List.getElem?_cons_succ, IE.den, BE.den, At.den, CA.den, Env.get, Cv.int, Cv.bool, List.cons_append, List.nil_append, List.map_cons, List.map_nil, bindRes, bindEq, Fits, SV.den, denL, place, placeL, eq_t, eq_f, lt_t, lt_f, le_t, le_f, beq_iff_eq, beq_eq_false_iff_ne, ne_eq, reduceCtorEq, b_dec, decide_eq_true_eq, decide_eq_false_iff_not, Bool.not_eq_false', Bool.or_eq_true, Bool.or_eq_false_iff, Bool.and_eq_false_iff, true_iff, false_iff, Bool.false_eq_true, Bool.not_eq_true', Bool.and_eq_true, Bool.not_true, Bool.not_false, List.cons.injEq, Cv.i.injEq, Cv.b.injEq, and_true, true_and, agg_inj, tup_inj, Value.int.injEq, Value.bool.injEq]
      have vr := ve_rng t zl zh (rcLo s w qh) (rcHi s w ql)
      by_cases ho : ewOK t w s n zl zh ql qh
      · by_cases hn : n = 0
        · subst hn
          simp only [ho, j_t, j_w, j_s, j_n, j_zl, j_zh, j_ql, j_qh, forall_eq, eq_self, f00, if_true, if_false, true_and, and_true, false_and, and_false, true_or, or_true, false_or, or_false, true_iff, iff_true, false_iff, iff_false, not_true_eq_false, not_false_eq_true, true_implies, false_implies, implies_true, forall_const, decide_true, decide_false, reduceCtorEq] <;> (try ((repeat' (first | intro _ | refine And.intro ?_ ?_ | exact trivial)) <;> omega))
        · obtain ⟨r1, r2, r3, r4, r5, r6⟩ := ew_rng ho hn
          simp only [ho, hn, j_t, j_w, j_s, j_n, j_zl, j_zh, j_ql, j_qh, r1, r2, r3, r4, r5, r6, forall_eq, eq_self, f00, if_true, if_false, true_and, and_true, false_and, and_false, true_or, or_true, false_or, or_false, true_iff, iff_true, false_iff, iff_false, not_true_eq_false, not_false_eq_true, true_implies, false_implies, implies_true, forall_const, decide_true, decide_false, reduceCtorEq] <;> (try ((repeat' (first | intro _ | refine And.intro ?_ ?_ | exact trivial)) <;> omega))
      · simp only [ho, j_t, j_w, j_s, j_n, j_zl, j_zh, j_ql, j_qh, forall_eq, eq_self, f00, if_true, if_false, true_and, and_true, false_and, and_false, true_or, or_true, false_or, or_false, true_iff, iff_true, false_iff, iff_false, not_true_eq_false, not_false_eq_true, true_implies, false_implies, implies_true, forall_const, decide_true, decide_false, reduceCtorEq] <;> (try ((repeat' (first | intro _ | refine And.intro ?_ ?_ | exact trivial)) <;> omega))
end Go.Proofs.Ytlhmhcjpdpakkaa.X
