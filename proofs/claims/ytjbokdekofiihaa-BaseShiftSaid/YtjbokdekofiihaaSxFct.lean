/-
  factor: Factor, All, Nearest, by contract.
-/
import Derived.Test.YtjbokdekofiihaaSxFctAt4
namespace Go.Proofs.Ytjbokdekofiihaa.X
open Go Go.SX
set_option linter.unusedVariables false
set_option linter.unusedSimpArgs false



def facE (k n : Int) : Int := if 0 ≤ k ∧ k ≤ 6 then if 2 ≤ n ∧ n ≤ 10 then 0 else 3 else 1
def facV (k n : Int) : Int := if 0 ≤ k ∧ k ≤ 6 then if 2 ≤ n ∧ n ≤ 10 then ftab k n else 0 else 0
theorem facE_rng (k n : Int) : 0 ≤ facE k n ∧ facE k n ≤ 3 := by unfold facE; (repeat' split) <;> omega
theorem facV_rng (k n : Int) : 0 ≤ facV k n ∧ facV k n ≤ 32670 := by have := ftab_rng k n; unfold facV; (repeat' split) <;> omega
def ffac_sp : SpecSh := { args := [(.int .i64 (.z 0)), (.int .i64 (.z 0))], res := (.tup [(.int .i64 (.z 0)), (.int .i64 (.z 0))]), sh := [.i (some (0, 32670)), .i (some (0, 3))] }
set_option maxRecDepth 100000 in
def ffac_tree : Tree :=
.ite (.cmp .le (.z 0) (.v 0)) (.ite (.not (.cmp .lt (.v 0) (.z 7))) (.ret (.tup [(.int .i64 (.z 0)), (.int .i64 (.z 1))])) <|
.ite (.cmp .le (.z 2) (.v 1)) (.ite (.not (.cmp .le (.v 1) (.z 10))) (.ret (.tup [(.int .i64 (.z 0)), (.int .i64 (.z 3))])) <|
.call 23 [.i (some (0, 32670))] [.i (.v 0), .i (.v 1)] <|
.ret (.tup [(.int .i64 (.v 2)), (.int .i64 (.z 0))])) <|
.ret (.tup [(.int .i64 (.z 0)), (.int .i64 (.z 3))])) <|
.ret (.tup [(.int .i64 (.z 0)), (.int .i64 (.z 1))])
noncomputable def ffac_cx : Ctx := { tys := tys, fns := fns, mets := mets, sps := [], anns := [], trys := [], ats := [(23, fat_at)] }
def ffac_ivs : List (Option (Int × Int)) := [some ((-9223372036854775808), 9223372036854775807), some ((-9223372036854775808), 9223372036854775807)]
set_option maxRecDepth 100000 in
theorem ffac_walk : runFn ffac_cx 3000 16 Try.f16 ffac_sp.args ffac_ivs = ffac_tree := by kernel_rfl
noncomputable def ffac_M : Nat → SpecSem
  | 23 => fat_sem
  | _ => noSem
theorem ffac_M23 : ffac_M 23 = fat_sem := rfl
theorem ffac_cxok : CxOK Try.prog ffac_cx ffac_M := ⟨tysOK, fnsOK, fun _ _ h => spNil h, mixedOK, fun _ _ h => trNil h, atCons fat_ok <| fun _ _ h => atNil h, metsOK⟩
set_option maxRecDepth 100000 in
set_option maxHeartbeats 8000000 in
theorem ffac_den (R RP : Value → Prop) (F : Ex → St → Js → Env → Prop) (J : Js) (x0 : Int) (x1 : Int) : Tree.den ffac_M R RP F ffac_tree J [(.i x0), (.i x1)] = (
  ((Cmp.den .le (0 : Int) x0) = true → ((!(Cmp.den .lt x0 (7 : Int))) = true → R (Value.tuple [(Value.int .i64 (0 : Int)), (Value.int .i64 (1 : Int))].toArray)) ∧ ((!(Cmp.den .lt x0 (7 : Int))) = false → ((Cmp.den .le (2 : Int) x1) = true → ((!(Cmp.den .le x1 (10 : Int))) = true → R (Value.tuple [(Value.int .i64 (0 : Int)), (Value.int .i64 (3 : Int))].toArray)) ∧ ((!(Cmp.den .le x1 (10 : Int))) = false → (fat_sem.pre [(.i x0), (.i x1)]) ∧ (
∀ x2 : Int, x2 = (Cv.int (Env.get (fat_sem.out [(.i x0), (.i x1)]) 0)) → (0 : Int) ≤ x2 → x2 ≤ (32670 : Int) →
R (Value.tuple [(Value.int .i64 x2), (Value.int .i64 (0 : Int))].toArray)))) ∧ ((Cmp.den .le (2 : Int) x1) = false → R (Value.tuple [(Value.int .i64 (0 : Int)), (Value.int .i64 (3 : Int))].toArray)))) ∧ ((Cmp.den .le (0 : Int) x0) = false → R (Value.tuple [(Value.int .i64 (0 : Int)), (Value.int .i64 (1 : Int))].toArray))) := by kernel_rfl

def ffac_sem : SpecSem := { pre := fun cs => match cs with | [.i k, .i n] => IsI k ∧ IsI n | _ => False, out := fun cs => match cs with | [.i k, .i n] => [.i (facV k n), .i (facE k n)] | _ => [] }
set_option maxRecDepth 10000 in
set_option maxHeartbeats 16000000 in
theorem ffac_ok : SpecOK Try.prog 16 ffac_sp ffac_sem := by
  refine spec_of_tree ffac_cxok Try.func16 (by kernel_rfl) (by kernel_rfl) ffac_walk rfl ?_
  intro cs hpre
  match cs, hpre with
  | [.i k, .i n], ⟨j_k, j_n⟩ =>
    have h_k := j_k
    unfold IsI at h_k
    have h_n := j_n
    unfold IsI at h_n
    refine ⟨rfl, IvsB.ok (by simp only [ffac_ivs, IvsB, Cv.int, and_true] <;> omega), ?_, ?_⟩
    · have h1 := facE_rng k n; have h2 := facV_rng k n
      simp only [ffac_sem, ffac_sp, Fits, and_true]; omega
    · rw [ffac_den]
      have hr := ftab_rng k n
      simp only [ffac_sem, ffac_sp, ffac_den, fat_sem, Tree.den, LE.den, Cv.list, placeA, List.getElem?_cons_zero, List.getElem?_cons_succ, IE.den, BE.den, At.den, CA.den, Env.get, Cv.int, Cv.bool, List.cons_append, List.nil_append, List.map_cons, List.map_nil, bindRes, bindEq, Fits, SV.den, denL, place, placeL, eq_t, eq_f, lt_t, lt_f, le_t, le_f, beq_iff_eq, beq_eq_false_iff_ne, ne_eq, reduceCtorEq, b_dec, decide_eq_true_eq, decide_eq_false_iff_not, Bool.not_eq_false', Bool.or_eq_true, Bool.or_eq_false_iff, Bool.and_eq_false_iff, true_iff, false_iff, Bool.false_eq_true, Bool.not_eq_true', Bool.and_eq_true, Bool.not_true, Bool.not_false, List.cons.injEq, Cv.i.injEq, Cv.b.injEq, and_true, true_and, agg_inj, tup_inj, Value.int.injEq, Value.bool.injEq, facV, facE]
      by_cases h1 : 0 ≤ k ∧ k ≤ 6
      · by_cases h2 : 2 ≤ n ∧ n ≤ 10
        · simp only [h1, h2, h1.1, h1.2, h2.1, h2.2, and_self, forall_eq, if_true, if_false, true_and, and_true, false_and, and_false, true_or, or_true, false_or, or_false, true_iff, iff_true, false_iff, iff_false, not_true_eq_false, not_false_eq_true, true_implies, false_implies, implies_true, forall_const, decide_true, decide_false, reduceCtorEq]
          (repeat' (first | intro _ | refine And.intro ?_ ?_ | exact trivial)) <;> omega
        · simp only [h1, h2, h1.1, h1.2, and_self, forall_eq, if_true, if_false, true_and, and_true, false_and, and_false, true_or, or_true, false_or, or_false, true_iff, iff_true, false_iff, iff_false, not_true_eq_false, not_false_eq_true, true_implies, false_implies, implies_true, forall_const, decide_true, decide_false, reduceCtorEq]
          (repeat' (first | intro _ | refine And.intro ?_ ?_ | exact trivial)) <;> omega
      · simp only [h1, forall_eq, if_true, if_false, true_and, and_true, false_and, and_false, true_or, or_true, false_or, or_false, true_iff, iff_true, false_iff, iff_false, not_true_eq_false, not_false_eq_true, true_implies, false_implies, implies_true, forall_const, decide_true, decide_false, reduceCtorEq]
        (repeat' (first | intro _ | refine And.intro ?_ ?_ | exact trivial)) <;> omega
end Go.Proofs.Ytjbokdekofiihaa.X
