/-
  What the laws of able share: the sign of life, and what may be asked.
-/
import Derived.Test.YtgnihomdpandfaaSxAble
import Derived.Test.YtgnihomdpandfaaSxAblePk
import Derived.Test.YtgnihomdpandfaaSxAbleNum2
namespace Go.Proofs.Ytgnihomdpandfaa.X
open Go Go.SX Go.RowKit
set_option linter.unusedVariables false
set_option linter.unusedSimpArgs false


def a20al_sp : SpecSh := { args := [], res := (.bool .f), sh := [.b] }
set_option maxRecDepth 100000 in
def a20al_tree : Tree :=
.call 15 [.i (some ((-9223372036854775808), 9223372036854775807)), .i (some ((-9223372036854775808), 9223372036854775807)), .i (some (0, 18446744073709551615)), .i (some (0, 18446744073709551615)), .i (some ((-9223372036854775808), 9223372036854775807)), .i (some ((-9223372036854775808), 9223372036854775807)), .i (some ((-9223372036854775808), 9223372036854775807))] [.l (.lit [.z 1, .z 2, .z 3])] <|
.call 29 [.i (some ((-9223372036854775808), 9223372036854775807)), .i (some ((-9223372036854775808), 9223372036854775807)), .i (some ((-9223372036854775808), 9223372036854775807))] [.i (.v 0), .i (.v 1), .i (.v 2), .i (.v 3), .i (.v 4), .i (.v 5), .i (.z 0), .i (.z 4), .i (.z 1000)] <|
.ite (.cmp .eq (.v 6) (.z 0)) (.ite (.cmp .eq (.v 9) (.z 0)) (.ite (.cmp .eq (.v 7) (.z 666)) (.ret (.bool (.cmp .eq (.v 8) (.z 667)))) <|
.ret (.bool .f)) <|
.ret (.bool .f)) <|
.ret (.bool .f)
noncomputable def a20al_cx : Ctx := { tys := tys, fns := fns, sps := [(15, sof_sp), (29, app_sp)], anns := [], trys := [] }
def a20al_ivs : List (Option (Int × Int)) := []
set_option maxRecDepth 100000 in
theorem a20al_walk : runFn a20al_cx 3000 32 Try.f32 a20al_sp.args a20al_ivs = a20al_tree := by kernel_rfl
noncomputable def a20al_M : Nat → SpecSem
  | 15 => sof_sem
  | 29 => app_sem
  | _ => noSem
theorem a20al_M15 : a20al_M 15 = sof_sem := rfl
theorem a20al_M29 : a20al_M 29 = app_sem := rfl
theorem a20al_cxok : CxOK Try.prog a20al_cx a20al_M := ⟨tysOK, fnsOK, spCons sof_ok <| spCons app_ok <| fun _ _ h => spNil h, mixedOK, fun _ _ h => trNil h⟩
set_option maxRecDepth 100000 in
set_option maxHeartbeats 8000000 in
theorem a20al_den (R RP : Value → Prop) (F : Ex → St → Js → Env → Prop) (J : Js)  : Tree.den a20al_M R RP F a20al_tree J [] = (
  (sof_sem.pre [(.l (([(1 : Int), (2 : Int), (3 : Int)] : List Int)))]) ∧ (
∀ x0 : Int, x0 = (Cv.int (Env.get (sof_sem.out [(.l (([(1 : Int), (2 : Int), (3 : Int)] : List Int)))]) 0)) → (-9223372036854775808 : Int) ≤ x0 → x0 ≤ (9223372036854775807 : Int) →
∀ x1 : Int, x1 = (Cv.int (Env.get (sof_sem.out [(.l (([(1 : Int), (2 : Int), (3 : Int)] : List Int)))]) 1)) → (-9223372036854775808 : Int) ≤ x1 → x1 ≤ (9223372036854775807 : Int) →
∀ x2 : Int, x2 = (Cv.int (Env.get (sof_sem.out [(.l (([(1 : Int), (2 : Int), (3 : Int)] : List Int)))]) 2)) → (0 : Int) ≤ x2 → x2 ≤ (18446744073709551615 : Int) →
∀ x3 : Int, x3 = (Cv.int (Env.get (sof_sem.out [(.l (([(1 : Int), (2 : Int), (3 : Int)] : List Int)))]) 3)) → (0 : Int) ≤ x3 → x3 ≤ (18446744073709551615 : Int) →
∀ x4 : Int, x4 = (Cv.int (Env.get (sof_sem.out [(.l (([(1 : Int), (2 : Int), (3 : Int)] : List Int)))]) 4)) → (-9223372036854775808 : Int) ≤ x4 → x4 ≤ (9223372036854775807 : Int) →
∀ x5 : Int, x5 = (Cv.int (Env.get (sof_sem.out [(.l (([(1 : Int), (2 : Int), (3 : Int)] : List Int)))]) 5)) → (-9223372036854775808 : Int) ≤ x5 → x5 ≤ (9223372036854775807 : Int) →
∀ x6 : Int, x6 = (Cv.int (Env.get (sof_sem.out [(.l (([(1 : Int), (2 : Int), (3 : Int)] : List Int)))]) 6)) → (-9223372036854775808 : Int) ≤ x6 → x6 ≤ (9223372036854775807 : Int) →
(app_sem.pre [(.i x0), (.i x1), (.i x2), (.i x3), (.i x4), (.i x5), (.i (0 : Int)), (.i (4 : Int)), (.i (1000 : Int))]) ∧ (
∀ x7 : Int, x7 = (Cv.int (Env.get (app_sem.out [(.i x0), (.i x1), (.i x2), (.i x3), (.i x4), (.i x5), (.i (0 : Int)), (.i (4 : Int)), (.i (1000 : Int))]) 0)) → (-9223372036854775808 : Int) ≤ x7 → x7 ≤ (9223372036854775807 : Int) →
∀ x8 : Int, x8 = (Cv.int (Env.get (app_sem.out [(.i x0), (.i x1), (.i x2), (.i x3), (.i x4), (.i x5), (.i (0 : Int)), (.i (4 : Int)), (.i (1000 : Int))]) 1)) → (-9223372036854775808 : Int) ≤ x8 → x8 ≤ (9223372036854775807 : Int) →
∀ x9 : Int, x9 = (Cv.int (Env.get (app_sem.out [(.i x0), (.i x1), (.i x2), (.i x3), (.i x4), (.i x5), (.i (0 : Int)), (.i (4 : Int)), (.i (1000 : Int))]) 2)) → (-9223372036854775808 : Int) ≤ x9 → x9 ≤ (9223372036854775807 : Int) →
((Cmp.den .eq x6 (0 : Int)) = true → ((Cmp.den .eq x9 (0 : Int)) = true → ((Cmp.den .eq x7 (666 : Int)) = true → R (Value.bool (Cmp.den .eq x8 (667 : Int)))) ∧ ((Cmp.den .eq x7 (666 : Int)) = false → R (Value.bool false))) ∧ ((Cmp.den .eq x9 (0 : Int)) = false → R (Value.bool false))) ∧ ((Cmp.den .eq x6 (0 : Int)) = false → R (Value.bool false))))) := by kernel_rfl

def a20al_sem : SpecSem := { pre := fun cs => match cs with | [] => True | _ => False, out := fun cs => match cs with | [] => [.b true] | _ => [] }
set_option maxRecDepth 10000 in
set_option maxHeartbeats 16000000 in
theorem a20al_ok : SpecOK Try.prog 32 a20al_sp a20al_sem := by
  refine spec_of_tree a20al_cxok Try.func32 (by kernel_rfl) (by kernel_rfl) a20al_walk rfl ?_
  intro cs hpre
  match cs, hpre with
  | [], _ =>
    refine ⟨rfl, IvsB.ok (by simp only [a20al_ivs, IvsB, Cv.int, and_true] <;> omega), ?_, ?_⟩
    · simp only [a20al_sem, a20al_sp, Fits]
    · rw [a20al_den]
      have a1 : inS [1, 2, 3] := by unfold inS; decide
      have a2 : stOK 3 6 0 14 1 3 := by unfold stOK val; decide
      have a3 : sumL [1, 2, 3] = 6 := rfl
      have a4 : sqL [1, 2, 3] = 14 := rfl
      have a5 : minS [1, 2, 3] = 1 := rfl
      have a6 : maxS [1, 2, 3] = 3 := rfl
      have a7 : InI [1, 2, 3] := by intro y hy; simp only [List.mem_cons, List.not_mem_nil, or_false] at hy; omega
      have a8 : (([1, 2, 3] : List Int).length : Int) = 3 := rfl
      have a9 : (3 : Int) ≤ 100000 := by omega
      have b1 : IsI 3 := ⟨by omega, by omega⟩
      have b2 : IsI 6 := ⟨by omega, by omega⟩
      have b3 : IsU 0 := ⟨by omega, by omega⟩
      have b4 : IsU 14 := ⟨by omega, by omega⟩
      have b5 : IsI 1 := ⟨by omega, by omega⟩
      have b6 : IsI 0 := ⟨by omega, by omega⟩
      have b7 : IsI 4 := ⟨by omega, by omega⟩
      have b8 : IsI 1000 := ⟨by omega, by omega⟩
      have v1 : (3 * val 0 14 - 6 * 6 : Int) = 6 := by unfold val; omega
      have ho : abOK 3 6 0 14 1 3 0 4 1000 := ⟨a2, by omega, by omega, by omega, by rw [v1]; omega⟩
      have he : abE 3 6 0 14 1 3 0 4 1000 = 0 := by
        unfold abE
        rw [if_pos ⟨a2, by omega⟩, if_pos (by omega), if_pos (by omega), if_pos (by omega), if_neg (by rw [v1]; omega)]
      have hp : ppA 3 0 4 1000 = 96000000 := by decide
      have r1 : rtLo 96000000 (6 * 36) = 666 := by unfold rtLo; exact rootZ_uniq (by omega) (by omega) (by omega)
      have r2 : rootZ 444445 = 666 := rootZ_uniq (by omega) (by omega) (by omega)
      have r3 : rtHi 96000000 (6 * 36) = 667 := by
        unfold rtHi
        rw [show rtUp 96000000 (6 * 36) = 444445 by decide]
        unfold upZ
        rw [r2]; rfl
      simp only [a20al_sem, a20al_sp, a20al_den, sof_sem, app_sem, Tree.den, LE.den, Cv.list, placeA, List.getElem?_cons_zero, List.getElem?_cons_succ, IE.den, BE.den, At.den, CA.den, Env.get, Cv.int, Cv.bool, List.cons_append, List.nil_append, List.map_cons, List.map_nil, bindRes, bindEq, Fits, SV.den, denL, place, placeL, eq_t, eq_f, lt_t, lt_f, le_t, le_f, beq_iff_eq, beq_eq_false_iff_ne, ne_eq, reduceCtorEq, b_dec, decide_eq_true_eq, decide_eq_false_iff_not, Bool.not_eq_false', Bool.or_eq_true, Bool.or_eq_false_iff, Bool.and_eq_false_iff, true_iff, false_iff, Bool.false_eq_true, Bool.not_eq_true', Bool.and_eq_true, Bool.not_true, Bool.not_false, List.cons.injEq, Cv.i.injEq, Cv.b.injEq, and_true, true_and, agg_inj, tup_inj, Value.int.injEq, Value.bool.injEq]
      simp only [a1, a2, a3, a4, a5, a6, a7, a8, a9, b1, b2, b3, b4, b5, b6, b7, b8, v1, ho, he, hp, r1, r3, forall_eq, eq_self, f00, if_true, if_false, true_and, and_true, false_and, and_false, true_or, or_true, false_or, or_false, true_iff, iff_true, false_iff, iff_false, not_true_eq_false, not_false_eq_true, true_implies, false_implies, implies_true, forall_const, decide_true, decide_false, reduceCtorEq]
def loE (a b : Int) : Int := if a.tmod 100001 = b.tmod 100001 then a.tmod 100001 - 1 else if b.tmod 100001 < a.tmod 100001 then b.tmod 100001 else a.tmod 100001
def hiE (a b : Int) : Int := if a.tmod 100001 = b.tmod 100001 then b.tmod 100001 else if a.tmod 100001 < b.tmod 100001 then b.tmod 100001 else a.tmod 100001
theorem ends_rng (a b : Int) : -100001 ≤ loE a b ∧ hiE a b ≤ 100000 ∧ loE a b < hiE a b := by
  have t1 := tm_rng (x := a) (m := 100001) (by omega)
  have t2 := tm_rng (x := b) (m := 100001) (by omega)
  unfold loE hiE
  generalize a.tmod 100001 = x at *
  generalize b.tmod 100001 = y at *
  repeat' split
  all_goals omega
def a20ends_sp : SpecSh := { args := [(.int .i64 (.z 0)), (.int .i64 (.z 0))], res := (.tup [(.int .i64 (.z 0)), (.int .i64 (.z 0))]), sh := [.i (some ((-9223372036854775808), 9223372036854775807)), .i (some ((-9223372036854775808), 9223372036854775807))] }
set_option maxRecDepth 100000 in
def a20ends_tree : Tree :=
.lett (.rem (.v 0) (.z 100001)) <|
.lett (.rem (.v 1) (.z 100001)) <|
.ite (.cmp .eq (.v 2) (.v 3)) (.lett (.sub (.v 2) (.z 1)) <|
.ret (.tup [(.int .i64 (.v 4)), (.int .i64 (.v 3))])) <|
.lett (.ite (.cmp .lt (.v 3) (.v 2)) (.v 3) (.v 2)) <|
.lett (.ite (.cmp .lt (.v 2) (.v 3)) (.v 3) (.v 2)) <|
.ret (.tup [(.int .i64 (.v 4)), (.int .i64 (.v 5))])
noncomputable def a20ends_cx : Ctx := { tys := tys, fns := fns, sps := [], anns := [], trys := [] }
def a20ends_ivs : List (Option (Int × Int)) := [some ((-9223372036854775808), 9223372036854775807), some ((-9223372036854775808), 9223372036854775807)]
set_option maxRecDepth 100000 in
theorem a20ends_walk : runFn a20ends_cx 3000 36 Try.f36 a20ends_sp.args a20ends_ivs = a20ends_tree := by kernel_rfl
noncomputable def a20ends_M : Nat → SpecSem
  | _ => noSem
theorem a20ends_cxok : CxOK Try.prog a20ends_cx a20ends_M := ⟨tysOK, fnsOK, fun _ _ h => spNil h, mixedOK, fun _ _ h => trNil h⟩
set_option maxRecDepth 100000 in
set_option maxHeartbeats 8000000 in
theorem a20ends_den (R RP : Value → Prop) (F : Ex → St → Js → Env → Prop) (J : Js) (x0 : Int) (x1 : Int) : Tree.den a20ends_M R RP F a20ends_tree J [(.i x0), (.i x1)] = (
  ∀ x2 : Int, x2 = (Int.tmod x0 (100001 : Int)) →
∀ x3 : Int, x3 = (Int.tmod x1 (100001 : Int)) →
((Cmp.den .eq x2 x3) = true → ∀ x4 : Int, x4 = (x2 - (1 : Int)) →
R (Value.tuple [(Value.int .i64 x4), (Value.int .i64 x3)].toArray)) ∧ ((Cmp.den .eq x2 x3) = false → ∀ x4 : Int, x4 = (if (Cmp.den .lt x3 x2) = true then x3 else x2) →
∀ x5 : Int, x5 = (if (Cmp.den .lt x2 x3) = true then x3 else x2) →
R (Value.tuple [(Value.int .i64 x4), (Value.int .i64 x5)].toArray))) := by kernel_rfl

def a20ends_sem : SpecSem := { pre := fun cs => match cs with | [.i a, .i b] => IsI a ∧ IsI b | _ => False, out := fun cs => match cs with | [.i a, .i b] => [.i (loE a b), .i (hiE a b)] | _ => [] }
set_option maxRecDepth 10000 in
set_option maxHeartbeats 16000000 in
theorem a20ends_ok : SpecOK Try.prog 36 a20ends_sp a20ends_sem := by
  refine spec_of_tree a20ends_cxok Try.func36 (by kernel_rfl) (by kernel_rfl) a20ends_walk rfl ?_
  intro cs hpre
  match cs, hpre with
  | [.i a, .i b], ⟨j_a, j_b⟩ =>
    have h_a := j_a
    unfold IsI at h_a
    have h_b := j_b
    unfold IsI at h_b
    refine ⟨rfl, IvsB.ok (by simp only [a20ends_ivs, IvsB, Cv.int, and_true] <;> omega), ?_, ?_⟩
    · simp only [a20ends_sem, a20ends_sp, Fits, and_true]
      have := ends_rng a b
      omega
    · rw [a20ends_den]
      simp only [a20ends_sem, a20ends_sp, a20ends_den, Tree.den, LE.den, Cv.list, placeA, List.getElem?_cons_zero, List.getElem?_cons_succ, IE.den, BE.den, At.den, CA.den, Env.get, Cv.int, Cv.bool, List.cons_append, List.nil_append, List.map_cons, List.map_nil, bindRes, bindEq, Fits, SV.den, denL, place, placeL, eq_t, eq_f, lt_t, lt_f, le_t, le_f, beq_iff_eq, beq_eq_false_iff_ne, ne_eq, reduceCtorEq, b_dec, decide_eq_true_eq, decide_eq_false_iff_not, Bool.not_eq_false', Bool.or_eq_true, Bool.or_eq_false_iff, Bool.and_eq_false_iff, true_iff, false_iff, Bool.false_eq_true, Bool.not_eq_true', Bool.and_eq_true, Bool.not_true, Bool.not_false, List.cons.injEq, Cv.i.injEq, Cv.b.injEq, and_true, true_and, agg_inj, tup_inj, Value.int.injEq, Value.bool.injEq]
      have t1 := tm_rng (x := a) (m := 100001) (by omega)
      have t2 := tm_rng (x := b) (m := 100001) (by omega)
      unfold loE hiE
      generalize a.tmod 100001 = x at *
      generalize b.tmod 100001 = y at *
      simp only [forall_eq]
      refine ⟨fun k => ?_, fun k => ?_⟩
      · rw [if_pos k, if_pos k]; exact ⟨rfl, rfl⟩
      · rw [if_neg k, if_neg k]; exact ⟨rfl, rfl⟩
end Go.Proofs.Ytgnihomdpandfaa.X
