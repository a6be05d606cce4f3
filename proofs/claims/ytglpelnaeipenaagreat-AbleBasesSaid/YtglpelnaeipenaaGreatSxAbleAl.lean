/-
  The sign of life of able's laws.
-/
import Derived.Test.YtglpelnaeipenaaGreatSxAble
namespace Go.Proofs.YtglpelnaeipenaaGreat.X
open Go Go.SX Go.RowKit
set_option linter.unusedVariables false
set_option linter.unusedSimpArgs false


def a20al_sp : SpecSh := { args := [], res := (.bool .f), sh := [.b] }
set_option maxRecDepth 100000 in
def a20al_tree : Tree :=
.call 19 [.i (some ((-9223372036854775808), 9223372036854775807)), .i (some ((-9223372036854775808), 9223372036854775807)), .i (some (0, 18446744073709551615)), .i (some (0, 18446744073709551615)), .i (some ((-9223372036854775808), 9223372036854775807)), .i (some ((-9223372036854775808), 9223372036854775807)), .i (some ((-9223372036854775808), 9223372036854775807))] [.l (.lit [.z 1, .z 2, .z 3])] <|
.call 20 [.i (some ((-9223372036854775808), 9223372036854775807)), .i (some ((-9223372036854775808), 9223372036854775807)), .i (some ((-9223372036854775808), 9223372036854775807))] [.i (.v 0), .i (.v 1), .i (.v 2), .i (.v 3), .i (.v 4), .i (.v 5), .i (.z 0), .i (.z 4), .i (.z 1000)] <|
.ite (.cmp .eq (.v 6) (.z 0)) (.ite (.cmp .eq (.v 9) (.z 0)) (.ite (.cmp .eq (.v 7) (.z 666)) (.ret (.bool (.cmp .eq (.v 8) (.z 667)))) <|
.ret (.bool .f)) <|
.ret (.bool .f)) <|
.ret (.bool .f)
noncomputable def a20al_cx : Ctx := { tys := tys, fns := fns, mets := mets, sps := [(19, sof_sp), (20, app_sp)], anns := [], trys := [] }
def a20al_ivs : List (Option (Int × Int)) := []
set_option maxRecDepth 100000 in
theorem a20al_walk : runFn a20al_cx 3000 7 Tryz.f7 a20al_sp.args a20al_ivs = a20al_tree := by kernel_rfl
noncomputable def a20al_M : Nat → SpecSem
  | 19 => sof_sem
  | 20 => app_sem
  | _ => noSem
theorem a20al_M19 : a20al_M 19 = sof_sem := rfl
theorem a20al_M20 : a20al_M 20 = app_sem := rfl
theorem a20al_cxok : CxOK Tryz.prog a20al_cx a20al_M := ⟨tysOK, fnsOK, spCons sof_ok <| spCons app_ok <| fun _ _ h => spNil h, mixedOK, fun _ _ h => trNil h, fun _ _ h => atNil h, metsOK⟩
set_option maxRecDepth 100000 in
set_option maxHeartbeats 8000000 in
theorem a20al_den (R RP : Value → Prop) (F : Ex → St → Js → Env → Prop) (J : Js)  : Tree.den a20al_M R RP F a20al_tree J [] = (
  (sof_sem.pre [(.l (([(1 : Int), (2 : Int), (3 : Int)] : List Int)))]) ∧ (
∀ x0 : Int, x0 = (Cv.int (Env.get (sof_sem.out [(.l (([(1 : Int), (2 : Int), (3 : Int)] : List Int)))]) 0)) → (-9223372036854775808 : Int) ≤ x0 → x0 ≤ (9223372036854775807 : Int) →
∀ x1 : Int, x1 = (Cv.int (Env.get (sof_sem.out [(.l (([(1 : Int), (2 : Int), (3 : Int)] : List Int)))]) 1)) → (-9223372036854775808 : Int) ≤ x1 → x1 ≤ (9223372036854775807 : Int) →
∀ x2 : Int, x2 = (Cv.int (Env.get (sof_sem.out [(.l (([(1 : Int), (2 : Int), (3 : Int)] : List Int)))]) 2)) → (0 : Int) ≤ x2 → x2 ≤ (18446744073709551615 : Int) →
∀ x3 : Int, x3 = (Cv.int (Env.get (sof_sem.out [(.l (([(1 : Int), (2 : Int), (3 : Int)] : List Int)))]) 3)) → (0 : Int) ≤ x3 → x3 ≤ (18446744073709551615 : Int) →
∀ x4 : Int, x4 = (Cv.int (Env.get (sof_sem.out [(.l (([(1 : Int), (2 : Int), (3 : Int)] : List Int)))]) 4)) → (-9223372036854775808 : Int) ≤ x4 → x4 ≤ (9223372036854775807 : Int) →
∀ x5 : Int, x5 = (Cv.int (Env.get (sof_sem.out [(.l (([(1 : Int), (2 : Int), (3 : Int)] : List Int)))]) 5)) → (-9223372036854775808 : Int) ≤ x5 → x5 ≤ (9223372036854775807 : Int) →
∀ x6 : Int, x6 = (Cv.int (Env.get (sof_sem.out [(.l (([(1 : Int), (2 : Int), (3 : Int)] : List Int)))]) 6)) → (-9223372036854775808 : Int) ≤ x6 → x6 ≤ (9223372036854775807 : Int) →
(app_sem.pre [(.i x0), (.i x1), (.i x2), (.i x3), (.i x4), (.i x5), (.i (0 : Int)), (.i (4 : Int)), (.i (1000 : Int))]) ∧ (
∀ x7 : Int, x7 = (Cv.int (Env.get (app_sem.out [(.i x0), (.i x1), (.i x2), (.i x3), (.i x4), (.i x5), (.i (0 : Int)), (.i (4 : Int)), (.i (1000 : Int))]) 0)) → (-9223372036854775808 : Int) ≤ x7 → x7 ≤ (9223372036854775807 : Int) →
∀ x8 : Int, x8 = (Cv.int (Env.get (app_sem.out [(.i x0), (.i x1), (.i x2), (.i x3), (.i x4), (.i x5), (.i (0 : Int)), (.i (4 : Int)), (.i (1000 : Int))]) 1)) → (-9223372036854775808 : Int) ≤ x8 → x8 ≤ (9223372036854775807 : Int) →
∀ x9 : Int, x9 = (Cv.int (Env.get (app_sem.out [(.i x0), (.i x1), (.i x2), (.i x3), (.i x4), (.i x5), (.i (0 : Int)), (.i (4 : Int)), (.i (1000 : Int))]) 2)) → (-9223372036854775808 : Int) ≤ x9 → x9 ≤ (9223372036854775807 : Int) →
((Cmp.den .eq x6 (0 : Int)) = true → ((Cmp.den .eq x9 (0 : Int)) = true → ((Cmp.den .eq x7 (666 : Int)) = true → R (Value.bool (Cmp.den .eq x8 (667 : Int)))) ∧ ((Cmp.den .eq x7 (666 : Int)) = false → R (Value.bool false))) ∧ ((Cmp.den .eq x9 (0 : Int)) = false → R (Value.bool false))) ∧ ((Cmp.den .eq x6 (0 : Int)) = false → R (Value.bool false))))) := by kernel_rfl

def a20al_sem : SpecSem := { pre := fun cs => match cs with | [] => True | _ => False, out := fun cs => match cs with | [] => [.b true] | _ => [] }
set_option maxRecDepth 10000 in
set_option maxHeartbeats 16000000 in
theorem a20al_ok : SpecOK Tryz.prog 7 a20al_sp a20al_sem := by
  refine spec_of_tree a20al_cxok Tryz.func7 (by kernel_rfl) (by kernel_rfl) a20al_walk rfl ?_
  intro cs hpre
  match cs, hpre with
  | [], _ =>
    refine ⟨rfl, IvsB.ok (by simp only [a20al_ivs, IvsB, Cv.int, and_true] <;> omega), ?_, ?_⟩
    · simp only [a20al_sem, a20al_sp, Fits]
    · rw [a20al_den]
      have a1 : inS [1, 2, 3] := by unfold inS; decide
      have a2 : stOK 3 6 0 14 1 3 := by unfold stOK val; decide
      have a3 : sumL [1, 2, 3] = 6 := rfl
      have a4 : sqL [1, 2, 3] = 14 := rfl
      have a5 : minS [1, 2, 3] = 1 := rfl
      have a6 : maxS [1, 2, 3] = 3 := rfl
      have a7 : InI [1, 2, 3] := by intro y hy; simp only [List.mem_cons, List.not_mem_nil, or_false] at hy; omega
      have a8 : (([1, 2, 3] : List Int).length : Int) = 3 := rfl
      have a9 : (3 : Int) ≤ 100000 := by omega
      have b1 : IsI 3 := ⟨by omega, by omega⟩
      have b2 : IsI 6 := ⟨by omega, by omega⟩
      have b3 : IsU 0 := ⟨by omega, by omega⟩
      have b4 : IsU 14 := ⟨by omega, by omega⟩
      have b5 : IsI 1 := ⟨by omega, by omega⟩
      have b6 : IsI 0 := ⟨by omega, by omega⟩
      have b7 : IsI 4 := ⟨by omega, by omega⟩
      have b8 : IsI 1000 := ⟨by omega, by omega⟩
      have v1 : (3 * val 0 14 - 6 * 6 : Int) = 6 := by unfold val; omega
      have ho : abOK 3 6 0 14 1 3 0 4 1000 := ⟨a2, by omega, by omega, by omega, by rw [v1]; omega⟩
      have he : abE 3 6 0 14 1 3 0 4 1000 = 0 := by
        unfold abE
        rw [if_pos ⟨a2, by omega⟩, if_pos (by omega), if_pos (by omega), if_pos (by omega), if_neg (by rw [v1]; omega)]
      have hp : ppA 3 0 4 1000 = 96000000 := by decide
      have r1 : rtLo 96000000 (6 * 36) = 666 := by unfold rtLo; exact rootZ_uniq (by omega) (by omega) (by omega)
      have r2 : rootZ 444445 = 666 := rootZ_uniq (by omega) (by omega) (by omega)
      have r3 : rtHi 96000000 (6 * 36) = 667 := by
        unfold rtHi
        rw [show rtUp 96000000 (6 * 36) = 444445 by decide]
        unfold upZ
        rw [r2]; rfl
      simp only [a20al_sem, a20al_sp, a20al_den, sof_sem, app_sem, Tree.den, LE.den, Cv.list, placeA, List.getElem?_cons_zero, List.getElem?_cons_succ, IE.den, BE.den, At.den, CA.den, Env.get, Cv.int, Cv.bool, List.cons_append, List.nil_append, List.map_cons, List.map_nil, bindRes, bindEq, Fits, SV.den, denL, place, placeL, eq_t, eq_f, lt_t, lt_f, le_t, le_f, beq_iff_eq, beq_eq_false_iff_ne, ne_eq, reduceCtorEq, b_dec, decide_eq_true_eq, decide_eq_false_iff_not, Bool.not_eq_false', Bool.or_eq_true, Bool.or_eq_false_iff, Bool.and_eq_false_iff, true_iff, false_iff, Bool.false_eq_true, Bool.not_eq_true', Bool.and_eq_true, Bool.not_true, Bool.not_false, List.cons.injEq, Cv.i.injEq, Cv.b.injEq, and_true, true_and, agg_inj, tup_inj, Value.int.injEq, Value.bool.injEq]
      simp only [a1, a2, a3, a4, a5, a6, a7, a8, a9, b1, b2, b3, b4, b5, b6, b7, b8, v1, ho, he, hp, r1, r3, forall_eq, eq_self, f00, if_true, if_false, true_and, and_true, false_and, and_false, true_or, or_true, false_or, or_false, true_iff, iff_true, false_iff, iff_false, not_true_eq_false, not_false_eq_true, true_implies, false_implies, implies_true, forall_const, decide_true, decide_false, reduceCtorEq]
end Go.Proofs.YtglpelnaeipenaaGreat.X
