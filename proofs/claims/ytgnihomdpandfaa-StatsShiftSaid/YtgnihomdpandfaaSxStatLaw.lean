/-
  What the laws of stats share: the sign of life, and rows of samples.
-/
import Derived.Test.YtgnihomdpandfaaSxStat
namespace Go.Proofs.Ytgnihomdpandfaa.X
open Go Go.SX Go.RowKit
set_option linter.unusedVariables false
set_option linter.unusedSimpArgs false


def s11al_sp : SpecSh := { args := [], res := (.bool .f), sh := [.b] }
set_option maxRecDepth 100000 in
def s11al_tree : Tree :=
.call 15 [.i (some ((-9223372036854775808), 9223372036854775807)), .i (some ((-9223372036854775808), 9223372036854775807)), .i (some (0, 18446744073709551615)), .i (some (0, 18446744073709551615)), .i (some ((-9223372036854775808), 9223372036854775807)), .i (some ((-9223372036854775808), 9223372036854775807)), .i (some ((-9223372036854775808), 9223372036854775807))] [.l (.lit [.z 1, .z 3, .z (-2)])] <|
.call 16 [.i (some (0, 18446744073709551615)), .i (some (0, 18446744073709551615)), .i (some ((-9223372036854775808), 9223372036854775807))] [.i (.v 0), .i (.v 1), .i (.v 2), .i (.v 3), .i (.v 4), .i (.v 5)] <|
.ite (.cmp .eq (.v 6) (.z 0)) (.ite (.cmp .eq (.v 9) (.z 0)) (.ite (.cmp .eq (.v 0) (.z 3)) (.ite (.cmp .eq (.v 1) (.z 2)) (.ite (.cmp .eq (.v 3) (.z 14)) (.ite (.cmp .eq (.v 4) (.z (-2))) (.ret (.bool (.cmp .eq (.v 8) (.z 38)))) <|
.ret (.bool .f)) <|
.ret (.bool .f)) <|
.ret (.bool .f)) <|
.ret (.bool .f)) <|
.ret (.bool .f)) <|
.ret (.bool .f)
noncomputable def s11al_cx : Ctx := { tys := tys, fns := fns, sps := [(15, sof_sp), (16, sspread_sp)], anns := [], trys := [] }
def s11al_ivs : List (Option (Int × Int)) := []
set_option maxRecDepth 100000 in
theorem s11al_walk : runFn s11al_cx 3000 17 Try.f17 s11al_sp.args s11al_ivs = s11al_tree := by kernel_rfl
noncomputable def s11al_M : Nat → SpecSem
  | 15 => sof_sem
  | 16 => sspread_sem
  | _ => noSem
theorem s11al_M15 : s11al_M 15 = sof_sem := rfl
theorem s11al_M16 : s11al_M 16 = sspread_sem := rfl
theorem s11al_cxok : CxOK Try.prog s11al_cx s11al_M := ⟨tysOK, fnsOK, spCons sof_ok <| spCons sspread_ok <| fun _ _ h => spNil h, mixedOK, fun _ _ h => trNil h⟩
set_option maxRecDepth 100000 in
set_option maxHeartbeats 8000000 in
theorem s11al_den (R RP : Value → Prop) (F : Ex → St → Js → Env → Prop) (J : Js)  : Tree.den s11al_M R RP F s11al_tree J [] = (
  (sof_sem.pre [(.l (([(1 : Int), (3 : Int), (-2 : Int)] : List Int)))]) ∧ (
∀ x0 : Int, x0 = (Cv.int (Env.get (sof_sem.out [(.l (([(1 : Int), (3 : Int), (-2 : Int)] : List Int)))]) 0)) → (-9223372036854775808 : Int) ≤ x0 → x0 ≤ (9223372036854775807 : Int) →
∀ x1 : Int, x1 = (Cv.int (Env.get (sof_sem.out [(.l (([(1 : Int), (3 : Int), (-2 : Int)] : List Int)))]) 1)) → (-9223372036854775808 : Int) ≤ x1 → x1 ≤ (9223372036854775807 : Int) →
∀ x2 : Int, x2 = (Cv.int (Env.get (sof_sem.out [(.l (([(1 : Int), (3 : Int), (-2 : Int)] : List Int)))]) 2)) → (0 : Int) ≤ x2 → x2 ≤ (18446744073709551615 : Int) →
∀ x3 : Int, x3 = (Cv.int (Env.get (sof_sem.out [(.l (([(1 : Int), (3 : Int), (-2 : Int)] : List Int)))]) 3)) → (0 : Int) ≤ x3 → x3 ≤ (18446744073709551615 : Int) →
∀ x4 : Int, x4 = (Cv.int (Env.get (sof_sem.out [(.l (([(1 : Int), (3 : Int), (-2 : Int)] : List Int)))]) 4)) → (-9223372036854775808 : Int) ≤ x4 → x4 ≤ (9223372036854775807 : Int) →
∀ x5 : Int, x5 = (Cv.int (Env.get (sof_sem.out [(.l (([(1 : Int), (3 : Int), (-2 : Int)] : List Int)))]) 5)) → (-9223372036854775808 : Int) ≤ x5 → x5 ≤ (9223372036854775807 : Int) →
∀ x6 : Int, x6 = (Cv.int (Env.get (sof_sem.out [(.l (([(1 : Int), (3 : Int), (-2 : Int)] : List Int)))]) 6)) → (-9223372036854775808 : Int) ≤ x6 → x6 ≤ (9223372036854775807 : Int) →
(sspread_sem.pre [(.i x0), (.i x1), (.i x2), (.i x3), (.i x4), (.i x5)]) ∧ (
∀ x7 : Int, x7 = (Cv.int (Env.get (sspread_sem.out [(.i x0), (.i x1), (.i x2), (.i x3), (.i x4), (.i x5)]) 0)) → (0 : Int) ≤ x7 → x7 ≤ (18446744073709551615 : Int) →
∀ x8 : Int, x8 = (Cv.int (Env.get (sspread_sem.out [(.i x0), (.i x1), (.i x2), (.i x3), (.i x4), (.i x5)]) 1)) → (0 : Int) ≤ x8 → x8 ≤ (18446744073709551615 : Int) →
∀ x9 : Int, x9 = (Cv.int (Env.get (sspread_sem.out [(.i x0), (.i x1), (.i x2), (.i x3), (.i x4), (.i x5)]) 2)) → (-9223372036854775808 : Int) ≤ x9 → x9 ≤ (9223372036854775807 : Int) →
((Cmp.den .eq x6 (0 : Int)) = true → ((Cmp.den .eq x9 (0 : Int)) = true → ((Cmp.den .eq x0 (3 : Int)) = true → ((Cmp.den .eq x1 (2 : Int)) = true → ((Cmp.den .eq x3 (14 : Int)) = true → ((Cmp.den .eq x4 (-2 : Int)) = true → R (Value.bool (Cmp.den .eq x8 (38 : Int)))) ∧ ((Cmp.den .eq x4 (-2 : Int)) = false → R (Value.bool false))) ∧ ((Cmp.den .eq x3 (14 : Int)) = false → R (Value.bool false))) ∧ ((Cmp.den .eq x1 (2 : Int)) = false → R (Value.bool false))) ∧ ((Cmp.den .eq x0 (3 : Int)) = false → R (Value.bool false))) ∧ ((Cmp.den .eq x9 (0 : Int)) = false → R (Value.bool false))) ∧ ((Cmp.den .eq x6 (0 : Int)) = false → R (Value.bool false))))) := by kernel_rfl

def s11al_sem : SpecSem := { pre := fun cs => match cs with | [] => True | _ => False, out := fun cs => match cs with | [] => [.b true] | _ => [] }
set_option maxRecDepth 10000 in
set_option maxHeartbeats 16000000 in
theorem s11al_ok : SpecOK Try.prog 17 s11al_sp s11al_sem := by
  refine spec_of_tree s11al_cxok Try.func17 (by kernel_rfl) (by kernel_rfl) s11al_walk rfl ?_
  intro cs hpre
  match cs, hpre with
  | [], _ =>
    refine ⟨rfl, IvsB.ok (by simp only [s11al_ivs, IvsB, Cv.int, and_true] <;> omega), ?_, ?_⟩
    · simp only [s11al_sem, s11al_sp, Fits]
    · rw [s11al_den]
      have a1 : inS [1, 3, -2] := by unfold inS; decide
      have a2 : stOK 3 2 0 14 (-2) 3 := by unfold stOK val; decide
      have a3 : sumL [1, 3, -2] = 2 := rfl
      have a4 : sqL [1, 3, -2] = 14 := rfl
      have a5 : minS [1, 3, -2] = -2 := rfl
      have a6 : maxS [1, 3, -2] = 3 := rfl
      have a7 : InI [1, 3, -2] := by intro y hy; simp only [List.mem_cons, List.not_mem_nil, or_false] at hy; omega
      have a8 : (([1, 3, -2] : List Int).length : Int) = 3 := rfl
      have a9 : (3 : Int) ≤ 100000 := by omega
      have b1 : IsI 3 := ⟨by omega, by omega⟩
      have b2 : IsI 2 := ⟨by omega, by omega⟩
      have b3 : IsU 0 := ⟨by omega, by omega⟩
      have b4 : IsU 14 := ⟨by omega, by omega⟩
      have b5 : IsI (-2) := ⟨by omega, by omega⟩
      have b6 : ((3 : Int) = 0) = False := by simp
      have b7 : (3 * val 0 14 - 2 * 2) % 18446744073709551616 = 38 := by unfold val; omega
      simp only [s11al_sem, s11al_sp, s11al_den, sof_sem, sspread_sem, Tree.den, LE.den, Cv.list, placeA, List.getElem?_cons_zero, List.getElem?_cons_succ, IE.den, BE.den, At.den, CA.den, Env.get, Cv.int, Cv.bool, List.cons_append, List.nil_append, List.map_cons, List.map_nil, bindRes, bindEq, Fits, SV.den, denL, place, placeL, eq_t, eq_f, lt_t, lt_f, le_t, le_f, beq_iff_eq, beq_eq_false_iff_ne, ne_eq, reduceCtorEq, b_dec, decide_eq_true_eq, decide_eq_false_iff_not, Bool.not_eq_false', Bool.or_eq_true, Bool.or_eq_false_iff, Bool.and_eq_false_iff, true_iff, false_iff, Bool.false_eq_true, Bool.not_eq_true', Bool.and_eq_true, Bool.not_true, Bool.not_false, List.cons.injEq, Cv.i.injEq, Cv.b.injEq, and_true, true_and, agg_inj, tup_inj, Value.int.injEq, Value.bool.injEq]
      simp only [a1, a2, a3, a4, a5, a6, a7, a8, a9, b1, b2, b3, b4, b5, b6, b7, forall_eq, eq_self, f00, if_true, if_false, true_and, and_true, false_and, and_false, true_or, or_true, false_or, or_false, true_iff, iff_true, false_iff, iff_false, not_true_eq_false, not_false_eq_true, true_implies, false_implies, implies_true, forall_const, decide_true, decide_false, reduceCtorEq]
theorem st_n0 {s h l mn mx : Int} (c : stOK 0 s h l mn mx) : 0 * val h l - s * s = 0 := by
  rcases c with q | q
  · rw [q.2.1]; omega
  · omega
theorem inI_take {xs : List Int} (n : Nat) (h : InI xs) : InI (xs.take n) := fun x hx => h x (List.mem_of_mem_take hx)
end Go.Proofs.Ytgnihomdpandfaa.X
