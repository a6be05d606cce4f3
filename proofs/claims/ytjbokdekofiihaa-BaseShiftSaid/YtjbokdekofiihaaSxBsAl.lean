/-
  datumlaw15: what must be answered, by contract.
-/
import Derived.Test.YtjbokdekofiihaaSxBs3
namespace Go.Proofs.Ytjbokdekofiihaa.X
open Go Go.SX
set_option linter.unusedVariables false
set_option linter.unusedSimpArgs false



def bal_sp : SpecSh := { args := [], res := (.bool .f), sh := [.b] }
set_option maxRecDepth 100000 in
def bal_tree : Tree :=
.call 11 [.i (some ((-9223372036854775808), 9223372036854775807)), .i (some ((-9223372036854775808), 9223372036854775807)), .i (some ((-9223372036854775808), 9223372036854775807)), .i (some ((-9223372036854775808), 9223372036854775807)), .i (some ((-9223372036854775808), 9223372036854775807)), .i (some ((-9223372036854775808), 9223372036854775807))] [.i (.z 2)] <|
.call 13 [.b] [.i (.v 0), .i (.v 1), .i (.v 2), .i (.v 3), .i (.v 4)] <|
.ite (.not (.v 6)) (.call 13 [.b] [.i (.z 0), .i (.z 0), .i (.z 0), .i (.z 0), .i (.z 0)] <|
.ite (.not (.v 7)) (.call 9 [.i (some ((-9223372036854775808), 9223372036854775807)), .i (some ((-9223372036854775808), 9223372036854775807)), .i (some ((-9223372036854775808), 9223372036854775807)), .i (some (0, 18446744073709551615)), .i (some (0, 18446744073709551615)), .i (some ((-9223372036854775808), 9223372036854775807))] [.i (.z 0), .i (.z 0), .i (.z 0), .i (.z 0), .i (.z 0), .i (.z 6)] <|
.ite (.cmp .eq (.v 5) (.z 0)) (.ret (.bool .f)) <|
.ret (.bool .f)) <|
.call 9 [.i (some ((-9223372036854775808), 9223372036854775807)), .i (some ((-9223372036854775808), 9223372036854775807)), .i (some ((-9223372036854775808), 9223372036854775807)), .i (some (0, 18446744073709551615)), .i (some (0, 18446744073709551615)), .i (some ((-9223372036854775808), 9223372036854775807))] [.i (.z 0), .i (.z 0), .i (.z 0), .i (.z 0), .i (.z 0), .i (.z 6)] <|
.ite (.cmp .eq (.v 5) (.z 0)) (.ret (.bool .f)) <|
.ret (.bool .f)) <|
.ite (.not (.cmp .eq (.z 2) (.v 0))) (.call 13 [.b] [.i (.z 0), .i (.z 0), .i (.z 0), .i (.z 0), .i (.z 0)] <|
.ite (.not (.v 7)) (.call 9 [.i (some ((-9223372036854775808), 9223372036854775807)), .i (some ((-9223372036854775808), 9223372036854775807)), .i (some ((-9223372036854775808), 9223372036854775807)), .i (some (0, 18446744073709551615)), .i (some (0, 18446744073709551615)), .i (some ((-9223372036854775808), 9223372036854775807))] [.i (.z 0), .i (.z 0), .i (.z 0), .i (.z 0), .i (.z 0), .i (.z 6)] <|
.ite (.cmp .eq (.v 5) (.z 0)) (.ret (.bool .f)) <|
.ret (.bool .f)) <|
.call 9 [.i (some ((-9223372036854775808), 9223372036854775807)), .i (some ((-9223372036854775808), 9223372036854775807)), .i (some ((-9223372036854775808), 9223372036854775807)), .i (some (0, 18446744073709551615)), .i (some (0, 18446744073709551615)), .i (some ((-9223372036854775808), 9223372036854775807))] [.i (.z 0), .i (.z 0), .i (.z 0), .i (.z 0), .i (.z 0), .i (.z 6)] <|
.ite (.cmp .eq (.v 5) (.z 0)) (.ret (.bool .f)) <|
.ret (.bool .f)) <|
.ite (.cmp .eq (.v 1) (.z 25)) (.call 13 [.b] [.i (.z 0), .i (.z 0), .i (.z 0), .i (.z 0), .i (.z 0)] <|
.ite (.not (.v 7)) (.call 9 [.i (some ((-9223372036854775808), 9223372036854775807)), .i (some ((-9223372036854775808), 9223372036854775807)), .i (some ((-9223372036854775808), 9223372036854775807)), .i (some (0, 18446744073709551615)), .i (some (0, 18446744073709551615)), .i (some ((-9223372036854775808), 9223372036854775807))] [.i (.z 0), .i (.z 0), .i (.z 0), .i (.z 0), .i (.z 0), .i (.z 6)] <|
.ite (.cmp .eq (.v 5) (.z 0)) (.ret (.bool .f)) <|
.ret (.bool .f)) <|
.call 9 [.i (some ((-9223372036854775808), 9223372036854775807)), .i (some ((-9223372036854775808), 9223372036854775807)), .i (some ((-9223372036854775808), 9223372036854775807)), .i (some (0, 18446744073709551615)), .i (some (0, 18446744073709551615)), .i (some ((-9223372036854775808), 9223372036854775807))] [.i (.z 0), .i (.z 0), .i (.z 0), .i (.z 0), .i (.z 0), .i (.z 6)] <|
.ite (.cmp .eq (.v 5) (.z 0)) (.ret (.bool .f)) <|
.ret (.bool .f)) <|
.lett (.addw .i64 (.v 3) (.z 2)) <|
.lett (.addw .i64 (.v 2) (.z 1)) <|
.lett (.addw .i64 (.v 8) (.z 3)) <|
.lett (.addw .i64 (.v 1) (.z 1)) <|
.call 13 [.b] [.i (.v 0), .i (.v 10), .i (.v 9), .i (.v 7), .i (.z 3)] <|
.ite (.not (.v 11)) (.call 9 [.i (some ((-9223372036854775808), 9223372036854775807)), .i (some ((-9223372036854775808), 9223372036854775807)), .i (some ((-9223372036854775808), 9223372036854775807)), .i (some (0, 18446744073709551615)), .i (some (0, 18446744073709551615)), .i (some ((-9223372036854775808), 9223372036854775807))] [.i (.z 0), .i (.z 0), .i (.z 0), .i (.z 0), .i (.z 0), .i (.z 6)] <|
.ite (.cmp .eq (.v 5) (.z 0)) (.ret (.bool .f)) <|
.ret (.bool .f)) <|
.ite (.cmp .eq (.v 10) (.z 25)) (.call 9 [.i (some ((-9223372036854775808), 9223372036854775807)), .i (some ((-9223372036854775808), 9223372036854775807)), .i (some ((-9223372036854775808), 9223372036854775807)), .i (some (0, 18446744073709551615)), .i (some (0, 18446744073709551615)), .i (some ((-9223372036854775808), 9223372036854775807))] [.i (.z 0), .i (.z 0), .i (.z 0), .i (.z 0), .i (.z 0), .i (.z 6)] <|
.ite (.cmp .eq (.v 5) (.z 0)) (.ret (.bool .f)) <|
.ret (.bool .f)) <|
.lett (.addw .i64 (.v 7) (.z 4)) <|
.lett (.addw .i64 (.v 9) (.z 2)) <|
.lett (.addw .i64 (.v 13) (.z 6)) <|
.lett (.addw .i64 (.v 10) (.z 1)) <|
.call 9 [.i (some ((-9223372036854775808), 9223372036854775807)), .i (some ((-9223372036854775808), 9223372036854775807)), .i (some ((-9223372036854775808), 9223372036854775807)), .i (some (0, 18446744073709551615)), .i (some (0, 18446744073709551615)), .i (some ((-9223372036854775808), 9223372036854775807))] [.i (.v 0), .i (.v 15), .i (.v 14), .i (.v 12), .i (.z 6), .i (.z 6)] <|
.ite (.cmp .eq (.v 5) (.z 0)) (.ite (.cmp .eq (.v 21) (.z 0)) (.ite (.cmp .eq (.v 15) (.z 2)) (.ite (.cmp .eq (.v 14) (.z 12)) (.ite (.cmp .eq (.v 12) (.z 6)) (.ite (.cmp .eq (.v 17) (.z 120000)) (.ret (.bool (.cmp .eq (.v 18) (.z 0)))) <|
.ret (.bool .f)) <|
.ret (.bool .f)) <|
.ret (.bool .f)) <|
.ret (.bool .f)) <|
.ret (.bool .f)) <|
.ret (.bool .f)
noncomputable def bal_cx : Ctx := { tys := tys, fns := fns, mets := mets, sps := [(13, bright_sp), (11, bnew_sp), (9, bpoint_sp)], anns := [], trys := [] }
def bal_ivs : List (Option (Int × Int)) := []
set_option maxRecDepth 100000 in
theorem bal_walk : runFn bal_cx 3000 8 Try.f8 bal_sp.args bal_ivs = bal_tree := by kernel_rfl
noncomputable def bal_M : Nat → SpecSem
  | 13 => bright_sem
  | 11 => bnew_sem
  | 9 => bpoint_sem
  | _ => noSem
theorem bal_M13 : bal_M 13 = bright_sem := rfl
theorem bal_M11 : bal_M 11 = bnew_sem := rfl
theorem bal_M9 : bal_M 9 = bpoint_sem := rfl
theorem bal_cxok : CxOK Try.prog bal_cx bal_M := ⟨tysOK, fnsOK, spCons bright_ok <| spCons bnew_ok <| spCons bpoint_ok <| fun _ _ h => spNil h, mixedOK, fun _ _ h => trNil h, fun _ _ h => atNil h, metsOK⟩

def bal_sem : SpecSem := { pre := fun cs => match cs with | [] => True | _ => False, out := fun cs => match cs with | [] => [.b true] | _ => [] }
set_option maxRecDepth 10000 in
set_option maxHeartbeats 16000000 in
theorem bal_ok : SpecOK Try.prog 8 bal_sp bal_sem := by
  refine spec_of_tree bal_cxok Try.func8 (by kernel_rfl) (by kernel_rfl) bal_walk rfl ?_
  intro cs hpre
  match cs, hpre with
  | [], _ =>
    refine ⟨rfl, IvsB.ok (by simp only [bal_ivs, IvsB, Cv.int, and_true] <;> omega), ?_, ?_⟩
    · simp only [bal_sem, bal_sp, Fits]
    · have t1 : BsOK 2 0 0 0 0 := by decide
      have t2 : BsOK 2 1 4 2 3 := by decide
      have t3 : bpE 2 2 12 6 6 6 = 0 := by decide
      have t4 : bpC 2 2 12 = 360000 := by decide
      have t5 : bpN 2 2 = 120000 := by decide
      have t6 : bpD 2 2 12 6 = 0 := by decide
      have k : ∀ j : Int, 0 ≤ j → j ≤ 100 → IsI j := fun j a b => ⟨by omega, by omega⟩
      have k0 := k 0 (by omega) (by omega)
      have k1 := k 1 (by omega) (by omega)
      have k2 := k 2 (by omega) (by omega)
      have k3 := k 3 (by omega) (by omega)
      have k4 := k 4 (by omega) (by omega)
      have k6 := k 6 (by omega) (by omega)
      have k12 := k 12 (by omega) (by omega)
      have y1 : ((1 : Int) ≤ 2 ∧ (2 : Int) ≤ 10) = True := by simp
      have wk : ∀ j : Int, 0 ≤ j → j ≤ 100 → IntKind.i64.wrap j = j := fun j a b => w64 (by omega) (by omega)
      have x1 := wk 1 (by omega) (by omega)
      have x2 := wk 2 (by omega) (by omega)
      have x4 := wk 4 (by omega) (by omega)
      have x6 := wk 6 (by omega) (by omega)
      have x12 := wk 12 (by omega) (by omega)
      simp only [bal_sem, bal_sp, bright_sem, bnew_sem, bpoint_sem, bal_tree, bal_M13, bright_sem, bal_M11, bnew_sem, bal_M9, bpoint_sem, Tree.den, LE.den, Cv.list, placeA, List.getElem?_cons_zero, List.getElem?_cons_succ, IE.den, BE.den, At.den, CA.den, Env.get, Cv.int, Cv.bool, List.cons_append, List.nil_append, List.map_cons, List.map_nil, bindRes, bindEq, Fits, SV.den, denL, place, placeL, eq_t, eq_f, lt_t, lt_f, le_t, le_f, beq_iff_eq, beq_eq_false_iff_ne, ne_eq, reduceCtorEq, b_dec, decide_eq_true_eq, decide_eq_false_iff_not, Bool.not_eq_false', Bool.or_eq_true, Bool.or_eq_false_iff, Bool.and_eq_false_iff, true_iff, false_iff, Bool.false_eq_true, Bool.not_eq_true', Bool.and_eq_true, Bool.not_true, Bool.not_false, List.cons.injEq, Cv.i.injEq, Cv.b.injEq, and_true, true_and, agg_inj, tup_inj, Value.int.injEq, Value.bool.injEq, y1, t1, t2, t3, t4, t5, t6, k0, k1, k2, k3, k4, k6, k12, x1, x2, x4, x6, x12, Int.reduceAdd, Int.reduceSub, Int.reduceMul, Int.reduceLT, Int.reduceLE, Int.reduceEq, Int.reduceNeg, forall_eq, eq_self, if_true, if_false, true_and, and_true, false_and, and_false, true_or, or_true, false_or, or_false, true_iff, iff_true, false_iff, iff_false, not_true_eq_false, not_false_eq_true, true_implies, false_implies, implies_true, forall_const, decide_true, decide_false, reduceCtorEq]
end Go.Proofs.Ytjbokdekofiihaa.X
