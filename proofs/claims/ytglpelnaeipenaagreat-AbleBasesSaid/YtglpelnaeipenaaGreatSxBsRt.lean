/-
  datumref15.Right, by contract.
-/
import Derived.Test.YtglpelnaeipenaaGreatSxBs
namespace Go.Proofs.YtglpelnaeipenaaGreat.X
open Go Go.SX
set_option linter.unusedVariables false
set_option linter.unusedSimpArgs false
def rbright_sp : SpecSh := { args := [(.agg [(.int .i64 (.z 0)), (.int .i64 (.z 0)), (.int .i64 (.z 0)), (.int .i64 (.z 0)), (.int .i64 (.z 0))])], res := (.bool .f), sh := [.b] }
set_option maxRecDepth 100000 in
def rbright_tree : Tree :=
.ite (.cmp .lt (.v 0) (.z 1)) (.ret (.bool .f)) <|
.ite (.cmp .lt (.z 10) (.v 0)) (.ret (.bool .f)) <|
.ite (.cmp .lt (.v 1) (.z 0)) (.ret (.bool .f)) <|
.ite (.cmp .lt (.z 25) (.v 1)) (.ret (.bool .f)) <|
.ite (.cmp .lt (.v 4) (.z (-1000000))) (.ret (.bool .f)) <|
.ite (.cmp .lt (.z 1000000) (.v 4)) (.ret (.bool .f)) <|
.ite (.cmp .eq (.v 1) (.z 0)) (.ite (.not (.cmp .eq (.v 4) (.z 0))) (.ret (.bool .f)) <|
.lett (.mul (.v 1) (.v 0)) <|
.lett (.ite (.cmp .eq (.v 0) (.z 1)) (.z 0) (.v 1)) <|
.ite (.cmp .le (.z 0) (.v 2)) (.ite (.cmp .le (.v 2) (.z 0)) (.ite (.cmp .le (.z 0) (.v 3)) (.ret (.bool (.cmp .le (.v 3) (.z 0)))) <|
.ret (.bool .f)) <|
.ret (.bool .f)) <|
.ret (.bool .f)) <|
.lett (.mul (.v 1) (.v 0)) <|
.lett (.mul (.v 5) (.z 1000000)) <|
.ite (.cmp .eq (.v 0) (.z 1)) (.lett (.sub (.v 1) (.z 1)) <|
.lett (.ite (.cmp .lt (.z 0) (.v 7)) (.v 7) (.z 0)) <|
.lett (.sub (.z 0) (.v 6)) <|
.ite (.cmp .le (.v 9) (.v 2)) (.ite (.cmp .le (.v 2) (.v 6)) (.ite (.cmp .le (.z 0) (.v 3)) (.lett (.mul (.z 2000000) (.v 8)) <|
.ret (.bool (.cmp .le (.v 3) (.v 10)))) <|
.ret (.bool .f)) <|
.ret (.bool .f)) <|
.ret (.bool .f)) <|
.lett (.sub (.z 0) (.v 6)) <|
.ite (.cmp .le (.v 7) (.v 2)) (.ite (.cmp .le (.v 2) (.v 6)) (.ite (.cmp .le (.z 0) (.v 3)) (.lett (.mul (.z 2000000) (.v 1)) <|
.ret (.bool (.cmp .le (.v 3) (.v 8)))) <|
.ret (.bool .f)) <|
.ret (.bool .f)) <|
.ret (.bool .f)
noncomputable def rbright_cx : Ctx := { tys := tys, fns := fns, mets := mets, sps := [], anns := [], trys := [] }
def rbright_ivs : List (Option (Int × Int)) := [some ((-9223372036854775808), 9223372036854775807), some ((-9223372036854775808), 9223372036854775807), some ((-9223372036854775808), 9223372036854775807), some ((-9223372036854775808), 9223372036854775807), some ((-9223372036854775808), 9223372036854775807)]
set_option maxRecDepth 100000 in
theorem rbright_walk : runFn rbright_cx 3000 17 Tryz.f17 rbright_sp.args rbright_ivs = rbright_tree := by kernel_rfl
noncomputable def rbright_M : Nat → SpecSem
  | _ => noSem
theorem rbright_cxok : CxOK Tryz.prog rbright_cx rbright_M := ⟨tysOK, fnsOK, fun _ _ h => spNil h, mixedOK, fun _ _ h => trNil h, fun _ _ h => atNil h, metsOK⟩

def rbright_sem : SpecSem := { pre := fun cs => match cs with | [.i z, .i m, .i s, .i r, .i a] => IsI z ∧ IsI m ∧ IsI s ∧ IsI r ∧ IsI a | _ => False, out := fun cs => match cs with | [.i z, .i m, .i s, .i r, .i a] => [.b (decide (BsOK z m s r a))] | _ => [] }
set_option maxRecDepth 10000 in
set_option maxHeartbeats 16000000 in
theorem rbright_ok : SpecOK Tryz.prog 17 rbright_sp rbright_sem := by
  refine spec_of_tree rbright_cxok Tryz.func17 (by kernel_rfl) (by kernel_rfl) rbright_walk rfl ?_
  intro cs hpre
  match cs, hpre with
  | [.i z, .i m, .i s, .i r, .i a], ⟨j_z, j_m, j_s, j_r, j_a⟩ =>
    have h_z := j_z
    unfold IsI at h_z
    have h_m := j_m
    unfold IsI at h_m
    have h_s := j_s
    unfold IsI at h_s
    have h_r := j_r
    unfold IsI at h_r
    have h_a := j_a
    unfold IsI at h_a
    refine ⟨rfl, IvsB.ok (by simp only [rbright_ivs, IvsB, Cv.int, and_true] <;> omega), ?_, ?_⟩
    · simp only [rbright_sem, rbright_sp, Fits]
    · simp only [rbright_sem, rbright_sp, rbright_tree, Tree.den, LE.den, Cv.list, placeA, List.getElem?_cons_zero, List.getElem?_cons_succ, IE.den, BE.den, At.den, CA.den, Env.get, Cv.int, Cv.bool, List.cons_append, List.nil_append, List.map_cons, List.map_nil, bindRes, bindEq, Fits, SV.den, denL, place, placeL, eq_t, eq_f, lt_t, lt_f, le_t, le_f, beq_iff_eq, beq_eq_false_iff_ne, ne_eq, reduceCtorEq, b_dec, decide_eq_true_eq, decide_eq_false_iff_not, Bool.not_eq_false', Bool.or_eq_true, Bool.or_eq_false_iff, Bool.and_eq_false_iff, true_iff, false_iff, Bool.false_eq_true, Bool.not_eq_true', Bool.and_eq_true, Bool.not_true, Bool.not_false, List.cons.injEq, Cv.i.injEq, Cv.b.injEq, and_true, true_and, agg_inj, tup_inj, Value.int.injEq, Value.bool.injEq]
      have hp : m = 0 → m * z = 0 := fun h => by rw [h, Int.zero_mul]
      unfold BsOK bsteps
      generalize m * z = p at *
      clear j_z j_m j_s j_r j_a
      (repeat' (first | intro _ | refine And.intro ?_ ?_ | exact trivial)) <;> (repeat' split at *) <;> omega
end Go.Proofs.YtglpelnaeipenaaGreat.X
