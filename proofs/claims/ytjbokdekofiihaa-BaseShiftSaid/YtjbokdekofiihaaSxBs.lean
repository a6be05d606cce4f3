/-
  base: Right, New, by contract.
-/
import Derived.Test.YtjbokdekofiihaaSxMul
namespace Go.Proofs.Ytjbokdekofiihaa.X
open Go Go.SX
set_option linter.unusedVariables false
set_option linter.unusedSimpArgs false
/-- the steps of a base's ranges -/
def bsteps (sz m : Int) : Int := if sz = 1 then (if m ≤ 0 then 0 else m - 1) else m
def BsOK (sz m s r la : Int) : Prop := (1 ≤ sz ∧ sz ≤ 10) ∧ (0 ≤ m ∧ m ≤ 25) ∧ (-1000000 ≤ la ∧ la ≤ 1000000) ∧ (m = 0 → la = 0) ∧ (-(m * sz * 1000000) ≤ s ∧ s ≤ m * sz * 1000000) ∧ 0 ≤ r ∧ r ≤ 2000000 * bsteps sz m
instance (sz m s r la : Int) : Decidable (BsOK sz m s r la) := by unfold BsOK; infer_instance
def bright_sp : SpecSh := { args := [(.agg [(.int .i64 (.z 0)), (.int .i64 (.z 0)), (.int .i64 (.z 0)), (.int .i64 (.z 0)), (.int .i64 (.z 0))])], res := (.bool .f), sh := [.b] }
set_option maxRecDepth 100000 in
def bright_tree : Tree :=
.ite (.cmp .lt (.v 0) (.z 1)) (.ret (.bool .f)) <|
.ite (.cmp .lt (.z 10) (.v 0)) (.ret (.bool .f)) <|
.ite (.cmp .lt (.v 1) (.z 0)) (.ret (.bool .f)) <|
.ite (.cmp .lt (.z 25) (.v 1)) (.ret (.bool .f)) <|
.ite (.cmp .le (.z (-1000000)) (.v 4)) (.ite (.not (.cmp .le (.v 4) (.z 1000000))) (.ret (.bool .f)) <|
.ite (.cmp .eq (.v 1) (.z 0)) (.ite (.not (.cmp .eq (.v 4) (.z 0))) (.ret (.bool .f)) <|
.lett (.mul (.v 1) (.v 0)) <|
.lett (.subw .i64 (.z 0) (.v 2)) <|
.lett (.ite (.cmp .lt (.v 2) (.v 6)) (.v 6) (.v 2)) <|
.ite (.cmp .le (.v 7) (.z 0)) (.ite (.cmp .le (.z 0) (.v 2)) (.ite (.cmp .le (.z 0) (.v 3)) (.ite (.cmp .eq (.v 0) (.z 1)) (.ret (.bool (.cmp .le (.v 3) (.z 0)))) <|
.ret (.bool (.cmp .le (.v 3) (.z 0)))) <|
.ret (.bool .f)) <|
.ret (.bool .f)) <|
.ret (.bool .f)) <|
.lett (.mul (.v 1) (.v 0)) <|
.lett (.mul (.v 5) (.z 1000000)) <|
.lett (.subw .i64 (.z 0) (.v 2)) <|
.lett (.ite (.cmp .lt (.v 2) (.v 7)) (.v 7) (.v 2)) <|
.ite (.cmp .le (.v 8) (.v 6)) (.lett (.sub (.z 0) (.v 6)) <|
.ite (.cmp .le (.v 9) (.v 2)) (.ite (.cmp .le (.z 0) (.v 3)) (.ite (.cmp .eq (.v 0) (.z 1)) (.lett (.sub (.v 1) (.z 1)) <|
.lett (.ite (.cmp .lt (.z 0) (.v 10)) (.v 10) (.z 0)) <|
.lett (.mul (.z 2000000) (.v 11)) <|
.ret (.bool (.cmp .le (.v 3) (.v 12)))) <|
.lett (.mul (.z 2000000) (.v 1)) <|
.ret (.bool (.cmp .le (.v 3) (.v 10)))) <|
.ret (.bool .f)) <|
.ret (.bool .f)) <|
.ret (.bool .f)) <|
.ret (.bool .f)
noncomputable def bright_cx : Ctx := { tys := tys, fns := fns, mets := mets, sps := [], anns := [], trys := [] }
def bright_ivs : List (Option (Int × Int)) := [some ((-9223372036854775808), 9223372036854775807), some ((-9223372036854775808), 9223372036854775807), some ((-9223372036854775808), 9223372036854775807), some ((-9223372036854775808), 9223372036854775807), some ((-9223372036854775808), 9223372036854775807)]
set_option maxRecDepth 100000 in
theorem bright_walk : runFn bright_cx 3000 13 Try.f13 bright_sp.args bright_ivs = bright_tree := by kernel_rfl
noncomputable def bright_M : Nat → SpecSem
  | _ => noSem
theorem bright_cxok : CxOK Try.prog bright_cx bright_M := ⟨tysOK, fnsOK, fun _ _ h => spNil h, mixedOK, fun _ _ h => trNil h, fun _ _ h => atNil h, metsOK⟩

def bright_sem : SpecSem := { pre := fun cs => match cs with | [.i z, .i m, .i s, .i r, .i a] => IsI z ∧ IsI m ∧ IsI s ∧ IsI r ∧ IsI a | _ => False, out := fun cs => match cs with | [.i z, .i m, .i s, .i r, .i a] => [.b (decide (BsOK z m s r a))] | _ => [] }
set_option maxRecDepth 10000 in
set_option maxHeartbeats 16000000 in
theorem bright_ok : SpecOK Try.prog 13 bright_sp bright_sem := by
  refine spec_of_tree bright_cxok Try.func13 (by kernel_rfl) (by kernel_rfl) bright_walk rfl ?_
  intro cs hpre
  match cs, hpre with
  | [.i z, .i m, .i s, .i r, .i a], ⟨j_z, j_m, j_s, j_r, j_a⟩ =>
    have h_z := j_z
    unfold IsI at h_z
    have h_m := j_m
    unfold IsI at h_m
    have h_s := j_s
    unfold IsI at h_s
    have h_r := j_r
    unfold IsI at h_r
    have h_a := j_a
    unfold IsI at h_a
    refine ⟨rfl, IvsB.ok (by simp only [bright_ivs, IvsB, Cv.int, and_true] <;> omega), ?_, ?_⟩
    · simp only [bright_sem, bright_sp, Fits]
    · simp only [bright_sem, bright_sp, bright_tree, Tree.den, LE.den, Cv.list, placeA, List.getElem?_cons_zero, List.getElem?_cons_succ, IE.den, BE.den, At.den, CA.den, Env.get, Cv.int, Cv.bool, List.cons_append, List.nil_append, List.map_cons, List.map_nil, bindRes, bindEq, Fits, SV.den, denL, place, placeL, eq_t, eq_f, lt_t, lt_f, le_t, le_f, beq_iff_eq, beq_eq_false_iff_ne, ne_eq, reduceCtorEq, b_dec, decide_eq_true_eq, decide_eq_false_iff_not, Bool.not_eq_false', Bool.or_eq_true, Bool.or_eq_false_iff, Bool.and_eq_false_iff, true_iff, false_iff, Bool.false_eq_true, Bool.not_eq_true', Bool.and_eq_true, Bool.not_true, Bool.not_false, List.cons.injEq, Cv.i.injEq, Cv.b.injEq, and_true, true_and, agg_inj, tup_inj, Value.int.injEq, Value.bool.injEq]
      have hw : IntKind.i64.wrap (0 - s) = if s = -9223372036854775808 then s else 0 - s := by
        by_cases hs : s = -9223372036854775808
        · rw [if_pos hs, hs]; kernel_rfl
        · rw [if_neg hs]; exact w64 (by omega) (by omega)
      have hp : m = 0 → m * z = 0 := fun h => by rw [h, Int.zero_mul]
      unfold BsOK bsteps
      rw [hw]
      generalize m * z = p at *
      clear hw j_z j_m j_s j_r j_a
      (repeat' (first | intro _ | refine And.intro ?_ ?_ | exact trivial)) <;> (repeat' split at *) <;> omega
def bwK (z : Int) : Int := if z = 1 then 2 else z
def bwM (z m : Int) : Int := if z = 1 then m - 1 else m
theorem mbd {a b : Int} (A B : Int) (h1 : -A ≤ a ∧ a ≤ A) (h2 : -B ≤ b ∧ b ≤ B) : -(A * B) ≤ a * b ∧ a * b ≤ A * B := by
  have e1 := Int.mul_nonneg (a := A - a) (b := B + b) (by omega) (by omega)
  have e2 := Int.mul_nonneg (a := A + a) (b := B - b) (by omega) (by omega)
  have e3 := Int.mul_nonneg (a := A - a) (b := B - b) (by omega) (by omega)
  have e4 := Int.mul_nonneg (a := A + a) (b := B + b) (by omega) (by omega)
  simp only [Int.sub_mul, Int.add_mul, Int.mul_sub, Int.mul_add] at e1 e2 e3 e4
  omega
theorem bs_bd {z m s r a : Int} (h : BsOK z m s r a) : (-250000000 ≤ s ∧ s ≤ 250000000) ∧ 0 ≤ r ∧ r ≤ 50000000 := by
  obtain ⟨h1, h2, h3, h4, h5, h6⟩ := h
  have p := mbd 25 10 (a := m) (b := z) (by omega) (by omega)
  have q : bsteps z m ≤ 25 := by unfold bsteps; (repeat' split) <;> omega
  omega
end Go.Proofs.Ytjbokdekofiihaa.X
