/-
  The contracts of package wide (numbers of 128 bits) and of the machine's words under it, for every input in range.
-/
import Derived.Test.YtehoiibnemjkaaaDoorSxMul
import Derived.WalkKit
import Derived.WalkLawsBesides
namespace Go.Proofs.YtehoiibnemjkaaaDoor.X
open Go Go.SX Go.RowKit
set_option linter.unusedVariables false
set_option linter.unusedSimpArgs false

def add64_sp : SpecSh := { args := [(.int .u64 (.z 0)), (.int .u64 (.z 0)), (.int .u64 (.z 0))], res := (.tup [(.int .u64 (.z 0)), (.int .u64 (.z 0))]), sh := [.i (some (0, 18446744073709551615)), .i (some (0, 18446744073709551615))] }
def add64_sem : SpecSem := { pre := fun cs => match cs with | [.i x, .i y, .i c] => IsU x ∧ IsU y ∧ 0 ≤ c ∧ c ≤ 1 | _ => False, out := fun cs => match cs with | [.i x, .i y, .i c] => [.i ((x + y + c) % 18446744073709551616), .i ((x + y + c) / 18446744073709551616)] | _ => [] }
theorem add64_ok : SpecOK Tryd.prog 38 add64_sp add64_sem := by
  refine spec_of_run ?_
  intro cs hpre
  match cs, hpre with
  | [.i x, .i y, .i c], ⟨hx, hy, hc0, hc1⟩ =>
    have h1 := hx.1; have h2 := hx.2; have h3 := hy.1; have h4 := hy.2
    refine ⟨?_, fun w => ⟨w, ?_, .refl _ _⟩⟩
    · simp only [add64_sem, add64_sp, Fits, and_true]; omega
    · have := run_callFunc_extern (P := Tryd.prog) Tryd.func38 (by kernel_rfl) (by kernel_rfl) (by kernel_rfl) (e := add64Entry) (by kernel_rfl) #[.int .u64 x, .int .u64 y, .int .u64 c] w
      rw [run_add64 x y c h1 h3 hc0 hc1] at this
      exact this

def less_sp : SpecSh := { args := [(.agg [(.int .u64 (.z 0)), (.int .u64 (.z 0))]), (.agg [(.int .u64 (.z 0)), (.int .u64 (.z 0))])], res := (.bool .f), sh := [.b] }
set_option maxRecDepth 100000 in
def less_tree : Tree :=
.ite (.cmp .lt (.v 0) (.v 2)) (.ret (.bool .t)) <|
.ite (.cmp .eq (.v 0) (.v 2)) (.ret (.bool (.cmp .lt (.v 1) (.v 3)))) <|
.ret (.bool .f)
noncomputable def less_cx : Ctx := { tys := tys, fns := fns, mets := mets, sps := [], anns := [], trys := [] }
def less_ivs : List (Option (Int × Int)) := [some (0, 18446744073709551615), some (0, 18446744073709551615), some (0, 18446744073709551615), some (0, 18446744073709551615)]
set_option maxRecDepth 100000 in
theorem less_walk : runFn less_cx 3000 14 Tryd.f14 less_sp.args less_ivs = less_tree := by kernel_rfl
noncomputable def less_M : Nat → SpecSem
  | _ => noSem
theorem less_cxok : CxOK Tryd.prog less_cx less_M := ⟨tysOK, fnsOK, fun _ _ h => spNil h, mixedOK, fun _ _ h => trNil h, fun _ _ h => atNil h, metsOK⟩

def less_sem : SpecSem := { pre := fun cs => match cs with | [.i a, .i b, .i c, .i d] => IsU a ∧ IsU b ∧ IsU c ∧ IsU d | _ => False, out := fun cs => match cs with | [.i a, .i b, .i c, .i d] => [.b (decide (val a b < val c d))] | _ => [] }
theorem less_ok : SpecOK Tryd.prog 14 less_sp less_sem := by
  refine spec_of_tree less_cxok Tryd.func14 (by kernel_rfl) (by kernel_rfl) less_walk rfl ?_
  intro cs hpre
  match cs, hpre with
  | [.i a, .i b, .i c, .i d], ⟨⟨h1, h2⟩, ⟨h3, h4⟩, ⟨h5, h6⟩, ⟨h7, h8⟩⟩ =>
    refine ⟨rfl, IvsB.ok (by simp only [less_ivs, IvsB, Cv.int, and_true]; omega), ?_, ?_⟩
    · simp only [less_sem, less_sp, Fits]
    · simp only [less_sem, less_sp, less_tree, Tree.den, LE.den, Cv.list, placeA, List.getElem?_cons_zero, List.getElem?_cons_succ, IE.den, BE.den, At.den, CA.den, Env.get, Cv.int, Cv.bool, List.cons_append, List.nil_append, List.map_cons, List.map_nil, bindRes, bindEq, Fits, SV.den, denL, place, placeL, eq_t, eq_f, lt_t, lt_f, le_t, le_f, beq_iff_eq, beq_eq_false_iff_ne, ne_eq, reduceCtorEq, b_dec, decide_eq_true_eq, decide_eq_false_iff_not, Bool.not_eq_false', Bool.or_eq_true, Bool.or_eq_false_iff, Bool.and_eq_false_iff, true_iff, false_iff, Bool.false_eq_true, Bool.not_eq_true', Bool.and_eq_true, Bool.not_true, Bool.not_false, List.cons.injEq, Cv.i.injEq, Cv.b.injEq, and_true, true_and, agg_inj, tup_inj, Value.int.injEq, Value.bool.injEq]
      unfold val
      omega

end Go.Proofs.YtehoiibnemjkaaaDoor.X
