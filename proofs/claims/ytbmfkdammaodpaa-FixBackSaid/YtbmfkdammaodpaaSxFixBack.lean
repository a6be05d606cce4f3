/-
  FixBack tells true, for every two ints.
-/
import Derived.Test.YtbmfkdammaodpaaSxFix
namespace Go.Proofs.Ytbmfkdammaodpaa.X
open Go Go.SX Go.RowKit
set_option linter.unusedVariables false
set_option linter.unusedSimpArgs false









def falive_sp : SpecSh := { args := [], res := (.bool .f), sh := [.b] }
set_option maxRecDepth 100000 in
def falive_tree : Tree :=
.call 50 [.i (some (0, 18446744073709551615)), .i (some (0, 18446744073709551615))] [.i (.z 3), .i (.z 1), .i (.z 0)] <|
.call 50 [.i (some (0, 18446744073709551615)), .i (some (0, 18446744073709551615))] [.i (.z 0), .i (.z 0), .i (.v 1)] <|
.ite (.cmp .lt (.z 0) (.v 2)) (.ret (.bool .f)) <|
.ite (.cmp .lt (.z 9223372036854775808) (.v 0)) (.ret (.bool .f)) <|
.ite (.cmp .lt (.z 9223372036854775807) (.v 0)) (.ret (.bool .f)) <|
.lett (.subw .u64 (.z 0) (.v 0)) <|
.lett (.wrap .i64 (.v 4)) <|
.ite (.cmp .eq (.v 5) (.z (-4))) (.ret (.bool (.cmp .eq (.z (-3)) (.z (-3))))) <|
.ret (.bool .f)
noncomputable def falive_cx : Ctx := { tys := tys, fns := fns, sps := [(50, add64_sp), (52, sub64_sp)], anns := [], trys := [(61, try_try)] }
def falive_ivs : List (Option (Int × Int)) := []
set_option maxRecDepth 100000 in
theorem falive_walk : runFn falive_cx 3000 35 Try.f35 falive_sp.args falive_ivs = falive_tree := by kernel_rfl
noncomputable def falive_M : Nat → SpecSem
  | 50 => add64_sem
  | 52 => sub64_sem
  | _ => noSem
theorem falive_M50 : falive_M 50 = add64_sem := rfl
theorem falive_M52 : falive_M 52 = sub64_sem := rfl
theorem falive_cxok : CxOK Try.prog falive_cx falive_M := ⟨tysOK, fnsOK, spCons add64_ok <| spCons sub64_ok <| fun _ _ h => spNil h, mixedOK, trCons try_ok <| fun _ _ h => trNil h⟩

def falive_sem : SpecSem := { pre := fun cs => match cs with | [] => True | _ => False, out := fun cs => match cs with | [] => [.b true] | _ => [] }
theorem falive_ok : SpecOK Try.prog 35 falive_sp falive_sem := by
  refine spec_of_tree falive_cxok Try.func35 (by kernel_rfl) (by kernel_rfl) falive_walk rfl ?_
  intro cs hpre
  match cs, hpre with
  | [], _ =>
    refine ⟨rfl, IvsB.ok (by simp only [falive_ivs, IvsB, Cv.int, and_true]), ?_, ?_⟩
    · simp only [falive_sem, falive_sp, Fits]
    · simp only [falive_sem, falive_sp, IsU, falive_tree, falive_M50, add64_sem, falive_M52, sub64_sem, Tree.den, List.getElem?_cons_zero, List.getElem?_cons_succ, IE.den, BE.den, At.den, CA.den, Env.get, Cv.int, Cv.bool, List.cons_append, List.nil_append, List.map_cons, List.map_nil, bindRes, bindEq, Fits, SV.den, denL, place, placeL, eq_t, eq_f, lt_t, lt_f, le_t, le_f, beq_iff_eq, beq_eq_false_iff_ne, ne_eq, reduceCtorEq, b_dec, decide_eq_true_eq, decide_eq_false_iff_not, Bool.not_eq_false', Bool.or_eq_true, Bool.or_eq_false_iff, Bool.and_eq_false_iff, true_iff, false_iff, Bool.false_eq_true, Bool.not_eq_true', Bool.and_eq_true, Bool.not_true, Bool.not_false, List.cons.injEq, Cv.i.injEq, Cv.b.injEq, and_true, true_and, agg_inj, tup_inj, Value.int.injEq, Value.bool.injEq]
      simp only [wi64, wu64_mod]
      (repeat' (first | intro _ | refine And.intro ?_ ?_ | exact trivial)) <;> omega
theorem cle (x y u v : Int) : (Cmp.le.den x y = Cmp.le.den u v) ↔ (x ≤ y ↔ u ≤ v) := by simp [Cmp.den]
theorem clt (x y u v : Int) : (Cmp.lt.den x y = Cmp.lt.den u v) ↔ (x < y ↔ u < v) := by simp [Cmp.den]
def lback_sp : SpecSh := { args := [(.int .i64 (.z 0)), (.int .i64 (.z 0))], res := (.bool .f), sh := [.b] }
set_option maxRecDepth 100000 in
def lback_tree : Tree :=
.call 38 [.i (some ((-9223372036854775808), 9223372036854775807)), .i (some ((-9223372036854775808), 9223372036854775807))] [.i (.v 0), .i (.v 1)] <|
.call 39 [.i (some ((-9223372036854775808), 9223372036854775807)), .i (some ((-9223372036854775808), 9223372036854775807))] [.i (.v 0), .i (.v 1)] <|
.ite (.cmp .eq (.v 3) (.z 0)) (.call 39 [.i (some ((-9223372036854775808), 9223372036854775807)), .i (some ((-9223372036854775808), 9223372036854775807))] [.i (.v 2), .i (.v 1)] <|
.ite (.not (.cmp .eq (.v 7) (.z 0))) (.ret (.bool .f)) <|
.ite (.not (.cmp .eq (.v 6) (.v 0))) (.ret (.bool .f)) <|
.ite (.not (.eqv (.cmp .le (.z 0) (.v 1)) (.cmp .le (.v 0) (.v 2)))) (.ret (.bool .f)) <|
.ite (.cmp .eq (.v 5) (.z 0)) (.call 38 [.i (some ((-9223372036854775808), 9223372036854775807)), .i (some ((-9223372036854775808), 9223372036854775807))] [.i (.v 4), .i (.v 1)] <|
.ite (.not (.cmp .eq (.v 9) (.z 0))) (.ret (.bool .f)) <|
.ite (.not (.cmp .eq (.v 8) (.v 0))) (.ret (.bool .f)) <|
.ite (.not (.eqv (.cmp .le (.v 1) (.z 0)) (.cmp .le (.v 0) (.v 4)))) (.ret (.bool .f)) <|
.call 35 [.b] [] <|
.ret (.bool (.v 10))) <|
.ite (.not (.cmp .eq (.v 5) (.z 5))) (.ret (.bool .f)) <|
.ite (.eqv (.cmp .lt (.v 0) (.z 0)) (.cmp .lt (.v 1) (.z 0))) (.ret (.bool .f)) <|
.call 35 [.b] [] <|
.ret (.bool (.v 8))) <|
.ite (.not (.cmp .eq (.v 3) (.z 5))) (.ret (.bool .f)) <|
.ite (.not (.eqv (.cmp .lt (.v 0) (.z 0)) (.cmp .lt (.v 1) (.z 0)))) (.ret (.bool .f)) <|
.ite (.cmp .eq (.v 5) (.z 0)) (.call 38 [.i (some ((-9223372036854775808), 9223372036854775807)), .i (some ((-9223372036854775808), 9223372036854775807))] [.i (.v 4), .i (.v 1)] <|
.ite (.not (.cmp .eq (.v 7) (.z 0))) (.ret (.bool .f)) <|
.ite (.not (.cmp .eq (.v 6) (.v 0))) (.ret (.bool .f)) <|
.ite (.not (.eqv (.cmp .le (.v 1) (.z 0)) (.cmp .le (.v 0) (.v 4)))) (.ret (.bool .f)) <|
.call 35 [.b] [] <|
.ret (.bool (.v 8))) <|
.ite (.not (.cmp .eq (.v 5) (.z 5))) (.ret (.bool .f)) <|
.ret (.bool .f)
noncomputable def lback_cx : Ctx := { tys := tys, fns := fns, sps := [(38, fadd_sp), (39, fsub_sp), (35, falive_sp)], anns := [], trys := [] }
def lback_ivs : List (Option (Int × Int)) := [some ((-9223372036854775808), 9223372036854775807), some ((-9223372036854775808), 9223372036854775807)]
set_option maxRecDepth 100000 in
theorem lback_walk : runFn lback_cx 3000 13 Try.f13 lback_sp.args lback_ivs = lback_tree := by kernel_rfl
noncomputable def lback_M : Nat → SpecSem
  | 38 => fadd_sem
  | 39 => fsub_sem
  | 35 => falive_sem
  | _ => noSem
theorem lback_M38 : lback_M 38 = fadd_sem := rfl
theorem lback_M39 : lback_M 39 = fsub_sem := rfl
theorem lback_M35 : lback_M 35 = falive_sem := rfl
theorem lback_cxok : CxOK Try.prog lback_cx lback_M := ⟨tysOK, fnsOK, spCons fadd_ok <| spCons fsub_ok <| spCons falive_ok <| fun _ _ h => spNil h, mixedOK, fun _ _ h => trNil h⟩

def lback_sem : SpecSem := { pre := fun cs => match cs with | [.i a, .i b] => IsI a ∧ IsI b | _ => False, out := fun cs => match cs with | [.i a, .i b] => [.b true] | _ => [] }
theorem lback_ok : SpecOK Try.prog 13 lback_sp lback_sem := by
  refine spec_of_tree lback_cxok Try.func13 (by kernel_rfl) (by kernel_rfl) lback_walk rfl ?_
  intro cs hpre
  match cs, hpre with
  | [.i a, .i b], ⟨⟨h1, h2⟩, ⟨h3, h4⟩⟩ =>
    refine ⟨rfl, IvsB.ok (by simp only [lback_ivs, IvsB, Cv.int, and_true]; omega), ?_, ?_⟩
    · simp only [lback_sem, lback_sp, Fits]
    · simp only [lback_sem, lback_sp, tell, lback_tree, lback_M38, fadd_sem, lback_M39, fsub_sem, lback_M35, falive_sem, Tree.den, List.getElem?_cons_zero, List.getElem?_cons_succ, IE.den, BE.den, At.den, CA.den, Env.get, Cv.int, Cv.bool, List.cons_append, List.nil_append, List.map_cons, List.map_nil, bindRes, bindEq, Fits, SV.den, denL, place, placeL, eq_t, eq_f, lt_t, lt_f, le_t, le_f, beq_iff_eq, beq_eq_false_iff_ne, ne_eq, reduceCtorEq, b_dec, decide_eq_true_eq, decide_eq_false_iff_not, Bool.not_eq_false', Bool.or_eq_true, Bool.or_eq_false_iff, Bool.and_eq_false_iff, true_iff, false_iff, Bool.false_eq_true, Bool.not_eq_true', Bool.and_eq_true, Bool.not_true, Bool.not_false, List.cons.injEq, Cv.i.injEq, Cv.b.injEq, and_true, true_and, agg_inj, tup_inj, Value.int.injEq, Value.bool.injEq]
      simp only [IsI, cle, clt]
      (repeat' (first | intro _ | refine And.intro ?_ ?_ | exact trivial)) <;> omega
end Go.Proofs.Ytbmfkdammaodpaa.X
