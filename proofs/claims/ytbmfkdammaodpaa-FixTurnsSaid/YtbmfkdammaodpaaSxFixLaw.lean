/-
  FixAdds and FixDivides tell true, for every input.
-/
import Derived.Test.YtbmfkdammaodpaaSxRef4M
import Derived.Test.YtbmfkdammaodpaaSxRef4
namespace Go.Proofs.Ytbmfkdammaodpaa.X
open Go Go.SX Go.RowKit
set_option linter.unusedVariables false
set_option linter.unusedSimpArgs false








def r4mul_sp : SpecSh := { args := [(.int .i64 (.z 0)), (.int .i64 (.z 0))], res := (.tup [(.int .i64 (.z 0)), (.int .i64 (.z 0))]), sh := [.i (some ((-9223372036854775808), 9223372036854775807)), .i (some ((-9223372036854775808), 9223372036854775807))] }
set_option maxRecDepth 100000 in
def r4mul_tree : Tree :=
.call 66 [.b, .i (some (0, 18446744073709551615)), .i (some (0, 18446744073709551615))] [.i (.v 0), .i (.v 1)] <|
.ite (.cmp .lt (.z 0) (.v 3)) (.ret (.tup [(.int .i64 (.z 0)), (.int .i64 (.z 5))])) <|
.ite (.cmp .lt (.z 9223372036854775808) (.v 4)) (.ret (.tup [(.int .i64 (.z 0)), (.int .i64 (.z 5))])) <|
.ite (.cmp .eq (.v 4) (.z 9223372036854775808)) (.ite (.not (.v 2)) (.ret (.tup [(.int .i64 (.z 0)), (.int .i64 (.z 5))])) <|
.ret (.tup [(.int .i64 (.z (-9223372036854775808))), (.int .i64 (.z 0))])) <|
.ite (.v 2) (.lett (.sub (.z 0) (.v 4)) <|
.ret (.tup [(.int .i64 (.v 5)), (.int .i64 (.z 0))])) <|
.ret (.tup [(.int .i64 (.v 4)), (.int .i64 (.z 0))])
noncomputable def r4mul_cx : Ctx := { tys := tys, fns := fns, sps := [(66, r4prod_sp)], anns := [], trys := [] }
def r4mul_ivs : List (Option (Int × Int)) := [some ((-9223372036854775808), 9223372036854775807), some ((-9223372036854775808), 9223372036854775807)]
set_option maxRecDepth 100000 in
theorem r4mul_walk : runFn r4mul_cx 3000 42 Try.f42 r4mul_sp.args r4mul_ivs = r4mul_tree := by kernel_rfl
noncomputable def r4mul_M : Nat → SpecSem
  | 66 => r4prod_sem
  | _ => noSem
theorem r4mul_M66 : r4mul_M 66 = r4prod_sem := rfl
theorem r4mul_cxok : CxOK Try.prog r4mul_cx r4mul_M := ⟨tysOK, fnsOK, spCons r4prod_ok <| fun _ _ h => spNil h, mixedOK, fun _ _ h => trNil h⟩

def r4mul_sem : SpecSem := { pre := fun cs => match cs with | [.i a, .i b] => IsI a ∧ IsI b | _ => False, out := fun cs => match cs with | [.i a, .i b] => tell (a * b) | _ => [] }
theorem r4mul_ok : SpecOK Try.prog 42 r4mul_sp r4mul_sem := by
  refine spec_of_tree r4mul_cxok Try.func42 (by kernel_rfl) (by kernel_rfl) r4mul_walk rfl ?_
  intro cs hpre
  match cs, hpre with
  | [.i a, .i b], ⟨h1, h2⟩ =>
    have hp := r4abs h1 h2
    have g1 : IsI a := h1
    have g2 : IsI b := h2
    unfold IsI at h1 h2
    refine ⟨rfl, IvsB.ok (by simp only [r4mul_ivs, IvsB, Cv.int, and_true]; omega), ?_, ?_⟩
    · simp only [r4mul_sem, r4mul_sp, tell, Fits, and_true]; have := tell_fits (a * b); omega
    · simp only [r4mul_sem, r4prod_sem, tell, r4mul_sp, IsU, r4mul_tree, r4mul_M66, r4prod_sem, Tree.den, List.getElem?_cons_zero, List.getElem?_cons_succ, IE.den, BE.den, At.den, CA.den, Env.get, Cv.int, Cv.bool, List.cons_append, List.nil_append, List.map_cons, List.map_nil, bindRes, bindEq, Fits, SV.den, denL, place, placeL, eq_t, eq_f, lt_t, lt_f, le_t, le_f, beq_iff_eq, beq_eq_false_iff_ne, ne_eq, reduceCtorEq, b_dec, decide_eq_true_eq, decide_eq_false_iff_not, Bool.not_eq_false', Bool.or_eq_true, Bool.or_eq_false_iff, Bool.and_eq_false_iff, true_iff, false_iff, Bool.false_eq_true, Bool.not_eq_true', Bool.and_eq_true, Bool.not_true, Bool.not_false, List.cons.injEq, Cv.i.injEq, Cv.b.injEq, and_true, true_and, agg_inj, tup_inj, Value.int.injEq, Value.bool.injEq]
      refine ⟨⟨g1, g2⟩, ?_⟩
      intro p1 hp1 _ _ p0 hp0 _ _
      have hs := sgn_mul (a := a) (b := b)
      simp only [decide_eq_true_eq] at hs
      generalize absZ a * absZ b = P at *
      generalize a * b = Q at *
      simp only [IsI, wi64, wu64_mod]
      (repeat' (first | intro _ | refine And.intro ?_ ?_ | exact trivial)) <;> omega
def fal_sp : SpecSh := { args := [], res := (.bool .f), sh := [.b] }
set_option maxRecDepth 100000 in
def fal_tree : Tree :=
.call 34 [.i (some ((-9223372036854775808), 9223372036854775807)), .i (some ((-9223372036854775808), 9223372036854775807))] [.i (.z (-7)), .i (.z 1), .i (.z 2), .i (.z 0)] <|
.call 34 [.i (some ((-9223372036854775808), 9223372036854775807)), .i (some ((-9223372036854775808), 9223372036854775807))] [.i (.z (-7)), .i (.z 1), .i (.z 2), .i (.z 1)] <|
.ite (.cmp .eq (.v 1) (.z 0)) (.ite (.cmp .eq (.v 3) (.z 0)) (.ite (.cmp .eq (.v 0) (.z (-4))) (.ret (.bool (.cmp .eq (.v 2) (.z (-3))))) <|
.ret (.bool .f)) <|
.ret (.bool .f)) <|
.ret (.bool .f)
noncomputable def fal_cx : Ctx := { tys := tys, fns := fns, sps := [(34, fmd_sp)], anns := [], trys := [] }
def fal_ivs : List (Option (Int × Int)) := []
set_option maxRecDepth 100000 in
theorem fal_walk : runFn fal_cx 3000 35 Try.f35 fal_sp.args fal_ivs = fal_tree := by kernel_rfl
noncomputable def fal_M : Nat → SpecSem
  | 34 => fmd_sem
  | _ => noSem
theorem fal_M34 : fal_M 34 = fmd_sem := rfl
theorem fal_cxok : CxOK Try.prog fal_cx fal_M := ⟨tysOK, fnsOK, spCons fmd_ok <| fun _ _ h => spNil h, mixedOK, fun _ _ h => trNil h⟩

def fal_sem : SpecSem := { pre := fun cs => match cs with | [] => True | _ => False, out := fun cs => match cs with | [] => [.b true] | _ => [] }
theorem fal_ok : SpecOK Try.prog 35 fal_sp fal_sem := by
  refine spec_of_tree fal_cxok Try.func35 (by kernel_rfl) (by kernel_rfl) fal_walk rfl ?_
  intro cs hpre
  match cs, hpre with
  | [], _ =>
    refine ⟨rfl, IvsB.ok (by simp only [fal_ivs, IvsB, Cv.int, and_true]), ?_, ?_⟩
    · simp only [fal_sem, fal_sp, Fits]
    · have e1 : mdV (-7) 1 2 0 = -4 := by decide
      have e2 : mdV (-7) 1 2 1 = -3 := by decide
      have e3 : mdE (-7) 1 2 0 = 0 := by decide
      have e4 : mdE (-7) 1 2 1 = 0 := by decide
      simp only [fal_sem, fmd_sem, fal_sp, IsI, fal_tree, fal_M34, fmd_sem, Tree.den, List.getElem?_cons_zero, List.getElem?_cons_succ, IE.den, BE.den, At.den, CA.den, Env.get, Cv.int, Cv.bool, List.cons_append, List.nil_append, List.map_cons, List.map_nil, bindRes, bindEq, Fits, SV.den, denL, place, placeL, eq_t, eq_f, lt_t, lt_f, le_t, le_f, beq_iff_eq, beq_eq_false_iff_ne, ne_eq, reduceCtorEq, b_dec, decide_eq_true_eq, decide_eq_false_iff_not, Bool.not_eq_false', Bool.or_eq_true, Bool.or_eq_false_iff, Bool.and_eq_false_iff, true_iff, false_iff, Bool.false_eq_true, Bool.not_eq_true', Bool.and_eq_true, Bool.not_true, Bool.not_false, List.cons.injEq, Cv.i.injEq, Cv.b.injEq, and_true, true_and, agg_inj, tup_inj, Value.int.injEq, Value.bool.injEq]
      simp only [e1, e2, e3, e4]
      (repeat' (first | intro _ | refine And.intro ?_ ?_ | exact trivial)) <;> omega
def lfadds_sp : SpecSh := { args := [(.int .i64 (.z 0)), (.int .i64 (.z 0))], res := (.bool .f), sh := [.b] }
set_option maxRecDepth 100000 in
def lfadds_tree : Tree :=
.call 38 [.i (some ((-9223372036854775808), 9223372036854775807)), .i (some ((-9223372036854775808), 9223372036854775807))] [.i (.v 0), .i (.v 1)] <|
.call 39 [.i (some ((-9223372036854775808), 9223372036854775807)), .i (some ((-9223372036854775808), 9223372036854775807))] [.i (.v 0), .i (.v 1)] <|
.call 37 [.i (some ((-9223372036854775808), 9223372036854775807)), .i (some ((-9223372036854775808), 9223372036854775807))] [.i (.v 0), .i (.v 1)] <|
.call 40 [.i (some ((-9223372036854775808), 9223372036854775807)), .i (some ((-9223372036854775808), 9223372036854775807))] [.i (.v 0), .i (.v 1)] <|
.call 41 [.i (some ((-9223372036854775808), 9223372036854775807)), .i (some ((-9223372036854775808), 9223372036854775807))] [.i (.v 0), .i (.v 1)] <|
.call 42 [.i (some ((-9223372036854775808), 9223372036854775807)), .i (some ((-9223372036854775808), 9223372036854775807))] [.i (.v 0), .i (.v 1)] <|
.call 35 [.b] [] <|
.ite (.v 14) (.ite (.cmp .eq (.v 2) (.v 8)) (.ite (.cmp .eq (.v 3) (.v 9)) (.ite (.cmp .eq (.v 4) (.v 10)) (.ite (.cmp .eq (.v 5) (.v 11)) (.ite (.cmp .eq (.v 6) (.v 12)) (.ret (.bool (.cmp .eq (.v 7) (.v 13)))) <|
.ret (.bool .f)) <|
.ret (.bool .f)) <|
.ret (.bool .f)) <|
.ret (.bool .f)) <|
.ret (.bool .f)) <|
.ret (.bool .f)
noncomputable def lfadds_cx : Ctx := { tys := tys, fns := fns, sps := [(38, fadd_sp), (39, fsub_sp), (37, fmul_sp), (34, fmd_sp), (40, r4add_sp), (41, r4sub_sp), (42, r4mul_sp), (35, fal_sp)], anns := [], trys := [] }
def lfadds_ivs : List (Option (Int × Int)) := [some ((-9223372036854775808), 9223372036854775807), some ((-9223372036854775808), 9223372036854775807)]
set_option maxRecDepth 100000 in
theorem lfadds_walk : runFn lfadds_cx 3000 14 Try.f14 lfadds_sp.args lfadds_ivs = lfadds_tree := by kernel_rfl
noncomputable def lfadds_M : Nat → SpecSem
  | 38 => fadd_sem
  | 39 => fsub_sem
  | 37 => fmul_sem
  | 34 => fmd_sem
  | 40 => r4add_sem
  | 41 => r4sub_sem
  | 42 => r4mul_sem
  | 35 => fal_sem
  | _ => noSem
theorem lfadds_M38 : lfadds_M 38 = fadd_sem := rfl
theorem lfadds_M39 : lfadds_M 39 = fsub_sem := rfl
theorem lfadds_M37 : lfadds_M 37 = fmul_sem := rfl
theorem lfadds_M34 : lfadds_M 34 = fmd_sem := rfl
theorem lfadds_M40 : lfadds_M 40 = r4add_sem := rfl
theorem lfadds_M41 : lfadds_M 41 = r4sub_sem := rfl
theorem lfadds_M42 : lfadds_M 42 = r4mul_sem := rfl
theorem lfadds_M35 : lfadds_M 35 = fal_sem := rfl
theorem lfadds_cxok : CxOK Try.prog lfadds_cx lfadds_M := ⟨tysOK, fnsOK, spCons fadd_ok <| spCons fsub_ok <| spCons fmul_ok <| spCons fmd_ok <| spCons r4add_ok <| spCons r4sub_ok <| spCons r4mul_ok <| spCons fal_ok <| fun _ _ h => spNil h, mixedOK, fun _ _ h => trNil h⟩

def lfadds_sem : SpecSem := { pre := fun cs => match cs with | [.i a, .i b] => IsI a ∧ IsI b | _ => False, out := fun cs => match cs with | [.i a, .i b] => [.b true] | _ => [] }
theorem lfadds_ok : SpecOK Try.prog 14 lfadds_sp lfadds_sem := by
  refine spec_of_tree lfadds_cxok Try.func14 (by kernel_rfl) (by kernel_rfl) lfadds_walk rfl ?_
  intro cs hpre
  match cs, hpre with
  | [.i a, .i b], ⟨h1, h2⟩ =>
    have g1 : IsI a := h1
    have g2 : IsI b := h2
    unfold IsI at h1 h2
    refine ⟨rfl, IvsB.ok (by simp only [lfadds_ivs, IvsB, Cv.int, and_true]; omega), ?_, ?_⟩
    · simp only [lfadds_sem, lfadds_sp, Fits]
    · simp only [lfadds_sem, fal_sem, tell, lfadds_sp, lfadds_tree, lfadds_M38, fadd_sem, lfadds_M39, fsub_sem, lfadds_M37, fmul_sem, lfadds_M34, fmd_sem, lfadds_M40, r4add_sem, lfadds_M41, r4sub_sem, lfadds_M42, r4mul_sem, lfadds_M35, fal_sem, Tree.den, List.getElem?_cons_zero, List.getElem?_cons_succ, IE.den, BE.den, At.den, CA.den, Env.get, Cv.int, Cv.bool, List.cons_append, List.nil_append, List.map_cons, List.map_nil, bindRes, bindEq, Fits, SV.den, denL, place, placeL, eq_t, eq_f, lt_t, lt_f, le_t, le_f, beq_iff_eq, beq_eq_false_iff_ne, ne_eq, reduceCtorEq, b_dec, decide_eq_true_eq, decide_eq_false_iff_not, Bool.not_eq_false', Bool.or_eq_true, Bool.or_eq_false_iff, Bool.and_eq_false_iff, true_iff, false_iff, Bool.false_eq_true, Bool.not_eq_true', Bool.and_eq_true, Bool.not_true, Bool.not_false, List.cons.injEq, Cv.i.injEq, Cv.b.injEq, and_true, true_and, agg_inj, tup_inj, Value.int.injEq, Value.bool.injEq]
      simp only [g1, g2, if_true, if_false, true_and, and_true, false_and, and_false, true_or, or_true, false_or, or_false, true_iff, iff_true, false_iff, iff_false, not_true_eq_false, not_false_eq_true, true_implies, false_implies, implies_true, forall_const, decide_true, decide_false, reduceCtorEq]
      generalize (if IsI (a + b) then a + b else 0) = s1
      generalize (if IsI (a - b) then a - b else 0) = s2
      generalize (if IsI (a * b) then a * b else 0) = s3
      generalize (if IsI (a + b) then (0 : Int) else 5) = e1
      generalize (if IsI (a - b) then (0 : Int) else 5) = e2
      generalize (if IsI (a * b) then (0 : Int) else 5) = e3
      (repeat' (first | intro _ | refine And.intro ?_ ?_ | exact trivial)) <;> omega
def lfdivs_sp : SpecSh := { args := [(.int .i64 (.z 0)), (.int .i64 (.z 0)), (.int .i64 (.z 0)), (.int .i64 (.z 0))], res := (.bool .f), sh := [.b] }
set_option maxRecDepth 100000 in
def lfdivs_tree : Tree :=
.call 34 [.i (some ((-9223372036854775808), 9223372036854775807)), .i (some ((-9223372036854775808), 9223372036854775807))] [.i (.v 0), .i (.v 1), .i (.v 2), .i (.v 3)] <|
.ite (.cmp .lt (.v 3) (.z 0)) (.call 35 [.b] [] <|
.ite (.v 6) (.ite (.cmp .eq (.v 5) (.z 1)) (.ret (.bool (.cmp .eq (.v 4) (.z 0)))) <|
.ret (.bool .f)) <|
.ret (.bool .f)) <|
.ite (.cmp .lt (.z 2) (.v 3)) (.call 35 [.b] [] <|
.ite (.v 6) (.ite (.cmp .eq (.v 5) (.z 1)) (.ret (.bool (.cmp .eq (.v 4) (.z 0)))) <|
.ret (.bool .f)) <|
.ret (.bool .f)) <|
.ite (.cmp .eq (.v 2) (.z 0)) (.call 35 [.b] [] <|
.ite (.v 6) (.ite (.cmp .eq (.v 5) (.z 4)) (.ret (.bool (.cmp .eq (.v 4) (.z 0)))) <|
.ret (.bool .f)) <|
.ret (.bool .f)) <|
.call 36 [.i (some ((-9223372036854775808), 9223372036854775807)), .i (some ((-9223372036854775808), 9223372036854775807))] [.i (.v 0), .i (.v 1), .i (.v 2), .i (.v 3)] <|
.call 35 [.b] [] <|
.ite (.v 8) (.ite (.cmp .eq (.v 4) (.v 6)) (.ret (.bool (.cmp .eq (.v 5) (.v 7)))) <|
.ret (.bool .f)) <|
.ret (.bool .f)
noncomputable def lfdivs_cx : Ctx := { tys := tys, fns := fns, sps := [(34, fmd_sp), (36, r4md_sp), (35, fal_sp)], anns := [], trys := [] }
def lfdivs_ivs : List (Option (Int × Int)) := [some ((-9223372036854775808), 9223372036854775807), some ((-9223372036854775808), 9223372036854775807), some ((-9223372036854775808), 9223372036854775807), some ((-9223372036854775808), 9223372036854775807)]
set_option maxRecDepth 100000 in
theorem lfdivs_walk : runFn lfdivs_cx 3000 10 Try.f10 lfdivs_sp.args lfdivs_ivs = lfdivs_tree := by kernel_rfl
noncomputable def lfdivs_M : Nat → SpecSem
  | 34 => fmd_sem
  | 36 => r4md_sem
  | 35 => fal_sem
  | _ => noSem
theorem lfdivs_M34 : lfdivs_M 34 = fmd_sem := rfl
theorem lfdivs_M36 : lfdivs_M 36 = r4md_sem := rfl
theorem lfdivs_M35 : lfdivs_M 35 = fal_sem := rfl
theorem lfdivs_cxok : CxOK Try.prog lfdivs_cx lfdivs_M := ⟨tysOK, fnsOK, spCons fmd_ok <| spCons r4md_ok <| spCons fal_ok <| fun _ _ h => spNil h, mixedOK, fun _ _ h => trNil h⟩

def lfdivs_sem : SpecSem := { pre := fun cs => match cs with | [.i a, .i b, .i c, .i m] => IsI a ∧ IsI b ∧ IsI c ∧ IsI m | _ => False, out := fun cs => match cs with | [.i a, .i b, .i c, .i m] => [.b true] | _ => [] }
theorem md_tell {a b c m : Int} (hc : c ≠ 0) (hm : 0 ≤ m ∧ m ≤ 2) : mdV a b c m = (if IsI (mdZ a b c m) then mdZ a b c m else 0) ∧ mdE a b c m = if IsI (mdZ a b c m) then 0 else 5 := by
  refine ⟨?_, ?_⟩
  · unfold mdV
    by_cases hi : IsI (mdZ a b c m)
    · rw [if_pos hi, if_pos ⟨by omega, hc, hi⟩]
    · rw [if_neg hi, if_neg (fun h => hi h.2.2)]
  · unfold mdE
    rw [if_pos (by omega), if_neg hc]
theorem lfdivs_ok : SpecOK Try.prog 10 lfdivs_sp lfdivs_sem := by
  refine spec_of_tree lfdivs_cxok Try.func10 (by kernel_rfl) (by kernel_rfl) lfdivs_walk rfl ?_
  intro cs hpre
  match cs, hpre with
  | [.i a, .i b, .i c, .i m], ⟨h1, h2, h3, h4⟩ =>
    have g1 : IsI a := h1
    have g2 : IsI b := h2
    have g3 : IsI c := h3
    have g4 : IsI m := h4
    unfold IsI at h1 h2 h3 h4
    refine ⟨rfl, IvsB.ok (by simp only [lfdivs_ivs, IvsB, Cv.int, and_true]; omega), ?_, ?_⟩
    · simp only [lfdivs_sem, lfdivs_sp, Fits]
    · simp only [lfdivs_sem, fmd_sem, fal_sem, tell, lfdivs_sp, lfdivs_tree, lfdivs_M34, fmd_sem, lfdivs_M36, r4md_sem, lfdivs_M35, fal_sem, Tree.den, List.getElem?_cons_zero, List.getElem?_cons_succ, IE.den, BE.den, At.den, CA.den, Env.get, Cv.int, Cv.bool, List.cons_append, List.nil_append, List.map_cons, List.map_nil, bindRes, bindEq, Fits, SV.den, denL, place, placeL, eq_t, eq_f, lt_t, lt_f, le_t, le_f, beq_iff_eq, beq_eq_false_iff_ne, ne_eq, reduceCtorEq, b_dec, decide_eq_true_eq, decide_eq_false_iff_not, Bool.not_eq_false', Bool.or_eq_true, Bool.or_eq_false_iff, Bool.and_eq_false_iff, true_iff, false_iff, Bool.false_eq_true, Bool.not_eq_true', Bool.and_eq_true, Bool.not_true, Bool.not_false, List.cons.injEq, Cv.i.injEq, Cv.b.injEq, and_true, true_and, agg_inj, tup_inj, Value.int.injEq, Value.bool.injEq]
      simp only [g1, g2, g3, g4, if_true, if_false, true_and, and_true, false_and, and_false, true_or, or_true, false_or, or_false, true_iff, iff_true, false_iff, iff_false, not_true_eq_false, not_false_eq_true, true_implies, false_implies, implies_true, forall_const, decide_true, decide_false, reduceCtorEq]
      have hV : m < 0 ∨ 2 < m → mdV a b c m = 0 ∧ mdE a b c m = 1 := fun h => by
        unfold mdV mdE; rw [if_neg (fun h => by omega), if_neg (fun h => by omega)]; exact ⟨rfl, rfl⟩
      have hC : 0 ≤ m ∧ m ≤ 2 → c = 0 → mdV a b c m = 0 ∧ mdE a b c m = 4 := fun h hc => by
        unfold mdV mdE; rw [if_neg (fun h => h.2.1 hc), if_pos (by omega), if_pos hc]; exact ⟨rfl, rfl⟩
      have hT : 0 ≤ m ∧ m ≤ 2 → c ≠ 0 → mdV a b c m = (if IsI (mdZ a b c m) then mdZ a b c m else 0) ∧ mdE a b c m = if IsI (mdZ a b c m) then 0 else 5 := fun hm hc => md_tell hc hm
      generalize (if IsI (mdZ a b c m) then mdZ a b c m else 0) = s1 at *
      generalize (if IsI (mdZ a b c m) then (0 : Int) else 5) = e1 at *
      generalize mdV a b c m = V at *
      generalize mdE a b c m = E at *
      by_cases hc : c = 0
      · simp only [hc, ne_eq, not_true, not_false_iff, if_true, if_false, true_and, and_true, false_and, and_false, true_or, or_true, false_or, or_false, true_iff, iff_true, false_iff, iff_false, not_true_eq_false, not_false_eq_true, true_implies, false_implies, implies_true, forall_const, decide_true, decide_false, reduceCtorEq] at hC hT ⊢
        (repeat' (first | intro _ | refine And.intro ?_ ?_ | exact trivial)) <;> omega
      · simp only [hc, ne_eq, not_true, not_false_iff, if_true, if_false, true_and, and_true, false_and, and_false, true_or, or_true, false_or, or_false, true_iff, iff_true, false_iff, iff_false, not_true_eq_false, not_false_eq_true, true_implies, false_implies, implies_true, forall_const, decide_true, decide_false, reduceCtorEq] at hC hT ⊢
        (repeat' (first | intro _ | refine And.intro ?_ ?_ | exact trivial)) <;> omega
end Go.Proofs.Ytbmfkdammaodpaa.X
