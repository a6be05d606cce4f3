/-
  The contracts of package tally and of the document's answer for it, for every input.
-/
import Derived.Test.YtlakihbodohggaaSxWide
namespace Go.Proofs.Ytlakihbodohggaa.X
open Go Go.SX Go.RowKit
set_option linter.unusedVariables false
set_option linter.unusedSimpArgs false


def most (k s : Int) : Int := if k ≤ 3 then s else 1000000
def TSizes (k s : Int) : Prop := 2 ≤ k ∧ k ≤ 5 ∧ 1 ≤ s ∧ s ≤ 1000 ∧ (k ≠ 4 ∨ s = 1)
instance (k s : Int) : Decidable (TSizes k s) := by unfold TSizes; infer_instance
def TRight (k s m u : Int) : Prop := TSizes k s ∧ 0 ≤ m ∧ m ≤ 25 ∧ 0 ≤ u ∧ u ≤ m * most k s
instance (k s m u : Int) : Decidable (TRight k s m u) := by unfold TRight; infer_instance
def TCount (k s d : Int) : Prop := 0 ≤ d ∧ d ≤ most k s
instance (k s d : Int) : Decidable (TCount k s d) := by unfold TCount; infer_instance
theorem most_lo {k s : Int} (h : k = 2 ∨ k = 3) : most k s = s := by unfold most; rw [if_pos (by omega)]
theorem most_hi {k s : Int} (h : k = 4 ∨ k = 5) : most k s = 1000000 := by unfold most; rw [if_neg (by omega)]

def tright_sp : SpecSh := { args := [(.agg [(.int .i64 (.z 0)), (.int .i64 (.z 0)), (.int .i64 (.z 0)), (.int .i64 (.z 0))])], res := (.bool .f), sh := [.b] }
set_option maxRecDepth 100000 in
def tright_tree : Tree :=
.ite (.cmp .eq (.v 0) (.z 2)) (.ite (.cmp .lt (.v 1) (.z 1)) (.ret (.bool .f)) <|
.ite (.cmp .lt (.z 1000) (.v 1)) (.ret (.bool .f)) <|
.ite (.cmp .lt (.v 2) (.z 0)) (.ret (.bool .f)) <|
.ite (.cmp .lt (.z 25) (.v 2)) (.ret (.bool .f)) <|
.ite (.cmp .le (.z 0) (.v 3)) (.lett (.mul (.v 2) (.v 1)) <|
.ret (.bool (.cmp .le (.v 3) (.v 4)))) <|
.ret (.bool .f)) <|
.ite (.cmp .eq (.v 0) (.z 3)) (.ite (.cmp .lt (.v 1) (.z 1)) (.ret (.bool .f)) <|
.ite (.cmp .lt (.z 1000) (.v 1)) (.ret (.bool .f)) <|
.ite (.cmp .lt (.v 2) (.z 0)) (.ret (.bool .f)) <|
.ite (.cmp .lt (.z 25) (.v 2)) (.ret (.bool .f)) <|
.ite (.cmp .le (.z 0) (.v 3)) (.lett (.mul (.v 2) (.v 1)) <|
.ret (.bool (.cmp .le (.v 3) (.v 4)))) <|
.ret (.bool .f)) <|
.ite (.cmp .eq (.v 0) (.z 4)) (.ite (.cmp .lt (.v 1) (.z 1)) (.ret (.bool .f)) <|
.ite (.cmp .lt (.z 1000) (.v 1)) (.ret (.bool .f)) <|
.ite (.cmp .lt (.z 1) (.v 1)) (.ret (.bool .f)) <|
.ite (.cmp .lt (.v 2) (.z 0)) (.ret (.bool .f)) <|
.ite (.cmp .lt (.z 25) (.v 2)) (.ret (.bool .f)) <|
.ite (.cmp .le (.z 0) (.v 3)) (.lett (.mul (.v 2) (.z 1000000)) <|
.ret (.bool (.cmp .le (.v 3) (.v 4)))) <|
.ret (.bool .f)) <|
.ite (.cmp .eq (.v 0) (.z 5)) (.ite (.cmp .lt (.v 1) (.z 1)) (.ret (.bool .f)) <|
.ite (.cmp .lt (.z 1000) (.v 1)) (.ret (.bool .f)) <|
.ite (.cmp .lt (.v 2) (.z 0)) (.ret (.bool .f)) <|
.ite (.cmp .lt (.z 25) (.v 2)) (.ret (.bool .f)) <|
.ite (.cmp .le (.z 0) (.v 3)) (.lett (.mul (.v 2) (.z 1000000)) <|
.ret (.bool (.cmp .le (.v 3) (.v 4)))) <|
.ret (.bool .f)) <|
.ret (.bool .f)
noncomputable def tright_cx : Ctx := { tys := tys, fns := fns, sps := [], anns := [], trys := [] }
def tright_ivs : List (Option (Int × Int)) := [some ((-9223372036854775808), 9223372036854775807), some ((-9223372036854775808), 9223372036854775807), some ((-9223372036854775808), 9223372036854775807), some ((-9223372036854775808), 9223372036854775807)]
set_option maxRecDepth 100000 in
theorem tright_walk : runFn tright_cx 3000 12 Try.f12 tright_sp.args tright_ivs = tright_tree := by kernel_rfl
noncomputable def tright_M : Nat → SpecSem
  | _ => noSem
theorem tright_cxok : CxOK Try.prog tright_cx tright_M := ⟨tysOK, fnsOK, fun _ _ h => spNil h, mixedOK, fun _ _ h => trNil h⟩

def tright_sem : SpecSem := { pre := fun cs => match cs with | [.i k, .i s, .i m, .i u] => IsI k ∧ IsI s ∧ IsI m ∧ IsI u | _ => False, out := fun cs => match cs with | [.i k, .i s, .i m, .i u] => [.b (decide (TRight k s m u))] | _ => [] }
theorem tright_ok : SpecOK Try.prog 12 tright_sp tright_sem := by
  refine spec_of_tree tright_cxok Try.func12 (by kernel_rfl) (by kernel_rfl) tright_walk rfl ?_
  intro cs hpre
  match cs, hpre with
  | [.i k, .i s, .i m, .i u], ⟨⟨h1, h2⟩, ⟨h3, h4⟩, ⟨h5, h6⟩, ⟨h7, h8⟩⟩ =>
    refine ⟨rfl, IvsB.ok (by simp only [tright_ivs, IvsB, Cv.int, and_true]; omega), ?_, ?_⟩
    · simp only [tright_sem, tright_sp, Fits, and_true]
    · simp only [tright_sem, tright_sp, tright_tree, Tree.den, List.getElem?_cons_zero, List.getElem?_cons_succ, IE.den, BE.den, At.den, CA.den, Env.get, Cv.int, Cv.bool, List.cons_append, List.nil_append, List.map_cons, List.map_nil, bindRes, bindEq, Fits, SV.den, denL, place, placeL, eq_t, eq_f, lt_t, lt_f, le_t, le_f, beq_iff_eq, beq_eq_false_iff_ne, ne_eq, reduceCtorEq, b_dec, decide_eq_true_eq, decide_eq_false_iff_not, Bool.not_eq_false', Bool.or_eq_true, Bool.or_eq_false_iff, Bool.and_eq_false_iff, true_iff, false_iff, Bool.false_eq_true, Bool.not_eq_true', Bool.and_eq_true, Bool.not_true, Bool.not_false, List.cons.injEq, Cv.i.injEq, Cv.b.injEq, and_true, true_and, agg_inj, tup_inj, Value.int.injEq, Value.bool.injEq]
      refine ⟨fun e => ?_, fun e => ⟨fun e => ?_, fun e => ⟨fun e => ?_, fun e => ⟨fun e => ?_, fun e => ?_⟩⟩⟩⟩
      · have hm := most_lo (k := k) (s := s) (by omega)
        unfold TRight TSizes; rw [hm]; (repeat' (first | intro _ | refine And.intro ?_ ?_ | exact trivial)) <;> omega
      · have hm := most_lo (k := k) (s := s) (by omega)
        unfold TRight TSizes; rw [hm]; (repeat' (first | intro _ | refine And.intro ?_ ?_ | exact trivial)) <;> omega
      · have hm := most_hi (k := k) (s := s) (by omega)
        unfold TRight TSizes; rw [hm]; (repeat' (first | intro _ | refine And.intro ?_ ?_ | exact trivial)) <;> omega
      · have hm := most_hi (k := k) (s := s) (by omega)
        unfold TRight TSizes; rw [hm]; (repeat' (first | intro _ | refine And.intro ?_ ?_ | exact trivial)) <;> omega
      · unfold TRight TSizes; omega

def rright_sp : SpecSh := { args := [(.agg [(.int .i64 (.z 0)), (.int .i64 (.z 0)), (.int .i64 (.z 0)), (.int .i64 (.z 0))])], res := (.bool .f), sh := [.b] }
set_option maxRecDepth 100000 in
def rright_tree : Tree :=
.ite (.cmp .le (.z 2) (.v 0)) (.ite (.cmp .le (.v 0) (.z 5)) (.ite (.cmp .le (.z 1) (.v 1)) (.ite (.cmp .le (.v 1) (.z 1000)) (.ite (.not (.cmp .eq (.v 0) (.z 4))) (.ite (.cmp .le (.z 0) (.v 2)) (.ite (.cmp .le (.v 2) (.z 25)) (.ite (.cmp .le (.z 0) (.v 3)) (.ite (.cmp .le (.v 0) (.z 3)) (.lett (.mul (.v 2) (.v 1)) <|
.ret (.bool (.cmp .le (.v 3) (.v 4)))) <|
.lett (.mul (.v 2) (.z 1000000)) <|
.ret (.bool (.cmp .le (.v 3) (.v 4)))) <|
.ret (.bool .f)) <|
.ret (.bool .f)) <|
.ret (.bool .f)) <|
.ite (.cmp .eq (.v 1) (.z 1)) (.ite (.cmp .le (.z 0) (.v 2)) (.ite (.cmp .le (.v 2) (.z 25)) (.ite (.cmp .le (.z 0) (.v 3)) (.lett (.mul (.v 2) (.z 1000000)) <|
.ret (.bool (.cmp .le (.v 3) (.v 4)))) <|
.ret (.bool .f)) <|
.ret (.bool .f)) <|
.ret (.bool .f)) <|
.ret (.bool .f)) <|
.ret (.bool .f)) <|
.ret (.bool .f)) <|
.ret (.bool .f)) <|
.ret (.bool .f)
noncomputable def rright_cx : Ctx := { tys := tys, fns := fns, sps := [], anns := [], trys := [] }
def rright_ivs : List (Option (Int × Int)) := [some ((-9223372036854775808), 9223372036854775807), some ((-9223372036854775808), 9223372036854775807), some ((-9223372036854775808), 9223372036854775807), some ((-9223372036854775808), 9223372036854775807)]
set_option maxRecDepth 100000 in
theorem rright_walk : runFn rright_cx 3000 13 Try.f13 rright_sp.args rright_ivs = rright_tree := by kernel_rfl
noncomputable def rright_M : Nat → SpecSem
  | _ => noSem
theorem rright_cxok : CxOK Try.prog rright_cx rright_M := ⟨tysOK, fnsOK, fun _ _ h => spNil h, mixedOK, fun _ _ h => trNil h⟩

def rright_sem : SpecSem := tright_sem
theorem rright_ok : SpecOK Try.prog 13 rright_sp rright_sem := by
  refine spec_of_tree rright_cxok Try.func13 (by kernel_rfl) (by kernel_rfl) rright_walk rfl ?_
  intro cs hpre
  match cs, hpre with
  | [.i k, .i s, .i m, .i u], ⟨⟨h1, h2⟩, ⟨h3, h4⟩, ⟨h5, h6⟩, ⟨h7, h8⟩⟩ =>
    refine ⟨rfl, IvsB.ok (by simp only [rright_ivs, IvsB, Cv.int, and_true]; omega), ?_, ?_⟩
    · simp only [rright_sem, tright_sem, rright_sp, Fits, and_true]
    · simp only [rright_sem, tright_sem, rright_sp, rright_tree, Tree.den, List.getElem?_cons_zero, List.getElem?_cons_succ, IE.den, BE.den, At.den, CA.den, Env.get, Cv.int, Cv.bool, List.cons_append, List.nil_append, List.map_cons, List.map_nil, bindRes, bindEq, Fits, SV.den, denL, place, placeL, eq_t, eq_f, lt_t, lt_f, le_t, le_f, beq_iff_eq, beq_eq_false_iff_ne, ne_eq, reduceCtorEq, b_dec, decide_eq_true_eq, decide_eq_false_iff_not, Bool.not_eq_false', Bool.or_eq_true, Bool.or_eq_false_iff, Bool.and_eq_false_iff, true_iff, false_iff, Bool.false_eq_true, Bool.not_eq_true', Bool.and_eq_true, Bool.not_true, Bool.not_false, List.cons.injEq, Cv.i.injEq, Cv.b.injEq, and_true, true_and, agg_inj, tup_inj, Value.int.injEq, Value.bool.injEq]
      unfold TRight TSizes most
      by_cases hk : k ≤ 3
      · rw [if_pos hk]; (repeat' (first | intro _ | refine And.intro ?_ ?_ | exact trivial)) <;> omega
      · rw [if_neg hk]; (repeat' (first | intro _ | refine And.intro ?_ ?_ | exact trivial)) <;> omega

def rsizes_sp : SpecSh := { args := [(.int .i64 (.z 0)), (.int .i64 (.z 0))], res := (.bool .f), sh := [.b] }
set_option maxRecDepth 100000 in
def rsizes_tree : Tree :=
.ite (.cmp .le (.z 2) (.v 0)) (.ite (.cmp .le (.v 0) (.z 5)) (.ite (.cmp .le (.z 1) (.v 1)) (.ite (.cmp .le (.v 1) (.z 1000)) (.ite (.not (.cmp .eq (.v 0) (.z 4))) (.ret (.bool .t)) <|
.ret (.bool (.cmp .eq (.v 1) (.z 1)))) <|
.ret (.bool .f)) <|
.ret (.bool .f)) <|
.ret (.bool .f)) <|
.ret (.bool .f)
noncomputable def rsizes_cx : Ctx := { tys := tys, fns := fns, sps := [], anns := [], trys := [] }
def rsizes_ivs : List (Option (Int × Int)) := [some ((-9223372036854775808), 9223372036854775807), some ((-9223372036854775808), 9223372036854775807)]
set_option maxRecDepth 100000 in
theorem rsizes_walk : runFn rsizes_cx 3000 15 Try.f15 rsizes_sp.args rsizes_ivs = rsizes_tree := by kernel_rfl
noncomputable def rsizes_M : Nat → SpecSem
  | _ => noSem
theorem rsizes_cxok : CxOK Try.prog rsizes_cx rsizes_M := ⟨tysOK, fnsOK, fun _ _ h => spNil h, mixedOK, fun _ _ h => trNil h⟩

def rsizes_sem : SpecSem := { pre := fun cs => match cs with | [.i k, .i s] => IsI k ∧ IsI s | _ => False, out := fun cs => match cs with | [.i k, .i s] => [.b (decide (TSizes k s))] | _ => [] }
theorem rsizes_ok : SpecOK Try.prog 15 rsizes_sp rsizes_sem := by
  refine spec_of_tree rsizes_cxok Try.func15 (by kernel_rfl) (by kernel_rfl) rsizes_walk rfl ?_
  intro cs hpre
  match cs, hpre with
  | [.i k, .i s], ⟨⟨h1, h2⟩, ⟨h3, h4⟩⟩ =>
    refine ⟨rfl, IvsB.ok (by simp only [rsizes_ivs, IvsB, Cv.int, and_true]; omega), ?_, ?_⟩
    · simp only [rsizes_sem, rsizes_sp, Fits, and_true]
    · simp only [rsizes_sem, rsizes_sp, rsizes_tree, Tree.den, List.getElem?_cons_zero, List.getElem?_cons_succ, IE.den, BE.den, At.den, CA.den, Env.get, Cv.int, Cv.bool, List.cons_append, List.nil_append, List.map_cons, List.map_nil, bindRes, bindEq, Fits, SV.den, denL, place, placeL, eq_t, eq_f, lt_t, lt_f, le_t, le_f, beq_iff_eq, beq_eq_false_iff_ne, ne_eq, reduceCtorEq, b_dec, decide_eq_true_eq, decide_eq_false_iff_not, Bool.not_eq_false', Bool.or_eq_true, Bool.or_eq_false_iff, Bool.and_eq_false_iff, true_iff, false_iff, Bool.false_eq_true, Bool.not_eq_true', Bool.and_eq_true, Bool.not_true, Bool.not_false, List.cons.injEq, Cv.i.injEq, Cv.b.injEq, and_true, true_and, agg_inj, tup_inj, Value.int.injEq, Value.bool.injEq]
      unfold TSizes
      (repeat' (first | intro _ | refine And.intro ?_ ?_ | exact trivial)) <;> omega

def rcount_sp : SpecSh := { args := [(.agg [(.int .i64 (.z 0)), (.int .i64 (.z 0)), (.int .i64 (.z 0)), (.int .i64 (.z 0))]), (.int .i64 (.z 0))], res := (.bool .f), sh := [.b] }
set_option maxRecDepth 100000 in
def rcount_tree : Tree :=
.ite (.cmp .le (.z 0) (.v 4)) (.ite (.cmp .le (.v 0) (.z 3)) (.ret (.bool (.cmp .le (.v 4) (.v 1)))) <|
.ret (.bool (.cmp .le (.v 4) (.z 1000000)))) <|
.ret (.bool .f)
noncomputable def rcount_cx : Ctx := { tys := tys, fns := fns, sps := [], anns := [], trys := [] }
def rcount_ivs : List (Option (Int × Int)) := [some ((-9223372036854775808), 9223372036854775807), some ((-9223372036854775808), 9223372036854775807), some ((-9223372036854775808), 9223372036854775807), some ((-9223372036854775808), 9223372036854775807), some ((-9223372036854775808), 9223372036854775807)]
set_option maxRecDepth 100000 in
theorem rcount_walk : runFn rcount_cx 3000 16 Try.f16 rcount_sp.args rcount_ivs = rcount_tree := by kernel_rfl
noncomputable def rcount_M : Nat → SpecSem
  | _ => noSem
theorem rcount_cxok : CxOK Try.prog rcount_cx rcount_M := ⟨tysOK, fnsOK, fun _ _ h => spNil h, mixedOK, fun _ _ h => trNil h⟩

def rcount_sem : SpecSem := { pre := fun cs => match cs with | [.i k, .i s, .i m, .i u, .i d] => IsI k ∧ IsI s ∧ IsI m ∧ IsI u ∧ IsI d | _ => False, out := fun cs => match cs with | [.i k, .i s, .i m, .i u, .i d] => [.b (decide (TCount k s d))] | _ => [] }
theorem rcount_ok : SpecOK Try.prog 16 rcount_sp rcount_sem := by
  refine spec_of_tree rcount_cxok Try.func16 (by kernel_rfl) (by kernel_rfl) rcount_walk rfl ?_
  intro cs hpre
  match cs, hpre with
  | [.i k, .i s, .i m, .i u, .i d], ⟨⟨h1, h2⟩, ⟨h3, h4⟩, ⟨h5, h6⟩, ⟨h7, h8⟩, ⟨h9, h10⟩⟩ =>
    refine ⟨rfl, IvsB.ok (by simp only [rcount_ivs, IvsB, Cv.int, and_true]; omega), ?_, ?_⟩
    · simp only [rcount_sem, rcount_sp, Fits, and_true]
    · simp only [rcount_sem, rcount_sp, rcount_tree, Tree.den, List.getElem?_cons_zero, List.getElem?_cons_succ, IE.den, BE.den, At.den, CA.den, Env.get, Cv.int, Cv.bool, List.cons_append, List.nil_append, List.map_cons, List.map_nil, bindRes, bindEq, Fits, SV.den, denL, place, placeL, eq_t, eq_f, lt_t, lt_f, le_t, le_f, beq_iff_eq, beq_eq_false_iff_ne, ne_eq, reduceCtorEq, b_dec, decide_eq_true_eq, decide_eq_false_iff_not, Bool.not_eq_false', Bool.or_eq_true, Bool.or_eq_false_iff, Bool.and_eq_false_iff, true_iff, false_iff, Bool.false_eq_true, Bool.not_eq_true', Bool.and_eq_true, Bool.not_true, Bool.not_false, List.cons.injEq, Cv.i.injEq, Cv.b.injEq, and_true, true_and, agg_inj, tup_inj, Value.int.injEq, Value.bool.injEq]
      unfold TCount most
      by_cases hk : k ≤ 3
      · rw [if_pos hk]; (repeat' (first | intro _ | refine And.intro ?_ ?_ | exact trivial)) <;> omega
      · rw [if_neg hk]; (repeat' (first | intro _ | refine And.intro ?_ ?_ | exact trivial)) <;> omega

def tnew_sp : SpecSh := { args := [(.int .i64 (.z 0)), (.int .i64 (.z 0))], res := (.tup [(.agg [(.int .i64 (.z 0)), (.int .i64 (.z 0)), (.int .i64 (.z 0)), (.int .i64 (.z 0))]), (.int .i64 (.z 0))]), sh := [.i (some ((-9223372036854775808), 9223372036854775807)), .i (some ((-9223372036854775808), 9223372036854775807)), .i (some ((-9223372036854775808), 9223372036854775807)), .i (some ((-9223372036854775808), 9223372036854775807)), .i (some ((-9223372036854775808), 9223372036854775807))] }
set_option maxRecDepth 100000 in
def tnew_tree : Tree :=
.call 12 [.b] [.i (.v 0), .i (.v 1), .i (.z 0), .i (.z 0)] <|
.ite (.not (.v 2)) (.ret (.tup [(.agg [(.int .i64 (.z 0)), (.int .i64 (.z 0)), (.int .i64 (.z 0)), (.int .i64 (.z 0))]), (.int .i64 (.z 1))])) <|
.ret (.tup [(.agg [(.int .i64 (.v 0)), (.int .i64 (.v 1)), (.int .i64 (.z 0)), (.int .i64 (.z 0))]), (.int .i64 (.z 0))])
noncomputable def tnew_cx : Ctx := { tys := tys, fns := fns, sps := [(12, tright_sp)], anns := [], trys := [] }
def tnew_ivs : List (Option (Int × Int)) := [some ((-9223372036854775808), 9223372036854775807), some ((-9223372036854775808), 9223372036854775807)]
set_option maxRecDepth 100000 in
theorem tnew_walk : runFn tnew_cx 3000 10 Try.f10 tnew_sp.args tnew_ivs = tnew_tree := by kernel_rfl
noncomputable def tnew_M : Nat → SpecSem
  | 12 => tright_sem
  | _ => noSem
theorem tnew_M12 : tnew_M 12 = tright_sem := rfl
theorem tnew_cxok : CxOK Try.prog tnew_cx tnew_M := ⟨tysOK, fnsOK, spCons tright_ok <| fun _ _ h => spNil h, mixedOK, fun _ _ h => trNil h⟩

def tnew_sem : SpecSem := { pre := fun cs => match cs with | [.i k, .i s] => IsI k ∧ IsI s | _ => False, out := fun cs => match cs with | [.i k, .i s] => [.i (if TSizes k s then k else 0), .i (if TSizes k s then s else 0), .i 0, .i 0, .i (if TSizes k s then 0 else 1)] | _ => [] }
theorem tright_zero {k s : Int} : TRight k s 0 0 ↔ TSizes k s := by
  unfold TRight; rw [Int.zero_mul]; exact ⟨fun h => h.1, fun h => ⟨h, by omega, by omega, by omega, by omega⟩⟩
theorem tnew_ok : SpecOK Try.prog 10 tnew_sp tnew_sem := by
  refine spec_of_tree tnew_cxok Try.func10 (by kernel_rfl) (by kernel_rfl) tnew_walk rfl ?_
  intro cs hpre
  match cs, hpre with
  | [.i k, .i s], ⟨⟨h1, h2⟩, ⟨h3, h4⟩⟩ =>
    refine ⟨rfl, IvsB.ok (by simp only [tnew_ivs, IvsB, Cv.int, and_true]; omega), ?_, ?_⟩
    · simp only [tnew_sem, tnew_sp, Fits, and_true]
      by_cases hs : TSizes k s
      · simp only [if_pos hs]; unfold TSizes at hs; omega
      · simp only [if_neg hs]; omega
    · simp only [tnew_sem, tnew_sp, tnew_tree, tnew_M12, tright_sem, Tree.den, List.getElem?_cons_zero, List.getElem?_cons_succ, IE.den, BE.den, At.den, CA.den, Env.get, Cv.int, Cv.bool, List.cons_append, List.nil_append, List.map_cons, List.map_nil, bindRes, bindEq, Fits, SV.den, denL, place, placeL, eq_t, eq_f, lt_t, lt_f, le_t, le_f, beq_iff_eq, beq_eq_false_iff_ne, ne_eq, reduceCtorEq, b_dec, decide_eq_true_eq, decide_eq_false_iff_not, Bool.not_eq_false', Bool.or_eq_true, Bool.or_eq_false_iff, Bool.and_eq_false_iff, true_iff, false_iff, Bool.false_eq_true, Bool.not_eq_true', Bool.and_eq_true, Bool.not_true, Bool.not_false, List.cons.injEq, Cv.i.injEq, Cv.b.injEq, and_true, true_and, agg_inj, tup_inj, Value.int.injEq, Value.bool.injEq]
      simp only [tright_zero, IsI]
      by_cases hs : TSizes k s
      · simp only [if_pos hs]; refine ⟨by omega, fun h => absurd hs h, fun _ => ?_⟩; (repeat' (first | intro _ | refine And.intro ?_ ?_ | exact trivial)) <;> omega
      · simp only [if_neg hs]; refine ⟨by omega, fun h => ?_, fun h => absurd h hs⟩; (repeat' (first | intro _ | refine And.intro ?_ ?_ | exact trivial)) <;> omega

def ttake_sp : SpecSh := { args := [(.agg [(.int .i64 (.z 0)), (.int .i64 (.z 0)), (.int .i64 (.z 0)), (.int .i64 (.z 0))]), (.int .i64 (.z 0))], res := (.tup [(.agg [(.int .i64 (.z 0)), (.int .i64 (.z 0)), (.int .i64 (.z 0)), (.int .i64 (.z 0))]), (.int .i64 (.z 0))]), sh := [.i (some ((-9223372036854775808), 9223372036854775807)), .i (some ((-9223372036854775808), 9223372036854775807)), .i (some ((-9223372036854775808), 9223372036854775807)), .i (some ((-9223372036854775808), 9223372036854775807)), .i (some ((-9223372036854775808), 9223372036854775807))] }
set_option maxRecDepth 100000 in
def ttake_tree : Tree :=
.call 12 [.b] [.i (.v 0), .i (.v 1), .i (.v 2), .i (.v 3)] <|
.ite (.v 5) (.ite (.cmp .le (.z 0) (.v 4)) (.ite (.cmp .eq (.v 0) (.z 2)) (.ite (.not (.cmp .le (.v 4) (.v 1))) (.ret (.tup [(.agg [(.int .i64 (.z 0)), (.int .i64 (.z 0)), (.int .i64 (.z 0)), (.int .i64 (.z 0))]), (.int .i64 (.z 1))])) <|
.ite (.cmp .eq (.v 2) (.z 25)) (.ret (.tup [(.agg [(.int .i64 (.z 0)), (.int .i64 (.z 0)), (.int .i64 (.z 0)), (.int .i64 (.z 0))]), (.int .i64 (.z 11))])) <|
.lett (.addw .i64 (.v 2) (.z 1)) <|
.lett (.addw .i64 (.v 3) (.v 4)) <|
.ret (.tup [(.agg [(.int .i64 (.v 0)), (.int .i64 (.v 1)), (.int .i64 (.v 6)), (.int .i64 (.v 7))]), (.int .i64 (.z 0))])) <|
.ite (.cmp .eq (.v 0) (.z 3)) (.ite (.not (.cmp .le (.v 4) (.v 1))) (.ret (.tup [(.agg [(.int .i64 (.z 0)), (.int .i64 (.z 0)), (.int .i64 (.z 0)), (.int .i64 (.z 0))]), (.int .i64 (.z 1))])) <|
.ite (.cmp .eq (.v 2) (.z 25)) (.ret (.tup [(.agg [(.int .i64 (.z 0)), (.int .i64 (.z 0)), (.int .i64 (.z 0)), (.int .i64 (.z 0))]), (.int .i64 (.z 11))])) <|
.lett (.addw .i64 (.v 2) (.z 1)) <|
.lett (.addw .i64 (.v 3) (.v 4)) <|
.ret (.tup [(.agg [(.int .i64 (.v 0)), (.int .i64 (.v 1)), (.int .i64 (.v 6)), (.int .i64 (.v 7))]), (.int .i64 (.z 0))])) <|
.ite (.cmp .eq (.v 0) (.z 4)) (.ite (.not (.cmp .le (.v 4) (.z 1000000))) (.ret (.tup [(.agg [(.int .i64 (.z 0)), (.int .i64 (.z 0)), (.int .i64 (.z 0)), (.int .i64 (.z 0))]), (.int .i64 (.z 1))])) <|
.ite (.cmp .eq (.v 2) (.z 25)) (.ret (.tup [(.agg [(.int .i64 (.z 0)), (.int .i64 (.z 0)), (.int .i64 (.z 0)), (.int .i64 (.z 0))]), (.int .i64 (.z 11))])) <|
.lett (.addw .i64 (.v 2) (.z 1)) <|
.lett (.addw .i64 (.v 3) (.v 4)) <|
.ret (.tup [(.agg [(.int .i64 (.v 0)), (.int .i64 (.v 1)), (.int .i64 (.v 6)), (.int .i64 (.v 7))]), (.int .i64 (.z 0))])) <|
.ite (.cmp .eq (.v 0) (.z 5)) (.ite (.not (.cmp .le (.v 4) (.z 1000000))) (.ret (.tup [(.agg [(.int .i64 (.z 0)), (.int .i64 (.z 0)), (.int .i64 (.z 0)), (.int .i64 (.z 0))]), (.int .i64 (.z 1))])) <|
.ite (.cmp .eq (.v 2) (.z 25)) (.ret (.tup [(.agg [(.int .i64 (.z 0)), (.int .i64 (.z 0)), (.int .i64 (.z 0)), (.int .i64 (.z 0))]), (.int .i64 (.z 11))])) <|
.lett (.addw .i64 (.v 2) (.z 1)) <|
.lett (.addw .i64 (.v 3) (.v 4)) <|
.ret (.tup [(.agg [(.int .i64 (.v 0)), (.int .i64 (.v 1)), (.int .i64 (.v 6)), (.int .i64 (.v 7))]), (.int .i64 (.z 0))])) <|
.bad 27) <|
.ret (.tup [(.agg [(.int .i64 (.z 0)), (.int .i64 (.z 0)), (.int .i64 (.z 0)), (.int .i64 (.z 0))]), (.int .i64 (.z 1))])) <|
.ret (.tup [(.agg [(.int .i64 (.z 0)), (.int .i64 (.z 0)), (.int .i64 (.z 0)), (.int .i64 (.z 0))]), (.int .i64 (.z 1))])
noncomputable def ttake_cx : Ctx := { tys := tys, fns := fns, sps := [(12, tright_sp)], anns := [], trys := [] }
def ttake_ivs : List (Option (Int × Int)) := [some ((-9223372036854775808), 9223372036854775807), some ((-9223372036854775808), 9223372036854775807), some ((-9223372036854775808), 9223372036854775807), some ((-9223372036854775808), 9223372036854775807), some ((-9223372036854775808), 9223372036854775807)]
set_option maxRecDepth 100000 in
theorem ttake_walk : runFn ttake_cx 3000 11 Try.f11 ttake_sp.args ttake_ivs = ttake_tree := by kernel_rfl
noncomputable def ttake_M : Nat → SpecSem
  | 12 => tright_sem
  | _ => noSem
theorem ttake_M12 : ttake_M 12 = tright_sem := rfl
theorem ttake_cxok : CxOK Try.prog ttake_cx ttake_M := ⟨tysOK, fnsOK, spCons tright_ok <| fun _ _ h => spNil h, mixedOK, fun _ _ h => trNil h⟩

/-- may a count come? -/
def TMay (k s m u d : Int) : Prop := TRight k s m u ∧ TCount k s d
instance (k s m u d : Int) : Decidable (TMay k s m u d) := by unfold TMay; infer_instance
def ttake_sem : SpecSem := { pre := fun cs => match cs with | [.i k, .i s, .i m, .i u, .i d] => IsI k ∧ IsI s ∧ IsI m ∧ IsI u ∧ IsI d | _ => False, out := fun cs => match cs with | [.i k, .i s, .i m, .i u, .i d] => [.i (if TMay k s m u d ∧ m < 25 then k else 0), .i (if TMay k s m u d ∧ m < 25 then s else 0), .i (if TMay k s m u d ∧ m < 25 then m + 1 else 0), .i (if TMay k s m u d ∧ m < 25 then u + d else 0), .i (if TMay k s m u d then (if m < 25 then 0 else 11) else 1)] | _ => [] }
theorem tmay_rng {k s m u d : Int} (h : TMay k s m u d) : (k = 2 ∨ k = 3 ∨ k = 4 ∨ k = 5) ∧ 1 ≤ s ∧ s ≤ 1000 ∧ 0 ≤ m ∧ m ≤ 25 ∧ 0 ≤ u ∧ u ≤ 25000000 ∧ 0 ≤ d ∧ d ≤ 1000000 ∧ d ≤ most k s ∧ (k = 4 → s = 1) := by
  obtain ⟨⟨⟨a1, a2, a3, a4, a5⟩, b1, b2, b3, b4⟩, c1, c2⟩ := h
  have hm : 0 ≤ most k s ∧ most k s ≤ 1000000 := by unfold most; split <;> omega
  have hu : m * most k s ≤ 25 * 1000000 := Int.mul_le_mul b2 hm.2 hm.1 (by omega)
  omega
theorem ttake_ok : SpecOK Try.prog 11 ttake_sp ttake_sem := by
  refine spec_of_tree ttake_cxok Try.func11 (by kernel_rfl) (by kernel_rfl) ttake_walk rfl ?_
  intro cs hpre
  match cs, hpre with
  | [.i k, .i s, .i m, .i u, .i d], ⟨⟨h1, h2⟩, ⟨h3, h4⟩, ⟨h5, h6⟩, ⟨h7, h8⟩, ⟨h9, h10⟩⟩ =>
    refine ⟨rfl, IvsB.ok (by simp only [ttake_ivs, IvsB, Cv.int, and_true]; omega), ?_, ?_⟩
    · simp only [ttake_sem, ttake_sp, Fits, and_true]
      by_cases hs : TMay k s m u d
      · have := tmay_rng hs
        simp only [hs, true_and, if_true]
        by_cases hm : m < 25
        · simp only [if_pos hm]; omega
        · simp only [if_neg hm]; omega
      · simp only [hs, false_and, if_false]; (repeat' (first | intro _ | refine And.intro ?_ ?_ | exact trivial)) <;> omega
    · simp only [ttake_sem, ttake_sp, ttake_tree, ttake_M12, tright_sem, Tree.den, List.getElem?_cons_zero, List.getElem?_cons_succ, IE.den, BE.den, At.den, CA.den, Env.get, Cv.int, Cv.bool, List.cons_append, List.nil_append, List.map_cons, List.map_nil, bindRes, bindEq, Fits, SV.den, denL, place, placeL, eq_t, eq_f, lt_t, lt_f, le_t, le_f, beq_iff_eq, beq_eq_false_iff_ne, ne_eq, reduceCtorEq, b_dec, decide_eq_true_eq, decide_eq_false_iff_not, Bool.not_eq_false', Bool.or_eq_true, Bool.or_eq_false_iff, Bool.and_eq_false_iff, true_iff, false_iff, Bool.false_eq_true, Bool.not_eq_true', Bool.and_eq_true, Bool.not_true, Bool.not_false, List.cons.injEq, Cv.i.injEq, Cv.b.injEq, and_true, true_and, agg_inj, tup_inj, Value.int.injEq, Value.bool.injEq]
      simp only [IsI]
      refine ⟨by omega, fun hr => ⟨fun hd => ?_, fun hd => ?_⟩, fun hr => ?_⟩
      · by_cases hs : TMay k s m u d
        · have hg := tmay_rng hs
          have hmo := hs.2.2
          have w1 : IntKind.i64.wrap (m + 1) = m + 1 := wrap_id (by simp only [klo]; omega) (by simp only [khi]; omega)
          have w2 : IntKind.i64.wrap (u + d) = u + d := wrap_id (by simp only [klo]; omega) (by simp only [khi]; omega)
          simp only [hs, true_and, if_true, w1, w2]
          unfold most at hmo
          by_cases hm : m < 25
          · simp only [if_pos hm]
            by_cases hk : k ≤ 3
            · rw [if_pos hk] at hmo; (repeat' (first | intro _ | refine And.intro ?_ ?_ | exact trivial)) <;> omega
            · rw [if_neg hk] at hmo; (repeat' (first | intro _ | refine And.intro ?_ ?_ | exact trivial)) <;> omega
          · simp only [if_neg hm]
            by_cases hk : k ≤ 3
            · rw [if_pos hk] at hmo; (repeat' (first | intro _ | refine And.intro ?_ ?_ | exact trivial)) <;> omega
            · rw [if_neg hk] at hmo; (repeat' (first | intro _ | refine And.intro ?_ ?_ | exact trivial)) <;> omega
        · have hmo : ¬ d ≤ most k s := fun h => hs ⟨hr, hd, h⟩
          have hg := hr.1
          unfold TSizes at hg
          simp only [hs, false_and, if_false]
          unfold most at hmo
          by_cases hk : k ≤ 3
          · rw [if_pos hk] at hmo; (repeat' (first | intro _ | refine And.intro ?_ ?_ | exact trivial)) <;> omega
          · rw [if_neg hk] at hmo; (repeat' (first | intro _ | refine And.intro ?_ ?_ | exact trivial)) <;> omega
      · have hs : ¬ TMay k s m u d := fun h => by have := h.2.1; omega
        simp only [hs, false_and, if_false]; (repeat' (first | intro _ | refine And.intro ?_ ?_ | exact trivial)) <;> omega
      · have hs : ¬ TMay k s m u d := fun h => hr h.1
        simp only [hs, false_and, if_false]; (repeat' (first | intro _ | refine And.intro ?_ ?_ | exact trivial)) <;> omega

def talive_sp : SpecSh := { args := [], res := (.bool .f), sh := [.b] }
set_option maxRecDepth 100000 in
def talive_tree : Tree :=
.call 25 [.i (some (0, 18446744073709551615)), .i (some (0, 18446744073709551615))] [.i (.z 64), .i (.z 10)] <|
.ret (.bool (.cmp .eq (.v 1) (.z 640)))
noncomputable def talive_cx : Ctx := { tys := tys, fns := fns, sps := [(25, mul_sp)], anns := [], trys := [] }
def talive_ivs : List (Option (Int × Int)) := []
set_option maxRecDepth 100000 in
theorem talive_walk : runFn talive_cx 3000 14 Try.f14 talive_sp.args talive_ivs = talive_tree := by kernel_rfl
noncomputable def talive_M : Nat → SpecSem
  | 25 => mul_sem
  | _ => noSem
theorem talive_M25 : talive_M 25 = mul_sem := rfl
theorem talive_cxok : CxOK Try.prog talive_cx talive_M := ⟨tysOK, fnsOK, spCons mul_ok <| fun _ _ h => spNil h, mixedOK, fun _ _ h => trNil h⟩

def talive_sem : SpecSem := { pre := fun cs => match cs with | [] => True | _ => False, out := fun cs => match cs with | [] => [.b true] | _ => [] }
theorem talive_ok : SpecOK Try.prog 14 talive_sp talive_sem := by
  refine spec_of_tree talive_cxok Try.func14 (by kernel_rfl) (by kernel_rfl) talive_walk rfl ?_
  intro cs hpre
  match cs, hpre with
  | [], _ =>
    refine ⟨rfl, IvsB.ok trivial, trivial, ?_⟩
    simp only [talive_sem, talive_sp, IsU, talive_tree, talive_M25, mul_sem, Tree.den, List.getElem?_cons_zero, List.getElem?_cons_succ, IE.den, BE.den, At.den, CA.den, Env.get, Cv.int, Cv.bool, List.cons_append, List.nil_append, List.map_cons, List.map_nil, bindRes, bindEq, Fits, SV.den, denL, place, placeL, eq_t, eq_f, lt_t, lt_f, le_t, le_f, beq_iff_eq, beq_eq_false_iff_ne, ne_eq, reduceCtorEq, b_dec, decide_eq_true_eq, decide_eq_false_iff_not, Bool.not_eq_false', Bool.or_eq_true, Bool.or_eq_false_iff, Bool.and_eq_false_iff, true_iff, false_iff, Bool.false_eq_true, Bool.not_eq_true', Bool.and_eq_true, Bool.not_true, Bool.not_false, List.cons.injEq, Cv.i.injEq, Cv.b.injEq, and_true, true_and, agg_inj, tup_inj, Value.int.injEq, Value.bool.injEq]
    (repeat' (first | intro _ | refine And.intro ?_ ?_ | exact trivial)) <;> omega

end Go.Proofs.Ytlakihbodohggaa.X
