/-
  The contracts of package tally, for every input (the document's answer for it stands apart).
-/
import Derived.Test.YtgnihomdpandfaaSxWide2
import Derived.Test.YtgnihomdpandfaaSxAbs
namespace Go.Proofs.Ytgnihomdpandfaa.X
open Go Go.SX Go.RowKit
set_option linter.unusedVariables false
set_option linter.unusedSimpArgs false

def most (k s : Int) : Int := if k ≤ 3 then s else 1000000
def TSizes (k s : Int) : Prop := 2 ≤ k ∧ k ≤ 5 ∧ 1 ≤ s ∧ s ≤ 1000 ∧ (k ≠ 4 ∨ s = 1)
instance (k s : Int) : Decidable (TSizes k s) := by unfold TSizes; infer_instance
def TRight (k s m u : Int) : Prop := TSizes k s ∧ 0 ≤ m ∧ m ≤ 25 ∧ 0 ≤ u ∧ u ≤ m * most k s
instance (k s m u : Int) : Decidable (TRight k s m u) := by unfold TRight; infer_instance
def TCount (k s d : Int) : Prop := 0 ≤ d ∧ d ≤ most k s
instance (k s d : Int) : Decidable (TCount k s d) := by unfold TCount; infer_instance
theorem most_lo {k s : Int} (h : k = 2 ∨ k = 3) : most k s = s := by unfold most; rw [if_pos (by omega)]
theorem most_hi {k s : Int} (h : k = 4 ∨ k = 5) : most k s = 1000000 := by unfold most; rw [if_neg (by omega)]

def tright_sp : SpecSh := { args := [(.agg [(.int .i64 (.z 0)), (.int .i64 (.z 0)), (.int .i64 (.z 0)), (.int .i64 (.z 0))])], res := (.bool .f), sh := [.b] }
set_option maxRecDepth 100000 in
def tright_tree : Tree :=
.ite (.cmp .eq (.v 0) (.z 2)) (.ite (.cmp .lt (.v 1) (.z 1)) (.ret (.bool .f)) <|
.ite (.cmp .lt (.z 1000) (.v 1)) (.ret (.bool .f)) <|
.ite (.cmp .lt (.v 2) (.z 0)) (.ret (.bool .f)) <|
.ite (.cmp .lt (.z 25) (.v 2)) (.ret (.bool .f)) <|
.ite (.cmp .le (.z 0) (.v 3)) (.lett (.mul (.v 2) (.v 1)) <|
.ret (.bool (.cmp .le (.v 3) (.v 4)))) <|
.ret (.bool .f)) <|
.ite (.cmp .eq (.v 0) (.z 3)) (.ite (.cmp .lt (.v 1) (.z 1)) (.ret (.bool .f)) <|
.ite (.cmp .lt (.z 1000) (.v 1)) (.ret (.bool .f)) <|
.ite (.cmp .lt (.v 2) (.z 0)) (.ret (.bool .f)) <|
.ite (.cmp .lt (.z 25) (.v 2)) (.ret (.bool .f)) <|
.ite (.cmp .le (.z 0) (.v 3)) (.lett (.mul (.v 2) (.v 1)) <|
.ret (.bool (.cmp .le (.v 3) (.v 4)))) <|
.ret (.bool .f)) <|
.ite (.cmp .eq (.v 0) (.z 4)) (.ite (.cmp .lt (.v 1) (.z 1)) (.ret (.bool .f)) <|
.ite (.cmp .lt (.z 1000) (.v 1)) (.ret (.bool .f)) <|
.ite (.cmp .lt (.z 1) (.v 1)) (.ret (.bool .f)) <|
.ite (.cmp .lt (.v 2) (.z 0)) (.ret (.bool .f)) <|
.ite (.cmp .lt (.z 25) (.v 2)) (.ret (.bool .f)) <|
.ite (.cmp .le (.z 0) (.v 3)) (.lett (.mul (.v 2) (.z 1000000)) <|
.ret (.bool (.cmp .le (.v 3) (.v 4)))) <|
.ret (.bool .f)) <|
.ite (.cmp .eq (.v 0) (.z 5)) (.ite (.cmp .lt (.v 1) (.z 1)) (.ret (.bool .f)) <|
.ite (.cmp .lt (.z 1000) (.v 1)) (.ret (.bool .f)) <|
.ite (.cmp .lt (.v 2) (.z 0)) (.ret (.bool .f)) <|
.ite (.cmp .lt (.z 25) (.v 2)) (.ret (.bool .f)) <|
.ite (.cmp .le (.z 0) (.v 3)) (.lett (.mul (.v 2) (.z 1000000)) <|
.ret (.bool (.cmp .le (.v 3) (.v 4)))) <|
.ret (.bool .f)) <|
.ret (.bool .f)
noncomputable def tright_cx : Ctx := { tys := tys, fns := fns, sps := [], anns := [], trys := [] }
def tright_ivs : List (Option (Int × Int)) := [some ((-9223372036854775808), 9223372036854775807), some ((-9223372036854775808), 9223372036854775807), some ((-9223372036854775808), 9223372036854775807), some ((-9223372036854775808), 9223372036854775807)]
set_option maxRecDepth 100000 in
theorem tright_walk : runFn tright_cx 3000 66 Try.f66 tright_sp.args tright_ivs = tright_tree := by kernel_rfl
noncomputable def tright_M : Nat → SpecSem
  | _ => noSem
theorem tright_cxok : CxOK Try.prog tright_cx tright_M := ⟨tysOK, fnsOK, fun _ _ h => spNil h, mixedOK, fun _ _ h => trNil h⟩

def tright_sem : SpecSem := { pre := fun cs => match cs with | [.i k, .i s, .i m, .i u] => IsI k ∧ IsI s ∧ IsI m ∧ IsI u | _ => False, out := fun cs => match cs with | [.i k, .i s, .i m, .i u] => [.b (decide (TRight k s m u))] | _ => [] }
theorem tright_ok : SpecOK Try.prog 66 tright_sp tright_sem := by
  refine spec_of_tree tright_cxok Try.func66 (by kernel_rfl) (by kernel_rfl) tright_walk rfl ?_
  intro cs hpre
  match cs, hpre with
  | [.i k, .i s, .i m, .i u], ⟨⟨h1, h2⟩, ⟨h3, h4⟩, ⟨h5, h6⟩, ⟨h7, h8⟩⟩ =>
    refine ⟨rfl, IvsB.ok (by simp only [tright_ivs, IvsB, Cv.int, and_true]; omega), ?_, ?_⟩
    · simp only [tright_sem, tright_sp, Fits, and_true]
    · simp only [tright_sem, tright_sp, tright_tree, Tree.den, LE.den, Cv.list, placeA, List.getElem?_cons_zero, List.getElem?_cons_succ, IE.den, BE.den, At.den, CA.den, Env.get, Cv.int, Cv.bool, List.cons_append, List.nil_append, List.map_cons, List.map_nil, bindRes, bindEq, Fits, SV.den, denL, place, placeL, eq_t, eq_f, lt_t, lt_f, le_t, le_f, beq_iff_eq, beq_eq_false_iff_ne, ne_eq, reduceCtorEq, b_dec, decide_eq_true_eq, decide_eq_false_iff_not, Bool.not_eq_false', Bool.or_eq_true, Bool.or_eq_false_iff, Bool.and_eq_false_iff, true_iff, false_iff, Bool.false_eq_true, Bool.not_eq_true', Bool.and_eq_true, Bool.not_true, Bool.not_false, List.cons.injEq, Cv.i.injEq, Cv.b.injEq, and_true, true_and, agg_inj, tup_inj, Value.int.injEq, Value.bool.injEq]
      refine ⟨fun e => ?_, fun e => ⟨fun e => ?_, fun e => ⟨fun e => ?_, fun e => ⟨fun e => ?_, fun e => ?_⟩⟩⟩⟩
      · have hm := most_lo (k := k) (s := s) (by omega)
        unfold TRight TSizes; rw [hm]; (repeat' (first | intro _ | refine And.intro ?_ ?_ | exact trivial)) <;> omega
      · have hm := most_lo (k := k) (s := s) (by omega)
        unfold TRight TSizes; rw [hm]; (repeat' (first | intro _ | refine And.intro ?_ ?_ | exact trivial)) <;> omega
      · have hm := most_hi (k := k) (s := s) (by omega)
        unfold TRight TSizes; rw [hm]; (repeat' (first | intro _ | refine And.intro ?_ ?_ | exact trivial)) <;> omega
      · have hm := most_hi (k := k) (s := s) (by omega)
        unfold TRight TSizes; rw [hm]; (repeat' (first | intro _ | refine And.intro ?_ ?_ | exact trivial)) <;> omega
      · unfold TRight TSizes; omega

theorem tright_zero {k s : Int} : TRight k s 0 0 ↔ TSizes k s := by
  unfold TRight; rw [Int.zero_mul]; exact ⟨fun h => h.1, fun h => ⟨h, by omega, by omega, by omega, by omega⟩⟩


def tnew_sp : SpecSh := { args := [(.int .i64 (.z 0)), (.int .i64 (.z 0))], res := (.tup [(.agg [(.int .i64 (.z 0)), (.int .i64 (.z 0)), (.int .i64 (.z 0)), (.int .i64 (.z 0))]), (.int .i64 (.z 0))]), sh := [.i (some (2, 5)), .i (some (1, 1000)), .i (some (0, 0)), .i (some (0, 0)), .i (some (0, 0))] }
set_option maxRecDepth 100000 in
def tnew_tree : Tree :=
.call 66 [.b] [.i (.v 0), .i (.v 1), .i (.z 0), .i (.z 0)] <|
.ite (.not (.v 2)) (.ret (.tup [(.agg [(.int .i64 (.z 0)), (.int .i64 (.z 0)), (.int .i64 (.z 0)), (.int .i64 (.z 0))]), (.int .i64 (.z 1))])) <|
.ret (.tup [(.agg [(.int .i64 (.v 0)), (.int .i64 (.v 1)), (.int .i64 (.z 0)), (.int .i64 (.z 0))]), (.int .i64 (.z 0))])
noncomputable def tnew_cx : Ctx := { tys := tys, fns := fns, sps := [(66, tright_sp)], anns := [], trys := [] }
def tnew_ivs : List (Option (Int × Int)) := [some ((-9223372036854775808), 9223372036854775807), some ((-9223372036854775808), 9223372036854775807)]
set_option maxRecDepth 100000 in
theorem tnew_walk : runFn tnew_cx 3000 38 Try.f38 tnew_sp.args tnew_ivs = tnew_tree := by kernel_rfl
noncomputable def tnew_M : Nat → SpecSem
  | 66 => tright_sem
  | _ => noSem
theorem tnew_M66 : tnew_M 66 = tright_sem := rfl
theorem tnew_cxok : CxOK Try.prog tnew_cx tnew_M := ⟨tysOK, fnsOK, spCons tright_ok <| fun _ _ h => spNil h, mixedOK, fun _ _ h => trNil h⟩

def tnew_sem : SpecSem := { pre := fun cs => match cs with | [.i k, .i s] => IsI k ∧ IsI s ∧ (TSizes k s) | _ => False, out := fun cs => match cs with | [.i k, .i s] => [.i k, .i s, .i 0, .i 0, .i 0] | _ => [] }
set_option maxRecDepth 10000 in
set_option maxHeartbeats 16000000 in
theorem tnew_ok : SpecOK Try.prog 38 tnew_sp tnew_sem := by
  refine spec_of_tree tnew_cxok Try.func38 (by kernel_rfl) (by kernel_rfl) tnew_walk rfl ?_
  intro cs hpre
  match cs, hpre with
  | [.i k, .i s], ⟨j_k, j_s, hx⟩ =>
    have h_k := j_k
    unfold IsI at h_k
    have h_s := j_s
    unfold IsI at h_s
    refine ⟨rfl, IvsB.ok (by simp only [tnew_ivs, IvsB, Cv.int, and_true] <;> omega), ?_, ?_⟩
    · unfold TSizes at hx
      simp only [tnew_sem, tnew_sp, Fits, and_true]; omega
    · have i0 : IsI 0 := ⟨by omega, by omega⟩
      simp only [tnew_sem, tnew_sp, tnew_tree, tnew_M66, tright_sem, Tree.den, LE.den, Cv.list, placeA, List.getElem?_cons_zero, List.getElem?_cons_succ, IE.den, BE.den, At.den, CA.den, Env.get, Cv.int, Cv.bool, List.cons_append, List.nil_append, List.map_cons, List.map_nil, bindRes, bindEq, Fits, SV.den, denL, place, placeL, eq_t, eq_f, lt_t, lt_f, le_t, le_f, beq_iff_eq, beq_eq_false_iff_ne, ne_eq, reduceCtorEq, b_dec, decide_eq_true_eq, decide_eq_false_iff_not, Bool.not_eq_false', Bool.or_eq_true, Bool.or_eq_false_iff, Bool.and_eq_false_iff, true_iff, false_iff, Bool.false_eq_true, Bool.not_eq_true', Bool.and_eq_true, Bool.not_true, Bool.not_false, List.cons.injEq, Cv.i.injEq, Cv.b.injEq, and_true, true_and, agg_inj, tup_inj, Value.int.injEq, Value.bool.injEq]
      simp only [tright_zero, hx, j_k, j_s, i0, eq_self, if_true, if_false, true_and, and_true, false_and, and_false, true_or, or_true, false_or, or_false, true_iff, iff_true, false_iff, iff_false, not_true_eq_false, not_false_eq_true, true_implies, false_implies, implies_true, forall_const, decide_true, decide_false, reduceCtorEq]
/-- may a count come? -/
def TMay (k s m u d : Int) : Prop := TRight k s m u ∧ TCount k s d
instance (k s m u d : Int) : Decidable (TMay k s m u d) := by unfold TMay; infer_instance
theorem tmay_rng {k s m u d : Int} (h : TMay k s m u d) : (k = 2 ∨ k = 3 ∨ k = 4 ∨ k = 5) ∧ 1 ≤ s ∧ s ≤ 1000 ∧ 0 ≤ m ∧ m ≤ 25 ∧ 0 ≤ u ∧ u ≤ 25000000 ∧ 0 ≤ d ∧ d ≤ 1000000 ∧ d ≤ most k s ∧ (k = 4 → s = 1) := by
  obtain ⟨⟨⟨a1, a2, a3, a4, a5⟩, b1, b2, b3, b4⟩, c1, c2⟩ := h
  have hm : 0 ≤ most k s ∧ most k s ≤ 1000000 := by unfold most; split <;> omega
  have hu : m * most k s ≤ 25 * 1000000 := Int.mul_le_mul b2 hm.2 hm.1 (by omega)
  omega
theorem ttake_rng {k s m u d : Int} (h : TMay k s m u d) (hm : m < 25) : u + d ≤ 25000000 := by
  obtain ⟨⟨⟨a1, a2, a3, a4, a5⟩, b1, b2, b3, b4⟩, c1, c2⟩ := h
  have hm : 0 ≤ most k s ∧ most k s ≤ 1000000 := by unfold most; split <;> omega
  have hu : m * most k s ≤ 24 * 1000000 := Int.mul_le_mul (by omega) hm.2 hm.1 (by omega)
  omega
def ttake_sp : SpecSh := { args := [(.agg [(.int .i64 (.z 0)), (.int .i64 (.z 0)), (.int .i64 (.z 0)), (.int .i64 (.z 0))]), (.int .i64 (.z 0))], res := (.tup [(.agg [(.int .i64 (.z 0)), (.int .i64 (.z 0)), (.int .i64 (.z 0)), (.int .i64 (.z 0))]), (.int .i64 (.z 0))]), sh := [.i (some (2, 5)), .i (some (1, 1000)), .i (some (0, 25)), .i (some (0, 25000000)), .i (some (0, 0))] }
set_option maxRecDepth 100000 in
def ttake_tree : Tree :=
.call 66 [.b] [.i (.v 0), .i (.v 1), .i (.v 2), .i (.v 3)] <|
.ite (.v 5) (.ite (.cmp .le (.z 0) (.v 4)) (.ite (.cmp .eq (.v 0) (.z 2)) (.ite (.not (.cmp .le (.v 4) (.v 1))) (.ret (.tup [(.agg [(.int .i64 (.z 0)), (.int .i64 (.z 0)), (.int .i64 (.z 0)), (.int .i64 (.z 0))]), (.int .i64 (.z 1))])) <|
.ite (.cmp .eq (.v 2) (.z 25)) (.ret (.tup [(.agg [(.int .i64 (.z 0)), (.int .i64 (.z 0)), (.int .i64 (.z 0)), (.int .i64 (.z 0))]), (.int .i64 (.z 11))])) <|
.lett (.addw .i64 (.v 2) (.z 1)) <|
.lett (.addw .i64 (.v 3) (.v 4)) <|
.ret (.tup [(.agg [(.int .i64 (.v 0)), (.int .i64 (.v 1)), (.int .i64 (.v 6)), (.int .i64 (.v 7))]), (.int .i64 (.z 0))])) <|
.ite (.cmp .eq (.v 0) (.z 3)) (.ite (.not (.cmp .le (.v 4) (.v 1))) (.ret (.tup [(.agg [(.int .i64 (.z 0)), (.int .i64 (.z 0)), (.int .i64 (.z 0)), (.int .i64 (.z 0))]), (.int .i64 (.z 1))])) <|
.ite (.cmp .eq (.v 2) (.z 25)) (.ret (.tup [(.agg [(.int .i64 (.z 0)), (.int .i64 (.z 0)), (.int .i64 (.z 0)), (.int .i64 (.z 0))]), (.int .i64 (.z 11))])) <|
.lett (.addw .i64 (.v 2) (.z 1)) <|
.lett (.addw .i64 (.v 3) (.v 4)) <|
.ret (.tup [(.agg [(.int .i64 (.v 0)), (.int .i64 (.v 1)), (.int .i64 (.v 6)), (.int .i64 (.v 7))]), (.int .i64 (.z 0))])) <|
.ite (.cmp .eq (.v 0) (.z 4)) (.ite (.not (.cmp .le (.v 4) (.z 1000000))) (.ret (.tup [(.agg [(.int .i64 (.z 0)), (.int .i64 (.z 0)), (.int .i64 (.z 0)), (.int .i64 (.z 0))]), (.int .i64 (.z 1))])) <|
.ite (.cmp .eq (.v 2) (.z 25)) (.ret (.tup [(.agg [(.int .i64 (.z 0)), (.int .i64 (.z 0)), (.int .i64 (.z 0)), (.int .i64 (.z 0))]), (.int .i64 (.z 11))])) <|
.lett (.addw .i64 (.v 2) (.z 1)) <|
.lett (.addw .i64 (.v 3) (.v 4)) <|
.ret (.tup [(.agg [(.int .i64 (.v 0)), (.int .i64 (.v 1)), (.int .i64 (.v 6)), (.int .i64 (.v 7))]), (.int .i64 (.z 0))])) <|
.ite (.cmp .eq (.v 0) (.z 5)) (.ite (.not (.cmp .le (.v 4) (.z 1000000))) (.ret (.tup [(.agg [(.int .i64 (.z 0)), (.int .i64 (.z 0)), (.int .i64 (.z 0)), (.int .i64 (.z 0))]), (.int .i64 (.z 1))])) <|
.ite (.cmp .eq (.v 2) (.z 25)) (.ret (.tup [(.agg [(.int .i64 (.z 0)), (.int .i64 (.z 0)), (.int .i64 (.z 0)), (.int .i64 (.z 0))]), (.int .i64 (.z 11))])) <|
.lett (.addw .i64 (.v 2) (.z 1)) <|
.lett (.addw .i64 (.v 3) (.v 4)) <|
.ret (.tup [(.agg [(.int .i64 (.v 0)), (.int .i64 (.v 1)), (.int .i64 (.v 6)), (.int .i64 (.v 7))]), (.int .i64 (.z 0))])) <|
.bad 27) <|
.ret (.tup [(.agg [(.int .i64 (.z 0)), (.int .i64 (.z 0)), (.int .i64 (.z 0)), (.int .i64 (.z 0))]), (.int .i64 (.z 1))])) <|
.ret (.tup [(.agg [(.int .i64 (.z 0)), (.int .i64 (.z 0)), (.int .i64 (.z 0)), (.int .i64 (.z 0))]), (.int .i64 (.z 1))])
noncomputable def ttake_cx : Ctx := { tys := tys, fns := fns, sps := [(66, tright_sp)], anns := [], trys := [] }
def ttake_ivs : List (Option (Int × Int)) := [some ((-9223372036854775808), 9223372036854775807), some ((-9223372036854775808), 9223372036854775807), some ((-9223372036854775808), 9223372036854775807), some ((-9223372036854775808), 9223372036854775807), some ((-9223372036854775808), 9223372036854775807)]
set_option maxRecDepth 100000 in
theorem ttake_walk : runFn ttake_cx 3000 39 Try.f39 ttake_sp.args ttake_ivs = ttake_tree := by kernel_rfl
noncomputable def ttake_M : Nat → SpecSem
  | 66 => tright_sem
  | _ => noSem
theorem ttake_M66 : ttake_M 66 = tright_sem := rfl
theorem ttake_cxok : CxOK Try.prog ttake_cx ttake_M := ⟨tysOK, fnsOK, spCons tright_ok <| fun _ _ h => spNil h, mixedOK, fun _ _ h => trNil h⟩
set_option maxRecDepth 100000 in
set_option maxHeartbeats 8000000 in
theorem ttake_den (R RP : Value → Prop) (F : Ex → St → Js → Env → Prop) (J : Js) (x0 : Int) (x1 : Int) (x2 : Int) (x3 : Int) (x4 : Int) : Tree.den ttake_M R RP F ttake_tree J [(.i x0), (.i x1), (.i x2), (.i x3), (.i x4)] = (
  (tright_sem.pre [(.i x0), (.i x1), (.i x2), (.i x3)]) ∧ (
((Cv.bool (Env.get (tright_sem.out [(.i x0), (.i x1), (.i x2), (.i x3)]) 0)) = true → ((Cmp.den .le (0 : Int) x4) = true → ((Cmp.den .eq x0 (2 : Int)) = true → ((!(Cmp.den .le x4 x1)) = true → R (Value.tuple [(Value.agg [(Value.int .i64 (0 : Int)), (Value.int .i64 (0 : Int)), (Value.int .i64 (0 : Int)), (Value.int .i64 (0 : Int))].toArray), (Value.int .i64 (1 : Int))].toArray)) ∧ ((!(Cmp.den .le x4 x1)) = false → ((Cmp.den .eq x2 (25 : Int)) = true → R (Value.tuple [(Value.agg [(Value.int .i64 (0 : Int)), (Value.int .i64 (0 : Int)), (Value.int .i64 (0 : Int)), (Value.int .i64 (0 : Int))].toArray), (Value.int .i64 (11 : Int))].toArray)) ∧ ((Cmp.den .eq x2 (25 : Int)) = false → ∀ x6 : Int, x6 = (IntKind.i64.wrap (x2 + (1 : Int))) →
∀ x7 : Int, x7 = (IntKind.i64.wrap (x3 + x4)) →
R (Value.tuple [(Value.agg [(Value.int .i64 x0), (Value.int .i64 x1), (Value.int .i64 x6), (Value.int .i64 x7)].toArray), (Value.int .i64 (0 : Int))].toArray)))) ∧ ((Cmp.den .eq x0 (2 : Int)) = false → ((Cmp.den .eq x0 (3 : Int)) = true → ((!(Cmp.den .le x4 x1)) = true → R (Value.tuple [(Value.agg [(Value.int .i64 (0 : Int)), (Value.int .i64 (0 : Int)), (Value.int .i64 (0 : Int)), (Value.int .i64 (0 : Int))].toArray), (Value.int .i64 (1 : Int))].toArray)) ∧ ((!(Cmp.den .le x4 x1)) = false → ((Cmp.den .eq x2 (25 : Int)) = true → R (Value.tuple [(Value.agg [(Value.int .i64 (0 : Int)), (Value.int .i64 (0 : Int)), (Value.int .i64 (0 : Int)), (Value.int .i64 (0 : Int))].toArray), (Value.int .i64 (11 : Int))].toArray)) ∧ ((Cmp.den .eq x2 (25 : Int)) = false → ∀ x6 : Int, x6 = (IntKind.i64.wrap (x2 + (1 : Int))) →
∀ x7 : Int, x7 = (IntKind.i64.wrap (x3 + x4)) →
R (Value.tuple [(Value.agg [(Value.int .i64 x0), (Value.int .i64 x1), (Value.int .i64 x6), (Value.int .i64 x7)].toArray), (Value.int .i64 (0 : Int))].toArray)))) ∧ ((Cmp.den .eq x0 (3 : Int)) = false → ((Cmp.den .eq x0 (4 : Int)) = true → ((!(Cmp.den .le x4 (1000000 : Int))) = true → R (Value.tuple [(Value.agg [(Value.int .i64 (0 : Int)), (Value.int .i64 (0 : Int)), (Value.int .i64 (0 : Int)), (Value.int .i64 (0 : Int))].toArray), (Value.int .i64 (1 : Int))].toArray)) ∧ ((!(Cmp.den .le x4 (1000000 : Int))) = false → ((Cmp.den .eq x2 (25 : Int)) = true → R (Value.tuple [(Value.agg [(Value.int .i64 (0 : Int)), (Value.int .i64 (0 : Int)), (Value.int .i64 (0 : Int)), (Value.int .i64 (0 : Int))].toArray), (Value.int .i64 (11 : Int))].toArray)) ∧ ((Cmp.den .eq x2 (25 : Int)) = false → ∀ x6 : Int, x6 = (IntKind.i64.wrap (x2 + (1 : Int))) →
∀ x7 : Int, x7 = (IntKind.i64.wrap (x3 + x4)) →
R (Value.tuple [(Value.agg [(Value.int .i64 x0), (Value.int .i64 x1), (Value.int .i64 x6), (Value.int .i64 x7)].toArray), (Value.int .i64 (0 : Int))].toArray)))) ∧ ((Cmp.den .eq x0 (4 : Int)) = false → ((Cmp.den .eq x0 (5 : Int)) = true → ((!(Cmp.den .le x4 (1000000 : Int))) = true → R (Value.tuple [(Value.agg [(Value.int .i64 (0 : Int)), (Value.int .i64 (0 : Int)), (Value.int .i64 (0 : Int)), (Value.int .i64 (0 : Int))].toArray), (Value.int .i64 (1 : Int))].toArray)) ∧ ((!(Cmp.den .le x4 (1000000 : Int))) = false → ((Cmp.den .eq x2 (25 : Int)) = true → R (Value.tuple [(Value.agg [(Value.int .i64 (0 : Int)), (Value.int .i64 (0 : Int)), (Value.int .i64 (0 : Int)), (Value.int .i64 (0 : Int))].toArray), (Value.int .i64 (11 : Int))].toArray)) ∧ ((Cmp.den .eq x2 (25 : Int)) = false → ∀ x6 : Int, x6 = (IntKind.i64.wrap (x2 + (1 : Int))) →
∀ x7 : Int, x7 = (IntKind.i64.wrap (x3 + x4)) →
R (Value.tuple [(Value.agg [(Value.int .i64 x0), (Value.int .i64 x1), (Value.int .i64 x6), (Value.int .i64 x7)].toArray), (Value.int .i64 (0 : Int))].toArray)))) ∧ ((Cmp.den .eq x0 (5 : Int)) = false → False))))) ∧ ((Cmp.den .le (0 : Int) x4) = false → R (Value.tuple [(Value.agg [(Value.int .i64 (0 : Int)), (Value.int .i64 (0 : Int)), (Value.int .i64 (0 : Int)), (Value.int .i64 (0 : Int))].toArray), (Value.int .i64 (1 : Int))].toArray))) ∧ ((Cv.bool (Env.get (tright_sem.out [(.i x0), (.i x1), (.i x2), (.i x3)]) 0)) = false → R (Value.tuple [(Value.agg [(Value.int .i64 (0 : Int)), (Value.int .i64 (0 : Int)), (Value.int .i64 (0 : Int)), (Value.int .i64 (0 : Int))].toArray), (Value.int .i64 (1 : Int))].toArray)))) := by kernel_rfl

def ttake_sem : SpecSem := { pre := fun cs => match cs with | [.i k, .i s, .i m, .i u, .i d] => IsI k ∧ IsI s ∧ IsI m ∧ IsI u ∧ IsI d ∧ (TMay k s m u d ∧ m < 25) | _ => False, out := fun cs => match cs with | [.i k, .i s, .i m, .i u, .i d] => [.i k, .i s, .i (m + 1), .i (u + d), .i 0] | _ => [] }
set_option maxRecDepth 10000 in
set_option maxHeartbeats 16000000 in
theorem ttake_ok : SpecOK Try.prog 39 ttake_sp ttake_sem := by
  refine spec_of_tree ttake_cxok Try.func39 (by kernel_rfl) (by kernel_rfl) ttake_walk rfl ?_
  intro cs hpre
  match cs, hpre with
  | [.i k, .i s, .i m, .i u, .i d], ⟨j_k, j_s, j_m, j_u, j_d, hx⟩ =>
    have h_k := j_k
    unfold IsI at h_k
    have h_s := j_s
    unfold IsI at h_s
    have h_m := j_m
    unfold IsI at h_m
    have h_u := j_u
    unfold IsI at h_u
    have h_d := j_d
    unfold IsI at h_d
    refine ⟨rfl, IvsB.ok (by simp only [ttake_ivs, IvsB, Cv.int, and_true] <;> omega), ?_, ?_⟩
    · have := tmay_rng hx.1
      have := ttake_rng hx.1 hx.2
      simp only [ttake_sem, ttake_sp, Fits, and_true]; omega
    · obtain ⟨hs, hm⟩ := hx
      have hg := tmay_rng hs
      have w1 : IntKind.i64.wrap (m + 1) = m + 1 := w64 (by omega) (by omega)
      have w2 : IntKind.i64.wrap (u + d) = u + d := w64 (by omega) (by omega)
      have hmo := hs.2.2
      unfold most at hmo
      rw [ttake_den]
      simp only [ttake_sem, ttake_sp, ttake_den, tright_sem, Tree.den, LE.den, Cv.list, placeA, List.getElem?_cons_zero, List.getElem?_cons_succ, IE.den, BE.den, At.den, CA.den, Env.get, Cv.int, Cv.bool, List.cons_append, List.nil_append, List.map_cons, List.map_nil, bindRes, bindEq, Fits, SV.den, denL, place, placeL, eq_t, eq_f, lt_t, lt_f, le_t, le_f, beq_iff_eq, beq_eq_false_iff_ne, ne_eq, reduceCtorEq, b_dec, decide_eq_true_eq, decide_eq_false_iff_not, Bool.not_eq_false', Bool.or_eq_true, Bool.or_eq_false_iff, Bool.and_eq_false_iff, true_iff, false_iff, Bool.false_eq_true, Bool.not_eq_true', Bool.and_eq_true, Bool.not_true, Bool.not_false, List.cons.injEq, Cv.i.injEq, Cv.b.injEq, and_true, true_and, agg_inj, tup_inj, Value.int.injEq, Value.bool.injEq]
      simp only [hs.1, w1, w2, j_k, j_s, j_m, j_u, forall_eq, eq_self, if_true, if_false, true_and, and_true, false_and, and_false, true_or, or_true, false_or, or_false, true_iff, iff_true, false_iff, iff_false, not_true_eq_false, not_false_eq_true, true_implies, false_implies, implies_true, forall_const, decide_true, decide_false, reduceCtorEq]
      by_cases hk : k ≤ 3
      · rw [if_pos hk] at hmo; (repeat' (first | intro _ | refine And.intro ?_ ?_ | exact trivial)) <;> omega
      · rw [if_neg hk] at hmo; (repeat' (first | intro _ | refine And.intro ?_ ?_ | exact trivial)) <;> omega
def talive_sp : SpecSh := { args := [], res := (.bool .f), sh := [.b] }
set_option maxRecDepth 100000 in
def talive_tree : Tree :=
.call 19 [.i (some (0, 18446744073709551615)), .i (some (0, 18446744073709551615))] [.i (.z 64), .i (.z 10)] <|
.ret (.bool (.cmp .eq (.v 1) (.z 640)))
noncomputable def talive_cx : Ctx := { tys := tys, fns := fns, sps := [(19, mul_sp)], anns := [], trys := [] }
def talive_ivs : List (Option (Int × Int)) := []
set_option maxRecDepth 100000 in
theorem talive_walk : runFn talive_cx 3000 12 Try.f12 talive_sp.args talive_ivs = talive_tree := by kernel_rfl
noncomputable def talive_M : Nat → SpecSem
  | 19 => mul_sem
  | _ => noSem
theorem talive_M19 : talive_M 19 = mul_sem := rfl
theorem talive_cxok : CxOK Try.prog talive_cx talive_M := ⟨tysOK, fnsOK, spCons mul_ok <| fun _ _ h => spNil h, mixedOK, fun _ _ h => trNil h⟩

def talive_sem : SpecSem := { pre := fun cs => match cs with | [] => True | _ => False, out := fun cs => match cs with | [] => [.b true] | _ => [] }
theorem talive_ok : SpecOK Try.prog 12 talive_sp talive_sem := by
  refine spec_of_tree talive_cxok Try.func12 (by kernel_rfl) (by kernel_rfl) talive_walk rfl ?_
  intro cs hpre
  match cs, hpre with
  | [], _ =>
    refine ⟨rfl, IvsB.ok trivial, trivial, ?_⟩
    simp only [talive_sem, talive_sp, IsU, talive_tree, talive_M19, mul_sem, Tree.den, LE.den, Cv.list, placeA, List.getElem?_cons_zero, List.getElem?_cons_succ, IE.den, BE.den, At.den, CA.den, Env.get, Cv.int, Cv.bool, List.cons_append, List.nil_append, List.map_cons, List.map_nil, bindRes, bindEq, Fits, SV.den, denL, place, placeL, eq_t, eq_f, lt_t, lt_f, le_t, le_f, beq_iff_eq, beq_eq_false_iff_ne, ne_eq, reduceCtorEq, b_dec, decide_eq_true_eq, decide_eq_false_iff_not, Bool.not_eq_false', Bool.or_eq_true, Bool.or_eq_false_iff, Bool.and_eq_false_iff, true_iff, false_iff, Bool.false_eq_true, Bool.not_eq_true', Bool.and_eq_true, Bool.not_true, Bool.not_false, List.cons.injEq, Cv.i.injEq, Cv.b.injEq, and_true, true_and, agg_inj, tup_inj, Value.int.injEq, Value.bool.injEq]
    (repeat' (first | intro _ | refine And.intro ?_ ?_ | exact trivial)) <;> omega

def pDen (k s m : Int) : Int := if k = 2 then m * s * s else m * s
def pCen (k s u : Int) : Int := if 4 ≤ k then u else u * s
def pDev (k s m u d : Int) : Int := if 4 ≤ k then d * m - u else d * (m * s) - u * s
def pVar (k s m u : Int) : Int := if 4 ≤ k then u * m else u * (m * s - u) * s

theorem mulBnd {a b A B : Int} (h1 : 0 ≤ a) (h2 : a ≤ A) (h3 : 0 ≤ b) (h4 : b ≤ B) : 0 ≤ a * b ∧ a * b ≤ A * B :=
  ⟨Int.mul_nonneg h1 h3, Int.mul_le_mul h2 h4 h3 (by omega)⟩
/-- all that a point is reckoned by is in range -/
theorem pt_rng {k s m u d : Int} (h : TMay k s m u d) : (0 ≤ m * s ∧ m * s ≤ 25000) ∧ (0 ≤ m * s * s ∧ m * s * s ≤ 25000000) ∧ (0 ≤ u * s ∧ u * s ≤ 25000000000) ∧ (0 ≤ d * (m * s) ∧ d * (m * s) ≤ 25000000000) ∧
    (0 ≤ d * m ∧ d * m ≤ 25000000) ∧ (0 ≤ u * m ∧ u * m ≤ 625000000) ∧ (k < 4 → (0 ≤ m * s - u ∧ m * s - u ≤ 25000) ∧ (0 ≤ u * (m * s - u) ∧ u * (m * s - u) ≤ 625000000000) ∧ (0 ≤ u * (m * s - u) * s ∧ u * (m * s - u) * s ≤ 625000000000000)) := by
  have hg := tmay_rng h
  obtain ⟨g0, g1, g2, g3, g4, g5, g6, g7, g8, g9, g10⟩ := hg
  have b1 := mulBnd g3 g4 (show 0 ≤ s by omega) g2
  have b2 := mulBnd b1.1 b1.2 (show 0 ≤ s by omega) g2
  have b3 := mulBnd g5 g6 (show 0 ≤ s by omega) g2
  have b4 := mulBnd g7 g8 b1.1 b1.2
  have b5 := mulBnd g7 g8 g3 g4
  have b6 := mulBnd g5 g6 g3 g4
  refine ⟨by omega, by omega, by omega, by omega, by omega, by omega, fun hk => ?_⟩
  have hu : u ≤ m * s := by
    have h4 := h.1.2.2.2.2
    rw [most_lo (by omega)] at h4
    exact h4
  have b7 : 0 ≤ m * s - u ∧ m * s - u ≤ 25000 := by omega
  have b8 := mulBnd g5 g6 b7.1 b7.2
  have b9 := mulBnd b8.1 b8.2 (show 0 ≤ s by omega) g2
  exact ⟨b7, by omega, by omega⟩

theorem pt_fits {k s m u d : Int} (h : TMay k s m u d) : IsI (pCen k s u) ∧ IsI (pDen k s m) ∧ IsI (pDev k s m u d) ∧ IsU (pVar k s m u) ∧ 0 ≤ pVar k s m u ∧ pVar k s m u ≤ 625000000000000 := by
  obtain ⟨r1, r2, r3, r4, r5, r6, r7⟩ := pt_rng h
  obtain ⟨g0, g1, g2, g3, g4, g5, g6, g7, g8, g9, g10⟩ := tmay_rng h
  unfold pCen pDen pDev pVar IsI IsU
  by_cases hk : 4 ≤ k
  · simp only [if_pos hk, if_neg (show ¬ k = 2 by omega)]; omega
  · have := r7 (by omega)
    simp only [if_neg hk]
    by_cases hk2 : k = 2
    · simp only [if_pos hk2]; omega
    · simp only [if_neg hk2]; omega
theorem lo64 {x : Int} (h0 : 0 ≤ x) (h1 : x ≤ 9223372036854775807) : x / 18446744073709551616 = 0 ∧ x % 18446744073709551616 = x :=
  ⟨Int.ediv_eq_zero_of_lt h0 (by omega), Int.emod_eq_of_lt h0 (by omega)⟩
def tpoint_sp : SpecSh := { args := [(.agg [(.int .i64 (.z 0)), (.int .i64 (.z 0)), (.int .i64 (.z 0)), (.int .i64 (.z 0))]), (.int .i64 (.z 0))], res := (.tup [(.agg [(.int .i64 (.z 0)), (.int .i64 (.z 0)), (.int .i64 (.z 0)), (.int .u64 (.z 0)), (.int .u64 (.z 0))]), (.int .i64 (.z 0))]), sh := [.i (some ((-9223372036854775808), 9223372036854775807)), .i (some ((-9223372036854775808), 9223372036854775807)), .i (some ((-9223372036854775808), 9223372036854775807)), .i (some (0, 18446744073709551615)), .i (some (0, 18446744073709551615)), .i (some ((-9223372036854775808), 9223372036854775807))] }
set_option maxRecDepth 100000 in
def tpoint_tree : Tree :=
.call 66 [.b] [.i (.v 0), .i (.v 1), .i (.v 2), .i (.v 3)] <|
.ite (.v 5) (.ite (.cmp .le (.z 0) (.v 4)) (.ite (.cmp .eq (.v 0) (.z 2)) (.ite (.not (.cmp .le (.v 4) (.v 1))) (.ret (.tup [(.agg [(.int .i64 (.z 0)), (.int .i64 (.z 0)), (.int .i64 (.z 0)), (.int .u64 (.z 0)), (.int .u64 (.z 0))]), (.int .i64 (.z 1))])) <|
.ite (.cmp .eq (.v 2) (.z 0)) (.ret (.tup [(.agg [(.int .i64 (.z 0)), (.int .i64 (.z 0)), (.int .i64 (.z 0)), (.int .u64 (.z 0)), (.int .u64 (.z 0))]), (.int .i64 (.z 12))])) <|
.lett (.mulw .i64 (.v 2) (.v 1)) <|
.lett (.subw .i64 (.v 6) (.v 3)) <|
.lett (.mulw .i64 (.v 3) (.v 7)) <|
.lett (.wrap .u64 (.v 8)) <|
.call 19 [.i (some (0, 18446744073709551615)), .i (some (0, 18446744073709551615))] [.i (.v 9), .i (.v 1)] <|
.lett (.mulw .i64 (.v 3) (.v 1)) <|
.lett (.mulw .i64 (.v 4) (.v 6)) <|
.lett (.mulw .i64 (.v 3) (.v 1)) <|
.lett (.subw .i64 (.v 13) (.v 14)) <|
.lett (.mulw .i64 (.v 6) (.v 1)) <|
.ret (.tup [(.agg [(.int .i64 (.v 12)), (.int .i64 (.v 16)), (.int .i64 (.v 15)), (.int .u64 (.v 10)), (.int .u64 (.v 11))]), (.int .i64 (.z 0))])) <|
.ite (.cmp .eq (.v 0) (.z 3)) (.ite (.not (.cmp .le (.v 4) (.v 1))) (.ret (.tup [(.agg [(.int .i64 (.z 0)), (.int .i64 (.z 0)), (.int .i64 (.z 0)), (.int .u64 (.z 0)), (.int .u64 (.z 0))]), (.int .i64 (.z 1))])) <|
.ite (.cmp .eq (.v 2) (.z 0)) (.ret (.tup [(.agg [(.int .i64 (.z 0)), (.int .i64 (.z 0)), (.int .i64 (.z 0)), (.int .u64 (.z 0)), (.int .u64 (.z 0))]), (.int .i64 (.z 12))])) <|
.lett (.mulw .i64 (.v 2) (.v 1)) <|
.lett (.subw .i64 (.v 6) (.v 3)) <|
.lett (.mulw .i64 (.v 3) (.v 7)) <|
.lett (.wrap .u64 (.v 8)) <|
.call 19 [.i (some (0, 18446744073709551615)), .i (some (0, 18446744073709551615))] [.i (.v 9), .i (.v 1)] <|
.lett (.mulw .i64 (.v 3) (.v 1)) <|
.lett (.mulw .i64 (.v 4) (.v 6)) <|
.lett (.mulw .i64 (.v 3) (.v 1)) <|
.lett (.subw .i64 (.v 13) (.v 14)) <|
.lett (.mul (.v 6) (.z 1)) <|
.ret (.tup [(.agg [(.int .i64 (.v 12)), (.int .i64 (.v 16)), (.int .i64 (.v 15)), (.int .u64 (.v 10)), (.int .u64 (.v 11))]), (.int .i64 (.z 0))])) <|
.ite (.cmp .eq (.v 0) (.z 4)) (.ite (.not (.cmp .le (.v 4) (.z 1000000))) (.ret (.tup [(.agg [(.int .i64 (.z 0)), (.int .i64 (.z 0)), (.int .i64 (.z 0)), (.int .u64 (.z 0)), (.int .u64 (.z 0))]), (.int .i64 (.z 1))])) <|
.ite (.cmp .eq (.v 2) (.z 0)) (.ret (.tup [(.agg [(.int .i64 (.z 0)), (.int .i64 (.z 0)), (.int .i64 (.z 0)), (.int .u64 (.z 0)), (.int .u64 (.z 0))]), (.int .i64 (.z 12))])) <|
.lett (.mulw .i64 (.v 2) (.v 1)) <|
.lett (.mulw .i64 (.v 4) (.v 2)) <|
.lett (.subw .i64 (.v 7) (.v 3)) <|
.lett (.wrap .u64 (.v 3)) <|
.lett (.wrap .u64 (.v 2)) <|
.call 19 [.i (some (0, 18446744073709551615)), .i (some (0, 18446744073709551615))] [.i (.v 9), .i (.v 10)] <|
.ret (.tup [(.agg [(.int .i64 (.v 3)), (.int .i64 (.v 6)), (.int .i64 (.v 8)), (.int .u64 (.v 11)), (.int .u64 (.v 12))]), (.int .i64 (.z 0))])) <|
.ite (.cmp .eq (.v 0) (.z 5)) (.ite (.not (.cmp .le (.v 4) (.z 1000000))) (.ret (.tup [(.agg [(.int .i64 (.z 0)), (.int .i64 (.z 0)), (.int .i64 (.z 0)), (.int .u64 (.z 0)), (.int .u64 (.z 0))]), (.int .i64 (.z 1))])) <|
.ite (.cmp .eq (.v 2) (.z 0)) (.ret (.tup [(.agg [(.int .i64 (.z 0)), (.int .i64 (.z 0)), (.int .i64 (.z 0)), (.int .u64 (.z 0)), (.int .u64 (.z 0))]), (.int .i64 (.z 12))])) <|
.lett (.mulw .i64 (.v 2) (.v 1)) <|
.lett (.mulw .i64 (.v 4) (.v 2)) <|
.lett (.subw .i64 (.v 7) (.v 3)) <|
.lett (.wrap .u64 (.v 3)) <|
.lett (.wrap .u64 (.v 2)) <|
.call 19 [.i (some (0, 18446744073709551615)), .i (some (0, 18446744073709551615))] [.i (.v 9), .i (.v 10)] <|
.ret (.tup [(.agg [(.int .i64 (.v 3)), (.int .i64 (.v 6)), (.int .i64 (.v 8)), (.int .u64 (.v 11)), (.int .u64 (.v 12))]), (.int .i64 (.z 0))])) <|
.bad 27) <|
.ret (.tup [(.agg [(.int .i64 (.z 0)), (.int .i64 (.z 0)), (.int .i64 (.z 0)), (.int .u64 (.z 0)), (.int .u64 (.z 0))]), (.int .i64 (.z 1))])) <|
.ret (.tup [(.agg [(.int .i64 (.z 0)), (.int .i64 (.z 0)), (.int .i64 (.z 0)), (.int .u64 (.z 0)), (.int .u64 (.z 0))]), (.int .i64 (.z 1))])
noncomputable def tpoint_cx : Ctx := { tys := tys, fns := fns, sps := [(19, mul_sp), (66, tright_sp)], anns := [], trys := [] }
def tpoint_ivs : List (Option (Int × Int)) := [some ((-9223372036854775808), 9223372036854775807), some ((-9223372036854775808), 9223372036854775807), some ((-9223372036854775808), 9223372036854775807), some ((-9223372036854775808), 9223372036854775807), some ((-9223372036854775808), 9223372036854775807)]
set_option maxRecDepth 100000 in
theorem tpoint_walk : runFn tpoint_cx 3000 13 Try.f13 tpoint_sp.args tpoint_ivs = tpoint_tree := by kernel_rfl
noncomputable def tpoint_M : Nat → SpecSem
  | 19 => mul_sem
  | 66 => tright_sem
  | _ => noSem
theorem tpoint_M19 : tpoint_M 19 = mul_sem := rfl
theorem tpoint_M66 : tpoint_M 66 = tright_sem := rfl
theorem tpoint_cxok : CxOK Try.prog tpoint_cx tpoint_M := ⟨tysOK, fnsOK, spCons mul_ok <| spCons tright_ok <| fun _ _ h => spNil h, mixedOK, fun _ _ h => trNil h⟩
set_option maxRecDepth 100000 in
set_option maxHeartbeats 8000000 in
theorem tpoint_den (R RP : Value → Prop) (F : Ex → St → Js → Env → Prop) (J : Js) (x0 : Int) (x1 : Int) (x2 : Int) (x3 : Int) (x4 : Int) : Tree.den tpoint_M R RP F tpoint_tree J [(.i x0), (.i x1), (.i x2), (.i x3), (.i x4)] = (
  (tright_sem.pre [(.i x0), (.i x1), (.i x2), (.i x3)]) ∧ (
((Cv.bool (Env.get (tright_sem.out [(.i x0), (.i x1), (.i x2), (.i x3)]) 0)) = true → ((Cmp.den .le (0 : Int) x4) = true → ((Cmp.den .eq x0 (2 : Int)) = true → ((!(Cmp.den .le x4 x1)) = true → R (Value.tuple [(Value.agg [(Value.int .i64 (0 : Int)), (Value.int .i64 (0 : Int)), (Value.int .i64 (0 : Int)), (Value.int .u64 (0 : Int)), (Value.int .u64 (0 : Int))].toArray), (Value.int .i64 (1 : Int))].toArray)) ∧ ((!(Cmp.den .le x4 x1)) = false → ((Cmp.den .eq x2 (0 : Int)) = true → R (Value.tuple [(Value.agg [(Value.int .i64 (0 : Int)), (Value.int .i64 (0 : Int)), (Value.int .i64 (0 : Int)), (Value.int .u64 (0 : Int)), (Value.int .u64 (0 : Int))].toArray), (Value.int .i64 (12 : Int))].toArray)) ∧ ((Cmp.den .eq x2 (0 : Int)) = false → ∀ x6 : Int, x6 = (IntKind.i64.wrap (x2 * x1)) →
∀ x7 : Int, x7 = (IntKind.i64.wrap (x6 - x3)) →
∀ x8 : Int, x8 = (IntKind.i64.wrap (x3 * x7)) →
∀ x9 : Int, x9 = (IntKind.u64.wrap x8) →
(mul_sem.pre [(.i x9), (.i x1)]) ∧ (
∀ x10 : Int, x10 = (Cv.int (Env.get (mul_sem.out [(.i x9), (.i x1)]) 0)) → (0 : Int) ≤ x10 → x10 ≤ (18446744073709551615 : Int) →
∀ x11 : Int, x11 = (Cv.int (Env.get (mul_sem.out [(.i x9), (.i x1)]) 1)) → (0 : Int) ≤ x11 → x11 ≤ (18446744073709551615 : Int) →
∀ x12 : Int, x12 = (IntKind.i64.wrap (x3 * x1)) →
∀ x13 : Int, x13 = (IntKind.i64.wrap (x4 * x6)) →
∀ x14 : Int, x14 = (IntKind.i64.wrap (x3 * x1)) →
∀ x15 : Int, x15 = (IntKind.i64.wrap (x13 - x14)) →
∀ x16 : Int, x16 = (IntKind.i64.wrap (x6 * x1)) →
R (Value.tuple [(Value.agg [(Value.int .i64 x12), (Value.int .i64 x16), (Value.int .i64 x15), (Value.int .u64 x10), (Value.int .u64 x11)].toArray), (Value.int .i64 (0 : Int))].toArray))))) ∧ ((Cmp.den .eq x0 (2 : Int)) = false → ((Cmp.den .eq x0 (3 : Int)) = true → ((!(Cmp.den .le x4 x1)) = true → R (Value.tuple [(Value.agg [(Value.int .i64 (0 : Int)), (Value.int .i64 (0 : Int)), (Value.int .i64 (0 : Int)), (Value.int .u64 (0 : Int)), (Value.int .u64 (0 : Int))].toArray), (Value.int .i64 (1 : Int))].toArray)) ∧ ((!(Cmp.den .le x4 x1)) = false → ((Cmp.den .eq x2 (0 : Int)) = true → R (Value.tuple [(Value.agg [(Value.int .i64 (0 : Int)), (Value.int .i64 (0 : Int)), (Value.int .i64 (0 : Int)), (Value.int .u64 (0 : Int)), (Value.int .u64 (0 : Int))].toArray), (Value.int .i64 (12 : Int))].toArray)) ∧ ((Cmp.den .eq x2 (0 : Int)) = false → ∀ x6 : Int, x6 = (IntKind.i64.wrap (x2 * x1)) →
∀ x7 : Int, x7 = (IntKind.i64.wrap (x6 - x3)) →
∀ x8 : Int, x8 = (IntKind.i64.wrap (x3 * x7)) →
∀ x9 : Int, x9 = (IntKind.u64.wrap x8) →
(mul_sem.pre [(.i x9), (.i x1)]) ∧ (
∀ x10 : Int, x10 = (Cv.int (Env.get (mul_sem.out [(.i x9), (.i x1)]) 0)) → (0 : Int) ≤ x10 → x10 ≤ (18446744073709551615 : Int) →
∀ x11 : Int, x11 = (Cv.int (Env.get (mul_sem.out [(.i x9), (.i x1)]) 1)) → (0 : Int) ≤ x11 → x11 ≤ (18446744073709551615 : Int) →
∀ x12 : Int, x12 = (IntKind.i64.wrap (x3 * x1)) →
∀ x13 : Int, x13 = (IntKind.i64.wrap (x4 * x6)) →
∀ x14 : Int, x14 = (IntKind.i64.wrap (x3 * x1)) →
∀ x15 : Int, x15 = (IntKind.i64.wrap (x13 - x14)) →
∀ x16 : Int, x16 = (x6 * (1 : Int)) →
R (Value.tuple [(Value.agg [(Value.int .i64 x12), (Value.int .i64 x16), (Value.int .i64 x15), (Value.int .u64 x10), (Value.int .u64 x11)].toArray), (Value.int .i64 (0 : Int))].toArray))))) ∧ ((Cmp.den .eq x0 (3 : Int)) = false → ((Cmp.den .eq x0 (4 : Int)) = true → ((!(Cmp.den .le x4 (1000000 : Int))) = true → R (Value.tuple [(Value.agg [(Value.int .i64 (0 : Int)), (Value.int .i64 (0 : Int)), (Value.int .i64 (0 : Int)), (Value.int .u64 (0 : Int)), (Value.int .u64 (0 : Int))].toArray), (Value.int .i64 (1 : Int))].toArray)) ∧ ((!(Cmp.den .le x4 (1000000 : Int))) = false → ((Cmp.den .eq x2 (0 : Int)) = true → R (Value.tuple [(Value.agg [(Value.int .i64 (0 : Int)), (Value.int .i64 (0 : Int)), (Value.int .i64 (0 : Int)), (Value.int .u64 (0 : Int)), (Value.int .u64 (0 : Int))].toArray), (Value.int .i64 (12 : Int))].toArray)) ∧ ((Cmp.den .eq x2 (0 : Int)) = false → ∀ x6 : Int, x6 = (IntKind.i64.wrap (x2 * x1)) →
∀ x7 : Int, x7 = (IntKind.i64.wrap (x4 * x2)) →
∀ x8 : Int, x8 = (IntKind.i64.wrap (x7 - x3)) →
∀ x9 : Int, x9 = (IntKind.u64.wrap x3) →
∀ x10 : Int, x10 = (IntKind.u64.wrap x2) →
(mul_sem.pre [(.i x9), (.i x10)]) ∧ (
∀ x11 : Int, x11 = (Cv.int (Env.get (mul_sem.out [(.i x9), (.i x10)]) 0)) → (0 : Int) ≤ x11 → x11 ≤ (18446744073709551615 : Int) →
∀ x12 : Int, x12 = (Cv.int (Env.get (mul_sem.out [(.i x9), (.i x10)]) 1)) → (0 : Int) ≤ x12 → x12 ≤ (18446744073709551615 : Int) →
R (Value.tuple [(Value.agg [(Value.int .i64 x3), (Value.int .i64 x6), (Value.int .i64 x8), (Value.int .u64 x11), (Value.int .u64 x12)].toArray), (Value.int .i64 (0 : Int))].toArray))))) ∧ ((Cmp.den .eq x0 (4 : Int)) = false → ((Cmp.den .eq x0 (5 : Int)) = true → ((!(Cmp.den .le x4 (1000000 : Int))) = true → R (Value.tuple [(Value.agg [(Value.int .i64 (0 : Int)), (Value.int .i64 (0 : Int)), (Value.int .i64 (0 : Int)), (Value.int .u64 (0 : Int)), (Value.int .u64 (0 : Int))].toArray), (Value.int .i64 (1 : Int))].toArray)) ∧ ((!(Cmp.den .le x4 (1000000 : Int))) = false → ((Cmp.den .eq x2 (0 : Int)) = true → R (Value.tuple [(Value.agg [(Value.int .i64 (0 : Int)), (Value.int .i64 (0 : Int)), (Value.int .i64 (0 : Int)), (Value.int .u64 (0 : Int)), (Value.int .u64 (0 : Int))].toArray), (Value.int .i64 (12 : Int))].toArray)) ∧ ((Cmp.den .eq x2 (0 : Int)) = false → ∀ x6 : Int, x6 = (IntKind.i64.wrap (x2 * x1)) →
∀ x7 : Int, x7 = (IntKind.i64.wrap (x4 * x2)) →
∀ x8 : Int, x8 = (IntKind.i64.wrap (x7 - x3)) →
∀ x9 : Int, x9 = (IntKind.u64.wrap x3) →
∀ x10 : Int, x10 = (IntKind.u64.wrap x2) →
(mul_sem.pre [(.i x9), (.i x10)]) ∧ (
∀ x11 : Int, x11 = (Cv.int (Env.get (mul_sem.out [(.i x9), (.i x10)]) 0)) → (0 : Int) ≤ x11 → x11 ≤ (18446744073709551615 : Int) →
∀ x12 : Int, x12 = (Cv.int (Env.get (mul_sem.out [(.i x9), (.i x10)]) 1)) → (0 : Int) ≤ x12 → x12 ≤ (18446744073709551615 : Int) →
R (Value.tuple [(Value.agg [(Value.int .i64 x3), (Value.int .i64 x6), (Value.int .i64 x8), (Value.int .u64 x11), (Value.int .u64 x12)].toArray), (Value.int .i64 (0 : Int))].toArray))))) ∧ ((Cmp.den .eq x0 (5 : Int)) = false → False))))) ∧ ((Cmp.den .le (0 : Int) x4) = false → R (Value.tuple [(Value.agg [(Value.int .i64 (0 : Int)), (Value.int .i64 (0 : Int)), (Value.int .i64 (0 : Int)), (Value.int .u64 (0 : Int)), (Value.int .u64 (0 : Int))].toArray), (Value.int .i64 (1 : Int))].toArray))) ∧ ((Cv.bool (Env.get (tright_sem.out [(.i x0), (.i x1), (.i x2), (.i x3)]) 0)) = false → R (Value.tuple [(Value.agg [(Value.int .i64 (0 : Int)), (Value.int .i64 (0 : Int)), (Value.int .i64 (0 : Int)), (Value.int .u64 (0 : Int)), (Value.int .u64 (0 : Int))].toArray), (Value.int .i64 (1 : Int))].toArray)))) := by kernel_rfl

def tpoint_sem : SpecSem := { pre := fun cs => match cs with | [.i k, .i s, .i m, .i u, .i d] => IsI k ∧ IsI s ∧ IsI m ∧ IsI u ∧ IsI d ∧ (TMay k s m u d) | _ => False, out := fun cs => match cs with | [.i k, .i s, .i m, .i u, .i d] => [.i (if m ≠ 0 then pCen k s u else 0), .i (if m ≠ 0 then pDen k s m else 0), .i (if m ≠ 0 then pDev k s m u d else 0), .i 0, .i (if m ≠ 0 then pVar k s m u else 0), .i (if m = 0 then 12 else 0)] | _ => [] }
set_option maxRecDepth 10000 in
set_option maxHeartbeats 16000000 in
theorem tpoint_ok : SpecOK Try.prog 13 tpoint_sp tpoint_sem := by
  refine spec_of_tree tpoint_cxok Try.func13 (by kernel_rfl) (by kernel_rfl) tpoint_walk rfl ?_
  intro cs hpre
  match cs, hpre with
  | [.i k, .i s, .i m, .i u, .i d], ⟨j_k, j_s, j_m, j_u, j_d, hx⟩ =>
    have h_k := j_k
    unfold IsI at h_k
    have h_s := j_s
    unfold IsI at h_s
    have h_m := j_m
    unfold IsI at h_m
    have h_u := j_u
    unfold IsI at h_u
    have h_d := j_d
    unfold IsI at h_d
    refine ⟨rfl, IvsB.ok (by simp only [tpoint_ivs, IvsB, Cv.int, and_true] <;> omega), ?_, ?_⟩
    · have hs := hx
      have hf := pt_fits hs
      unfold IsI IsU at hf
      simp only [tpoint_sem, tpoint_sp, Fits, and_true]
      by_cases hm : m = 0
      · simp only [hm, ne_eq, if_true, if_false, true_and, and_true, false_and, and_false, true_or, or_true, false_or, or_false, true_iff, iff_true, false_iff, iff_false, not_true_eq_false, not_false_eq_true, true_implies, false_implies, implies_true, forall_const, decide_true, decide_false, reduceCtorEq]; omega
      · simp only [hm, ne_eq, if_true, if_false, true_and, and_true, false_and, and_false, true_or, or_true, false_or, or_false, true_iff, iff_true, false_iff, iff_false, not_true_eq_false, not_false_eq_true, true_implies, false_implies, implies_true, forall_const, decide_true, decide_false, reduceCtorEq]; omega
    · have hs := hx
      rw [tpoint_den]
      simp only [tpoint_sem, tpoint_sp, tpoint_den, mul_sem, tright_sem, Tree.den, LE.den, Cv.list, placeA, List.getElem?_cons_zero, List.getElem?_cons_succ, IE.den, BE.den, At.den, CA.den, Env.get, Cv.int, Cv.bool, List.cons_append, List.nil_append, List.map_cons, List.map_nil, bindRes, bindEq, Fits, SV.den, denL, place, placeL, eq_t, eq_f, lt_t, lt_f, le_t, le_f, beq_iff_eq, beq_eq_false_iff_ne, ne_eq, reduceCtorEq, b_dec, decide_eq_true_eq, decide_eq_false_iff_not, Bool.not_eq_false', Bool.or_eq_true, Bool.or_eq_false_iff, Bool.and_eq_false_iff, true_iff, false_iff, Bool.false_eq_true, Bool.not_eq_true', Bool.and_eq_true, Bool.not_true, Bool.not_false, List.cons.injEq, Cv.i.injEq, Cv.b.injEq, and_true, true_and, agg_inj, tup_inj, Value.int.injEq, Value.bool.injEq]
      have hd0 := hs.2.1
      have hdn : (d < 0) = False := eq_false (by omega)
      by_cases hm : m = 0
      · subst hm
        have hmo := hs.2.2
        unfold most at hmo
        simp only [hs.1, j_k, j_s, j_m, j_u, j_d, hd0, hdn, forall_eq, eq_self, ne_eq, f00, if_true, if_false, true_and, and_true, false_and, and_false, true_or, or_true, false_or, or_false, true_iff, iff_true, false_iff, iff_false, not_true_eq_false, not_false_eq_true, true_implies, false_implies, implies_true, forall_const, decide_true, decide_false, reduceCtorEq]
        have hkk := hs.1.1
        unfold TSizes at hkk
        by_cases hk : k ≤ 3
        · rw [if_pos hk] at hmo
          have hd1 : (s < d) = False := eq_false (by omega)
          simp only [hmo, hd1, if_true, if_false, true_and, and_true, false_and, and_false, true_or, or_true, false_or, or_false, true_iff, iff_true, false_iff, iff_false, not_true_eq_false, not_false_eq_true, true_implies, false_implies, implies_true, forall_const, decide_true, decide_false, reduceCtorEq]
          (repeat' (first | intro _ | refine And.intro ?_ ?_ | exact trivial)) <;> omega
        · rw [if_neg hk] at hmo
          have hd1 : (1000000 < d) = False := eq_false (by omega)
          simp only [hmo, hd1, if_true, if_false, true_and, and_true, false_and, and_false, true_or, or_true, false_or, or_false, true_iff, iff_true, false_iff, iff_false, not_true_eq_false, not_false_eq_true, true_implies, false_implies, implies_true, forall_const, decide_true, decide_false, reduceCtorEq]
          (repeat' (first | intro _ | refine And.intro ?_ ?_ | exact trivial)) <;> omega
      · have hkk := hs.1.1.1
        have hkk2 := hs.1.1.2.1
        have hkc : k = 2 ∨ k = 3 ∨ k = 4 ∨ k = 5 := by omega
        rcases hkc with rfl | rfl | rfl | rfl
        · have mo := most_lo (k := 2) (s := s) (by omega)
          obtain ⟨r1, r2, r3, r4, r5, r6, r7⟩ := pt_rng hs
          obtain ⟨g0, g1, g2, g3, g4, g5, g6, g7, g8, g9, g10⟩ := tmay_rng hs
          have hds := hs.2.2
          rw [mo] at hds
          have W1 : IntKind.i64.wrap (m * s) = m * s := w64 (by omega) (by omega)
          have W2 : IntKind.i64.wrap (u * s) = u * s := w64 (by omega) (by omega)
          have W3 : IntKind.u64.wrap s = s := wu64 (by omega) (by omega)
          have W4 : IntKind.i64.wrap (m * s * s) = m * s * s := w64 (by omega) (by omega)
          have W5 : IntKind.i64.wrap (d * (m * s)) = d * (m * s) := w64 (by omega) (by omega)
          have W6 : IntKind.i64.wrap (d * (m * s) - u * s) = d * (m * s) - u * s := w64 (by omega) (by omega)
          have W7 : IntKind.i64.wrap (d * m) = d * m := w64 (by omega) (by omega)
          have W8 : IntKind.i64.wrap (d * m - u) = d * m - u := w64 (by omega) (by omega)
          have W9 : IntKind.u64.wrap u = u := wu64 (by omega) (by omega)
          have W10 : IntKind.u64.wrap m = m := wu64 (by omega) (by omega)
          have U1 : IsU s := ⟨by omega, by omega⟩
          have U2 : IsU u := ⟨by omega, by omega⟩
          have U3 : IsU m := ⟨by omega, by omega⟩
          have q := r7 (by omega)
          have W11 : IntKind.i64.wrap (m * s - u) = m * s - u := w64 (by omega) (by omega)
          have W12 : IntKind.i64.wrap (u * (m * s - u)) = u * (m * s - u) := w64 (by omega) (by omega)
          have W13 : IntKind.u64.wrap (u * (m * s - u)) = u * (m * s - u) := wu64 (by omega) (by omega)
          have U4 : IsU (u * (m * s - u)) := ⟨by omega, by omega⟩
          have l := lo64 (x := u * (m * s - u) * s) (by omega) (by omega)
          have hd1 : (s < d) = False := eq_false (by omega)
          have q1 : (2 ≤ (3 : Int)) = True := eq_true (by omega)
          have q2 : ((4 : Int) ≤ 2) = False := eq_false (by omega)
          have q3 : (2 = (2 : Int)) = True := eq_true (by omega)
          have q4 : (2 = (3 : Int)) = False := eq_false (by omega)
          have q5 : (2 = (4 : Int)) = False := eq_false (by omega)
          have q6 : (2 = (5 : Int)) = False := eq_false (by omega)
          simp only [pCen, pDen, pDev, pVar, hs, hs.1, hm, hd0, hdn, hds, hd1, q1, q2, q3, q4, q5, q6, W1, W2, W3, W4, W5, W6, W7, W8, W9, W10, U1, U2, U3, W11, W12, W13, U4, l.1, l.2, Int.mul_one, j_k, j_s, j_m, j_u, j_d, forall_eq, eq_self, ne_eq, f00, if_true, if_false, true_and, and_true, false_and, and_false, true_or, or_true, false_or, or_false, true_iff, iff_true, false_iff, iff_false, not_true_eq_false, not_false_eq_true, true_implies, false_implies, implies_true, forall_const, decide_true, decide_false, reduceCtorEq]
        · have mo := most_lo (k := 3) (s := s) (by omega)
          obtain ⟨r1, r2, r3, r4, r5, r6, r7⟩ := pt_rng hs
          obtain ⟨g0, g1, g2, g3, g4, g5, g6, g7, g8, g9, g10⟩ := tmay_rng hs
          have hds := hs.2.2
          rw [mo] at hds
          have W1 : IntKind.i64.wrap (m * s) = m * s := w64 (by omega) (by omega)
          have W2 : IntKind.i64.wrap (u * s) = u * s := w64 (by omega) (by omega)
          have W3 : IntKind.u64.wrap s = s := wu64 (by omega) (by omega)
          have W4 : IntKind.i64.wrap (m * s * s) = m * s * s := w64 (by omega) (by omega)
          have W5 : IntKind.i64.wrap (d * (m * s)) = d * (m * s) := w64 (by omega) (by omega)
          have W6 : IntKind.i64.wrap (d * (m * s) - u * s) = d * (m * s) - u * s := w64 (by omega) (by omega)
          have W7 : IntKind.i64.wrap (d * m) = d * m := w64 (by omega) (by omega)
          have W8 : IntKind.i64.wrap (d * m - u) = d * m - u := w64 (by omega) (by omega)
          have W9 : IntKind.u64.wrap u = u := wu64 (by omega) (by omega)
          have W10 : IntKind.u64.wrap m = m := wu64 (by omega) (by omega)
          have U1 : IsU s := ⟨by omega, by omega⟩
          have U2 : IsU u := ⟨by omega, by omega⟩
          have U3 : IsU m := ⟨by omega, by omega⟩
          have q := r7 (by omega)
          have W11 : IntKind.i64.wrap (m * s - u) = m * s - u := w64 (by omega) (by omega)
          have W12 : IntKind.i64.wrap (u * (m * s - u)) = u * (m * s - u) := w64 (by omega) (by omega)
          have W13 : IntKind.u64.wrap (u * (m * s - u)) = u * (m * s - u) := wu64 (by omega) (by omega)
          have U4 : IsU (u * (m * s - u)) := ⟨by omega, by omega⟩
          have l := lo64 (x := u * (m * s - u) * s) (by omega) (by omega)
          have hd1 : (s < d) = False := eq_false (by omega)
          have q1 : (3 ≤ (3 : Int)) = True := eq_true (by omega)
          have q2 : ((4 : Int) ≤ 3) = False := eq_false (by omega)
          have q3 : (3 = (2 : Int)) = False := eq_false (by omega)
          have q4 : (3 = (3 : Int)) = True := eq_true (by omega)
          have q5 : (3 = (4 : Int)) = False := eq_false (by omega)
          have q6 : (3 = (5 : Int)) = False := eq_false (by omega)
          simp only [pCen, pDen, pDev, pVar, hs, hs.1, hm, hd0, hdn, hds, hd1, q1, q2, q3, q4, q5, q6, W1, W2, W3, W4, W5, W6, W7, W8, W9, W10, U1, U2, U3, W11, W12, W13, U4, l.1, l.2, Int.mul_one, j_k, j_s, j_m, j_u, j_d, forall_eq, eq_self, ne_eq, f00, if_true, if_false, true_and, and_true, false_and, and_false, true_or, or_true, false_or, or_false, true_iff, iff_true, false_iff, iff_false, not_true_eq_false, not_false_eq_true, true_implies, false_implies, implies_true, forall_const, decide_true, decide_false, reduceCtorEq]
        · have mo := most_hi (k := 4) (s := s) (by omega)
          obtain ⟨r1, r2, r3, r4, r5, r6, r7⟩ := pt_rng hs
          obtain ⟨g0, g1, g2, g3, g4, g5, g6, g7, g8, g9, g10⟩ := tmay_rng hs
          have hds := hs.2.2
          rw [mo] at hds
          have W1 : IntKind.i64.wrap (m * s) = m * s := w64 (by omega) (by omega)
          have W2 : IntKind.i64.wrap (u * s) = u * s := w64 (by omega) (by omega)
          have W3 : IntKind.u64.wrap s = s := wu64 (by omega) (by omega)
          have W4 : IntKind.i64.wrap (m * s * s) = m * s * s := w64 (by omega) (by omega)
          have W5 : IntKind.i64.wrap (d * (m * s)) = d * (m * s) := w64 (by omega) (by omega)
          have W6 : IntKind.i64.wrap (d * (m * s) - u * s) = d * (m * s) - u * s := w64 (by omega) (by omega)
          have W7 : IntKind.i64.wrap (d * m) = d * m := w64 (by omega) (by omega)
          have W8 : IntKind.i64.wrap (d * m - u) = d * m - u := w64 (by omega) (by omega)
          have W9 : IntKind.u64.wrap u = u := wu64 (by omega) (by omega)
          have W10 : IntKind.u64.wrap m = m := wu64 (by omega) (by omega)
          have U1 : IsU s := ⟨by omega, by omega⟩
          have U2 : IsU u := ⟨by omega, by omega⟩
          have U3 : IsU m := ⟨by omega, by omega⟩
          have l := lo64 (x := u * m) (by omega) (by omega)
          have hd1 : (1000000 < d) = False := eq_false (by omega)
          have q1 : (4 ≤ (3 : Int)) = False := eq_false (by omega)
          have q2 : ((4 : Int) ≤ 4) = True := eq_true (by omega)
          have q3 : (4 = (2 : Int)) = False := eq_false (by omega)
          have q4 : (4 = (3 : Int)) = False := eq_false (by omega)
          have q5 : (4 = (4 : Int)) = True := eq_true (by omega)
          have q6 : (4 = (5 : Int)) = False := eq_false (by omega)
          simp only [pCen, pDen, pDev, pVar, hs, hs.1, hm, hd0, hdn, hds, hd1, q1, q2, q3, q4, q5, q6, W1, W2, W3, W4, W5, W6, W7, W8, W9, W10, U1, U2, U3, U1, l.1, l.2, Int.mul_one, j_k, j_s, j_m, j_u, j_d, forall_eq, eq_self, ne_eq, f00, if_true, if_false, true_and, and_true, false_and, and_false, true_or, or_true, false_or, or_false, true_iff, iff_true, false_iff, iff_false, not_true_eq_false, not_false_eq_true, true_implies, false_implies, implies_true, forall_const, decide_true, decide_false, reduceCtorEq]
        · have mo := most_hi (k := 5) (s := s) (by omega)
          obtain ⟨r1, r2, r3, r4, r5, r6, r7⟩ := pt_rng hs
          obtain ⟨g0, g1, g2, g3, g4, g5, g6, g7, g8, g9, g10⟩ := tmay_rng hs
          have hds := hs.2.2
          rw [mo] at hds
          have W1 : IntKind.i64.wrap (m * s) = m * s := w64 (by omega) (by omega)
          have W2 : IntKind.i64.wrap (u * s) = u * s := w64 (by omega) (by omega)
          have W3 : IntKind.u64.wrap s = s := wu64 (by omega) (by omega)
          have W4 : IntKind.i64.wrap (m * s * s) = m * s * s := w64 (by omega) (by omega)
          have W5 : IntKind.i64.wrap (d * (m * s)) = d * (m * s) := w64 (by omega) (by omega)
          have W6 : IntKind.i64.wrap (d * (m * s) - u * s) = d * (m * s) - u * s := w64 (by omega) (by omega)
          have W7 : IntKind.i64.wrap (d * m) = d * m := w64 (by omega) (by omega)
          have W8 : IntKind.i64.wrap (d * m - u) = d * m - u := w64 (by omega) (by omega)
          have W9 : IntKind.u64.wrap u = u := wu64 (by omega) (by omega)
          have W10 : IntKind.u64.wrap m = m := wu64 (by omega) (by omega)
          have U1 : IsU s := ⟨by omega, by omega⟩
          have U2 : IsU u := ⟨by omega, by omega⟩
          have U3 : IsU m := ⟨by omega, by omega⟩
          have l := lo64 (x := u * m) (by omega) (by omega)
          have hd1 : (1000000 < d) = False := eq_false (by omega)
          have q1 : (5 ≤ (3 : Int)) = False := eq_false (by omega)
          have q2 : ((4 : Int) ≤ 5) = True := eq_true (by omega)
          have q3 : (5 = (2 : Int)) = False := eq_false (by omega)
          have q4 : (5 = (3 : Int)) = False := eq_false (by omega)
          have q5 : (5 = (4 : Int)) = False := eq_false (by omega)
          have q6 : (5 = (5 : Int)) = True := eq_true (by omega)
          simp only [pCen, pDen, pDev, pVar, hs, hs.1, hm, hd0, hdn, hds, hd1, q1, q2, q3, q4, q5, q6, W1, W2, W3, W4, W5, W6, W7, W8, W9, W10, U1, U2, U3, U1, l.1, l.2, Int.mul_one, j_k, j_s, j_m, j_u, j_d, forall_eq, eq_self, ne_eq, f00, if_true, if_false, true_and, and_true, false_and, and_false, true_or, or_true, false_or, or_false, true_iff, iff_true, false_iff, iff_false, not_true_eq_false, not_false_eq_true, true_implies, false_implies, implies_true, forall_const, decide_true, decide_false, reduceCtorEq]
end Go.Proofs.Ytgnihomdpandfaa.X
