/-
  The contracts of the reference's stats of samples (datumref11.In, Of), for every input in range.
-/
import Derived.Test.YtglpelnaeipenaaSxStatNum2
import Derived.Test.YtglpelnaeipenaaSxRefProd
namespace Go.Proofs.Ytglpelnaeipenaa.X
open Go Go.SX Go.RowKit
set_option linter.unusedVariables false
set_option linter.unusedSimpArgs false


def r11sq_sp : SpecSh := { args := [(.int .i64 (.z 0))], res := (.agg [(.int .u64 (.z 0)), (.int .u64 (.z 0))]), sh := [.i (some (0, 18446744073709551615)), .i (some (0, 18446744073709551615))] }
set_option maxRecDepth 100000 in
def r11sq_tree : Tree :=
.call 30 [.b, .i (some (0, 18446744073709551615)), .i (some (0, 18446744073709551615))] [.i (.v 0), .i (.v 0)] <|
.ret (.agg [(.int .u64 (.v 2)), (.int .u64 (.v 3))])
noncomputable def r11sq_cx : Ctx := { tys := tys, fns := fns, mets := mets, sps := [(30, r4prod_sp)], anns := [], trys := [] }
def r11sq_ivs : List (Option (Int × Int)) := [some ((-9223372036854775808), 9223372036854775807)]
set_option maxRecDepth 100000 in
theorem r11sq_walk : runFn r11sq_cx 3000 34 Try.f34 r11sq_sp.args r11sq_ivs = r11sq_tree := by kernel_rfl
noncomputable def r11sq_M : Nat → SpecSem
  | 30 => r4prod_sem
  | _ => noSem
theorem r11sq_M30 : r11sq_M 30 = r4prod_sem := rfl
theorem r11sq_cxok : CxOK Try.prog r11sq_cx r11sq_M := ⟨tysOK, fnsOK, spCons r4prod_ok <| fun _ _ h => spNil h, mixedOK, fun _ _ h => trNil h, fun _ _ h => atNil h, metsOK⟩

def r11sq_sem : SpecSem := { pre := fun cs => match cs with | [.i a] => IsI a ∧ (-1000000000000000 ≤ a ∧ a ≤ 1000000000000000) | _ => False, out := fun cs => match cs with | [.i a] => [.i (a * a / 18446744073709551616), .i (a * a % 18446744073709551616)] | _ => [] }
set_option maxRecDepth 10000 in
set_option maxHeartbeats 16000000 in
theorem r11sq_ok : SpecOK Try.prog 34 r11sq_sp r11sq_sem := by
  refine spec_of_tree r11sq_cxok Try.func34 (by kernel_rfl) (by kernel_rfl) r11sq_walk rfl ?_
  intro cs hpre
  match cs, hpre with
  | [.i a], ⟨j_a, hx⟩ =>
    have h_a := j_a
    unfold IsI at h_a
    refine ⟨rfl, IvsB.ok (by simp only [r11sq_ivs, IvsB, Cv.int, and_true] <;> omega), ?_, ?_⟩
    · have := sq_le15 hx
      simp only [r11sq_sem, r11sq_sp, Fits, and_true]; omega
    · simp only [r11sq_sem, r11sq_sp, abs_sq, r11sq_tree, r11sq_M30, r4prod_sem, Tree.den, LE.den, Cv.list, placeA, List.getElem?_cons_zero, List.getElem?_cons_succ, IE.den, BE.den, At.den, CA.den, Env.get, Cv.int, Cv.bool, List.cons_append, List.nil_append, List.map_cons, List.map_nil, bindRes, bindEq, Fits, SV.den, denL, place, placeL, eq_t, eq_f, lt_t, lt_f, le_t, le_f, beq_iff_eq, beq_eq_false_iff_ne, ne_eq, reduceCtorEq, b_dec, decide_eq_true_eq, decide_eq_false_iff_not, Bool.not_eq_false', Bool.or_eq_true, Bool.or_eq_false_iff, Bool.and_eq_false_iff, true_iff, false_iff, Bool.false_eq_true, Bool.not_eq_true', Bool.and_eq_true, Bool.not_true, Bool.not_false, List.cons.injEq, Cv.i.injEq, Cv.b.injEq, and_true, true_and, agg_inj, tup_inj, Value.int.injEq, Value.bool.injEq]
      (repeat' (first | intro _ | refine And.intro ?_ ?_ | exact trivial)) <;> omega
def r11in_sp : SpecSh := { args := [(.lst 0)], res := (.bool .f), sh := [.b] }
set_option maxRecDepth 100000 in
def r11in_tree : Tree :=
.lett (.len 0) <|
.loop [.i (some (0, 100000))] [.i (.z 0)] <|
.ite (.cmp .lt (.v 2) (.v 1)) (.lett (.nth 0 (.v 2)) <|
.ite (.cmp .lt (.v 3) (.z (-1000000))) (.ret (.bool .f)) <|
.ite (.cmp .lt (.z 1000000) (.v 3)) (.ret (.bool .f)) <|
.lett (.add (.v 2) (.z 1)) <|
.again 0 [.i (.v 4)]) <|
.ret (.bool .t)
noncomputable def r11in_cx : Ctx := { tys := tys, fns := fns, mets := mets, sps := [], anns := [((26, 2), { slots := [7], cells := [], ivs := [some (0, 100000)] })], trys := [] }
def r11in_ivs : List (Option (Int × Int)) := [none]
set_option maxRecDepth 100000 in
theorem r11in_walk : runFn r11in_cx 3000 26 Try.f26 r11in_sp.args r11in_ivs = r11in_tree := by kernel_rfl
noncomputable def r11in_M : Nat → SpecSem
  | _ => noSem
theorem r11in_cxok : CxOK Try.prog r11in_cx r11in_M := ⟨tysOK, fnsOK, fun _ _ h => spNil h, mixedOK, fun _ _ h => trNil h, fun _ _ h => atNil h, metsOK⟩
set_option maxRecDepth 100000 in
set_option maxHeartbeats 8000000 in
theorem r11in_den (R RP : Value → Prop) (F : Ex → St → Js → Env → Prop) (x0 : List Int) : Tree.den r11in_M R RP F r11in_tree [] [(.l x0)] = (
  ∀ x1 : Int, x1 = ((List.length x0 : Int)) →
∃ (I0 : List Cv → Prop) (mu0 : List Cv → Nat), Fits [.i (some ((0), (100000)))] [(.i (0 : Int))] ∧ I0 [(.i (0 : Int))] ∧ (
∀ x2 : Int, (0 : Int) ≤ x2 → x2 ≤ (100000 : Int) → I0 [.i x2] →
((Cmp.den .lt x2 x1) = true → ∀ x3 : Int, x3 = (List.getD x0 (Int.toNat x2) 0) →
((Cmp.den .lt x3 (-1000000 : Int)) = true → R (Value.bool false)) ∧ ((Cmp.den .lt x3 (-1000000 : Int)) = false → ((Cmp.den .lt (1000000 : Int) x3) = true → R (Value.bool false)) ∧ ((Cmp.den .lt (1000000 : Int) x3) = false → ∀ x4 : Int, x4 = (x2 + (1 : Int)) →
Fits [.i (some ((0), (100000)))] [(.i x4)] ∧ I0 [(.i x4)] ∧ mu0 [(.i x4)] < mu0 [.i x2]))) ∧ ((Cmp.den .lt x2 x1) = false → R (Value.bool true)))) := by kernel_rfl

def r11in_sem : SpecSem := { pre := fun cs => match cs with | [.l xs] => InI xs ∧ ((xs.length : Int) ≤ 100000) | _ => False, out := fun cs => match cs with | [.l xs] => [.b (decide (inS xs))] | _ => [] }
set_option maxRecDepth 10000 in
set_option maxHeartbeats 16000000 in
theorem r11in_ok : SpecOK Try.prog 26 r11in_sp r11in_sem := by
  refine spec_of_tree r11in_cxok Try.func26 (by kernel_rfl) (by kernel_rfl) r11in_walk rfl ?_
  intro cs hpre
  match cs, hpre with
  | [.l xs], ⟨j_xs, hx⟩ =>
    refine ⟨rfl, IvsB.ok (by simp only [r11in_ivs, IvsB, Cv.int, and_true, j_xs, true_and] <;> omega), ?_, ?_⟩
    · simp only [r11in_sem, r11in_sp, Fits]
    · rw [r11in_den]
      simp only [r11in_sem, r11in_sp, r11in_den, Tree.den, LE.den, Cv.list, placeA, List.getElem?_cons_zero, List.getElem?_cons_succ, IE.den, BE.den, At.den, CA.den, Env.get, Cv.int, Cv.bool, List.cons_append, List.nil_append, List.map_cons, List.map_nil, bindRes, bindEq, Fits, SV.den, denL, place, placeL, eq_t, eq_f, lt_t, lt_f, le_t, le_f, beq_iff_eq, beq_eq_false_iff_ne, ne_eq, reduceCtorEq, b_dec, decide_eq_true_eq, decide_eq_false_iff_not, Bool.not_eq_false', Bool.or_eq_true, Bool.or_eq_false_iff, Bool.and_eq_false_iff, true_iff, false_iff, Bool.false_eq_true, Bool.not_eq_true', Bool.and_eq_true, Bool.not_true, Bool.not_false, List.cons.injEq, Cv.i.injEq, Cv.b.injEq, and_true, true_and, agg_inj, tup_inj, Value.int.injEq, Value.bool.injEq]
      intro x1 e1
      refine ⟨fun vs => match vs with | [.i i] => inS (xs.take i.toNat) ∧ i ≤ (xs.length : Int) | _ => False, fun vs => match vs with | .i i :: _ => ((xs.length : Int) - i).toNat | _ => 0, by omega, ⟨inS_nil, by omega⟩, ?_⟩
      intro x2 l2 g2 hI
      obtain ⟨hin, hle⟩ : inS (xs.take x2.toNat) ∧ x2 ≤ (xs.length : Int) := hI
      subst e1
      refine ⟨fun hlt => ?_, fun hge => ?_⟩
      · intro x3 e3
        have hm := getD_mem l2 hlt
        have ht := take_snoc l2 hlt
        rw [← e3] at hm ht
        refine ⟨fun k h => ?_, fun k => ⟨fun k2 h => ?_, fun k2 => ?_⟩⟩
        · have := h x3 hm; omega
        · have := h x3 hm; omega
        · intro x4 e4
          subst e4
          exact ⟨by omega, ⟨by rw [ht]; exact inS_snoc hin ⟨k, k2⟩, by omega⟩, by show (((xs.length : Int) - (x2 + 1)).toNat < ((xs.length : Int) - x2).toNat); omega⟩
      · have ht : xs.take x2.toNat = xs := List.take_of_length_le (by omega)
        rw [ht] at hin
        simp only [hin, eq_self, if_true, if_false, true_and, and_true, false_and, and_false, true_or, or_true, false_or, or_false, true_iff, iff_true, false_iff, iff_false, not_true_eq_false, not_false_eq_true, true_implies, false_implies, implies_true, forall_const, decide_true, decide_false, reduceCtorEq]
def r11of_sp : SpecSh := { args := [(.lst 0)], res := (.agg [(.int .i64 (.z 0)), (.int .i64 (.z 0)), (.int .u64 (.z 0)), (.int .u64 (.z 0)), (.int .i64 (.z 0)), (.int .i64 (.z 0))]), sh := [.i (some ((-9223372036854775808), 9223372036854775807)), .i (some ((-9223372036854775808), 9223372036854775807)), .i (some (0, 18446744073709551615)), .i (some (0, 18446744073709551615)), .i (some ((-9223372036854775808), 9223372036854775807)), .i (some ((-9223372036854775808), 9223372036854775807))] }
set_option maxRecDepth 100000 in
def r11of_tree : Tree :=
.lett (.len 0) <|
.loop [.i (some (0, 100000)), .i (some (0, 100000)), .i (some ((-100000000000), 100000000000)), .i (some (0, 0)), .i (some (0, 100000000000000000)), .i (some ((-1000000), 1000000)), .i (some ((-1000000), 1000000))] [.i (.z 0), .i (.z 0), .i (.z 0), .i (.z 0), .i (.z 0), .i (.z 0), .i (.z 0)] <|
.ite (.cmp .lt (.v 2) (.v 1)) (.lett (.nth 0 (.v 2)) <|
.ite (.cmp .eq (.v 2) (.z 0)) (.lett (.add (.v 3) (.z 1)) <|
.lett (.addw .i64 (.v 4) (.v 9)) <|
.call 34 [.i (some (0, 18446744073709551615)), .i (some (0, 18446744073709551615))] [.i (.v 9)] <|
.call 33 [.i (some (0, 18446744073709551615)), .i (some (0, 18446744073709551615)), .b] [.i (.v 5), .i (.v 6), .i (.v 12), .i (.v 13)] <|
.again 0 [.i (.z 1), .i (.v 10), .i (.v 11), .i (.v 14), .i (.v 15), .i (.v 9), .i (.v 9)]) <|
.lett (.ite (.cmp .lt (.v 9) (.v 7)) (.v 9) (.v 7)) <|
.lett (.ite (.cmp .lt (.v 8) (.v 9)) (.v 9) (.v 8)) <|
.lett (.add (.v 3) (.z 1)) <|
.lett (.addw .i64 (.v 4) (.v 9)) <|
.call 34 [.i (some (0, 18446744073709551615)), .i (some (0, 18446744073709551615))] [.i (.v 9)] <|
.call 33 [.i (some (0, 18446744073709551615)), .i (some (0, 18446744073709551615)), .b] [.i (.v 5), .i (.v 6), .i (.v 14), .i (.v 15)] <|
.lett (.add (.v 2) (.z 1)) <|
.again 0 [.i (.v 19), .i (.v 12), .i (.v 13), .i (.v 16), .i (.v 17), .i (.v 10), .i (.v 11)]) <|
.ret (.agg [(.int .i64 (.v 3)), (.int .i64 (.v 4)), (.int .u64 (.v 5)), (.int .u64 (.v 6)), (.int .i64 (.v 7)), (.int .i64 (.v 8))])
noncomputable def r11of_cx : Ctx := { tys := tys, fns := fns, mets := mets, sps := [(33, radd_sp), (34, r11sq_sp)], anns := [((27, 3), { slots := [9], cells := [(2, 0), (2, 1), (2, 2), (2, 3), (2, 4), (2, 5)], ivs := [some (0, 100000), some (0, 100000), some ((-100000000000), 100000000000), some (0, 0), some (0, 100000000000000000), some ((-1000000), 1000000), some ((-1000000), 1000000)] })], trys := [] }
def r11of_ivs : List (Option (Int × Int)) := [none]
set_option maxRecDepth 100000 in
theorem r11of_walk : runFn r11of_cx 3000 27 Try.f27 r11of_sp.args r11of_ivs = r11of_tree := by kernel_rfl
noncomputable def r11of_M : Nat → SpecSem
  | 33 => radd_sem
  | 34 => r11sq_sem
  | _ => noSem
theorem r11of_M33 : r11of_M 33 = radd_sem := rfl
theorem r11of_M34 : r11of_M 34 = r11sq_sem := rfl
theorem r11of_cxok : CxOK Try.prog r11of_cx r11of_M := ⟨tysOK, fnsOK, spCons radd_ok <| spCons r11sq_ok <| fun _ _ h => spNil h, mixedOK, fun _ _ h => trNil h, fun _ _ h => atNil h, metsOK⟩
set_option maxRecDepth 100000 in
set_option maxHeartbeats 8000000 in
theorem r11of_den (R RP : Value → Prop) (F : Ex → St → Js → Env → Prop) (x0 : List Int) : Tree.den r11of_M R RP F r11of_tree [] [(.l x0)] = (
  ∀ x1 : Int, x1 = ((List.length x0 : Int)) →
∃ (I0 : List Cv → Prop) (mu0 : List Cv → Nat), Fits [.i (some ((0), (100000))), .i (some ((0), (100000))), .i (some ((-100000000000), (100000000000))), .i (some ((0), (0))), .i (some ((0), (100000000000000000))), .i (some ((-1000000), (1000000))), .i (some ((-1000000), (1000000)))] [(.i (0 : Int)), (.i (0 : Int)), (.i (0 : Int)), (.i (0 : Int)), (.i (0 : Int)), (.i (0 : Int)), (.i (0 : Int))] ∧ I0 [(.i (0 : Int)), (.i (0 : Int)), (.i (0 : Int)), (.i (0 : Int)), (.i (0 : Int)), (.i (0 : Int)), (.i (0 : Int))] ∧ (
∀ x2 : Int, (0 : Int) ≤ x2 → x2 ≤ (100000 : Int) → ∀ x3 : Int, (0 : Int) ≤ x3 → x3 ≤ (100000 : Int) → ∀ x4 : Int, (-100000000000 : Int) ≤ x4 → x4 ≤ (100000000000 : Int) → ∀ x5 : Int, (0 : Int) ≤ x5 → x5 ≤ (0 : Int) → ∀ x6 : Int, (0 : Int) ≤ x6 → x6 ≤ (100000000000000000 : Int) → ∀ x7 : Int, (-1000000 : Int) ≤ x7 → x7 ≤ (1000000 : Int) → ∀ x8 : Int, (-1000000 : Int) ≤ x8 → x8 ≤ (1000000 : Int) → I0 [.i x2, .i x3, .i x4, .i x5, .i x6, .i x7, .i x8] →
((Cmp.den .lt x2 x1) = true → ∀ x9 : Int, x9 = (List.getD x0 (Int.toNat x2) 0) →
((Cmp.den .eq x2 (0 : Int)) = true → ∀ x10 : Int, x10 = (x3 + (1 : Int)) →
∀ x11 : Int, x11 = (IntKind.i64.wrap (x4 + x9)) →
(r11sq_sem.pre [(.i x9)]) ∧ (
∀ x12 : Int, x12 = (Cv.int (Env.get (r11sq_sem.out [(.i x9)]) 0)) → (0 : Int) ≤ x12 → x12 ≤ (18446744073709551615 : Int) →
∀ x13 : Int, x13 = (Cv.int (Env.get (r11sq_sem.out [(.i x9)]) 1)) → (0 : Int) ≤ x13 → x13 ≤ (18446744073709551615 : Int) →
(radd_sem.pre [(.i x5), (.i x6), (.i x12), (.i x13)]) ∧ (
∀ x14 : Int, x14 = (Cv.int (Env.get (radd_sem.out [(.i x5), (.i x6), (.i x12), (.i x13)]) 0)) → (0 : Int) ≤ x14 → x14 ≤ (18446744073709551615 : Int) →
∀ x15 : Int, x15 = (Cv.int (Env.get (radd_sem.out [(.i x5), (.i x6), (.i x12), (.i x13)]) 1)) → (0 : Int) ≤ x15 → x15 ≤ (18446744073709551615 : Int) →
Fits [.i (some ((0), (100000))), .i (some ((0), (100000))), .i (some ((-100000000000), (100000000000))), .i (some ((0), (0))), .i (some ((0), (100000000000000000))), .i (some ((-1000000), (1000000))), .i (some ((-1000000), (1000000)))] [(.i (1 : Int)), (.i x10), (.i x11), (.i x14), (.i x15), (.i x9), (.i x9)] ∧ I0 [(.i (1 : Int)), (.i x10), (.i x11), (.i x14), (.i x15), (.i x9), (.i x9)] ∧ mu0 [(.i (1 : Int)), (.i x10), (.i x11), (.i x14), (.i x15), (.i x9), (.i x9)] < mu0 [.i x2, .i x3, .i x4, .i x5, .i x6, .i x7, .i x8]))) ∧ ((Cmp.den .eq x2 (0 : Int)) = false → ∀ x10 : Int, x10 = (if (Cmp.den .lt x9 x7) = true then x9 else x7) →
∀ x11 : Int, x11 = (if (Cmp.den .lt x8 x9) = true then x9 else x8) →
∀ x12 : Int, x12 = (x3 + (1 : Int)) →
∀ x13 : Int, x13 = (IntKind.i64.wrap (x4 + x9)) →
(r11sq_sem.pre [(.i x9)]) ∧ (
∀ x14 : Int, x14 = (Cv.int (Env.get (r11sq_sem.out [(.i x9)]) 0)) → (0 : Int) ≤ x14 → x14 ≤ (18446744073709551615 : Int) →
∀ x15 : Int, x15 = (Cv.int (Env.get (r11sq_sem.out [(.i x9)]) 1)) → (0 : Int) ≤ x15 → x15 ≤ (18446744073709551615 : Int) →
(radd_sem.pre [(.i x5), (.i x6), (.i x14), (.i x15)]) ∧ (
∀ x16 : Int, x16 = (Cv.int (Env.get (radd_sem.out [(.i x5), (.i x6), (.i x14), (.i x15)]) 0)) → (0 : Int) ≤ x16 → x16 ≤ (18446744073709551615 : Int) →
∀ x17 : Int, x17 = (Cv.int (Env.get (radd_sem.out [(.i x5), (.i x6), (.i x14), (.i x15)]) 1)) → (0 : Int) ≤ x17 → x17 ≤ (18446744073709551615 : Int) →
∀ x19 : Int, x19 = (x2 + (1 : Int)) →
Fits [.i (some ((0), (100000))), .i (some ((0), (100000))), .i (some ((-100000000000), (100000000000))), .i (some ((0), (0))), .i (some ((0), (100000000000000000))), .i (some ((-1000000), (1000000))), .i (some ((-1000000), (1000000)))] [(.i x19), (.i x12), (.i x13), (.i x16), (.i x17), (.i x10), (.i x11)] ∧ I0 [(.i x19), (.i x12), (.i x13), (.i x16), (.i x17), (.i x10), (.i x11)] ∧ mu0 [(.i x19), (.i x12), (.i x13), (.i x16), (.i x17), (.i x10), (.i x11)] < mu0 [.i x2, .i x3, .i x4, .i x5, .i x6, .i x7, .i x8])))) ∧ ((Cmp.den .lt x2 x1) = false → R (Value.agg [(Value.int .i64 x3), (Value.int .i64 x4), (Value.int .u64 x5), (Value.int .u64 x6), (Value.int .i64 x7), (Value.int .i64 x8)].toArray)))) := by kernel_rfl

def r11of_sem : SpecSem := { pre := fun cs => match cs with | [.l xs] => InI xs ∧ ((xs.length : Int) ≤ 100000 ∧ inS xs) | _ => False, out := fun cs => match cs with | [.l xs] => [.i (xs.length : Int), .i (sumL xs), .i 0, .i (sqL xs), .i (minS xs), .i (maxS xs)] | _ => [] }
set_option maxRecDepth 10000 in
set_option maxHeartbeats 16000000 in
theorem r11of_ok : SpecOK Try.prog 27 r11of_sp r11of_sem := by
  refine spec_of_tree r11of_cxok Try.func27 (by kernel_rfl) (by kernel_rfl) r11of_walk rfl ?_
  intro cs hpre
  match cs, hpre with
  | [.l xs], ⟨j_xs, hx⟩ =>
    refine ⟨rfl, IvsB.ok (by simp only [r11of_ivs, IvsB, Cv.int, and_true, j_xs, true_and] <;> omega), ?_, ?_⟩
    · have := sts_rng hx.2 hx.1
      simp only [r11of_sem, r11of_sp, Fits, and_true]; omega
    · rw [r11of_den]
      simp only [r11of_sem, r11of_sp, r11of_den, radd_sem, r11sq_sem, Tree.den, LE.den, Cv.list, placeA, List.getElem?_cons_zero, List.getElem?_cons_succ, IE.den, BE.den, At.den, CA.den, Env.get, Cv.int, Cv.bool, List.cons_append, List.nil_append, List.map_cons, List.map_nil, bindRes, bindEq, Fits, SV.den, denL, place, placeL, eq_t, eq_f, lt_t, lt_f, le_t, le_f, beq_iff_eq, beq_eq_false_iff_ne, ne_eq, reduceCtorEq, b_dec, decide_eq_true_eq, decide_eq_false_iff_not, Bool.not_eq_false', Bool.or_eq_true, Bool.or_eq_false_iff, Bool.and_eq_false_iff, true_iff, false_iff, Bool.false_eq_true, Bool.not_eq_true', Bool.and_eq_true, Bool.not_true, Bool.not_false, List.cons.injEq, Cv.i.injEq, Cv.b.injEq, and_true, true_and, agg_inj, tup_inj, Value.int.injEq, Value.bool.injEq]
      intro x1 e1
      refine ⟨fun vs => match vs with | [.i i, .i n, .i s, .i h, .i l, .i a, .i b] => (n = i ∧ s = sumL (xs.take i.toNat) ∧ l = sqL (xs.take i.toNat) ∧ a = minS (xs.take i.toNat) ∧ b = maxS (xs.take i.toNat)) ∧ i ≤ (xs.length : Int) | _ => False, fun vs => match vs with | .i i :: _ => ((xs.length : Int) - i).toNat | _ => 0, by omega, ⟨⟨rfl, rfl, rfl, rfl, rfl⟩, by omega⟩, ?_⟩
      intro x2 l2 g2 x3 l3 g3 x4 l4 g4 x5 l5 g5 x6 l6 g6 x7 l7 g7 x8 l8 g8 hI
      obtain ⟨⟨i1, i2, i3, i4, i5⟩, hle⟩ : (x3 = x2 ∧ x4 = sumL (xs.take x2.toNat) ∧ x6 = sqL (xs.take x2.toNat) ∧ x7 = minS (xs.take x2.toNat) ∧ x8 = maxS (xs.take x2.toNat)) ∧ x2 ≤ (xs.length : Int) := hI
      have z5 : x5 = 0 := by omega
      subst e1 z5
      refine ⟨fun hlt => ?_, fun hge => ?_⟩
      · intro x9 e9
        obtain ⟨n1, n2, n3, n4, n5⟩ := sts_next l2 hlt e9
        have hm := getD_mem l2 hlt
        rw [← e9] at hm
        have k1 := hx.2 x9 hm
        have rg := sts_rng (inS_take (x2 + 1).toNat hx.2) (by omega)
        rw [← i2] at n1
        rw [← i3] at n2
        rw [← i4] at n3
        rw [← i5] at n4
        have iz : x3 = 0 → x4 = 0 ∧ x6 = 0 := by
          intro z
          rw [i2, i3, ← i1, z]
          exact ⟨rfl, rfl⟩
        rw [n1, n2, n3, n4] at rg
        subst i1
        have sq1 := sq_nonneg x9
        have k6 : IsI x4 := ⟨by omega, by omega⟩
        have k7 : IsU x6 := ⟨by omega, by omega⟩
        have k10 : IsI x9 := ⟨by omega, by omega⟩
        have k12 : IsU 0 := ⟨by omega, by omega⟩
        have y4 : -1000000000000000 ≤ x9 ∧ x9 ≤ 1000000000000000 := by omega
        have q0 : x9 * x9 / 18446744073709551616 = 0 := by omega
        have q3 : x9 * x9 % 18446744073709551616 = x9 * x9 := by omega
        have k11 : IsU (x9 * x9) := ⟨by omega, by omega⟩
        have q1 : (x6 + x9 * x9) / 18446744073709551616 % 18446744073709551616 = 0 := by omega
        have q2 : (x6 + x9 * x9) % 18446744073709551616 = x6 + x9 * x9 := by omega
        have w2 : IntKind.i64.wrap (x4 + x9) = x4 + x9 := w64 (by omega) (by omega)
        simp only [k6, k7, k10, k11, k12, y4, val0, q0, q1, q2, q3, w2, forall_eq, eq_self, if_true, if_false, true_and, and_true, false_and, and_false, true_or, or_true, false_or, or_false, true_iff, iff_true, false_iff, iff_false, not_true_eq_false, not_false_eq_true, true_implies, false_implies, implies_true, forall_const, decide_true, decide_false, reduceCtorEq]
        by_cases z : x3 = 0
        · simp only [z, if_true, if_false, true_and, and_true, false_and, and_false, true_or, or_true, false_or, or_false, true_iff, iff_true, false_iff, iff_false, not_true_eq_false, not_false_eq_true, true_implies, false_implies, implies_true, forall_const, decide_true, decide_false, reduceCtorEq] at n3 n4 rg ⊢
          rw [z] at n1 n2 n5 hlt
          intros
          exact ⟨by omega, ⟨⟨rfl, n1.symm, n2.symm, n3.symm, n4.symm⟩, by omega⟩, by omega⟩
        · simp only [z, if_true, if_false, true_and, and_true, false_and, and_false, true_or, or_true, false_or, or_false, true_iff, iff_true, false_iff, iff_false, not_true_eq_false, not_false_eq_true, true_implies, false_implies, implies_true, forall_const, decide_true, decide_false, reduceCtorEq] at n3 n4 rg ⊢
          generalize (if x9 < x7 then x9 else x7) = M at *
          generalize (if x8 < x9 then x9 else x8) = K at *
          intros
          exact ⟨by omega, ⟨⟨n1.symm, n2.symm, n3.symm, n4.symm⟩, by omega⟩, by omega⟩
      · have ht : xs.take x2.toNat = xs := List.take_of_length_le (by omega)
        rw [ht] at i2 i3 i4 i5
        have z3 : x3 = (xs.length : Int) := by omega
        subst i2 i3 i4 i5 z3
        simp only [eq_self, if_true, if_false, true_and, and_true, false_and, and_false, true_or, or_true, false_or, or_false, true_iff, iff_true, false_iff, iff_false, not_true_eq_false, not_false_eq_true, true_implies, false_implies, implies_true, forall_const, decide_true, decide_false, reduceCtorEq]
end Go.Proofs.Ytglpelnaeipenaa.X
