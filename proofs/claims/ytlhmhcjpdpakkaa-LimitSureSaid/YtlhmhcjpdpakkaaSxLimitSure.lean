/-
  LimitSure tells true, for every input.
-/
import Derived.Test.YtlhmhcjpdpakkaaSxLimitNum
import Derived.Test.YtlhmhcjpdpakkaaSxLimitMask
import Derived.Test.YtlhmhcjpdpakkaaSxLimitLaw
namespace Go.Proofs.Ytlhmhcjpdpakkaa.X
open Go Go.SX Go.RowKit
set_option linter.unusedVariables false
set_option linter.unusedSimpArgs false






def lbey_sp : SpecSh := { args := [(.int .u64 (.z 0)), (.agg [(.int .u64 (.z 0)), (.int .u64 (.z 0))]), (.int .u64 (.z 0))], res := (.bool .f), sh := [.b] }
set_option maxRecDepth 100000 in
def lbey_tree : Tree :=
.lett (.mulw .u64 (.z 9) (.v 3)) <|
.lett (.mulw .u64 (.v 4) (.v 3)) <|
.call 84 [.i (some (0, 18446744073709551615)), .i (some (0, 18446744073709551615)), .b] [.i (.v 1), .i (.v 2), .i (.z 0), .i (.v 5)] <|
.call 82 [.i (some (0, 18446744073709551615)), .i (some (0, 18446744073709551615))] [.i (.v 0), .i (.v 0)] <|
.call 83 [.b] [.i (.v 6), .i (.v 7), .i (.v 9), .i (.v 10)] <|
.ret (.bool (.v 11))
noncomputable def lbey_cx : Ctx := { tys := tys, fns := fns, sps := [(84, times_sp), (82, mul_sp), (83, less_sp)], anns := [], trys := [] }
def lbey_ivs : List (Option (Int × Int)) := [some (0, 18446744073709551615), some (0, 18446744073709551615), some (0, 18446744073709551615), some (0, 18446744073709551615)]
set_option maxRecDepth 100000 in
theorem lbey_walk : runFn lbey_cx 3000 62 Try.f62 lbey_sp.args lbey_ivs = lbey_tree := by kernel_rfl
noncomputable def lbey_M : Nat → SpecSem
  | 84 => times_sem
  | 82 => mul_sem
  | 83 => less_sem
  | _ => noSem
theorem lbey_M84 : lbey_M 84 = times_sem := rfl
theorem lbey_M82 : lbey_M 82 = mul_sem := rfl
theorem lbey_M83 : lbey_M 83 = less_sem := rfl
theorem lbey_cxok : CxOK Try.prog lbey_cx lbey_M := ⟨tysOK, fnsOK, spCons times_ok <| spCons mul_ok <| spCons less_ok <| fun _ _ h => spNil h, mixedOK, fun _ _ h => trNil h⟩
set_option maxRecDepth 100000 in
set_option maxHeartbeats 8000000 in
theorem lbey_den (R RP : Value → Prop) (F : Ex → St → Js → Env → Prop) (J : Js) (x0 : Int) (x1 : Int) (x2 : Int) (x3 : Int) : Tree.den lbey_M R RP F lbey_tree J [(.i x0), (.i x1), (.i x2), (.i x3)] = (
  ∀ x4 : Int, x4 = (IntKind.u64.wrap ((9 : Int) * x3)) →
∀ x5 : Int, x5 = (IntKind.u64.wrap (x4 * x3)) →
(times_sem.pre [(.i x1), (.i x2), (.i (0 : Int)), (.i x5)]) ∧ (
∀ x6 : Int, x6 = (Cv.int (Env.get (times_sem.out [(.i x1), (.i x2), (.i (0 : Int)), (.i x5)]) 0)) → (0 : Int) ≤ x6 → x6 ≤ (18446744073709551615 : Int) →
∀ x7 : Int, x7 = (Cv.int (Env.get (times_sem.out [(.i x1), (.i x2), (.i (0 : Int)), (.i x5)]) 1)) → (0 : Int) ≤ x7 → x7 ≤ (18446744073709551615 : Int) →
(mul_sem.pre [(.i x0), (.i x0)]) ∧ (
∀ x9 : Int, x9 = (Cv.int (Env.get (mul_sem.out [(.i x0), (.i x0)]) 0)) → (0 : Int) ≤ x9 → x9 ≤ (18446744073709551615 : Int) →
∀ x10 : Int, x10 = (Cv.int (Env.get (mul_sem.out [(.i x0), (.i x0)]) 1)) → (0 : Int) ≤ x10 → x10 ≤ (18446744073709551615 : Int) →
(less_sem.pre [(.i x6), (.i x7), (.i x9), (.i x10)]) ∧ (
R (Value.bool (Cv.bool (Env.get (less_sem.out [(.i x6), (.i x7), (.i x9), (.i x10)]) 0))))))) := by kernel_rfl

def lbey_sem : SpecSem := { pre := fun cs => match cs with | [.i f, .i h, .i l, .i s] => IsU f ∧ IsU h ∧ IsU l ∧ IsU s ∧ (h < 274877906944 ∧ (1 ≤ s ∧ s ≤ 1000)) | _ => False, out := fun cs => match cs with | [.i f, .i h, .i l, .i s] => [.b (decide (allZ h l s < f * f))] | _ => [] }
set_option maxRecDepth 10000 in
set_option maxHeartbeats 16000000 in
theorem lbey_ok : SpecOK Try.prog 62 lbey_sp lbey_sem := by
  refine spec_of_tree lbey_cxok Try.func62 (by kernel_rfl) (by kernel_rfl) lbey_walk rfl ?_
  intro cs hpre
  match cs, hpre with
  | [.i f, .i h, .i l, .i s], ⟨j_f, j_h, j_l, j_s, hx⟩ =>
    have h_f := j_f
    unfold IsU at h_f
    have h_h := j_h
    unfold IsU at h_h
    have h_l := j_l
    unfold IsU at h_l
    have h_s := j_s
    unfold IsU at h_s
    refine ⟨rfl, IvsB.ok (by simp only [lbey_ivs, IvsB, Cv.int, and_true] <;> omega), ?_, ?_⟩
    · simp only [lbey_sem, lbey_sp, Fits]
    · rw [lbey_den]
      simp only [lbey_sem, lbey_sp, lbey_den, times_sem, mul_sem, less_sem, Tree.den, LE.den, Cv.list, placeA, List.getElem?_cons_zero, List.getElem?_cons_succ, IE.den, BE.den, At.den, CA.den, Env.get, Cv.int, Cv.bool, List.cons_append, List.nil_append, List.map_cons, List.map_nil, bindRes, bindEq, Fits, SV.den, denL, place, placeL, eq_t, eq_f, lt_t, lt_f, le_t, le_f, beq_iff_eq, beq_eq_false_iff_ne, ne_eq, reduceCtorEq, b_dec, decide_eq_true_eq, decide_eq_false_iff_not, Bool.not_eq_false', Bool.or_eq_true, Bool.or_eq_false_iff, Bool.and_eq_false_iff, true_iff, false_iff, Bool.false_eq_true, Bool.not_eq_true', Bool.and_eq_true, Bool.not_true, Bool.not_false, List.cons.injEq, Cv.i.injEq, Cv.b.injEq, and_true, true_and, agg_inj, tup_inj, Value.int.injEq, Value.bool.injEq]
      obtain ⟨⟨a1, a2⟩, a3, a4⟩ := allZ_rng (h := h) (l := l) (s := s) ⟨h_h.1, hx.1⟩ h_l hx.2
      obtain ⟨hx1, hx2, hx3⟩ := hx
      have w1 : IntKind.u64.wrap (9 * s) = 9 * s := wu64 (by omega) (by omega)
      have w2 : IntKind.u64.wrap (9 * s * s) = 9 * s * s := wu64 (by omega) (by omega)
      have f1 : val (allZ h l s / 18446744073709551616 % 18446744073709551616) (allZ h l s % 18446744073709551616) = allZ h l s := vq2' a1 (by omega)
      have ea : val h l * (9 * s * s) = allZ h l s := rfl
      have f2 := vq' (f * f)
      have i5 : IsU (9 * s * s) := ⟨by omega, by omega⟩
      have i0 : IsU 0 := ⟨by omega, by omega⟩
      have g1 := Int.mul_le_mul (a := f) (b := f) (c := 18446744073709551615) (d := 18446744073709551615) h_f.2 h_f.2 h_f.1 (by omega)
      have g2 := Int.mul_nonneg h_f.1 h_f.1
      have i9 : IsU (f * f / 18446744073709551616) := by
        generalize f * f = q at *
        exact ⟨by omega, by omega⟩
      have i10 : IsU (f * f % 18446744073709551616) := ⟨by omega, by omega⟩
      have i6 : IsU (allZ h l s / 18446744073709551616 % 18446744073709551616) := ⟨by omega, by omega⟩
      have i7 : IsU (allZ h l s % 18446744073709551616) := ⟨by omega, by omega⟩
      simp only [w1, w2, val0r, ea, f1, f2, i0, i5, i6, i7, i9, i10, j_f, j_h, j_l, j_s, forall_eq, if_true, if_false, true_and, and_true, false_and, and_false, true_or, or_true, false_or, or_false, true_iff, iff_true, false_iff, iff_false, not_true_eq_false, not_false_eq_true, true_implies, false_implies, implies_true, forall_const, decide_true, decide_false, reduceCtorEq]

def llsure_sp : SpecSh := { args := [(.int .i64 (.z 0)), (.int .i64 (.z 0)), (.int .i64 (.z 0)), (.agg [(.int .u64 (.z 0)), (.int .u64 (.z 0))]), (.int .i64 (.z 0))], res := (.bool .f), sh := [.b] }
set_option maxRecDepth 100000 in
def llsure_tree : Tree :=
.lett (.rem (.v 0) (.z 100000000000000)) <|
.lett (.rem (.v 1) (.z 100000000000000)) <|
.lett (.add (.v 7) (.z 100000000000000)) <|
.lett (.mod (.v 8) (.z 100000000000000)) <|
.lett (.add (.z 1) (.v 9)) <|
.lett (.rem (.v 2) (.z 100000000000000)) <|
.lett (.div (.v 3) (.z 67108864)) <|
.lett (.rem (.v 5) (.z 1000)) <|
.lett (.add (.v 13) (.z 1000)) <|
.lett (.mod (.v 14) (.z 1000)) <|
.lett (.add (.z 1) (.v 15)) <|
.call 54 [.i (some ((-9223372036854775808), 9223372036854775807)), .i (some ((-9223372036854775808), 9223372036854775807)), .i (some ((-9223372036854775808), 9223372036854775807)), .i (some ((-9223372036854775808), 9223372036854775807)), .i (some ((-9223372036854775808), 9223372036854775807)), .i (some ((-9223372036854775808), 9223372036854775807)), .i (some ((-9223372036854775808), 9223372036854775807)), .i (some ((-9223372036854775808), 9223372036854775807)), .i (some ((-9223372036854775808), 9223372036854775807))] [.i (.v 6), .i (.v 10), .i (.v 11), .i (.v 12), .i (.v 4), .i (.v 16)] <|
.call 61 [.i (some (0, 2)), .i (some (0, 1))] [.i (.v 17), .i (.v 18), .i (.v 19), .i (.v 20), .i (.v 21), .i (.v 22), .i (.v 23), .i (.v 24)] <|
.ite (.not (.cmp .eq (.v 25) (.z 0))) (.ret (.bool .f)) <|
.ite (.not (.cmp .eq (.v 27) (.z 0))) (.ret (.bool .f)) <|
.call 57 [.b] [] <|
.ite (.not (.v 28)) (.ret (.bool .f)) <|
.lett (.sub (.z 0) (.v 11)) <|
.lett (.ite (.cmp .lt (.v 11) (.v 29)) (.v 29) (.v 11)) <|
.lett (.wrap .u64 (.v 30)) <|
.lett (.mulw .u64 (.v 31) (.v 16)) <|
.lett (.mul (.z 3) (.v 10)) <|
.ite (.cmp .eq (.v 26) (.z 1)) (.call 62 [.b] [.i (.v 32), .i (.v 12), .i (.v 4), .i (.v 16)] <|
.ite (.not (.v 34)) (.ret (.bool .f)) <|
.ite (.cmp .lt (.v 33) (.v 32)) (.lett (.subw .u64 (.v 32) (.v 33)) <|
.call 62 [.b] [.i (.v 35), .i (.v 12), .i (.v 4), .i (.v 16)] <|
.ite (.v 36) (.ret (.bool (.cmp .eq (.v 26) (.z 1)))) <|
.lett (.addw .u64 (.v 32) (.v 33)) <|
.call 62 [.b] [.i (.v 37), .i (.v 12), .i (.v 4), .i (.v 16)] <|
.ite (.not (.v 38)) (.ret (.bool (.cmp .eq (.v 26) (.z 0)))) <|
.ret (.bool .t)) <|
.lett (.add (.v 32) (.v 33)) <|
.call 62 [.b] [.i (.v 35), .i (.v 12), .i (.v 4), .i (.v 16)] <|
.ite (.not (.v 36)) (.ret (.bool (.cmp .eq (.v 26) (.z 0)))) <|
.ret (.bool .t)) <|
.ite (.cmp .eq (.v 26) (.z 0)) (.call 62 [.b] [.i (.v 32), .i (.v 12), .i (.v 4), .i (.v 16)] <|
.ite (.v 34) (.ret (.bool .f)) <|
.ite (.cmp .lt (.v 33) (.v 32)) (.lett (.subw .u64 (.v 32) (.v 33)) <|
.call 62 [.b] [.i (.v 35), .i (.v 12), .i (.v 4), .i (.v 16)] <|
.ite (.v 36) (.ret (.bool (.cmp .eq (.v 26) (.z 1)))) <|
.lett (.addw .u64 (.v 32) (.v 33)) <|
.call 62 [.b] [.i (.v 37), .i (.v 12), .i (.v 4), .i (.v 16)] <|
.ite (.not (.v 38)) (.ret (.bool (.cmp .eq (.v 26) (.z 0)))) <|
.ret (.bool .t)) <|
.lett (.add (.v 32) (.v 33)) <|
.call 62 [.b] [.i (.v 35), .i (.v 12), .i (.v 4), .i (.v 16)] <|
.ite (.not (.v 36)) (.ret (.bool (.cmp .eq (.v 26) (.z 0)))) <|
.ret (.bool .t)) <|
.ite (.cmp .lt (.v 33) (.v 32)) (.lett (.subw .u64 (.v 32) (.v 33)) <|
.call 62 [.b] [.i (.v 34), .i (.v 12), .i (.v 4), .i (.v 16)] <|
.ite (.v 35) (.ret (.bool (.cmp .eq (.v 26) (.z 1)))) <|
.lett (.addw .u64 (.v 32) (.v 33)) <|
.call 62 [.b] [.i (.v 36), .i (.v 12), .i (.v 4), .i (.v 16)] <|
.ite (.not (.v 37)) (.ret (.bool (.cmp .eq (.v 26) (.z 0)))) <|
.ret (.bool (.cmp .eq (.v 26) (.z 2)))) <|
.lett (.add (.v 32) (.v 33)) <|
.call 62 [.b] [.i (.v 34), .i (.v 12), .i (.v 4), .i (.v 16)] <|
.ite (.not (.v 35)) (.ret (.bool (.cmp .eq (.v 26) (.z 0)))) <|
.ret (.bool (.cmp .eq (.v 26) (.z 2)))
noncomputable def llsure_cx : Ctx := { tys := tys, fns := fns, sps := [(54, ldraw_sp), (61, lverd_sp), (57, lal_sp), (62, lbey_sp)], anns := [], trys := [] }
def llsure_ivs : List (Option (Int × Int)) := [some ((-9223372036854775808), 9223372036854775807), some ((-9223372036854775808), 9223372036854775807), some ((-9223372036854775808), 9223372036854775807), some (0, 18446744073709551615), some (0, 18446744073709551615), some ((-9223372036854775808), 9223372036854775807)]
set_option maxRecDepth 100000 in
theorem llsure_walk : runFn llsure_cx 3000 11 Try.f11 llsure_sp.args llsure_ivs = llsure_tree := by kernel_rfl
noncomputable def llsure_M : Nat → SpecSem
  | 54 => ldraw_sem
  | 61 => lverd_sem
  | 57 => lal_sem
  | 62 => lbey_sem
  | _ => noSem
theorem llsure_M54 : llsure_M 54 = ldraw_sem := rfl
theorem llsure_M61 : llsure_M 61 = lverd_sem := rfl
theorem llsure_M57 : llsure_M 57 = lal_sem := rfl
theorem llsure_M62 : llsure_M 62 = lbey_sem := rfl
theorem llsure_cxok : CxOK Try.prog llsure_cx llsure_M := ⟨tysOK, fnsOK, spCons ldraw_ok <| spCons lverd_ok <| spCons lal_ok <| spCons lbey_ok <| fun _ _ h => spNil h, mixedOK, fun _ _ h => trNil h⟩
set_option maxRecDepth 100000 in
set_option maxHeartbeats 8000000 in
theorem llsure_den (R RP : Value → Prop) (F : Ex → St → Js → Env → Prop) (J : Js) (x0 : Int) (x1 : Int) (x2 : Int) (x3 : Int) (x4 : Int) (x5 : Int) : Tree.den llsure_M R RP F llsure_tree J [(.i x0), (.i x1), (.i x2), (.i x3), (.i x4), (.i x5)] = (
  ∀ x6 : Int, x6 = (Int.tmod x0 (100000000000000 : Int)) →
∀ x7 : Int, x7 = (Int.tmod x1 (100000000000000 : Int)) →
∀ x8 : Int, x8 = (x7 + (100000000000000 : Int)) →
∀ x9 : Int, x9 = (x8 % (100000000000000 : Int)) →
∀ x10 : Int, x10 = ((1 : Int) + x9) →
∀ x11 : Int, x11 = (Int.tmod x2 (100000000000000 : Int)) →
∀ x12 : Int, x12 = (x3 / (67108864 : Int)) →
∀ x13 : Int, x13 = (Int.tmod x5 (1000 : Int)) →
∀ x14 : Int, x14 = (x13 + (1000 : Int)) →
∀ x15 : Int, x15 = (x14 % (1000 : Int)) →
∀ x16 : Int, x16 = ((1 : Int) + x15) →
(ldraw_sem.pre [(.i x6), (.i x10), (.i x11), (.i x12), (.i x4), (.i x16)]) ∧ (
∀ x17 : Int, x17 = (Cv.int (Env.get (ldraw_sem.out [(.i x6), (.i x10), (.i x11), (.i x12), (.i x4), (.i x16)]) 0)) → (-9223372036854775808 : Int) ≤ x17 → x17 ≤ (9223372036854775807 : Int) →
∀ x18 : Int, x18 = (Cv.int (Env.get (ldraw_sem.out [(.i x6), (.i x10), (.i x11), (.i x12), (.i x4), (.i x16)]) 1)) → (-9223372036854775808 : Int) ≤ x18 → x18 ≤ (9223372036854775807 : Int) →
∀ x19 : Int, x19 = (Cv.int (Env.get (ldraw_sem.out [(.i x6), (.i x10), (.i x11), (.i x12), (.i x4), (.i x16)]) 2)) → (-9223372036854775808 : Int) ≤ x19 → x19 ≤ (9223372036854775807 : Int) →
∀ x20 : Int, x20 = (Cv.int (Env.get (ldraw_sem.out [(.i x6), (.i x10), (.i x11), (.i x12), (.i x4), (.i x16)]) 3)) → (-9223372036854775808 : Int) ≤ x20 → x20 ≤ (9223372036854775807 : Int) →
∀ x21 : Int, x21 = (Cv.int (Env.get (ldraw_sem.out [(.i x6), (.i x10), (.i x11), (.i x12), (.i x4), (.i x16)]) 4)) → (-9223372036854775808 : Int) ≤ x21 → x21 ≤ (9223372036854775807 : Int) →
∀ x22 : Int, x22 = (Cv.int (Env.get (ldraw_sem.out [(.i x6), (.i x10), (.i x11), (.i x12), (.i x4), (.i x16)]) 5)) → (-9223372036854775808 : Int) ≤ x22 → x22 ≤ (9223372036854775807 : Int) →
∀ x23 : Int, x23 = (Cv.int (Env.get (ldraw_sem.out [(.i x6), (.i x10), (.i x11), (.i x12), (.i x4), (.i x16)]) 6)) → (-9223372036854775808 : Int) ≤ x23 → x23 ≤ (9223372036854775807 : Int) →
∀ x24 : Int, x24 = (Cv.int (Env.get (ldraw_sem.out [(.i x6), (.i x10), (.i x11), (.i x12), (.i x4), (.i x16)]) 7)) → (-9223372036854775808 : Int) ≤ x24 → x24 ≤ (9223372036854775807 : Int) →
∀ x25 : Int, x25 = (Cv.int (Env.get (ldraw_sem.out [(.i x6), (.i x10), (.i x11), (.i x12), (.i x4), (.i x16)]) 8)) → (-9223372036854775808 : Int) ≤ x25 → x25 ≤ (9223372036854775807 : Int) →
(lverd_sem.pre [(.i x17), (.i x18), (.i x19), (.i x20), (.i x21), (.i x22), (.i x23), (.i x24)]) ∧ (
∀ x26 : Int, x26 = (Cv.int (Env.get (lverd_sem.out [(.i x17), (.i x18), (.i x19), (.i x20), (.i x21), (.i x22), (.i x23), (.i x24)]) 0)) → (0 : Int) ≤ x26 → x26 ≤ (2 : Int) →
∀ x27 : Int, x27 = (Cv.int (Env.get (lverd_sem.out [(.i x17), (.i x18), (.i x19), (.i x20), (.i x21), (.i x22), (.i x23), (.i x24)]) 1)) → (0 : Int) ≤ x27 → x27 ≤ (1 : Int) →
((!(Cmp.den .eq x25 (0 : Int))) = true → R (Value.bool false)) ∧ ((!(Cmp.den .eq x25 (0 : Int))) = false → ((!(Cmp.den .eq x27 (0 : Int))) = true → R (Value.bool false)) ∧ ((!(Cmp.den .eq x27 (0 : Int))) = false → (lal_sem.pre []) ∧ (
((!(Cv.bool (Env.get (lal_sem.out []) 0))) = true → R (Value.bool false)) ∧ ((!(Cv.bool (Env.get (lal_sem.out []) 0))) = false → ∀ x29 : Int, x29 = ((0 : Int) - x11) →
∀ x30 : Int, x30 = (if (Cmp.den .lt x11 x29) = true then x29 else x11) →
∀ x31 : Int, x31 = (IntKind.u64.wrap x30) →
∀ x32 : Int, x32 = (IntKind.u64.wrap (x31 * x16)) →
∀ x33 : Int, x33 = ((3 : Int) * x10) →
((Cmp.den .eq x26 (1 : Int)) = true → (lbey_sem.pre [(.i x32), (.i x12), (.i x4), (.i x16)]) ∧ (
((!(Cv.bool (Env.get (lbey_sem.out [(.i x32), (.i x12), (.i x4), (.i x16)]) 0))) = true → R (Value.bool false)) ∧ ((!(Cv.bool (Env.get (lbey_sem.out [(.i x32), (.i x12), (.i x4), (.i x16)]) 0))) = false → ((Cmp.den .lt x33 x32) = true → ∀ x35 : Int, x35 = (IntKind.u64.wrap (x32 - x33)) →
(lbey_sem.pre [(.i x35), (.i x12), (.i x4), (.i x16)]) ∧ (
((Cv.bool (Env.get (lbey_sem.out [(.i x35), (.i x12), (.i x4), (.i x16)]) 0)) = true → R (Value.bool (Cmp.den .eq x26 (1 : Int)))) ∧ ((Cv.bool (Env.get (lbey_sem.out [(.i x35), (.i x12), (.i x4), (.i x16)]) 0)) = false → ∀ x37 : Int, x37 = (IntKind.u64.wrap (x32 + x33)) →
(lbey_sem.pre [(.i x37), (.i x12), (.i x4), (.i x16)]) ∧ (
((!(Cv.bool (Env.get (lbey_sem.out [(.i x37), (.i x12), (.i x4), (.i x16)]) 0))) = true → R (Value.bool (Cmp.den .eq x26 (0 : Int)))) ∧ ((!(Cv.bool (Env.get (lbey_sem.out [(.i x37), (.i x12), (.i x4), (.i x16)]) 0))) = false → R (Value.bool true)))))) ∧ ((Cmp.den .lt x33 x32) = false → ∀ x35 : Int, x35 = (x32 + x33) →
(lbey_sem.pre [(.i x35), (.i x12), (.i x4), (.i x16)]) ∧ (
((!(Cv.bool (Env.get (lbey_sem.out [(.i x35), (.i x12), (.i x4), (.i x16)]) 0))) = true → R (Value.bool (Cmp.den .eq x26 (0 : Int)))) ∧ ((!(Cv.bool (Env.get (lbey_sem.out [(.i x35), (.i x12), (.i x4), (.i x16)]) 0))) = false → R (Value.bool true))))))) ∧ ((Cmp.den .eq x26 (1 : Int)) = false → ((Cmp.den .eq x26 (0 : Int)) = true → (lbey_sem.pre [(.i x32), (.i x12), (.i x4), (.i x16)]) ∧ (
((Cv.bool (Env.get (lbey_sem.out [(.i x32), (.i x12), (.i x4), (.i x16)]) 0)) = true → R (Value.bool false)) ∧ ((Cv.bool (Env.get (lbey_sem.out [(.i x32), (.i x12), (.i x4), (.i x16)]) 0)) = false → ((Cmp.den .lt x33 x32) = true → ∀ x35 : Int, x35 = (IntKind.u64.wrap (x32 - x33)) →
(lbey_sem.pre [(.i x35), (.i x12), (.i x4), (.i x16)]) ∧ (
((Cv.bool (Env.get (lbey_sem.out [(.i x35), (.i x12), (.i x4), (.i x16)]) 0)) = true → R (Value.bool (Cmp.den .eq x26 (1 : Int)))) ∧ ((Cv.bool (Env.get (lbey_sem.out [(.i x35), (.i x12), (.i x4), (.i x16)]) 0)) = false → ∀ x37 : Int, x37 = (IntKind.u64.wrap (x32 + x33)) →
(lbey_sem.pre [(.i x37), (.i x12), (.i x4), (.i x16)]) ∧ (
((!(Cv.bool (Env.get (lbey_sem.out [(.i x37), (.i x12), (.i x4), (.i x16)]) 0))) = true → R (Value.bool (Cmp.den .eq x26 (0 : Int)))) ∧ ((!(Cv.bool (Env.get (lbey_sem.out [(.i x37), (.i x12), (.i x4), (.i x16)]) 0))) = false → R (Value.bool true)))))) ∧ ((Cmp.den .lt x33 x32) = false → ∀ x35 : Int, x35 = (x32 + x33) →
(lbey_sem.pre [(.i x35), (.i x12), (.i x4), (.i x16)]) ∧ (
((!(Cv.bool (Env.get (lbey_sem.out [(.i x35), (.i x12), (.i x4), (.i x16)]) 0))) = true → R (Value.bool (Cmp.den .eq x26 (0 : Int)))) ∧ ((!(Cv.bool (Env.get (lbey_sem.out [(.i x35), (.i x12), (.i x4), (.i x16)]) 0))) = false → R (Value.bool true))))))) ∧ ((Cmp.den .eq x26 (0 : Int)) = false → ((Cmp.den .lt x33 x32) = true → ∀ x34 : Int, x34 = (IntKind.u64.wrap (x32 - x33)) →
(lbey_sem.pre [(.i x34), (.i x12), (.i x4), (.i x16)]) ∧ (
((Cv.bool (Env.get (lbey_sem.out [(.i x34), (.i x12), (.i x4), (.i x16)]) 0)) = true → R (Value.bool (Cmp.den .eq x26 (1 : Int)))) ∧ ((Cv.bool (Env.get (lbey_sem.out [(.i x34), (.i x12), (.i x4), (.i x16)]) 0)) = false → ∀ x36 : Int, x36 = (IntKind.u64.wrap (x32 + x33)) →
(lbey_sem.pre [(.i x36), (.i x12), (.i x4), (.i x16)]) ∧ (
((!(Cv.bool (Env.get (lbey_sem.out [(.i x36), (.i x12), (.i x4), (.i x16)]) 0))) = true → R (Value.bool (Cmp.den .eq x26 (0 : Int)))) ∧ ((!(Cv.bool (Env.get (lbey_sem.out [(.i x36), (.i x12), (.i x4), (.i x16)]) 0))) = false → R (Value.bool (Cmp.den .eq x26 (2 : Int)))))))) ∧ ((Cmp.den .lt x33 x32) = false → ∀ x34 : Int, x34 = (x32 + x33) →
(lbey_sem.pre [(.i x34), (.i x12), (.i x4), (.i x16)]) ∧ (
((!(Cv.bool (Env.get (lbey_sem.out [(.i x34), (.i x12), (.i x4), (.i x16)]) 0))) = true → R (Value.bool (Cmp.den .eq x26 (0 : Int)))) ∧ ((!(Cv.bool (Env.get (lbey_sem.out [(.i x34), (.i x12), (.i x4), (.i x16)]) 0))) = false → R (Value.bool (Cmp.den .eq x26 (2 : Int))))))))))))))) := by kernel_rfl

def llsure_sem : SpecSem := { pre := fun cs => match cs with | [.i c, .i d, .i e, .i h, .i l, .i s] => IsI c ∧ IsI d ∧ IsI e ∧ IsU h ∧ IsU l ∧ IsI s | _ => False, out := fun cs => match cs with | [.i c, .i d, .i e, .i h, .i l, .i s] => [.b true] | _ => [] }
set_option maxRecDepth 10000 in
set_option maxHeartbeats 16000000 in
theorem llsure_ok : SpecOK Try.prog 11 llsure_sp llsure_sem := by
  refine spec_of_tree llsure_cxok Try.func11 (by kernel_rfl) (by kernel_rfl) llsure_walk rfl ?_
  intro cs hpre
  match cs, hpre with
  | [.i c, .i d, .i e, .i h, .i l, .i s], ⟨j_c, j_d, j_e, j_h, j_l, j_s⟩ =>
    have h_c := j_c
    unfold IsI at h_c
    have h_d := j_d
    unfold IsI at h_d
    have h_e := j_e
    unfold IsI at h_e
    have h_h := j_h
    unfold IsU at h_h
    have h_l := j_l
    unfold IsU at h_l
    have h_s := j_s
    unfold IsI at h_s
    refine ⟨rfl, IvsB.ok (by simp only [llsure_ivs, IvsB, Cv.int, and_true] <;> omega), ?_, ?_⟩
    · simp only [llsure_sem, llsure_sp, Fits]
    · rw [llsure_den]
      simp only [llsure_sem, llsure_sp, llsure_den, ldraw_sem, lverd_sem, lal_sem, lbey_sem, Tree.den, LE.den, Cv.list, placeA, List.getElem?_cons_zero, List.getElem?_cons_succ, IE.den, BE.den, At.den, CA.den, Env.get, Cv.int, Cv.bool, List.cons_append, List.nil_append, List.map_cons, List.map_nil, bindRes, bindEq, Fits, SV.den, denL, place, placeL, eq_t, eq_f, lt_t, lt_f, le_t, le_f, beq_iff_eq, beq_eq_false_iff_ne, ne_eq, reduceCtorEq, b_dec, decide_eq_true_eq, decide_eq_false_iff_not, Bool.not_eq_false', Bool.or_eq_true, Bool.or_eq_false_iff, Bool.and_eq_false_iff, true_iff, false_iff, Bool.false_eq_true, Bool.not_eq_true', Bool.and_eq_true, Bool.not_true, Bool.not_false, List.cons.injEq, Cv.i.injEq, Cv.b.injEq, and_true, true_and, agg_inj, tup_inj, Value.int.injEq, Value.bool.injEq]
      intro x6 e6 x7 e7 x8 e8 x9 e9 x10 e10 x11 e11 x12 e12 x13 e13 x14 e14 x15 e15 x16 e16
      have t6 := tm_rng (x := c) (m := 100000000000000) (by omega)
      have t7 := tm_rng (x := d) (m := 100000000000000) (by omega)
      have t11 := tm_rng (x := e) (m := 100000000000000) (by omega)
      have t13 := tm_rng (x := s) (m := 1000) (by omega)
      rw [← e6] at t6
      rw [← e7] at t7
      rw [← e11] at t11
      rw [← e13] at t13
      have z12 : 0 ≤ x12 ∧ x12 < 274877906944 := by clear t6 t7 t11 t13 e6 e7 e8 e9 e10 e11 e13 e14 e15 e16; omega
      have z10 : 1 ≤ x10 ∧ x10 ≤ 100000000000000 := by clear t6 t11 t13 e6 e7 e11 e12 e13 e14 e15 e16; omega
      have z16 : 1 ≤ x16 ∧ x16 ≤ 1000 := by clear t6 t7 t11 e6 e7 e8 e9 e10 e11 e12 e13; omega
      have hr : drOK x6 x10 x11 x12 x16 := ⟨⟨z10, by omega, by omega, z12.2⟩, z16⟩
      clear e6 e7 e8 e9 e10 e11 e12 e13 e14 e15 e16 t7 t13
      have j6 : IsI x6 := ⟨by omega, by omega⟩
      have j10 : IsI x10 := ⟨by omega, by omega⟩
      have j11 : IsI x11 := ⟨by omega, by omega⟩
      have j12 : IsU x12 := ⟨by omega, by omega⟩
      have j16 : IsI x16 := ⟨by omega, by omega⟩
      have u16 : IsU x16 := ⟨by omega, by omega⟩
      have hp : ptOK x6 x10 x11 x12 := hr.1
      simp only [hr, hp, z12.2, z16, j6, j10, j11, j12, j16, u16, j_l, if_true, if_false, true_and, and_true, false_and, and_false, true_or, or_true, false_or, or_false, true_iff, iff_true, false_iff, iff_false, not_true_eq_false, not_false_eq_true, true_implies, false_implies, implies_true, forall_const, decide_true, decide_false, reduceCtorEq]
      intro x17 e17 l17 g17 x18 e18 l18 g18 x19 e19 l19 g19 x20 e20 l20 g20 x21 e21 l21 g21 x22 e22 l22 g22 x23 e23 l23 g23 x24 e24 l24 g24
      obtain ⟨a1, a2, ⟨⟨b1, b2⟩, b3⟩, b4, b5⟩ := dr_nums hr z12.1 h_l
      have b6 := (up_root (A := allZ x12 l x16)).2
      have cE := cs_rng (c := x11) (s := x16) (K := 100000000000000) (by omega) (by omega) z16 (by omega)
      have eE : (x6 + x11) * x16 = x6 * x16 + x11 * x16 := Int.add_mul ..
      rw [eE] at e23 e24
      have hF : (0 ≤ x11 * x16 ∧ absZ x11 * x16 = x11 * x16) ∨ (x11 * x16 < 0 ∧ absZ x11 * x16 = -(x11 * x16)) := by
        unfold absZ
        by_cases k : x11 < 0
        · rw [if_pos k]
          have := Int.mul_neg_of_neg_of_pos k (show 0 < x16 by omega)
          rw [Int.neg_mul]
          omega
        · rw [if_neg k]
          have := Int.mul_nonneg (show 0 ≤ x11 by omega) (show 0 ≤ x16 by omega)
          omega
      obtain ⟨S1, S2, S3, S4⟩ := sure_num (C := x6 * x16) (E := x11 * x16) (A := allZ x12 l x16) (D := x10) (F := absZ x11 * x16) z10.1 a1.1 hF
      rw [← e17, ← e18, ← e21, ← e22, ← e23, ← e24] at S1 S2 S3 S4
      have ev : vd6 x17 x18 x21 x22 x23 x24 = vdZ x17 x18 x21 x22 x23 x24 := rfl
      rw [ev] at S1 S2 S3 S4
      have vr : 0 ≤ vdZ x17 x18 x21 x22 x23 x24 ∧ vdZ x17 x18 x21 x22 x23 x24 ≤ 2 := by unfold vdZ; omega
      have d1 := z10.1
      generalize rootZ (allZ x12 l x16) = r at *
      generalize upZ (allZ x12 l x16) = u at *
      generalize allZ x12 l x16 = A at *
      have F1 : x17 ≤ x18 := by
        rw [e17, e18]
        exact Int.le_trans (dn_mono d1 (by omega)) (up_dn0 d1).1
      have F2 : x21 ≤ x22 := by
        rw [e21, e22]
        exact Int.le_trans (dn_mono d1 (by omega)) (up_dn0 d1).1
      have F3 : x19 ≤ x20 := by
        rw [e19, e20]
        exact (up_dn0 d1).1
      have F4 : x23 ≤ x24 := by
        rw [e23, e24]
        exact (up_dn0 d1).1
      have hl : lnOK x17 x18 x19 x20 x21 x22 x23 x24 := by unfold lnOK; omega
      have i17 : IsI x17 := ⟨l17, g17⟩
      have i18 : IsI x18 := ⟨l18, g18⟩
      have i19 : IsI x19 := ⟨l19, g19⟩
      have i20 : IsI x20 := ⟨l20, g20⟩
      have i21 : IsI x21 := ⟨l21, g21⟩
      have i22 : IsI x22 := ⟨l22, g22⟩
      have i23 : IsI x23 := ⟨l23, g23⟩
      have i24 : IsI x24 := ⟨l24, g24⟩
      have q30 : (if x11 < 0 - x11 then 0 - x11 else x11) = absZ x11 := by unfold absZ; split <;> split <;> omega
      have q31 : IntKind.u64.wrap (absZ x11) = absZ x11 := by unfold absZ; exact wu64 (by split <;> omega) (by split <;> omega)
      have q32 : IntKind.u64.wrap (absZ x11 * x16) = absZ x11 * x16 := wu64 (by omega) (by omega)
      simp only [hl, i17, i18, i19, i20, i21, i22, i23, i24, q30, q31, q32, forall_eq, eq_self, f00, if_true, if_false, true_and, and_true, false_and, and_false, true_or, or_true, false_or, or_false, true_iff, iff_true, false_iff, iff_false, not_true_eq_false, not_false_eq_true, true_implies, false_implies, implies_true, forall_const, decide_true, decide_false, reduceCtorEq]
      clear e17 e18 e19 e20 e21 e22 e23 e24 q30 q31 q32 hl i17 i18 i19 i20 i21 i22 i23 i24 F1 F2 F3 F4 eE b6 b5 b4 b3 b2 b1 a2 l17 g17 l18 g18 l19 g19 l20 g20 l21 g21 l22 g22 l23 g23 l24 g24 ev hr hp
      generalize vdZ x17 x18 x21 x22 x23 x24 = k at *
      have rF : 0 ≤ absZ x11 * x16 ∧ absZ x11 * x16 ≤ 100000000000000000 := by omega
      clear hF
      generalize absZ x11 * x16 = F at *
      have w2 : IntKind.u64.wrap (F + 3 * x10) = F + 3 * x10 := wu64 (by omega) (by omega)
      have iF : IsU F := ⟨by omega, by omega⟩
      have i2 : IsU (F + 3 * x10) := ⟨by omega, by omega⟩
      clear cE j6 j10 j11 j12 j16 u16 t6 t11 z12 z16 h_c h_d h_e h_h h_l h_s
      by_cases hc : 3 * x10 < F
      · have w1 : IntKind.u64.wrap (F - 3 * x10) = F - 3 * x10 := wu64 (by omega) (by omega)
        have i1 : IsU (F - 3 * x10) := ⟨by omega, by omega⟩
        have hc' : (F ≤ 3 * x10) = False := eq_false (by omega)
        simp only [hc, hc', w1, w2, iF, i1, i2, if_true, if_false, true_and, and_true, false_and, and_false, true_or, or_true, false_or, or_false, true_iff, iff_true, false_iff, iff_false, not_true_eq_false, not_false_eq_true, true_implies, false_implies, implies_true, forall_const, decide_true, decide_false, reduceCtorEq]
        have S3' := S3 hc
        clear S3 w1 w2 iF i1 i2 hc hc' rF z10 d1 a1
        generalize (F - 3 * x10) * (F - 3 * x10) = Q1 at *
        generalize (F + 3 * x10) * (F + 3 * x10) = Q2 at *
        generalize F * F = Q0 at *
        omega
      · have hc' : (F ≤ 3 * x10) = True := eq_true (by omega)
        simp only [hc, hc', w2, iF, i2, if_true, if_false, true_and, and_true, false_and, and_false, true_or, or_true, false_or, or_false, true_iff, iff_true, false_iff, iff_false, not_true_eq_false, not_false_eq_true, true_implies, false_implies, implies_true, forall_const, decide_true, decide_false, reduceCtorEq]
        clear S3 w2 iF i2 hc hc' rF z10 d1 a1
        generalize (F + 3 * x10) * (F + 3 * x10) = Q2 at *
        generalize F * F = Q0 at *
        omega
end Go.Proofs.Ytlhmhcjpdpakkaa.X
