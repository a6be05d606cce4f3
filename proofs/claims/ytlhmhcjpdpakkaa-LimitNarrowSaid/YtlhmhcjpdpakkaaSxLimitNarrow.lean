/-
  LimitNarrow tells true, for every input.
-/
import Derived.Test.YtlhmhcjpdpakkaaSxLimitNum
import Derived.Test.YtlhmhcjpdpakkaaSxLimitLaw
namespace Go.Proofs.Ytlhmhcjpdpakkaa.X
open Go Go.SX Go.RowKit
set_option linter.unusedVariables false
set_option linter.unusedSimpArgs false


def llnar_sp : SpecSh := { args := [(.int .i64 (.z 0)), (.int .i64 (.z 0)), (.int .i64 (.z 0)), (.agg [(.int .u64 (.z 0)), (.int .u64 (.z 0))]), (.int .i64 (.z 0))], res := (.bool .f), sh := [.b] }
set_option maxRecDepth 100000 in
def llnar_tree : Tree :=
.lett (.rem (.v 0) (.z 100000000000000)) <|
.lett (.rem (.v 1) (.z 100000000000000)) <|
.lett (.add (.v 7) (.z 100000000000000)) <|
.lett (.mod (.v 8) (.z 100000000000000)) <|
.lett (.add (.z 1) (.v 9)) <|
.lett (.rem (.v 2) (.z 100000000000000)) <|
.lett (.div (.v 3) (.z 67108864)) <|
.lett (.rem (.v 5) (.z 1000)) <|
.lett (.add (.v 13) (.z 1000)) <|
.lett (.mod (.v 14) (.z 1000)) <|
.lett (.add (.z 1) (.v 15)) <|
.call 54 [.i (some ((-9223372036854775808), 9223372036854775807)), .i (some ((-9223372036854775808), 9223372036854775807)), .i (some ((-9223372036854775808), 9223372036854775807)), .i (some ((-9223372036854775808), 9223372036854775807)), .i (some ((-9223372036854775808), 9223372036854775807)), .i (some ((-9223372036854775808), 9223372036854775807)), .i (some ((-9223372036854775808), 9223372036854775807)), .i (some ((-9223372036854775808), 9223372036854775807)), .i (some ((-9223372036854775808), 9223372036854775807))] [.i (.v 6), .i (.v 10), .i (.v 11), .i (.v 12), .i (.v 4), .i (.v 16)] <|
.ite (.not (.cmp .eq (.v 25) (.z 0))) (.ret (.bool .f)) <|
.call 57 [.b] [] <|
.ite (.not (.v 26)) (.ret (.bool .f)) <|
.ite (.cmp .lt (.v 18) (.v 17)) (.ret (.bool .f)) <|
.lett (.subw .i64 (.v 18) (.v 17)) <|
.ite (.cmp .lt (.z 3) (.v 27)) (.ret (.bool .f)) <|
.ite (.cmp .lt (.v 22) (.v 21)) (.ret (.bool .f)) <|
.lett (.subw .i64 (.v 22) (.v 21)) <|
.ite (.cmp .lt (.z 3) (.v 28)) (.ret (.bool .f)) <|
.ite (.cmp .lt (.v 20) (.v 19)) (.ret (.bool .f)) <|
.lett (.subw .i64 (.v 20) (.v 19)) <|
.ite (.cmp .lt (.z 1) (.v 29)) (.ret (.bool .f)) <|
.ite (.cmp .lt (.v 24) (.v 23)) (.ret (.bool .f)) <|
.lett (.subw .i64 (.v 24) (.v 23)) <|
.ite (.cmp .lt (.z 1) (.v 30)) (.ret (.bool .f)) <|
.ite (.cmp .lt (.v 19) (.v 17)) (.ret (.bool .f)) <|
.ite (.cmp .lt (.v 20) (.v 18)) (.ret (.bool .f)) <|
.ite (.cmp .lt (.v 21) (.v 19)) (.ret (.bool .f)) <|
.ite (.cmp .lt (.v 22) (.v 20)) (.ret (.bool .f)) <|
.ite (.not (.and (.cmp .eq (.v 12) (.z 0)) (.cmp .eq (.v 4) (.z 0)))) (.ret (.bool .t)) <|
.ite (.and (.cmp .eq (.v 17) (.v 19)) (.cmp .eq (.v 18) (.v 20))) (.ret (.bool (.and (.cmp .eq (.v 21) (.v 19)) (.cmp .eq (.v 22) (.v 20))))) <|
.ret (.bool .f)
noncomputable def llnar_cx : Ctx := { tys := tys, fns := fns, sps := [(54, ldraw_sp), (57, lal_sp)], anns := [], trys := [] }
def llnar_ivs : List (Option (Int × Int)) := [some ((-9223372036854775808), 9223372036854775807), some ((-9223372036854775808), 9223372036854775807), some ((-9223372036854775808), 9223372036854775807), some (0, 18446744073709551615), some (0, 18446744073709551615), some ((-9223372036854775808), 9223372036854775807)]
set_option maxRecDepth 100000 in
theorem llnar_walk : runFn llnar_cx 3000 12 Try.f12 llnar_sp.args llnar_ivs = llnar_tree := by kernel_rfl
noncomputable def llnar_M : Nat → SpecSem
  | 54 => ldraw_sem
  | 57 => lal_sem
  | _ => noSem
theorem llnar_M54 : llnar_M 54 = ldraw_sem := rfl
theorem llnar_M57 : llnar_M 57 = lal_sem := rfl
theorem llnar_cxok : CxOK Try.prog llnar_cx llnar_M := ⟨tysOK, fnsOK, spCons ldraw_ok <| spCons lal_ok <| fun _ _ h => spNil h, mixedOK, fun _ _ h => trNil h⟩
set_option maxRecDepth 100000 in
set_option maxHeartbeats 8000000 in
theorem llnar_den (R RP : Value → Prop) (F : Ex → St → Js → Env → Prop) (J : Js) (x0 : Int) (x1 : Int) (x2 : Int) (x3 : Int) (x4 : Int) (x5 : Int) : Tree.den llnar_M R RP F llnar_tree J [(.i x0), (.i x1), (.i x2), (.i x3), (.i x4), (.i x5)] = (
  ∀ x6 : Int, x6 = (Int.tmod x0 (100000000000000 : Int)) →
∀ x7 : Int, x7 = (Int.tmod x1 (100000000000000 : Int)) →
∀ x8 : Int, x8 = (x7 + (100000000000000 : Int)) →
∀ x9 : Int, x9 = (x8 % (100000000000000 : Int)) →
∀ x10 : Int, x10 = ((1 : Int) + x9) →
∀ x11 : Int, x11 = (Int.tmod x2 (100000000000000 : Int)) →
∀ x12 : Int, x12 = (x3 / (67108864 : Int)) →
∀ x13 : Int, x13 = (Int.tmod x5 (1000 : Int)) →
∀ x14 : Int, x14 = (x13 + (1000 : Int)) →
∀ x15 : Int, x15 = (x14 % (1000 : Int)) →
∀ x16 : Int, x16 = ((1 : Int) + x15) →
(ldraw_sem.pre [(.i x6), (.i x10), (.i x11), (.i x12), (.i x4), (.i x16)]) ∧ (
∀ x17 : Int, x17 = (Cv.int (Env.get (ldraw_sem.out [(.i x6), (.i x10), (.i x11), (.i x12), (.i x4), (.i x16)]) 0)) → (-9223372036854775808 : Int) ≤ x17 → x17 ≤ (9223372036854775807 : Int) →
∀ x18 : Int, x18 = (Cv.int (Env.get (ldraw_sem.out [(.i x6), (.i x10), (.i x11), (.i x12), (.i x4), (.i x16)]) 1)) → (-9223372036854775808 : Int) ≤ x18 → x18 ≤ (9223372036854775807 : Int) →
∀ x19 : Int, x19 = (Cv.int (Env.get (ldraw_sem.out [(.i x6), (.i x10), (.i x11), (.i x12), (.i x4), (.i x16)]) 2)) → (-9223372036854775808 : Int) ≤ x19 → x19 ≤ (9223372036854775807 : Int) →
∀ x20 : Int, x20 = (Cv.int (Env.get (ldraw_sem.out [(.i x6), (.i x10), (.i x11), (.i x12), (.i x4), (.i x16)]) 3)) → (-9223372036854775808 : Int) ≤ x20 → x20 ≤ (9223372036854775807 : Int) →
∀ x21 : Int, x21 = (Cv.int (Env.get (ldraw_sem.out [(.i x6), (.i x10), (.i x11), (.i x12), (.i x4), (.i x16)]) 4)) → (-9223372036854775808 : Int) ≤ x21 → x21 ≤ (9223372036854775807 : Int) →
∀ x22 : Int, x22 = (Cv.int (Env.get (ldraw_sem.out [(.i x6), (.i x10), (.i x11), (.i x12), (.i x4), (.i x16)]) 5)) → (-9223372036854775808 : Int) ≤ x22 → x22 ≤ (9223372036854775807 : Int) →
∀ x23 : Int, x23 = (Cv.int (Env.get (ldraw_sem.out [(.i x6), (.i x10), (.i x11), (.i x12), (.i x4), (.i x16)]) 6)) → (-9223372036854775808 : Int) ≤ x23 → x23 ≤ (9223372036854775807 : Int) →
∀ x24 : Int, x24 = (Cv.int (Env.get (ldraw_sem.out [(.i x6), (.i x10), (.i x11), (.i x12), (.i x4), (.i x16)]) 7)) → (-9223372036854775808 : Int) ≤ x24 → x24 ≤ (9223372036854775807 : Int) →
∀ x25 : Int, x25 = (Cv.int (Env.get (ldraw_sem.out [(.i x6), (.i x10), (.i x11), (.i x12), (.i x4), (.i x16)]) 8)) → (-9223372036854775808 : Int) ≤ x25 → x25 ≤ (9223372036854775807 : Int) →
((!(Cmp.den .eq x25 (0 : Int))) = true → R (Value.bool false)) ∧ ((!(Cmp.den .eq x25 (0 : Int))) = false → (lal_sem.pre []) ∧ (
((!(Cv.bool (Env.get (lal_sem.out []) 0))) = true → R (Value.bool false)) ∧ ((!(Cv.bool (Env.get (lal_sem.out []) 0))) = false → ((Cmp.den .lt x18 x17) = true → R (Value.bool false)) ∧ ((Cmp.den .lt x18 x17) = false → ∀ x27 : Int, x27 = (IntKind.i64.wrap (x18 - x17)) →
((Cmp.den .lt (3 : Int) x27) = true → R (Value.bool false)) ∧ ((Cmp.den .lt (3 : Int) x27) = false → ((Cmp.den .lt x22 x21) = true → R (Value.bool false)) ∧ ((Cmp.den .lt x22 x21) = false → ∀ x28 : Int, x28 = (IntKind.i64.wrap (x22 - x21)) →
((Cmp.den .lt (3 : Int) x28) = true → R (Value.bool false)) ∧ ((Cmp.den .lt (3 : Int) x28) = false → ((Cmp.den .lt x20 x19) = true → R (Value.bool false)) ∧ ((Cmp.den .lt x20 x19) = false → ∀ x29 : Int, x29 = (IntKind.i64.wrap (x20 - x19)) →
((Cmp.den .lt (1 : Int) x29) = true → R (Value.bool false)) ∧ ((Cmp.den .lt (1 : Int) x29) = false → ((Cmp.den .lt x24 x23) = true → R (Value.bool false)) ∧ ((Cmp.den .lt x24 x23) = false → ∀ x30 : Int, x30 = (IntKind.i64.wrap (x24 - x23)) →
((Cmp.den .lt (1 : Int) x30) = true → R (Value.bool false)) ∧ ((Cmp.den .lt (1 : Int) x30) = false → ((Cmp.den .lt x19 x17) = true → R (Value.bool false)) ∧ ((Cmp.den .lt x19 x17) = false → ((Cmp.den .lt x20 x18) = true → R (Value.bool false)) ∧ ((Cmp.den .lt x20 x18) = false → ((Cmp.den .lt x21 x19) = true → R (Value.bool false)) ∧ ((Cmp.den .lt x21 x19) = false → ((Cmp.den .lt x22 x20) = true → R (Value.bool false)) ∧ ((Cmp.den .lt x22 x20) = false → ((!((Cmp.den .eq x12 (0 : Int)) && (Cmp.den .eq x4 (0 : Int)))) = true → R (Value.bool true)) ∧ ((!((Cmp.den .eq x12 (0 : Int)) && (Cmp.den .eq x4 (0 : Int)))) = false → (((Cmp.den .eq x17 x19) && (Cmp.den .eq x18 x20)) = true → R (Value.bool ((Cmp.den .eq x21 x19) && (Cmp.den .eq x22 x20)))) ∧ (((Cmp.den .eq x17 x19) && (Cmp.den .eq x18 x20)) = false → R (Value.bool false)))))))))))))))))))) := by kernel_rfl

def llnar_sem : SpecSem := { pre := fun cs => match cs with | [.i c, .i d, .i e, .i h, .i l, .i s] => IsI c ∧ IsI d ∧ IsI e ∧ IsU h ∧ IsU l ∧ IsI s | _ => False, out := fun cs => match cs with | [.i c, .i d, .i e, .i h, .i l, .i s] => [.b true] | _ => [] }
set_option maxRecDepth 10000 in
set_option maxHeartbeats 16000000 in
theorem llnar_ok : SpecOK Try.prog 12 llnar_sp llnar_sem := by
  refine spec_of_tree llnar_cxok Try.func12 (by kernel_rfl) (by kernel_rfl) llnar_walk rfl ?_
  intro cs hpre
  match cs, hpre with
  | [.i c, .i d, .i e, .i h, .i l, .i s], ⟨j_c, j_d, j_e, j_h, j_l, j_s⟩ =>
    have h_c := j_c
    unfold IsI at h_c
    have h_d := j_d
    unfold IsI at h_d
    have h_e := j_e
    unfold IsI at h_e
    have h_h := j_h
    unfold IsU at h_h
    have h_l := j_l
    unfold IsU at h_l
    have h_s := j_s
    unfold IsI at h_s
    refine ⟨rfl, IvsB.ok (by simp only [llnar_ivs, IvsB, Cv.int, and_true] <;> omega), ?_, ?_⟩
    · simp only [llnar_sem, llnar_sp, Fits]
    · rw [llnar_den]
      simp only [llnar_sem, llnar_sp, llnar_den, ldraw_sem, lal_sem, Tree.den, LE.den, Cv.list, placeA, List.getElem?_cons_zero, List.getElem?_cons_succ, IE.den, BE.den, At.den, CA.den, Env.get, Cv.int, Cv.bool, List.cons_append, List.nil_append, List.map_cons, List.map_nil, bindRes, bindEq, Fits, SV.den, denL, place, placeL, eq_t, eq_f, lt_t, lt_f, le_t, le_f, beq_iff_eq, beq_eq_false_iff_ne, ne_eq, reduceCtorEq, b_dec, decide_eq_true_eq, decide_eq_false_iff_not, Bool.not_eq_false', Bool.or_eq_true, Bool.or_eq_false_iff, Bool.and_eq_false_iff, true_iff, false_iff, Bool.false_eq_true, Bool.not_eq_true', Bool.and_eq_true, Bool.not_true, Bool.not_false, List.cons.injEq, Cv.i.injEq, Cv.b.injEq, and_true, true_and, agg_inj, tup_inj, Value.int.injEq, Value.bool.injEq]
      intro x6 e6 x7 e7 x8 e8 x9 e9 x10 e10 x11 e11 x12 e12 x13 e13 x14 e14 x15 e15 x16 e16
      have t6 := tm_rng (x := c) (m := 100000000000000) (by omega)
      have t7 := tm_rng (x := d) (m := 100000000000000) (by omega)
      have t11 := tm_rng (x := e) (m := 100000000000000) (by omega)
      have t13 := tm_rng (x := s) (m := 1000) (by omega)
      rw [← e6] at t6
      rw [← e7] at t7
      rw [← e11] at t11
      rw [← e13] at t13
      have z12 : 0 ≤ x12 ∧ x12 < 274877906944 := by clear t6 t7 t11 t13 e6 e7 e8 e9 e10 e11 e13 e14 e15 e16; omega
      have z10 : 1 ≤ x10 ∧ x10 ≤ 100000000000000 := by clear t6 t11 t13 e6 e7 e11 e12 e13 e14 e15 e16; omega
      have z16 : 1 ≤ x16 ∧ x16 ≤ 1000 := by clear t6 t7 t11 e6 e7 e8 e9 e10 e11 e12 e13; omega
      have hr : drOK x6 x10 x11 x12 x16 := ⟨⟨z10, by omega, by omega, z12.2⟩, z16⟩
      clear e6 e7 e8 e9 e10 e11 e12 e13 e14 e15 e16 t7 t13
      have j6 : IsI x6 := ⟨by omega, by omega⟩
      have j10 : IsI x10 := ⟨by omega, by omega⟩
      have j11 : IsI x11 := ⟨by omega, by omega⟩
      have j12 : IsU x12 := ⟨by omega, by omega⟩
      have j16 : IsI x16 := ⟨by omega, by omega⟩
      have hp : ptOK x6 x10 x11 x12 := hr.1
      simp only [hr, hp, z16, j6, j10, j11, j12, j16, j_l, if_true, if_false, true_and, and_true, false_and, and_false, true_or, or_true, false_or, or_false, true_iff, iff_true, false_iff, iff_false, not_true_eq_false, not_false_eq_true, true_implies, false_implies, implies_true, forall_const, decide_true, decide_false, reduceCtorEq]
      intro x17 e17 l17 g17 x18 e18 l18 g18 x19 e19 l19 g19 x20 e20 l20 g20 x21 e21 l21 g21 x22 e22 l22 g22 x23 e23 l23 g23 x24 e24 l24 g24
      obtain ⟨a1, a2, ⟨⟨b1, b2⟩, b3⟩, b4, b5⟩ := dr_nums hr z12.1 h_l
      have b6 := (up_root (A := allZ x12 l x16)).2
      have fz : x12 = 0 ∧ l = 0 → rootZ (allZ x12 l x16) = 0 ∧ upZ (allZ x12 l x16) = 0 := fun ⟨k1, k2⟩ => by
        have e0 : allZ x12 l x16 = 0 := by rw [k1, k2]; unfold allZ val; omega
        have r0 : rootZ 0 = 0 := rootZ_uniq (by omega) (by omega) (by omega)
        rw [e0]
        unfold upZ
        rw [r0]
        exact ⟨rfl, rfl⟩
      generalize rootZ (allZ x12 l x16) = r at *
      generalize upZ (allZ x12 l x16) = u at *
      generalize x6 * x16 = C at *
      generalize (x6 + x11) * x16 = V at *
      have d1 := z10.1
      have F1 : x17 ≤ x18 ∧ x18 ≤ x17 + 2 := by
        rw [e17, e18]
        exact ⟨Int.le_trans (dn_mono d1 (by omega)) (up_dn0 d1).1, up_dn d1 (by omega)⟩
      have F2 : x21 ≤ x22 ∧ x22 ≤ x21 + 2 := by
        rw [e21, e22]
        exact ⟨Int.le_trans (dn_mono d1 (by omega)) (up_dn0 d1).1, up_dn d1 (by omega)⟩
      have F3 : x19 ≤ x20 ∧ x20 ≤ x19 + 1 := by
        rw [e19, e20]
        exact up_dn0 d1
      have F4 : x23 ≤ x24 ∧ x24 ≤ x23 + 1 := by
        rw [e23, e24]
        exact up_dn0 d1
      have F5 : x17 ≤ x19 ∧ x19 ≤ x21 := by
        rw [e17, e19, e21]
        exact ⟨dn_mono d1 (by omega), dn_mono d1 (by omega)⟩
      have F6 : x18 ≤ x20 ∧ x20 ≤ x22 := by
        rw [e18, e20, e22]
        exact ⟨up_mono d1 (by omega), up_mono d1 (by omega)⟩
      have F7 : x12 = 0 ∧ l = 0 → x17 = x19 ∧ x18 = x20 ∧ x21 = x19 ∧ x22 = x20 := fun k => by
        obtain ⟨k1, k2⟩ := fz k
        have q1 : C - u = C := by omega
        have q2 : C - r = C := by omega
        have q3 : C + r = C := by omega
        have q4 : C + u = C := by omega
        rw [e17, e18, e19, e20, e21, e22, q1, q2, q3, q4]
        exact ⟨rfl, rfl, rfl, rfl⟩
      have w1 : IntKind.i64.wrap (x18 - x17) = x18 - x17 := w64 (by omega) (by omega)
      have w2 : IntKind.i64.wrap (x22 - x21) = x22 - x21 := w64 (by omega) (by omega)
      have w3 : IntKind.i64.wrap (x20 - x19) = x20 - x19 := w64 (by omega) (by omega)
      have w4 : IntKind.i64.wrap (x24 - x23) = x24 - x23 := w64 (by omega) (by omega)
      clear e17 e18 e19 e20 e21 e22 e23 e24 fz hr hp j6 j10 j11 j12 j16 z10 z12 z16 a1 a2 b1 b2 b3 b4 b5 b6 t6 t11
      simp only [w1, w2, w3, w4, forall_eq, if_true, if_false, true_and, and_true, false_and, and_false, true_or, or_true, false_or, or_false, true_iff, iff_true, false_iff, iff_false, not_true_eq_false, not_false_eq_true, true_implies, false_implies, implies_true, forall_const, decide_true, decide_false, reduceCtorEq]
      clear w1 w2 w3 w4
      by_cases hz : x12 = 0 ∧ l = 0
      · have F8 := F7 hz
        clear F7 h_c h_d h_e h_h h_l h_s
        simp only [hz, F8, if_true, if_false, true_and, and_true, false_and, and_false, true_or, or_true, false_or, or_false, true_iff, iff_true, false_iff, iff_false, not_true_eq_false, not_false_eq_true, true_implies, false_implies, implies_true, forall_const, decide_true, decide_false, reduceCtorEq]
        (repeat' (first | intro _ | refine And.intro ?_ ?_ | exact trivial)) <;> omega
      · clear F7 h_c h_d h_e h_h h_l h_s
        simp only [hz, if_true, if_false, true_and, and_true, false_and, and_false, true_or, or_true, false_or, or_false, true_iff, iff_true, false_iff, iff_false, not_true_eq_false, not_false_eq_true, true_implies, false_implies, implies_true, forall_const, decide_true, decide_false, reduceCtorEq]
        (repeat' (first | intro _ | refine And.intro ?_ ?_ | exact trivial)) <;> omega
end Go.Proofs.Ytlhmhcjpdpakkaa.X
