/-
  LimitJudges tells true, for every input.
-/
import Derived.Test.YtlhmhcjpdpakkaaSxLimitMask
import Derived.Test.YtlhmhcjpdpakkaaSxLimitLaw
namespace Go.Proofs.Ytlhmhcjpdpakkaa.X
open Go Go.SX Go.RowKit
set_option linter.unusedVariables false
set_option linter.unusedSimpArgs false







def lljudg_sp : SpecSh := { args := [(.agg [(.int .i64 (.z 0)), (.int .i64 (.z 0)), (.int .i64 (.z 0)), (.int .i64 (.z 0)), (.int .i64 (.z 0)), (.int .i64 (.z 0)), (.int .i64 (.z 0)), (.int .i64 (.z 0))]), (.agg [(.int .i64 (.z 0)), (.int .i64 (.z 0)), (.int .i64 (.z 0)), (.int .u64 (.z 0)), (.int .u64 (.z 0))]), (.int .i64 (.z 0))], res := (.bool .f), sh := [.b] }
set_option maxRecDepth 100000 in
def lljudg_tree : Tree :=
.call 61 [.i (some (0, 2)), .i (some (0, 1))] [.i (.v 0), .i (.v 1), .i (.v 2), .i (.v 3), .i (.v 4), .i (.v 5), .i (.v 6), .i (.v 7)] <|
.call 73 [.i (some (0, 511)), .i (some (0, 3))] [.i (.v 8), .i (.v 9), .i (.v 10), .i (.v 11), .i (.v 12), .i (.v 13)] <|
.call 57 [.b] [] <|
.ite (.not (.v 18)) (.ret (.bool .f)) <|
.call 74 [.b] [.i (.v 0), .i (.v 1), .i (.v 2), .i (.v 3), .i (.v 4), .i (.v 5), .i (.v 6), .i (.v 7)] <|
.ite (.not (.v 19)) (.ite (.not (.cmp .eq (.v 15) (.z 1))) (.ret (.bool .f)) <|
.ite (.not (.cmp .eq (.v 14) (.z 0))) (.ret (.bool .f)) <|
.call 56 [.b] [.i (.v 8), .i (.v 9), .i (.v 10), .i (.v 11), .i (.v 12)] <|
.ite (.not (.v 20)) (.ite (.cmp .eq (.v 17) (.z 1)) (.ret (.bool (.cmp .eq (.v 16) (.z 0)))) <|
.ret (.bool .f)) <|
.ite (.cmp .le (.z 1) (.v 13)) (.ite (.not (.cmp .le (.v 13) (.z 1000))) (.ite (.cmp .eq (.v 17) (.z 3)) (.ret (.bool (.cmp .eq (.v 16) (.z 0)))) <|
.ret (.bool .f)) <|
.ite (.cmp .eq (.v 17) (.z 0)) (.call 76 [.i (some (0, 511))] [.i (.v 8), .i (.v 9), .i (.v 10), .i (.v 11), .i (.v 12), .i (.v 13)] <|
.ret (.bool (.cmp .eq (.v 16) (.v 21)))) <|
.ret (.bool .f)) <|
.ite (.cmp .eq (.v 17) (.z 3)) (.ret (.bool (.cmp .eq (.v 16) (.z 0)))) <|
.ret (.bool .f)) <|
.ite (.not (.cmp .eq (.v 15) (.z 0))) (.ret (.bool .f)) <|
.call 75 [.i (some (0, 2))] [.i (.v 0), .i (.v 1), .i (.v 2), .i (.v 3), .i (.v 4), .i (.v 5), .i (.v 6), .i (.v 7)] <|
.ite (.not (.cmp .eq (.v 14) (.v 20))) (.ret (.bool .f)) <|
.call 56 [.b] [.i (.v 8), .i (.v 9), .i (.v 10), .i (.v 11), .i (.v 12)] <|
.ite (.not (.v 21)) (.ite (.cmp .eq (.v 17) (.z 1)) (.ret (.bool (.cmp .eq (.v 16) (.z 0)))) <|
.ret (.bool .f)) <|
.ite (.cmp .le (.z 1) (.v 13)) (.ite (.not (.cmp .le (.v 13) (.z 1000))) (.ite (.cmp .eq (.v 17) (.z 3)) (.ret (.bool (.cmp .eq (.v 16) (.z 0)))) <|
.ret (.bool .f)) <|
.ite (.cmp .eq (.v 17) (.z 0)) (.call 76 [.i (some (0, 511))] [.i (.v 8), .i (.v 9), .i (.v 10), .i (.v 11), .i (.v 12), .i (.v 13)] <|
.ret (.bool (.cmp .eq (.v 16) (.v 22)))) <|
.ret (.bool .f)) <|
.ite (.cmp .eq (.v 17) (.z 3)) (.ret (.bool (.cmp .eq (.v 16) (.z 0)))) <|
.ret (.bool .f)
noncomputable def lljudg_cx : Ctx := { tys := tys, fns := fns, sps := [(61, lverd_sp), (73, lmask_sp), (57, lal_sp), (74, r17ln_sp), (75, r17verd_sp), (56, r17right_sp), (76, r17mask_sp)], anns := [], trys := [] }
def lljudg_ivs : List (Option (Int × Int)) := [some ((-9223372036854775808), 9223372036854775807), some ((-9223372036854775808), 9223372036854775807), some ((-9223372036854775808), 9223372036854775807), some ((-9223372036854775808), 9223372036854775807), some ((-9223372036854775808), 9223372036854775807), some ((-9223372036854775808), 9223372036854775807), some ((-9223372036854775808), 9223372036854775807), some ((-9223372036854775808), 9223372036854775807), some ((-9223372036854775808), 9223372036854775807), some ((-9223372036854775808), 9223372036854775807), some ((-9223372036854775808), 9223372036854775807), some (0, 18446744073709551615), some (0, 18446744073709551615), some ((-9223372036854775808), 9223372036854775807)]
set_option maxRecDepth 100000 in
theorem lljudg_walk : runFn lljudg_cx 3000 17 Try.f17 lljudg_sp.args lljudg_ivs = lljudg_tree := by kernel_rfl
noncomputable def lljudg_M : Nat → SpecSem
  | 61 => lverd_sem
  | 73 => lmask_sem
  | 57 => lal_sem
  | 74 => r17ln_sem
  | 75 => r17verd_sem
  | 56 => r17right_sem
  | 76 => r17mask_sem
  | _ => noSem
theorem lljudg_M61 : lljudg_M 61 = lverd_sem := rfl
theorem lljudg_M73 : lljudg_M 73 = lmask_sem := rfl
theorem lljudg_M57 : lljudg_M 57 = lal_sem := rfl
theorem lljudg_M74 : lljudg_M 74 = r17ln_sem := rfl
theorem lljudg_M75 : lljudg_M 75 = r17verd_sem := rfl
theorem lljudg_M56 : lljudg_M 56 = r17right_sem := rfl
theorem lljudg_M76 : lljudg_M 76 = r17mask_sem := rfl
theorem lljudg_cxok : CxOK Try.prog lljudg_cx lljudg_M := ⟨tysOK, fnsOK, spCons lverd_ok <| spCons lmask_ok <| spCons lal_ok <| spCons r17ln_ok <| spCons r17verd_ok <| spCons r17right_ok <| spCons r17mask_ok <| fun _ _ h => spNil h, mixedOK, fun _ _ h => trNil h⟩
set_option maxRecDepth 100000 in
set_option maxHeartbeats 8000000 in
theorem lljudg_den (R RP : Value → Prop) (F : Ex → St → Js → Env → Prop) (J : Js) (x0 : Int) (x1 : Int) (x2 : Int) (x3 : Int) (x4 : Int) (x5 : Int) (x6 : Int) (x7 : Int) (x8 : Int) (x9 : Int) (x10 : Int) (x11 : Int) (x12 : Int) (x13 : Int) : Tree.den lljudg_M R RP F lljudg_tree J [(.i x0), (.i x1), (.i x2), (.i x3), (.i x4), (.i x5), (.i x6), (.i x7), (.i x8), (.i x9), (.i x10), (.i x11), (.i x12), (.i x13)] = (
  (lverd_sem.pre [(.i x0), (.i x1), (.i x2), (.i x3), (.i x4), (.i x5), (.i x6), (.i x7)]) ∧ (
∀ x14 : Int, x14 = (Cv.int (Env.get (lverd_sem.out [(.i x0), (.i x1), (.i x2), (.i x3), (.i x4), (.i x5), (.i x6), (.i x7)]) 0)) → (0 : Int) ≤ x14 → x14 ≤ (2 : Int) →
∀ x15 : Int, x15 = (Cv.int (Env.get (lverd_sem.out [(.i x0), (.i x1), (.i x2), (.i x3), (.i x4), (.i x5), (.i x6), (.i x7)]) 1)) → (0 : Int) ≤ x15 → x15 ≤ (1 : Int) →
(lmask_sem.pre [(.i x8), (.i x9), (.i x10), (.i x11), (.i x12), (.i x13)]) ∧ (
∀ x16 : Int, x16 = (Cv.int (Env.get (lmask_sem.out [(.i x8), (.i x9), (.i x10), (.i x11), (.i x12), (.i x13)]) 0)) → (0 : Int) ≤ x16 → x16 ≤ (511 : Int) →
∀ x17 : Int, x17 = (Cv.int (Env.get (lmask_sem.out [(.i x8), (.i x9), (.i x10), (.i x11), (.i x12), (.i x13)]) 1)) → (0 : Int) ≤ x17 → x17 ≤ (3 : Int) →
(lal_sem.pre []) ∧ (
((!(Cv.bool (Env.get (lal_sem.out []) 0))) = true → R (Value.bool false)) ∧ ((!(Cv.bool (Env.get (lal_sem.out []) 0))) = false → (r17ln_sem.pre [(.i x0), (.i x1), (.i x2), (.i x3), (.i x4), (.i x5), (.i x6), (.i x7)]) ∧ (
((!(Cv.bool (Env.get (r17ln_sem.out [(.i x0), (.i x1), (.i x2), (.i x3), (.i x4), (.i x5), (.i x6), (.i x7)]) 0))) = true → ((!(Cmp.den .eq x15 (1 : Int))) = true → R (Value.bool false)) ∧ ((!(Cmp.den .eq x15 (1 : Int))) = false → ((!(Cmp.den .eq x14 (0 : Int))) = true → R (Value.bool false)) ∧ ((!(Cmp.den .eq x14 (0 : Int))) = false → (r17right_sem.pre [(.i x8), (.i x9), (.i x10), (.i x11), (.i x12)]) ∧ (
((!(Cv.bool (Env.get (r17right_sem.out [(.i x8), (.i x9), (.i x10), (.i x11), (.i x12)]) 0))) = true → ((Cmp.den .eq x17 (1 : Int)) = true → R (Value.bool (Cmp.den .eq x16 (0 : Int)))) ∧ ((Cmp.den .eq x17 (1 : Int)) = false → R (Value.bool false))) ∧ ((!(Cv.bool (Env.get (r17right_sem.out [(.i x8), (.i x9), (.i x10), (.i x11), (.i x12)]) 0))) = false → ((Cmp.den .le (1 : Int) x13) = true → ((!(Cmp.den .le x13 (1000 : Int))) = true → ((Cmp.den .eq x17 (3 : Int)) = true → R (Value.bool (Cmp.den .eq x16 (0 : Int)))) ∧ ((Cmp.den .eq x17 (3 : Int)) = false → R (Value.bool false))) ∧ ((!(Cmp.den .le x13 (1000 : Int))) = false → ((Cmp.den .eq x17 (0 : Int)) = true → (r17mask_sem.pre [(.i x8), (.i x9), (.i x10), (.i x11), (.i x12), (.i x13)]) ∧ (
∀ x21 : Int, x21 = (Cv.int (Env.get (r17mask_sem.out [(.i x8), (.i x9), (.i x10), (.i x11), (.i x12), (.i x13)]) 0)) → (0 : Int) ≤ x21 → x21 ≤ (511 : Int) →
R (Value.bool (Cmp.den .eq x16 x21)))) ∧ ((Cmp.den .eq x17 (0 : Int)) = false → R (Value.bool false)))) ∧ ((Cmp.den .le (1 : Int) x13) = false → ((Cmp.den .eq x17 (3 : Int)) = true → R (Value.bool (Cmp.den .eq x16 (0 : Int)))) ∧ ((Cmp.den .eq x17 (3 : Int)) = false → R (Value.bool false)))))))) ∧ ((!(Cv.bool (Env.get (r17ln_sem.out [(.i x0), (.i x1), (.i x2), (.i x3), (.i x4), (.i x5), (.i x6), (.i x7)]) 0))) = false → ((!(Cmp.den .eq x15 (0 : Int))) = true → R (Value.bool false)) ∧ ((!(Cmp.den .eq x15 (0 : Int))) = false → (r17verd_sem.pre [(.i x0), (.i x1), (.i x2), (.i x3), (.i x4), (.i x5), (.i x6), (.i x7)]) ∧ (
∀ x20 : Int, x20 = (Cv.int (Env.get (r17verd_sem.out [(.i x0), (.i x1), (.i x2), (.i x3), (.i x4), (.i x5), (.i x6), (.i x7)]) 0)) → (0 : Int) ≤ x20 → x20 ≤ (2 : Int) →
((!(Cmp.den .eq x14 x20)) = true → R (Value.bool false)) ∧ ((!(Cmp.den .eq x14 x20)) = false → (r17right_sem.pre [(.i x8), (.i x9), (.i x10), (.i x11), (.i x12)]) ∧ (
((!(Cv.bool (Env.get (r17right_sem.out [(.i x8), (.i x9), (.i x10), (.i x11), (.i x12)]) 0))) = true → ((Cmp.den .eq x17 (1 : Int)) = true → R (Value.bool (Cmp.den .eq x16 (0 : Int)))) ∧ ((Cmp.den .eq x17 (1 : Int)) = false → R (Value.bool false))) ∧ ((!(Cv.bool (Env.get (r17right_sem.out [(.i x8), (.i x9), (.i x10), (.i x11), (.i x12)]) 0))) = false → ((Cmp.den .le (1 : Int) x13) = true → ((!(Cmp.den .le x13 (1000 : Int))) = true → ((Cmp.den .eq x17 (3 : Int)) = true → R (Value.bool (Cmp.den .eq x16 (0 : Int)))) ∧ ((Cmp.den .eq x17 (3 : Int)) = false → R (Value.bool false))) ∧ ((!(Cmp.den .le x13 (1000 : Int))) = false → ((Cmp.den .eq x17 (0 : Int)) = true → (r17mask_sem.pre [(.i x8), (.i x9), (.i x10), (.i x11), (.i x12), (.i x13)]) ∧ (
∀ x22 : Int, x22 = (Cv.int (Env.get (r17mask_sem.out [(.i x8), (.i x9), (.i x10), (.i x11), (.i x12), (.i x13)]) 0)) → (0 : Int) ≤ x22 → x22 ≤ (511 : Int) →
R (Value.bool (Cmp.den .eq x16 x22)))) ∧ ((Cmp.den .eq x17 (0 : Int)) = false → R (Value.bool false)))) ∧ ((Cmp.den .le (1 : Int) x13) = false → ((Cmp.den .eq x17 (3 : Int)) = true → R (Value.bool (Cmp.den .eq x16 (0 : Int)))) ∧ ((Cmp.den .eq x17 (3 : Int)) = false → R (Value.bool false))))))))))))))) := by kernel_rfl

def lljudg_sem : SpecSem := { pre := fun cs => match cs with | [.i a, .i b, .i c, .i d, .i e, .i f, .i g, .i h, .i p, .i q, .i r, .i u, .i v, .i s] => IsI a ∧ IsI b ∧ IsI c ∧ IsI d ∧ IsI e ∧ IsI f ∧ IsI g ∧ IsI h ∧ IsI p ∧ IsI q ∧ IsI r ∧ IsU u ∧ IsU v ∧ IsI s | _ => False, out := fun cs => match cs with | [.i a, .i b, .i c, .i d, .i e, .i f, .i g, .i h, .i p, .i q, .i r, .i u, .i v, .i s] => [.b true] | _ => [] }
set_option maxRecDepth 10000 in
set_option maxHeartbeats 16000000 in
theorem lljudg_ok : SpecOK Try.prog 17 lljudg_sp lljudg_sem := by
  refine spec_of_tree lljudg_cxok Try.func17 (by kernel_rfl) (by kernel_rfl) lljudg_walk rfl ?_
  intro cs hpre
  match cs, hpre with
  | [.i a, .i b, .i c, .i d, .i e, .i f, .i g, .i h, .i p, .i q, .i r, .i u, .i v, .i s], ⟨j_a, j_b, j_c, j_d, j_e, j_f, j_g, j_h, j_p, j_q, j_r, j_u, j_v, j_s⟩ =>
    have h_a := j_a
    unfold IsI at h_a
    have h_b := j_b
    unfold IsI at h_b
    have h_c := j_c
    unfold IsI at h_c
    have h_d := j_d
    unfold IsI at h_d
    have h_e := j_e
    unfold IsI at h_e
    have h_f := j_f
    unfold IsI at h_f
    have h_g := j_g
    unfold IsI at h_g
    have h_h := j_h
    unfold IsI at h_h
    have h_p := j_p
    unfold IsI at h_p
    have h_q := j_q
    unfold IsI at h_q
    have h_r := j_r
    unfold IsI at h_r
    have h_u := j_u
    unfold IsU at h_u
    have h_v := j_v
    unfold IsU at h_v
    have h_s := j_s
    unfold IsI at h_s
    refine ⟨rfl, IvsB.ok (by simp only [lljudg_ivs, IvsB, Cv.int, and_true] <;> omega), ?_, ?_⟩
    · simp only [lljudg_sem, lljudg_sp, Fits]
    · rw [lljudg_den]
      simp only [lljudg_sem, lljudg_sp, lljudg_den, lverd_sem, lmask_sem, lal_sem, r17ln_sem, r17verd_sem, r17right_sem, r17mask_sem, Tree.den, LE.den, Cv.list, placeA, List.getElem?_cons_zero, List.getElem?_cons_succ, IE.den, BE.den, At.den, CA.den, Env.get, Cv.int, Cv.bool, List.cons_append, List.nil_append, List.map_cons, List.map_nil, bindRes, bindEq, Fits, SV.den, denL, place, placeL, eq_t, eq_f, lt_t, lt_f, le_t, le_f, beq_iff_eq, beq_eq_false_iff_ne, ne_eq, reduceCtorEq, b_dec, decide_eq_true_eq, decide_eq_false_iff_not, Bool.not_eq_false', Bool.or_eq_true, Bool.or_eq_false_iff, Bool.and_eq_false_iff, true_iff, false_iff, Bool.false_eq_true, Bool.not_eq_true', Bool.and_eq_true, Bool.not_true, Bool.not_false, List.cons.injEq, Cv.i.injEq, Cv.b.injEq, and_true, true_and, agg_inj, tup_inj, Value.int.injEq, Value.bool.injEq]
      have hv : 0 ≤ vdZ a b e f g h ∧ vdZ a b e f g h ≤ 2 := by unfold vdZ; omega
      have hm := mkZ_rng q r (val u v) s
      by_cases hl : lnOK a b c d e f g h <;> by_cases hp : ptOK p q r u <;> by_cases hs : 1 ≤ s ∧ s ≤ 1000
      all_goals
        have hr : drOK p q r u s ↔ (ptOK p q r u ∧ (1 ≤ s ∧ s ≤ 1000)) := Iff.rfl
        simp only [hr, hp, hl, hs, j_a, j_b, j_c, j_d, j_e, j_f, j_g, j_h, j_p, j_q, j_r, j_u, j_v, j_s, forall_eq, eq_self, if_true, if_false, true_and, and_true, false_and, and_false, true_or, or_true, false_or, or_false, true_iff, iff_true, false_iff, iff_false, not_true_eq_false, not_false_eq_true, true_implies, false_implies, implies_true, forall_const, decide_true, decide_false, reduceCtorEq] <;> (try ((repeat' (first | intro _ | refine And.intro ?_ ?_ | exact trivial)) <;> omega))
end Go.Proofs.Ytlhmhcjpdpakkaa.X
