/-
  FactorTells.
-/
import Derived.Test.YtdhhkoghfggkfaaSxFctRef2
import Derived.Test.YtdhhkoghfggkfaaSxFctShape
namespace Go.Proofs.Ytdhhkoghfggkfaa.X
open Go Go.SX
set_option linter.unusedVariables false
set_option linter.unusedSimpArgs false











def ltel_sp : SpecSh := { args := [(.int .i64 (.z 0)), (.int .i64 (.z 0)), (.int .i64 (.z 0))], res := (.bool .f), sh := [.b] }
set_option maxRecDepth 100000 in
def ltel_tree : Tree :=
.call 9 [.i (some (0, 32670)), .i (some (0, 3))] [.i (.v 0), .i (.v 1)] <|
.call 6 [.i (some (0, 18800)), .i (some (0, 2230)), .i (some (0, 32670)), .i (some (0, 30780)), .i (some (0, 26590)), .i (some (0, 2840)), .i (some (0, 32670)), .i (some (0, 3))] [.i (.v 1)] <|
.call 8 [.i (some ((-9223372036854775808), 9223372036854775807)), .i (some ((-9223372036854775808), 9223372036854775807))] [.i (.v 0), .i (.v 2)] <|
.call 7 [.b] [] <|
.ite (.not (.v 15)) (.ret (.bool .f)) <|
.call 10 [.b] [.i (.v 1)] <|
.ite (.not (.v 16)) (.ite (.not (.cmp .eq (.v 12) (.z 3))) (.ret (.bool .f)) <|
.ite (.not (.and (.cmp .eq (.v 5) (.z 0)) (.and (.cmp .eq (.v 6) (.z 0)) (.and (.cmp .eq (.v 7) (.z 0)) (.and (.cmp .eq (.v 8) (.z 0)) (.and (.cmp .eq (.v 9) (.z 0)) (.and (.cmp .eq (.v 10) (.z 0)) (.cmp .eq (.v 11) (.z 0))))))))) (.ret (.bool .f)) <|
.call 12 [.b] [.i (.v 0)] <|
.ite (.not (.v 17)) (.ite (.cmp .eq (.v 4) (.z 1)) (.ite (.cmp .eq (.v 14) (.z 1)) (.ite (.cmp .eq (.v 3) (.z 0)) (.ret (.bool (.cmp .eq (.v 13) (.z 0)))) <|
.ret (.bool .f)) <|
.ret (.bool .f)) <|
.ret (.bool .f)) <|
.ite (.not (.cmp .eq (.v 14) (.z 0))) (.ret (.bool .f)) <|
.call 13 [.i (some ((-9223372036854775808), 9223372036854775807))] [.i (.v 0), .i (.v 2)] <|
.ite (.not (.cmp .eq (.v 13) (.v 18))) (.ret (.bool .f)) <|
.call 10 [.b] [.i (.v 1)] <|
.ite (.not (.v 19)) (.ite (.cmp .eq (.v 4) (.z 3)) (.ret (.bool (.cmp .eq (.v 3) (.z 0)))) <|
.ret (.bool .f)) <|
.ite (.cmp .eq (.v 4) (.z 0)) (.call 11 [.i (some (0, 32670))] [.i (.v 0), .i (.v 1)] <|
.ret (.bool (.cmp .eq (.v 3) (.v 20)))) <|
.ret (.bool .f)) <|
.ite (.not (.cmp .eq (.v 12) (.z 0))) (.ret (.bool .f)) <|
.call 11 [.i (some (0, 32670))] [.i (.z 0), .i (.v 1)] <|
.ite (.not (.cmp .eq (.v 5) (.v 17))) (.ret (.bool .f)) <|
.call 11 [.i (some (0, 32670))] [.i (.z 1), .i (.v 1)] <|
.ite (.not (.cmp .eq (.v 6) (.v 18))) (.ret (.bool .f)) <|
.call 11 [.i (some (0, 32670))] [.i (.z 2), .i (.v 1)] <|
.ite (.not (.cmp .eq (.v 7) (.v 19))) (.ret (.bool .f)) <|
.call 11 [.i (some (0, 32670))] [.i (.z 3), .i (.v 1)] <|
.ite (.not (.cmp .eq (.v 8) (.v 20))) (.ret (.bool .f)) <|
.call 11 [.i (some (0, 32670))] [.i (.z 4), .i (.v 1)] <|
.ite (.not (.cmp .eq (.v 9) (.v 21))) (.ret (.bool .f)) <|
.call 11 [.i (some (0, 32670))] [.i (.z 5), .i (.v 1)] <|
.ite (.not (.cmp .eq (.v 10) (.v 22))) (.ret (.bool .f)) <|
.call 11 [.i (some (0, 32670))] [.i (.z 6), .i (.v 1)] <|
.ite (.not (.cmp .eq (.v 11) (.v 23))) (.ret (.bool .f)) <|
.call 12 [.b] [.i (.v 0)] <|
.ite (.not (.v 24)) (.ite (.cmp .eq (.v 4) (.z 1)) (.ite (.cmp .eq (.v 14) (.z 1)) (.ite (.cmp .eq (.v 3) (.z 0)) (.ret (.bool (.cmp .eq (.v 13) (.z 0)))) <|
.ret (.bool .f)) <|
.ret (.bool .f)) <|
.ret (.bool .f)) <|
.ite (.not (.cmp .eq (.v 14) (.z 0))) (.ret (.bool .f)) <|
.call 13 [.i (some ((-9223372036854775808), 9223372036854775807))] [.i (.v 0), .i (.v 2)] <|
.ite (.not (.cmp .eq (.v 13) (.v 25))) (.ret (.bool .f)) <|
.call 10 [.b] [.i (.v 1)] <|
.ite (.not (.v 26)) (.ite (.cmp .eq (.v 4) (.z 3)) (.ret (.bool (.cmp .eq (.v 3) (.z 0)))) <|
.ret (.bool .f)) <|
.ite (.cmp .eq (.v 4) (.z 0)) (.call 11 [.i (some (0, 32670))] [.i (.v 0), .i (.v 1)] <|
.ret (.bool (.cmp .eq (.v 3) (.v 27)))) <|
.ret (.bool .f)
noncomputable def ltel_cx : Ctx := { tys := tys, fns := fns, sps := [(9, ffac_sp), (6, fall_sp), (8, fnea_sp), (7, fal9_sp), (11, rfac_sp), (13, rnea_sp), (12, rkind_sp), (10, rrows_sp)], anns := [], trys := [] }
def ltel_ivs : List (Option (Int × Int)) := [some ((-9223372036854775808), 9223372036854775807), some ((-9223372036854775808), 9223372036854775807), some ((-9223372036854775808), 9223372036854775807)]
set_option maxRecDepth 100000 in
theorem ltel_walk : runFn ltel_cx 3000 5 Try.f5 ltel_sp.args ltel_ivs = ltel_tree := by kernel_rfl
noncomputable def ltel_M : Nat → SpecSem
  | 9 => ffac_sem
  | 6 => fall_sem
  | 8 => fnea_sem
  | 7 => fal9_sem
  | 11 => rfac_sem
  | 13 => rnea_sem
  | 12 => rkind_sem
  | 10 => rrows_sem
  | _ => noSem
theorem ltel_M9 : ltel_M 9 = ffac_sem := rfl
theorem ltel_M6 : ltel_M 6 = fall_sem := rfl
theorem ltel_M8 : ltel_M 8 = fnea_sem := rfl
theorem ltel_M7 : ltel_M 7 = fal9_sem := rfl
theorem ltel_M11 : ltel_M 11 = rfac_sem := rfl
theorem ltel_M13 : ltel_M 13 = rnea_sem := rfl
theorem ltel_M12 : ltel_M 12 = rkind_sem := rfl
theorem ltel_M10 : ltel_M 10 = rrows_sem := rfl
theorem ltel_cxok : CxOK Try.prog ltel_cx ltel_M := ⟨tysOK, fnsOK, spCons ffac_ok <| spCons fall_ok <| spCons fnea_ok <| spCons fal9_ok <| spCons rfac_ok <| spCons rnea_ok <| spCons rkind_ok <| spCons rrows_ok <| fun _ _ h => spNil h, mixedOK, fun _ _ h => trNil h, fun _ _ h => atNil h⟩
set_option maxRecDepth 100000 in
set_option maxHeartbeats 8000000 in
theorem ltel_den (R RP : Value → Prop) (F : Ex → St → Js → Env → Prop) (J : Js) (x0 : Int) (x1 : Int) (x2 : Int) : Tree.den ltel_M R RP F ltel_tree J [(.i x0), (.i x1), (.i x2)] = (
  (ffac_sem.pre [(.i x0), (.i x1)]) ∧ (
∀ x3 : Int, x3 = (Cv.int (Env.get (ffac_sem.out [(.i x0), (.i x1)]) 0)) → (0 : Int) ≤ x3 → x3 ≤ (32670 : Int) →
∀ x4 : Int, x4 = (Cv.int (Env.get (ffac_sem.out [(.i x0), (.i x1)]) 1)) → (0 : Int) ≤ x4 → x4 ≤ (3 : Int) →
(fall_sem.pre [(.i x1)]) ∧ (
∀ x5 : Int, x5 = (Cv.int (Env.get (fall_sem.out [(.i x1)]) 0)) → (0 : Int) ≤ x5 → x5 ≤ (18800 : Int) →
∀ x6 : Int, x6 = (Cv.int (Env.get (fall_sem.out [(.i x1)]) 1)) → (0 : Int) ≤ x6 → x6 ≤ (2230 : Int) →
∀ x7 : Int, x7 = (Cv.int (Env.get (fall_sem.out [(.i x1)]) 2)) → (0 : Int) ≤ x7 → x7 ≤ (32670 : Int) →
∀ x8 : Int, x8 = (Cv.int (Env.get (fall_sem.out [(.i x1)]) 3)) → (0 : Int) ≤ x8 → x8 ≤ (30780 : Int) →
∀ x9 : Int, x9 = (Cv.int (Env.get (fall_sem.out [(.i x1)]) 4)) → (0 : Int) ≤ x9 → x9 ≤ (26590 : Int) →
∀ x10 : Int, x10 = (Cv.int (Env.get (fall_sem.out [(.i x1)]) 5)) → (0 : Int) ≤ x10 → x10 ≤ (2840 : Int) →
∀ x11 : Int, x11 = (Cv.int (Env.get (fall_sem.out [(.i x1)]) 6)) → (0 : Int) ≤ x11 → x11 ≤ (32670 : Int) →
∀ x12 : Int, x12 = (Cv.int (Env.get (fall_sem.out [(.i x1)]) 7)) → (0 : Int) ≤ x12 → x12 ≤ (3 : Int) →
(fnea_sem.pre [(.i x0), (.i x2)]) ∧ (
∀ x13 : Int, x13 = (Cv.int (Env.get (fnea_sem.out [(.i x0), (.i x2)]) 0)) → (-9223372036854775808 : Int) ≤ x13 → x13 ≤ (9223372036854775807 : Int) →
∀ x14 : Int, x14 = (Cv.int (Env.get (fnea_sem.out [(.i x0), (.i x2)]) 1)) → (-9223372036854775808 : Int) ≤ x14 → x14 ≤ (9223372036854775807 : Int) →
(fal9_sem.pre []) ∧ (
((!(Cv.bool (Env.get (fal9_sem.out []) 0))) = true → R (Value.bool false)) ∧ ((!(Cv.bool (Env.get (fal9_sem.out []) 0))) = false → (rrows_sem.pre [(.i x1)]) ∧ (
((!(Cv.bool (Env.get (rrows_sem.out [(.i x1)]) 0))) = true → ((!(Cmp.den .eq x12 (3 : Int))) = true → R (Value.bool false)) ∧ ((!(Cmp.den .eq x12 (3 : Int))) = false → ((!((Cmp.den .eq x5 (0 : Int)) && ((Cmp.den .eq x6 (0 : Int)) && ((Cmp.den .eq x7 (0 : Int)) && ((Cmp.den .eq x8 (0 : Int)) && ((Cmp.den .eq x9 (0 : Int)) && ((Cmp.den .eq x10 (0 : Int)) && (Cmp.den .eq x11 (0 : Int))))))))) = true → R (Value.bool false)) ∧ ((!((Cmp.den .eq x5 (0 : Int)) && ((Cmp.den .eq x6 (0 : Int)) && ((Cmp.den .eq x7 (0 : Int)) && ((Cmp.den .eq x8 (0 : Int)) && ((Cmp.den .eq x9 (0 : Int)) && ((Cmp.den .eq x10 (0 : Int)) && (Cmp.den .eq x11 (0 : Int))))))))) = false → (rkind_sem.pre [(.i x0)]) ∧ (
((!(Cv.bool (Env.get (rkind_sem.out [(.i x0)]) 0))) = true → ((Cmp.den .eq x4 (1 : Int)) = true → ((Cmp.den .eq x14 (1 : Int)) = true → ((Cmp.den .eq x3 (0 : Int)) = true → R (Value.bool (Cmp.den .eq x13 (0 : Int)))) ∧ ((Cmp.den .eq x3 (0 : Int)) = false → R (Value.bool false))) ∧ ((Cmp.den .eq x14 (1 : Int)) = false → R (Value.bool false))) ∧ ((Cmp.den .eq x4 (1 : Int)) = false → R (Value.bool false))) ∧ ((!(Cv.bool (Env.get (rkind_sem.out [(.i x0)]) 0))) = false → ((!(Cmp.den .eq x14 (0 : Int))) = true → R (Value.bool false)) ∧ ((!(Cmp.den .eq x14 (0 : Int))) = false → (rnea_sem.pre [(.i x0), (.i x2)]) ∧ (
∀ x18 : Int, x18 = (Cv.int (Env.get (rnea_sem.out [(.i x0), (.i x2)]) 0)) → (-9223372036854775808 : Int) ≤ x18 → x18 ≤ (9223372036854775807 : Int) →
((!(Cmp.den .eq x13 x18)) = true → R (Value.bool false)) ∧ ((!(Cmp.den .eq x13 x18)) = false → (rrows_sem.pre [(.i x1)]) ∧ (
((!(Cv.bool (Env.get (rrows_sem.out [(.i x1)]) 0))) = true → ((Cmp.den .eq x4 (3 : Int)) = true → R (Value.bool (Cmp.den .eq x3 (0 : Int)))) ∧ ((Cmp.den .eq x4 (3 : Int)) = false → R (Value.bool false))) ∧ ((!(Cv.bool (Env.get (rrows_sem.out [(.i x1)]) 0))) = false → ((Cmp.den .eq x4 (0 : Int)) = true → (rfac_sem.pre [(.i x0), (.i x1)]) ∧ (
∀ x20 : Int, x20 = (Cv.int (Env.get (rfac_sem.out [(.i x0), (.i x1)]) 0)) → (0 : Int) ≤ x20 → x20 ≤ (32670 : Int) →
R (Value.bool (Cmp.den .eq x3 x20)))) ∧ ((Cmp.den .eq x4 (0 : Int)) = false → R (Value.bool false)))))))))))) ∧ ((!(Cv.bool (Env.get (rrows_sem.out [(.i x1)]) 0))) = false → ((!(Cmp.den .eq x12 (0 : Int))) = true → R (Value.bool false)) ∧ ((!(Cmp.den .eq x12 (0 : Int))) = false → (rfac_sem.pre [(.i (0 : Int)), (.i x1)]) ∧ (
∀ x17 : Int, x17 = (Cv.int (Env.get (rfac_sem.out [(.i (0 : Int)), (.i x1)]) 0)) → (0 : Int) ≤ x17 → x17 ≤ (32670 : Int) →
((!(Cmp.den .eq x5 x17)) = true → R (Value.bool false)) ∧ ((!(Cmp.den .eq x5 x17)) = false → (rfac_sem.pre [(.i (1 : Int)), (.i x1)]) ∧ (
∀ x18 : Int, x18 = (Cv.int (Env.get (rfac_sem.out [(.i (1 : Int)), (.i x1)]) 0)) → (0 : Int) ≤ x18 → x18 ≤ (32670 : Int) →
((!(Cmp.den .eq x6 x18)) = true → R (Value.bool false)) ∧ ((!(Cmp.den .eq x6 x18)) = false → (rfac_sem.pre [(.i (2 : Int)), (.i x1)]) ∧ (
∀ x19 : Int, x19 = (Cv.int (Env.get (rfac_sem.out [(.i (2 : Int)), (.i x1)]) 0)) → (0 : Int) ≤ x19 → x19 ≤ (32670 : Int) →
((!(Cmp.den .eq x7 x19)) = true → R (Value.bool false)) ∧ ((!(Cmp.den .eq x7 x19)) = false → (rfac_sem.pre [(.i (3 : Int)), (.i x1)]) ∧ (
∀ x20 : Int, x20 = (Cv.int (Env.get (rfac_sem.out [(.i (3 : Int)), (.i x1)]) 0)) → (0 : Int) ≤ x20 → x20 ≤ (32670 : Int) →
((!(Cmp.den .eq x8 x20)) = true → R (Value.bool false)) ∧ ((!(Cmp.den .eq x8 x20)) = false → (rfac_sem.pre [(.i (4 : Int)), (.i x1)]) ∧ (
∀ x21 : Int, x21 = (Cv.int (Env.get (rfac_sem.out [(.i (4 : Int)), (.i x1)]) 0)) → (0 : Int) ≤ x21 → x21 ≤ (32670 : Int) →
((!(Cmp.den .eq x9 x21)) = true → R (Value.bool false)) ∧ ((!(Cmp.den .eq x9 x21)) = false → (rfac_sem.pre [(.i (5 : Int)), (.i x1)]) ∧ (
∀ x22 : Int, x22 = (Cv.int (Env.get (rfac_sem.out [(.i (5 : Int)), (.i x1)]) 0)) → (0 : Int) ≤ x22 → x22 ≤ (32670 : Int) →
((!(Cmp.den .eq x10 x22)) = true → R (Value.bool false)) ∧ ((!(Cmp.den .eq x10 x22)) = false → (rfac_sem.pre [(.i (6 : Int)), (.i x1)]) ∧ (
∀ x23 : Int, x23 = (Cv.int (Env.get (rfac_sem.out [(.i (6 : Int)), (.i x1)]) 0)) → (0 : Int) ≤ x23 → x23 ≤ (32670 : Int) →
((!(Cmp.den .eq x11 x23)) = true → R (Value.bool false)) ∧ ((!(Cmp.den .eq x11 x23)) = false → (rkind_sem.pre [(.i x0)]) ∧ (
((!(Cv.bool (Env.get (rkind_sem.out [(.i x0)]) 0))) = true → ((Cmp.den .eq x4 (1 : Int)) = true → ((Cmp.den .eq x14 (1 : Int)) = true → ((Cmp.den .eq x3 (0 : Int)) = true → R (Value.bool (Cmp.den .eq x13 (0 : Int)))) ∧ ((Cmp.den .eq x3 (0 : Int)) = false → R (Value.bool false))) ∧ ((Cmp.den .eq x14 (1 : Int)) = false → R (Value.bool false))) ∧ ((Cmp.den .eq x4 (1 : Int)) = false → R (Value.bool false))) ∧ ((!(Cv.bool (Env.get (rkind_sem.out [(.i x0)]) 0))) = false → ((!(Cmp.den .eq x14 (0 : Int))) = true → R (Value.bool false)) ∧ ((!(Cmp.den .eq x14 (0 : Int))) = false → (rnea_sem.pre [(.i x0), (.i x2)]) ∧ (
∀ x25 : Int, x25 = (Cv.int (Env.get (rnea_sem.out [(.i x0), (.i x2)]) 0)) → (-9223372036854775808 : Int) ≤ x25 → x25 ≤ (9223372036854775807 : Int) →
((!(Cmp.den .eq x13 x25)) = true → R (Value.bool false)) ∧ ((!(Cmp.den .eq x13 x25)) = false → (rrows_sem.pre [(.i x1)]) ∧ (
((!(Cv.bool (Env.get (rrows_sem.out [(.i x1)]) 0))) = true → ((Cmp.den .eq x4 (3 : Int)) = true → R (Value.bool (Cmp.den .eq x3 (0 : Int)))) ∧ ((Cmp.den .eq x4 (3 : Int)) = false → R (Value.bool false))) ∧ ((!(Cv.bool (Env.get (rrows_sem.out [(.i x1)]) 0))) = false → ((Cmp.den .eq x4 (0 : Int)) = true → (rfac_sem.pre [(.i x0), (.i x1)]) ∧ (
∀ x27 : Int, x27 = (Cv.int (Env.get (rfac_sem.out [(.i x0), (.i x1)]) 0)) → (0 : Int) ≤ x27 → x27 ≤ (32670 : Int) →
R (Value.bool (Cmp.den .eq x3 x27)))) ∧ ((Cmp.den .eq x4 (0 : Int)) = false → R (Value.bool false)))))))))))))))))))))))))))))))) := by kernel_rfl

def ltel_sem : SpecSem := { pre := fun cs => match cs with | [.i k, .i n, .i v] => IsI k ∧ IsI n ∧ IsI v | _ => False, out := fun cs => match cs with | [.i k, .i n, .i v] => [.b true] | _ => [] }
set_option maxRecDepth 10000 in
set_option maxHeartbeats 16000000 in
theorem ltel_ok : SpecOK Try.prog 5 ltel_sp ltel_sem := by
  refine spec_of_tree ltel_cxok Try.func5 (by kernel_rfl) (by kernel_rfl) ltel_walk rfl ?_
  intro cs hpre
  match cs, hpre with
  | [.i k, .i n, .i v], ⟨j_k, j_n, j_v⟩ =>
    have h_k := j_k
    unfold IsI at h_k
    have h_n := j_n
    unfold IsI at h_n
    have h_v := j_v
    unfold IsI at h_v
    refine ⟨rfl, IvsB.ok (by simp only [ltel_ivs, IvsB, Cv.int, and_true] <;> omega), ?_, ?_⟩
    · simp only [ltel_sem, ltel_sp, Fits]
    · rw [ltel_den]
      have ik : IsI k := j_k
      have i0 : ∀ j : Int, 0 ≤ j → j ≤ 10 → IsI j := fun j a b => ⟨by omega, by omega⟩
      have b0 := i0 0 (by omega) (by omega)
      have b1 := i0 1 (by omega) (by omega)
      have b2 := i0 2 (by omega) (by omega)
      have b3 := i0 3 (by omega) (by omega)
      have b4 := i0 4 (by omega) (by omega)
      have b5 := i0 5 (by omega) (by omega)
      have b6 := i0 6 (by omega) (by omega)
      have r1 := nearR_rng k v 8
      have t0 := ftab_rng k n
      have t1 := ftab_rng 0 n
      have t2 := ftab_rng 1 n
      have t3 := ftab_rng 2 n
      have t4 := ftab_rng 3 n
      have t5 := ftab_rng 4 n
      have t6 := ftab_rng 5 n
      have t7 := ftab_rng 6 n
      rcases Decidable.em (0 ≤ k ∧ k ≤ 6) with hk | hk <;> rcases Decidable.em (2 ≤ n ∧ n ≤ 10) with hn | hn
      all_goals
        simp only [ltel_sem, ltel_sp, ffac_sem, fall_sem, fnea_sem, fal9_sem, rfac_sem, rnea_sem, rkind_sem, rrows_sem, ltel_den, ffac_sem, fall_sem, fnea_sem, fal9_sem, rfac_sem, rnea_sem, rkind_sem, rrows_sem, Tree.den, LE.den, Cv.list, placeA, List.getElem?_cons_zero, List.getElem?_cons_succ, IE.den, BE.den, At.den, CA.den, Env.get, Cv.int, Cv.bool, List.cons_append, List.nil_append, List.map_cons, List.map_nil, bindRes, bindEq, Fits, SV.den, denL, place, placeL, eq_t, eq_f, lt_t, lt_f, le_t, le_f, beq_iff_eq, beq_eq_false_iff_ne, ne_eq, reduceCtorEq, b_dec, decide_eq_true_eq, decide_eq_false_iff_not, Bool.not_eq_false', Bool.or_eq_true, Bool.or_eq_false_iff, Bool.and_eq_false_iff, true_iff, false_iff, Bool.false_eq_true, Bool.not_eq_true', Bool.and_eq_true, Bool.not_true, Bool.not_false, List.cons.injEq, Cv.i.injEq, Cv.b.injEq, and_true, true_and, agg_inj, tup_inj, Value.int.injEq, Value.bool.injEq, facV, facE, allV, allE, neaV, neaE, hk, hn, j_k, j_n, j_v, b0, b1, b2, b3, b4, b5, b6, and_self, and_true, true_and, if_true, if_false, not_true_eq_false, not_false_eq_true, forall_eq, eq_self, if_true, if_false, true_and, and_true, false_and, and_false, true_or, or_true, false_or, or_false, true_iff, iff_true, false_iff, iff_false, not_true_eq_false, not_false_eq_true, true_implies, false_implies, implies_true, forall_const, decide_true, decide_false, reduceCtorEq]
      all_goals
        clear ik i0 b0 b1 b2 b3 b4 b5 b6 t0 t1 t2 t3 t4 t5 t6 t7
        (repeat' (first | intro _ | refine And.intro ?_ ?_ | exact trivial)) <;> omega
end Go.Proofs.Ytdhhkoghfggkfaa.X
