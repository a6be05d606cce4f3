/-
  FactorNearest.
-/
import Derived.Test.YtdhhkoghfggkfaaSxFctNear
import Derived.Test.YtdhhkoghfggkfaaSxFctShape
namespace Go.Proofs.Ytdhhkoghfggkfaa.X
open Go Go.SX
set_option linter.unusedVariables false
set_option linter.unusedSimpArgs false
theorem near_min (k v : Int) : ∀ m j : Nat, j ≤ m → dist (ftab k (nearR k v m)) v ≤ dist (ftab k (j + 2)) v ∧ ((j : Int) + 2 < nearR k v m → dist (ftab k (nearR k v m)) v < dist (ftab k (j + 2)) v)
  | 0, j, h => by
    obtain rfl : j = 0 := by omega
    simp only [nearR]
    exact ⟨Int.le_refl _, fun h => by omega⟩
  | m + 1, j, h => by
    have r := nearR_rng k v m
    simp only [nearR]
    by_cases hj : j ≤ m
    · have ih := near_min k v m j hj
      split
      · exact ⟨by omega, fun _ => by omega⟩
      · exact ih
    · obtain rfl : j = m + 1 := by omega
      have e : ((m + 1 : Nat) : Int) + 2 = (m : Int) + 3 := by omega
      rw [e]
      split
      · exact ⟨Int.le_refl _, fun h => by omega⟩
      · exact ⟨by omega, fun h => by omega⟩




def lnea_sp : SpecSh := { args := [(.int .i64 (.z 0)), (.int .i64 (.z 0)), (.int .i64 (.z 0))], res := (.bool .f), sh := [.b] }
set_option maxRecDepth 100000 in
def lnea_tree : Tree :=
.lett (.rem (.v 0) (.z 7)) <|
.lett (.add (.v 3) (.z 7)) <|
.lett (.mod (.v 4) (.z 7)) <|
.lett (.rem (.v 2) (.z 9)) <|
.lett (.add (.v 6) (.z 9)) <|
.lett (.mod (.v 7) (.z 9)) <|
.lett (.add (.z 2) (.v 8)) <|
.lett (.ite (.cmp .lt (.v 1) (.z (-1000000))) (.z (-1000000)) (.v 1)) <|
.lett (.ite (.cmp .lt (.z 1000000) (.v 10)) (.z 1000000) (.v 10)) <|
.call 8 [.i (some ((-9223372036854775808), 9223372036854775807)), .i (some ((-9223372036854775808), 9223372036854775807))] [.i (.v 5), .i (.v 11)] <|
.call 9 [.i (some (0, 32670)), .i (some (0, 3))] [.i (.v 5), .i (.v 12)] <|
.ite (.not (.cmp .eq (.v 13) (.z 0))) (.ret (.bool .f)) <|
.ite (.not (.cmp .eq (.v 15) (.z 0))) (.ret (.bool .f)) <|
.call 7 [.b] [] <|
.ite (.not (.v 16)) (.ret (.bool .f)) <|
.call 9 [.i (some (0, 32670)), .i (some (0, 3))] [.i (.v 5), .i (.v 9)] <|
.lett (.sub (.v 14) (.v 11)) <|
.lett (.sub (.v 11) (.v 14)) <|
.lett (.ite (.cmp .lt (.v 19) (.v 20)) (.v 20) (.v 19)) <|
.lett (.sub (.v 17) (.v 11)) <|
.lett (.sub (.v 11) (.v 17)) <|
.lett (.ite (.cmp .lt (.v 22) (.v 23)) (.v 23) (.v 22)) <|
.call 8 [.i (some ((-9223372036854775808), 9223372036854775807)), .i (some ((-9223372036854775808), 9223372036854775807))] [.i (.v 5), .i (.v 17)] <|
.call 9 [.i (some (0, 32670)), .i (some (0, 3))] [.i (.v 5), .i (.v 25)] <|
.ite (.cmp .eq (.v 18) (.z 0)) (.ite (.cmp .eq (.v 26) (.z 0)) (.ite (.cmp .eq (.v 28) (.z 0)) (.ite (.cmp .le (.v 21) (.v 24)) (.ite (.cmp .le (.v 12) (.v 9)) (.ite (.cmp .eq (.v 27) (.v 17)) (.ret (.bool (.cmp .le (.v 25) (.v 9)))) <|
.ret (.bool .f)) <|
.ite (.cmp .lt (.v 21) (.v 24)) (.ite (.cmp .eq (.v 27) (.v 17)) (.ret (.bool (.cmp .le (.v 25) (.v 9)))) <|
.ret (.bool .f)) <|
.ret (.bool .f)) <|
.ret (.bool .f)) <|
.ret (.bool .f)) <|
.ret (.bool .f)) <|
.ret (.bool .f)
noncomputable def lnea_cx : Ctx := { tys := tys, fns := fns, sps := [(9, ffac_sp), (8, fnea_sp), (7, fal9_sp)], anns := [], trys := [] }
def lnea_ivs : List (Option (Int × Int)) := [some ((-9223372036854775808), 9223372036854775807), some ((-9223372036854775808), 9223372036854775807), some ((-9223372036854775808), 9223372036854775807)]
set_option maxRecDepth 100000 in
theorem lnea_walk : runFn lnea_cx 3000 4 Try.f4 lnea_sp.args lnea_ivs = lnea_tree := by kernel_rfl
noncomputable def lnea_M : Nat → SpecSem
  | 9 => ffac_sem
  | 8 => fnea_sem
  | 7 => fal9_sem
  | _ => noSem
theorem lnea_M9 : lnea_M 9 = ffac_sem := rfl
theorem lnea_M8 : lnea_M 8 = fnea_sem := rfl
theorem lnea_M7 : lnea_M 7 = fal9_sem := rfl
theorem lnea_cxok : CxOK Try.prog lnea_cx lnea_M := ⟨tysOK, fnsOK, spCons ffac_ok <| spCons fnea_ok <| spCons fal9_ok <| fun _ _ h => spNil h, mixedOK, fun _ _ h => trNil h, fun _ _ h => atNil h⟩
set_option maxRecDepth 100000 in
set_option maxHeartbeats 8000000 in
theorem lnea_den (R RP : Value → Prop) (F : Ex → St → Js → Env → Prop) (J : Js) (x0 : Int) (x1 : Int) (x2 : Int) : Tree.den lnea_M R RP F lnea_tree J [(.i x0), (.i x1), (.i x2)] = (
  ∀ x3 : Int, x3 = (Int.tmod x0 (7 : Int)) →
∀ x4 : Int, x4 = (x3 + (7 : Int)) →
∀ x5 : Int, x5 = (x4 % (7 : Int)) →
∀ x6 : Int, x6 = (Int.tmod x2 (9 : Int)) →
∀ x7 : Int, x7 = (x6 + (9 : Int)) →
∀ x8 : Int, x8 = (x7 % (9 : Int)) →
∀ x9 : Int, x9 = ((2 : Int) + x8) →
∀ x10 : Int, x10 = (if (Cmp.den .lt x1 (-1000000 : Int)) = true then (-1000000 : Int) else x1) →
∀ x11 : Int, x11 = (if (Cmp.den .lt (1000000 : Int) x10) = true then (1000000 : Int) else x10) →
(fnea_sem.pre [(.i x5), (.i x11)]) ∧ (
∀ x12 : Int, x12 = (Cv.int (Env.get (fnea_sem.out [(.i x5), (.i x11)]) 0)) → (-9223372036854775808 : Int) ≤ x12 → x12 ≤ (9223372036854775807 : Int) →
∀ x13 : Int, x13 = (Cv.int (Env.get (fnea_sem.out [(.i x5), (.i x11)]) 1)) → (-9223372036854775808 : Int) ≤ x13 → x13 ≤ (9223372036854775807 : Int) →
(ffac_sem.pre [(.i x5), (.i x12)]) ∧ (
∀ x14 : Int, x14 = (Cv.int (Env.get (ffac_sem.out [(.i x5), (.i x12)]) 0)) → (0 : Int) ≤ x14 → x14 ≤ (32670 : Int) →
∀ x15 : Int, x15 = (Cv.int (Env.get (ffac_sem.out [(.i x5), (.i x12)]) 1)) → (0 : Int) ≤ x15 → x15 ≤ (3 : Int) →
((!(Cmp.den .eq x13 (0 : Int))) = true → R (Value.bool false)) ∧ ((!(Cmp.den .eq x13 (0 : Int))) = false → ((!(Cmp.den .eq x15 (0 : Int))) = true → R (Value.bool false)) ∧ ((!(Cmp.den .eq x15 (0 : Int))) = false → (fal9_sem.pre []) ∧ (
((!(Cv.bool (Env.get (fal9_sem.out []) 0))) = true → R (Value.bool false)) ∧ ((!(Cv.bool (Env.get (fal9_sem.out []) 0))) = false → (ffac_sem.pre [(.i x5), (.i x9)]) ∧ (
∀ x17 : Int, x17 = (Cv.int (Env.get (ffac_sem.out [(.i x5), (.i x9)]) 0)) → (0 : Int) ≤ x17 → x17 ≤ (32670 : Int) →
∀ x18 : Int, x18 = (Cv.int (Env.get (ffac_sem.out [(.i x5), (.i x9)]) 1)) → (0 : Int) ≤ x18 → x18 ≤ (3 : Int) →
∀ x19 : Int, x19 = (x14 - x11) →
∀ x20 : Int, x20 = (x11 - x14) →
∀ x21 : Int, x21 = (if (Cmp.den .lt x19 x20) = true then x20 else x19) →
∀ x22 : Int, x22 = (x17 - x11) →
∀ x23 : Int, x23 = (x11 - x17) →
∀ x24 : Int, x24 = (if (Cmp.den .lt x22 x23) = true then x23 else x22) →
(fnea_sem.pre [(.i x5), (.i x17)]) ∧ (
∀ x25 : Int, x25 = (Cv.int (Env.get (fnea_sem.out [(.i x5), (.i x17)]) 0)) → (-9223372036854775808 : Int) ≤ x25 → x25 ≤ (9223372036854775807 : Int) →
∀ x26 : Int, x26 = (Cv.int (Env.get (fnea_sem.out [(.i x5), (.i x17)]) 1)) → (-9223372036854775808 : Int) ≤ x26 → x26 ≤ (9223372036854775807 : Int) →
(ffac_sem.pre [(.i x5), (.i x25)]) ∧ (
∀ x27 : Int, x27 = (Cv.int (Env.get (ffac_sem.out [(.i x5), (.i x25)]) 0)) → (0 : Int) ≤ x27 → x27 ≤ (32670 : Int) →
∀ x28 : Int, x28 = (Cv.int (Env.get (ffac_sem.out [(.i x5), (.i x25)]) 1)) → (0 : Int) ≤ x28 → x28 ≤ (3 : Int) →
((Cmp.den .eq x18 (0 : Int)) = true → ((Cmp.den .eq x26 (0 : Int)) = true → ((Cmp.den .eq x28 (0 : Int)) = true → ((Cmp.den .le x21 x24) = true → ((Cmp.den .le x12 x9) = true → ((Cmp.den .eq x27 x17) = true → R (Value.bool (Cmp.den .le x25 x9))) ∧ ((Cmp.den .eq x27 x17) = false → R (Value.bool false))) ∧ ((Cmp.den .le x12 x9) = false → ((Cmp.den .lt x21 x24) = true → ((Cmp.den .eq x27 x17) = true → R (Value.bool (Cmp.den .le x25 x9))) ∧ ((Cmp.den .eq x27 x17) = false → R (Value.bool false))) ∧ ((Cmp.den .lt x21 x24) = false → R (Value.bool false)))) ∧ ((Cmp.den .le x21 x24) = false → R (Value.bool false))) ∧ ((Cmp.den .eq x28 (0 : Int)) = false → R (Value.bool false))) ∧ ((Cmp.den .eq x26 (0 : Int)) = false → R (Value.bool false))) ∧ ((Cmp.den .eq x18 (0 : Int)) = false → R (Value.bool false)))))))))))) := by kernel_rfl

def lnea_sem : SpecSem := { pre := fun cs => match cs with | [.i k, .i v, .i n] => IsI k ∧ IsI v ∧ IsI n | _ => False, out := fun cs => match cs with | [.i k, .i v, .i n] => [.b true] | _ => [] }
set_option maxRecDepth 10000 in
set_option maxHeartbeats 16000000 in
theorem lnea_ok : SpecOK Try.prog 4 lnea_sp lnea_sem := by
  refine spec_of_tree lnea_cxok Try.func4 (by kernel_rfl) (by kernel_rfl) lnea_walk rfl ?_
  intro cs hpre
  match cs, hpre with
  | [.i k, .i v, .i n], ⟨j_k, j_v, j_n⟩ =>
    have h_k := j_k
    unfold IsI at h_k
    have h_v := j_v
    unfold IsI at h_v
    have h_n := j_n
    unfold IsI at h_n
    refine ⟨rfl, IvsB.ok (by simp only [lnea_ivs, IvsB, Cv.int, and_true] <;> omega), ?_, ?_⟩
    · simp only [lnea_sem, lnea_sp, Fits]
    · rw [lnea_den]
      intro x3 e3 x4 e4 x5 e5 x6 e6 x7 e7 x8 e8 x9 e9 x10 e10 x11 e11
      have hk : 0 ≤ x5 ∧ x5 ≤ 6 := by clear e3 e6; omega
      have hn : 2 ≤ x9 ∧ x9 ≤ 10 := by clear e3 e6; omega
      have i5 : IsI x5 := ⟨by omega, by omega⟩
      have i9 : IsI x9 := ⟨by omega, by omega⟩
      have i11 : IsI x11 := by
        simp only [lt_t] at e10 e11
        have : -1000000 ≤ x11 ∧ x11 ≤ 1000000 := by clear e3 e6; split at e10 <;> split at e11 <;> omega
        exact ⟨by omega, by omega⟩
      have hv : -1000000 ≤ x11 ∧ x11 ≤ 1000000 := by
        simp only [lt_t] at e10 e11
        clear e3 e6; split at e10 <;> split at e11 <;> omega
      clear e3 e4 e5 e6 e7 e8 e9 e10 e11
      have r1 := nearR_rng x5 x11 8
      have r2 := nearR_rng x5 (ftab x5 x9) 8
      have q1 := near_min x5 x11 8 (x9 - 2).toNat (by omega)
      have q2 := near_min x5 (ftab x5 x9) 8 (x9 - 2).toNat (by omega)
      rw [show (((x9 - 2).toNat : Nat) : Int) + 2 = x9 by omega] at q1 q2
      have f1 : neaV x5 x11 = nearR x5 x11 8 := by unfold neaV; rw [if_pos hk]
      have f2 : neaV x5 (ftab x5 x9) = nearR x5 (ftab x5 x9) 8 := by unfold neaV; rw [if_pos hk]
      have f3 : neaE x5 = 0 := by unfold neaE; rw [if_pos hk]
      have g1 : ∀ j : Int, 2 ≤ j → j ≤ 10 → facV x5 j = ftab x5 j ∧ facE x5 j = 0 := fun j a b => by unfold facV facE; rw [if_pos hk, if_pos ⟨a, b⟩, if_pos hk, if_pos ⟨a, b⟩]; exact ⟨rfl, rfl⟩
      have u1 := g1 (nearR x5 x11 8) r1.1 (by omega)
      have u2 := g1 x9 hn.1 hn.2
      have u3 := g1 (nearR x5 (ftab x5 x9) 8) r2.1 (by omega)
      have t0 := ftab_rng x5 x9
      have t1 := ftab_rng x5 (nearR x5 x11 8)
      have t2 := ftab_rng x5 (nearR x5 (ftab x5 x9) 8)
      have iK : IsI (nearR x5 x11 8) := ⟨by omega, by omega⟩
      have iO : IsI (nearR x5 (ftab x5 x9) 8) := ⟨by omega, by omega⟩
      have iB : IsI (ftab x5 x9) := ⟨by omega, by omega⟩
      simp only [lnea_sem, lnea_sp, fnea_sem, ffac_sem, fal9_sem, lnea_den, ffac_sem, fnea_sem, fal9_sem, Tree.den, LE.den, Cv.list, placeA, List.getElem?_cons_zero, List.getElem?_cons_succ, IE.den, BE.den, At.den, CA.den, Env.get, Cv.int, Cv.bool, List.cons_append, List.nil_append, List.map_cons, List.map_nil, bindRes, bindEq, Fits, SV.den, denL, place, placeL, eq_t, eq_f, lt_t, lt_f, le_t, le_f, beq_iff_eq, beq_eq_false_iff_ne, ne_eq, reduceCtorEq, b_dec, decide_eq_true_eq, decide_eq_false_iff_not, Bool.not_eq_false', Bool.or_eq_true, Bool.or_eq_false_iff, Bool.and_eq_false_iff, true_iff, false_iff, Bool.false_eq_true, Bool.not_eq_true', Bool.and_eq_true, Bool.not_true, Bool.not_false, List.cons.injEq, Cv.i.injEq, Cv.b.injEq, and_true, true_and, agg_inj, tup_inj, Value.int.injEq, Value.bool.injEq, f1, f2, f3, u1.1, u1.2, u2.1, u2.2, u3.1, u3.2, i5, i9, i11, iK, iO, iB, forall_eq, eq_self, if_true, if_false, true_and, and_true, false_and, and_false, true_or, or_true, false_or, or_false, true_iff, iff_true, false_iff, iff_false, not_true_eq_false, not_false_eq_true, true_implies, false_implies, implies_true, forall_const, decide_true, decide_false, reduceCtorEq]
      unfold dist at q1 q2
      generalize nearR x5 x11 8 = K at *
      generalize nearR x5 (ftab x5 x9) 8 = O at *
      generalize ftab x5 K = FK at *
      generalize ftab x5 O = FO at *
      generalize ftab x5 x9 = B at *
      clear g1 u1 u2 u3 f1 f2 f3
      (repeat' (first | intro _ | refine And.intro ?_ ?_ | exact trivial)) <;> omega
end Go.Proofs.Ytdhhkoghfggkfaa.X
