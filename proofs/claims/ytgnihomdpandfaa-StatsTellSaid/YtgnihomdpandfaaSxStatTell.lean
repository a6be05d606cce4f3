/-
  StatsTell tells true, for every input.
-/
import Derived.Test.YtgnihomdpandfaaSxStat
import Derived.Test.YtgnihomdpandfaaSxStatRef
namespace Go.Proofs.Ytgnihomdpandfaa.X
open Go Go.SX Go.RowKit
set_option linter.unusedVariables false
set_option linter.unusedSimpArgs false









def s11al_sp : SpecSh := { args := [], res := (.bool .f), sh := [.b] }
set_option maxRecDepth 100000 in
def s11al_tree : Tree :=
.call 15 [.i (some ((-9223372036854775808), 9223372036854775807)), .i (some ((-9223372036854775808), 9223372036854775807)), .i (some (0, 18446744073709551615)), .i (some (0, 18446744073709551615)), .i (some ((-9223372036854775808), 9223372036854775807)), .i (some ((-9223372036854775808), 9223372036854775807)), .i (some ((-9223372036854775808), 9223372036854775807))] [.l (.lit [.z 1, .z 3, .z (-2)])] <|
.call 16 [.i (some (0, 18446744073709551615)), .i (some (0, 18446744073709551615)), .i (some ((-9223372036854775808), 9223372036854775807))] [.i (.v 0), .i (.v 1), .i (.v 2), .i (.v 3), .i (.v 4), .i (.v 5)] <|
.ite (.cmp .eq (.v 6) (.z 0)) (.ite (.cmp .eq (.v 9) (.z 0)) (.ite (.cmp .eq (.v 0) (.z 3)) (.ite (.cmp .eq (.v 1) (.z 2)) (.ite (.cmp .eq (.v 3) (.z 14)) (.ite (.cmp .eq (.v 4) (.z (-2))) (.ret (.bool (.cmp .eq (.v 8) (.z 38)))) <|
.ret (.bool .f)) <|
.ret (.bool .f)) <|
.ret (.bool .f)) <|
.ret (.bool .f)) <|
.ret (.bool .f)) <|
.ret (.bool .f)
noncomputable def s11al_cx : Ctx := { tys := tys, fns := fns, sps := [(15, sof_sp), (16, sspread_sp)], anns := [], trys := [] }
def s11al_ivs : List (Option (Int × Int)) := []
set_option maxRecDepth 100000 in
theorem s11al_walk : runFn s11al_cx 3000 17 Try.f17 s11al_sp.args s11al_ivs = s11al_tree := by kernel_rfl
noncomputable def s11al_M : Nat → SpecSem
  | 15 => sof_sem
  | 16 => sspread_sem
  | _ => noSem
theorem s11al_M15 : s11al_M 15 = sof_sem := rfl
theorem s11al_M16 : s11al_M 16 = sspread_sem := rfl
theorem s11al_cxok : CxOK Try.prog s11al_cx s11al_M := ⟨tysOK, fnsOK, spCons sof_ok <| spCons sspread_ok <| fun _ _ h => spNil h, mixedOK, fun _ _ h => trNil h⟩
set_option maxRecDepth 100000 in
set_option maxHeartbeats 8000000 in
theorem s11al_den (R RP : Value → Prop) (F : Ex → St → Js → Env → Prop) (J : Js)  : Tree.den s11al_M R RP F s11al_tree J [] = (
  (sof_sem.pre [(.l (([(1 : Int), (3 : Int), (-2 : Int)] : List Int)))]) ∧ (
∀ x0 : Int, x0 = (Cv.int (Env.get (sof_sem.out [(.l (([(1 : Int), (3 : Int), (-2 : Int)] : List Int)))]) 0)) → (-9223372036854775808 : Int) ≤ x0 → x0 ≤ (9223372036854775807 : Int) →
∀ x1 : Int, x1 = (Cv.int (Env.get (sof_sem.out [(.l (([(1 : Int), (3 : Int), (-2 : Int)] : List Int)))]) 1)) → (-9223372036854775808 : Int) ≤ x1 → x1 ≤ (9223372036854775807 : Int) →
∀ x2 : Int, x2 = (Cv.int (Env.get (sof_sem.out [(.l (([(1 : Int), (3 : Int), (-2 : Int)] : List Int)))]) 2)) → (0 : Int) ≤ x2 → x2 ≤ (18446744073709551615 : Int) →
∀ x3 : Int, x3 = (Cv.int (Env.get (sof_sem.out [(.l (([(1 : Int), (3 : Int), (-2 : Int)] : List Int)))]) 3)) → (0 : Int) ≤ x3 → x3 ≤ (18446744073709551615 : Int) →
∀ x4 : Int, x4 = (Cv.int (Env.get (sof_sem.out [(.l (([(1 : Int), (3 : Int), (-2 : Int)] : List Int)))]) 4)) → (-9223372036854775808 : Int) ≤ x4 → x4 ≤ (9223372036854775807 : Int) →
∀ x5 : Int, x5 = (Cv.int (Env.get (sof_sem.out [(.l (([(1 : Int), (3 : Int), (-2 : Int)] : List Int)))]) 5)) → (-9223372036854775808 : Int) ≤ x5 → x5 ≤ (9223372036854775807 : Int) →
∀ x6 : Int, x6 = (Cv.int (Env.get (sof_sem.out [(.l (([(1 : Int), (3 : Int), (-2 : Int)] : List Int)))]) 6)) → (-9223372036854775808 : Int) ≤ x6 → x6 ≤ (9223372036854775807 : Int) →
(sspread_sem.pre [(.i x0), (.i x1), (.i x2), (.i x3), (.i x4), (.i x5)]) ∧ (
∀ x7 : Int, x7 = (Cv.int (Env.get (sspread_sem.out [(.i x0), (.i x1), (.i x2), (.i x3), (.i x4), (.i x5)]) 0)) → (0 : Int) ≤ x7 → x7 ≤ (18446744073709551615 : Int) →
∀ x8 : Int, x8 = (Cv.int (Env.get (sspread_sem.out [(.i x0), (.i x1), (.i x2), (.i x3), (.i x4), (.i x5)]) 1)) → (0 : Int) ≤ x8 → x8 ≤ (18446744073709551615 : Int) →
∀ x9 : Int, x9 = (Cv.int (Env.get (sspread_sem.out [(.i x0), (.i x1), (.i x2), (.i x3), (.i x4), (.i x5)]) 2)) → (-9223372036854775808 : Int) ≤ x9 → x9 ≤ (9223372036854775807 : Int) →
((Cmp.den .eq x6 (0 : Int)) = true → ((Cmp.den .eq x9 (0 : Int)) = true → ((Cmp.den .eq x0 (3 : Int)) = true → ((Cmp.den .eq x1 (2 : Int)) = true → ((Cmp.den .eq x3 (14 : Int)) = true → ((Cmp.den .eq x4 (-2 : Int)) = true → R (Value.bool (Cmp.den .eq x8 (38 : Int)))) ∧ ((Cmp.den .eq x4 (-2 : Int)) = false → R (Value.bool false))) ∧ ((Cmp.den .eq x3 (14 : Int)) = false → R (Value.bool false))) ∧ ((Cmp.den .eq x1 (2 : Int)) = false → R (Value.bool false))) ∧ ((Cmp.den .eq x0 (3 : Int)) = false → R (Value.bool false))) ∧ ((Cmp.den .eq x9 (0 : Int)) = false → R (Value.bool false))) ∧ ((Cmp.den .eq x6 (0 : Int)) = false → R (Value.bool false))))) := by kernel_rfl

def s11al_sem : SpecSem := { pre := fun cs => match cs with | [] => True | _ => False, out := fun cs => match cs with | [] => [.b true] | _ => [] }
set_option maxRecDepth 10000 in
set_option maxHeartbeats 16000000 in
theorem s11al_ok : SpecOK Try.prog 17 s11al_sp s11al_sem := by
  refine spec_of_tree s11al_cxok Try.func17 (by kernel_rfl) (by kernel_rfl) s11al_walk rfl ?_
  intro cs hpre
  match cs, hpre with
  | [], _ =>
    refine ⟨rfl, IvsB.ok (by simp only [s11al_ivs, IvsB, Cv.int, and_true] <;> omega), ?_, ?_⟩
    · simp only [s11al_sem, s11al_sp, Fits]
    · rw [s11al_den]
      have a1 : inS [1, 3, -2] := by unfold inS; decide
      have a2 : stOK 3 2 0 14 (-2) 3 := by unfold stOK val; decide
      have a3 : sumL [1, 3, -2] = 2 := rfl
      have a4 : sqL [1, 3, -2] = 14 := rfl
      have a5 : minS [1, 3, -2] = -2 := rfl
      have a6 : maxS [1, 3, -2] = 3 := rfl
      have a7 : InI [1, 3, -2] := by intro y hy; simp only [List.mem_cons, List.not_mem_nil, or_false] at hy; omega
      have a8 : (([1, 3, -2] : List Int).length : Int) = 3 := rfl
      have a9 : (3 : Int) ≤ 100000 := by omega
      have b1 : IsI 3 := ⟨by omega, by omega⟩
      have b2 : IsI 2 := ⟨by omega, by omega⟩
      have b3 : IsU 0 := ⟨by omega, by omega⟩
      have b4 : IsU 14 := ⟨by omega, by omega⟩
      have b5 : IsI (-2) := ⟨by omega, by omega⟩
      have b6 : ((3 : Int) = 0) = False := by simp
      have b7 : (3 * val 0 14 - 2 * 2) % 18446744073709551616 = 38 := by unfold val; omega
      simp only [s11al_sem, s11al_sp, s11al_den, sof_sem, sspread_sem, Tree.den, LE.den, Cv.list, placeA, List.getElem?_cons_zero, List.getElem?_cons_succ, IE.den, BE.den, At.den, CA.den, Env.get, Cv.int, Cv.bool, List.cons_append, List.nil_append, List.map_cons, List.map_nil, bindRes, bindEq, Fits, SV.den, denL, place, placeL, eq_t, eq_f, lt_t, lt_f, le_t, le_f, beq_iff_eq, beq_eq_false_iff_ne, ne_eq, reduceCtorEq, b_dec, decide_eq_true_eq, decide_eq_false_iff_not, Bool.not_eq_false', Bool.or_eq_true, Bool.or_eq_false_iff, Bool.and_eq_false_iff, true_iff, false_iff, Bool.false_eq_true, Bool.not_eq_true', Bool.and_eq_true, Bool.not_true, Bool.not_false, List.cons.injEq, Cv.i.injEq, Cv.b.injEq, and_true, true_and, agg_inj, tup_inj, Value.int.injEq, Value.bool.injEq]
      simp only [a1, a2, a3, a4, a5, a6, a7, a8, a9, b1, b2, b3, b4, b5, b6, b7, forall_eq, eq_self, f00, if_true, if_false, true_and, and_true, false_and, and_false, true_or, or_true, false_or, or_false, true_iff, iff_true, false_iff, iff_false, not_true_eq_false, not_false_eq_true, true_implies, false_implies, implies_true, forall_const, decide_true, decide_false, reduceCtorEq]

theorem st_n0 {s h l mn mx : Int} (c : stOK 0 s h l mn mx) : 0 * val h l - s * s = 0 := by
  rcases c with q | q
  · rw [q.2.1]; omega
  · omega
theorem inI_take {xs : List Int} (n : Nat) (h : InI xs) : InI (xs.take n) := fun x hx => h x (List.mem_of_mem_take hx)
def lstell_sp : SpecSh := { args := [(.lst 0), (.agg [(.int .i64 (.z 0)), (.int .i64 (.z 0)), (.int .u64 (.z 0)), (.int .u64 (.z 0)), (.int .i64 (.z 0)), (.int .i64 (.z 0))]), (.agg [(.int .i64 (.z 0)), (.int .i64 (.z 0)), (.int .u64 (.z 0)), (.int .u64 (.z 0)), (.int .i64 (.z 0)), (.int .i64 (.z 0))])], res := (.bool .f), sh := [.b] }
set_option maxRecDepth 100000 in
def lstell_tree : Tree :=
.lett (.len 0) <|
.lett (.ite (.cmp .lt (.z 200) (.v 13)) (.z 200) (.v 13)) <|
.ite (.cmp .le (.v 14) (.v 13)) (.letl (.sub 0 (.z 0) (.v 14)) <|
.call 15 [.i (some ((-9223372036854775808), 9223372036854775807)), .i (some ((-9223372036854775808), 9223372036854775807)), .i (some (0, 18446744073709551615)), .i (some (0, 18446744073709551615)), .i (some ((-9223372036854775808), 9223372036854775807)), .i (some ((-9223372036854775808), 9223372036854775807)), .i (some ((-9223372036854775808), 9223372036854775807))] [.l (.v 15)] <|
.call 22 [.i (some ((-9223372036854775808), 9223372036854775807)), .i (some ((-9223372036854775808), 9223372036854775807)), .i (some (0, 18446744073709551615)), .i (some (0, 18446744073709551615)), .i (some ((-9223372036854775808), 9223372036854775807)), .i (some ((-9223372036854775808), 9223372036854775807)), .i (some ((-9223372036854775808), 9223372036854775807))] [.i (.v 1), .i (.v 2), .i (.v 3), .i (.v 4), .i (.v 5), .i (.v 6), .i (.v 7), .i (.v 8), .i (.v 9), .i (.v 10), .i (.v 11), .i (.v 12)] <|
.call 16 [.i (some (0, 18446744073709551615)), .i (some (0, 18446744073709551615)), .i (some ((-9223372036854775808), 9223372036854775807))] [.i (.v 1), .i (.v 2), .i (.v 3), .i (.v 4), .i (.v 5), .i (.v 6)] <|
.call 23 [.b] [.i (.v 1), .i (.v 2), .i (.v 3), .i (.v 4), .i (.v 5), .i (.v 6)] <|
.call 24 [.b] [.i (.v 1), .i (.v 2), .i (.v 3), .i (.v 4), .i (.v 5), .i (.v 6)] <|
.ite (.not (.eqv (.v 33) (.v 34))) (.ret (.bool .f)) <|
.call 17 [.b] [] <|
.ite (.not (.v 35)) (.ret (.bool .f)) <|
.call 25 [.b] [.l (.v 15)] <|
.ite (.not (.v 36)) (.ite (.not (.cmp .eq (.v 22) (.z 3))) (.ret (.bool .f)) <|
.ite (.not (.and (.cmp .eq (.v 16) (.z 0)) (.and (.cmp .eq (.v 17) (.z 0)) (.and (.cmp .eq (.v 18) (.z 0)) (.and (.cmp .eq (.v 19) (.z 0)) (.and (.cmp .eq (.v 20) (.z 0)) (.cmp .eq (.v 21) (.z 0)))))))) (.ret (.bool .f)) <|
.call 24 [.b] [.i (.v 1), .i (.v 2), .i (.v 3), .i (.v 4), .i (.v 5), .i (.v 6)] <|
.ite (.not (.v 37)) (.ite (.cmp .eq (.v 29) (.z 1)) (.ite (.cmp .eq (.v 32) (.z 1)) (.ite (.and (.cmp .eq (.v 23) (.z 0)) (.and (.cmp .eq (.v 24) (.z 0)) (.and (.cmp .eq (.v 25) (.z 0)) (.and (.cmp .eq (.v 26) (.z 0)) (.and (.cmp .eq (.v 27) (.z 0)) (.cmp .eq (.v 28) (.z 0))))))) (.ret (.bool (.and (.cmp .eq (.v 30) (.z 0)) (.cmp .eq (.v 31) (.z 0))))) <|
.ret (.bool .f)) <|
.ret (.bool .f)) <|
.ret (.bool .f)) <|
.ite (.cmp .eq (.v 1) (.z 0)) (.ite (.not (.cmp .eq (.v 32) (.z 6))) (.ret (.bool .f)) <|
.ite (.not (.and (.cmp .eq (.v 30) (.z 0)) (.cmp .eq (.v 31) (.z 0)))) (.ret (.bool .f)) <|
.call 24 [.b] [.i (.v 7), .i (.v 8), .i (.v 9), .i (.v 10), .i (.v 11), .i (.v 12)] <|
.ite (.not (.v 38)) (.ite (.cmp .eq (.v 29) (.z 1)) (.ret (.bool (.and (.cmp .eq (.v 23) (.z 0)) (.and (.cmp .eq (.v 24) (.z 0)) (.and (.cmp .eq (.v 25) (.z 0)) (.and (.cmp .eq (.v 26) (.z 0)) (.and (.cmp .eq (.v 27) (.z 0)) (.cmp .eq (.v 28) (.z 0))))))))) <|
.ret (.bool .f)) <|
.lett (.add (.v 1) (.v 7)) <|
.ite (.cmp .lt (.z 1000000000) (.v 39)) (.ite (.cmp .eq (.v 29) (.z 11)) (.ret (.bool (.and (.cmp .eq (.v 23) (.z 0)) (.and (.cmp .eq (.v 24) (.z 0)) (.and (.cmp .eq (.v 25) (.z 0)) (.and (.cmp .eq (.v 26) (.z 0)) (.and (.cmp .eq (.v 27) (.z 0)) (.cmp .eq (.v 28) (.z 0))))))))) <|
.ret (.bool .f)) <|
.ite (.cmp .eq (.v 29) (.z 0)) (.call 28 [.i (some ((-9223372036854775808), 9223372036854775807)), .i (some ((-9223372036854775808), 9223372036854775807)), .i (some (0, 18446744073709551615)), .i (some (0, 18446744073709551615)), .i (some ((-9223372036854775808), 9223372036854775807)), .i (some ((-9223372036854775808), 9223372036854775807))] [.i (.v 1), .i (.v 2), .i (.v 3), .i (.v 4), .i (.v 5), .i (.v 6), .i (.v 7), .i (.v 8), .i (.v 9), .i (.v 10), .i (.v 11), .i (.v 12)] <|
.ret (.bool (.and (.cmp .eq (.v 23) (.v 40)) (.and (.cmp .eq (.v 24) (.v 41)) (.and (.cmp .eq (.v 25) (.v 42)) (.and (.cmp .eq (.v 26) (.v 43)) (.and (.cmp .eq (.v 27) (.v 44)) (.cmp .eq (.v 28) (.v 45))))))))) <|
.ret (.bool .f)) <|
.ite (.not (.cmp .eq (.v 32) (.z 0))) (.ret (.bool .f)) <|
.call 27 [.i (some (0, 18446744073709551615)), .i (some (0, 18446744073709551615))] [.i (.v 1), .i (.v 2), .i (.v 3), .i (.v 4), .i (.v 5), .i (.v 6)] <|
.ite (.not (.and (.cmp .eq (.v 30) (.v 38)) (.cmp .eq (.v 31) (.v 39)))) (.ret (.bool .f)) <|
.call 24 [.b] [.i (.v 7), .i (.v 8), .i (.v 9), .i (.v 10), .i (.v 11), .i (.v 12)] <|
.ite (.not (.v 40)) (.ite (.cmp .eq (.v 29) (.z 1)) (.ret (.bool (.and (.cmp .eq (.v 23) (.z 0)) (.and (.cmp .eq (.v 24) (.z 0)) (.and (.cmp .eq (.v 25) (.z 0)) (.and (.cmp .eq (.v 26) (.z 0)) (.and (.cmp .eq (.v 27) (.z 0)) (.cmp .eq (.v 28) (.z 0))))))))) <|
.ret (.bool .f)) <|
.lett (.addw .i64 (.v 1) (.v 7)) <|
.ite (.cmp .lt (.z 1000000000) (.v 41)) (.ite (.cmp .eq (.v 29) (.z 11)) (.ret (.bool (.and (.cmp .eq (.v 23) (.z 0)) (.and (.cmp .eq (.v 24) (.z 0)) (.and (.cmp .eq (.v 25) (.z 0)) (.and (.cmp .eq (.v 26) (.z 0)) (.and (.cmp .eq (.v 27) (.z 0)) (.cmp .eq (.v 28) (.z 0))))))))) <|
.ret (.bool .f)) <|
.ite (.cmp .eq (.v 29) (.z 0)) (.call 28 [.i (some ((-9223372036854775808), 9223372036854775807)), .i (some ((-9223372036854775808), 9223372036854775807)), .i (some (0, 18446744073709551615)), .i (some (0, 18446744073709551615)), .i (some ((-9223372036854775808), 9223372036854775807)), .i (some ((-9223372036854775808), 9223372036854775807))] [.i (.v 1), .i (.v 2), .i (.v 3), .i (.v 4), .i (.v 5), .i (.v 6), .i (.v 7), .i (.v 8), .i (.v 9), .i (.v 10), .i (.v 11), .i (.v 12)] <|
.ret (.bool (.and (.cmp .eq (.v 23) (.v 42)) (.and (.cmp .eq (.v 24) (.v 43)) (.and (.cmp .eq (.v 25) (.v 44)) (.and (.cmp .eq (.v 26) (.v 45)) (.and (.cmp .eq (.v 27) (.v 46)) (.cmp .eq (.v 28) (.v 47))))))))) <|
.ret (.bool .f)) <|
.ite (.not (.cmp .eq (.v 22) (.z 0))) (.ret (.bool .f)) <|
.call 26 [.i (some ((-9223372036854775808), 9223372036854775807)), .i (some ((-9223372036854775808), 9223372036854775807)), .i (some (0, 18446744073709551615)), .i (some (0, 18446744073709551615)), .i (some ((-9223372036854775808), 9223372036854775807)), .i (some ((-9223372036854775808), 9223372036854775807))] [.l (.v 15)] <|
.ite (.not (.and (.cmp .eq (.v 16) (.v 37)) (.and (.cmp .eq (.v 17) (.v 38)) (.and (.cmp .eq (.v 18) (.v 39)) (.and (.cmp .eq (.v 19) (.v 40)) (.and (.cmp .eq (.v 20) (.v 41)) (.cmp .eq (.v 21) (.v 42)))))))) (.ret (.bool .f)) <|
.call 23 [.b] [.i (.v 16), .i (.v 17), .i (.v 18), .i (.v 19), .i (.v 20), .i (.v 21)] <|
.ite (.not (.v 43)) (.ret (.bool .f)) <|
.call 24 [.b] [.i (.v 1), .i (.v 2), .i (.v 3), .i (.v 4), .i (.v 5), .i (.v 6)] <|
.ite (.not (.v 44)) (.ite (.cmp .eq (.v 29) (.z 1)) (.ite (.cmp .eq (.v 32) (.z 1)) (.ite (.and (.cmp .eq (.v 23) (.z 0)) (.and (.cmp .eq (.v 24) (.z 0)) (.and (.cmp .eq (.v 25) (.z 0)) (.and (.cmp .eq (.v 26) (.z 0)) (.and (.cmp .eq (.v 27) (.z 0)) (.cmp .eq (.v 28) (.z 0))))))) (.ret (.bool (.and (.cmp .eq (.v 30) (.z 0)) (.cmp .eq (.v 31) (.z 0))))) <|
.ret (.bool .f)) <|
.ret (.bool .f)) <|
.ret (.bool .f)) <|
.ite (.cmp .eq (.v 1) (.z 0)) (.ite (.not (.cmp .eq (.v 32) (.z 6))) (.ret (.bool .f)) <|
.ite (.not (.and (.cmp .eq (.v 30) (.z 0)) (.cmp .eq (.v 31) (.z 0)))) (.ret (.bool .f)) <|
.call 24 [.b] [.i (.v 7), .i (.v 8), .i (.v 9), .i (.v 10), .i (.v 11), .i (.v 12)] <|
.ite (.not (.v 45)) (.ite (.cmp .eq (.v 29) (.z 1)) (.ret (.bool (.and (.cmp .eq (.v 23) (.z 0)) (.and (.cmp .eq (.v 24) (.z 0)) (.and (.cmp .eq (.v 25) (.z 0)) (.and (.cmp .eq (.v 26) (.z 0)) (.and (.cmp .eq (.v 27) (.z 0)) (.cmp .eq (.v 28) (.z 0))))))))) <|
.ret (.bool .f)) <|
.lett (.add (.v 1) (.v 7)) <|
.ite (.cmp .lt (.z 1000000000) (.v 46)) (.ite (.cmp .eq (.v 29) (.z 11)) (.ret (.bool (.and (.cmp .eq (.v 23) (.z 0)) (.and (.cmp .eq (.v 24) (.z 0)) (.and (.cmp .eq (.v 25) (.z 0)) (.and (.cmp .eq (.v 26) (.z 0)) (.and (.cmp .eq (.v 27) (.z 0)) (.cmp .eq (.v 28) (.z 0))))))))) <|
.ret (.bool .f)) <|
.ite (.cmp .eq (.v 29) (.z 0)) (.call 28 [.i (some ((-9223372036854775808), 9223372036854775807)), .i (some ((-9223372036854775808), 9223372036854775807)), .i (some (0, 18446744073709551615)), .i (some (0, 18446744073709551615)), .i (some ((-9223372036854775808), 9223372036854775807)), .i (some ((-9223372036854775808), 9223372036854775807))] [.i (.v 1), .i (.v 2), .i (.v 3), .i (.v 4), .i (.v 5), .i (.v 6), .i (.v 7), .i (.v 8), .i (.v 9), .i (.v 10), .i (.v 11), .i (.v 12)] <|
.ret (.bool (.and (.cmp .eq (.v 23) (.v 47)) (.and (.cmp .eq (.v 24) (.v 48)) (.and (.cmp .eq (.v 25) (.v 49)) (.and (.cmp .eq (.v 26) (.v 50)) (.and (.cmp .eq (.v 27) (.v 51)) (.cmp .eq (.v 28) (.v 52))))))))) <|
.ret (.bool .f)) <|
.ite (.not (.cmp .eq (.v 32) (.z 0))) (.ret (.bool .f)) <|
.call 27 [.i (some (0, 18446744073709551615)), .i (some (0, 18446744073709551615))] [.i (.v 1), .i (.v 2), .i (.v 3), .i (.v 4), .i (.v 5), .i (.v 6)] <|
.ite (.not (.and (.cmp .eq (.v 30) (.v 45)) (.cmp .eq (.v 31) (.v 46)))) (.ret (.bool .f)) <|
.call 24 [.b] [.i (.v 7), .i (.v 8), .i (.v 9), .i (.v 10), .i (.v 11), .i (.v 12)] <|
.ite (.not (.v 47)) (.ite (.cmp .eq (.v 29) (.z 1)) (.ret (.bool (.and (.cmp .eq (.v 23) (.z 0)) (.and (.cmp .eq (.v 24) (.z 0)) (.and (.cmp .eq (.v 25) (.z 0)) (.and (.cmp .eq (.v 26) (.z 0)) (.and (.cmp .eq (.v 27) (.z 0)) (.cmp .eq (.v 28) (.z 0))))))))) <|
.ret (.bool .f)) <|
.lett (.addw .i64 (.v 1) (.v 7)) <|
.ite (.cmp .lt (.z 1000000000) (.v 48)) (.ite (.cmp .eq (.v 29) (.z 11)) (.ret (.bool (.and (.cmp .eq (.v 23) (.z 0)) (.and (.cmp .eq (.v 24) (.z 0)) (.and (.cmp .eq (.v 25) (.z 0)) (.and (.cmp .eq (.v 26) (.z 0)) (.and (.cmp .eq (.v 27) (.z 0)) (.cmp .eq (.v 28) (.z 0))))))))) <|
.ret (.bool .f)) <|
.ite (.cmp .eq (.v 29) (.z 0)) (.call 28 [.i (some ((-9223372036854775808), 9223372036854775807)), .i (some ((-9223372036854775808), 9223372036854775807)), .i (some (0, 18446744073709551615)), .i (some (0, 18446744073709551615)), .i (some ((-9223372036854775808), 9223372036854775807)), .i (some ((-9223372036854775808), 9223372036854775807))] [.i (.v 1), .i (.v 2), .i (.v 3), .i (.v 4), .i (.v 5), .i (.v 6), .i (.v 7), .i (.v 8), .i (.v 9), .i (.v 10), .i (.v 11), .i (.v 12)] <|
.ret (.bool (.and (.cmp .eq (.v 23) (.v 49)) (.and (.cmp .eq (.v 24) (.v 50)) (.and (.cmp .eq (.v 25) (.v 51)) (.and (.cmp .eq (.v 26) (.v 52)) (.and (.cmp .eq (.v 27) (.v 53)) (.cmp .eq (.v 28) (.v 54))))))))) <|
.ret (.bool .f)) <|
.bad 120
noncomputable def lstell_cx : Ctx := { tys := tys, fns := fns, sps := [(15, sof_sp), (22, sjn_sp), (16, sspread_sp), (23, sright_sp), (17, s11al_sp), (24, r11right_sp), (27, r11sp_sp), (28, r11join_sp), (25, r11in_sp), (26, r11of_sp)], anns := [], trys := [] }
def lstell_ivs : List (Option (Int × Int)) := [none, some ((-9223372036854775808), 9223372036854775807), some ((-9223372036854775808), 9223372036854775807), some (0, 18446744073709551615), some (0, 18446744073709551615), some ((-9223372036854775808), 9223372036854775807), some ((-9223372036854775808), 9223372036854775807), some ((-9223372036854775808), 9223372036854775807), some ((-9223372036854775808), 9223372036854775807), some (0, 18446744073709551615), some (0, 18446744073709551615), some ((-9223372036854775808), 9223372036854775807), some ((-9223372036854775808), 9223372036854775807)]
set_option maxRecDepth 100000 in
theorem lstell_walk : runFn lstell_cx 3000 7 Try.f7 lstell_sp.args lstell_ivs = lstell_tree := by kernel_rfl
noncomputable def lstell_M : Nat → SpecSem
  | 15 => sof_sem
  | 22 => sjn_sem
  | 16 => sspread_sem
  | 23 => sright_sem
  | 17 => s11al_sem
  | 24 => r11right_sem
  | 27 => r11sp_sem
  | 28 => r11join_sem
  | 25 => r11in_sem
  | 26 => r11of_sem
  | _ => noSem
theorem lstell_M15 : lstell_M 15 = sof_sem := rfl
theorem lstell_M22 : lstell_M 22 = sjn_sem := rfl
theorem lstell_M16 : lstell_M 16 = sspread_sem := rfl
theorem lstell_M23 : lstell_M 23 = sright_sem := rfl
theorem lstell_M17 : lstell_M 17 = s11al_sem := rfl
theorem lstell_M24 : lstell_M 24 = r11right_sem := rfl
theorem lstell_M27 : lstell_M 27 = r11sp_sem := rfl
theorem lstell_M28 : lstell_M 28 = r11join_sem := rfl
theorem lstell_M25 : lstell_M 25 = r11in_sem := rfl
theorem lstell_M26 : lstell_M 26 = r11of_sem := rfl
theorem lstell_cxok : CxOK Try.prog lstell_cx lstell_M := ⟨tysOK, fnsOK, spCons sof_ok <| spCons sjn_ok <| spCons sspread_ok <| spCons sright_ok <| spCons s11al_ok <| spCons r11right_ok <| spCons r11sp_ok <| spCons r11join_ok <| spCons r11in_ok <| spCons r11of_ok <| fun _ _ h => spNil h, mixedOK, fun _ _ h => trNil h⟩
set_option maxRecDepth 100000 in
set_option maxHeartbeats 8000000 in
theorem lstell_den (R RP : Value → Prop) (F : Ex → St → Js → Env → Prop) (J : Js) (x0 : List Int) (x1 : Int) (x2 : Int) (x3 : Int) (x4 : Int) (x5 : Int) (x6 : Int) (x7 : Int) (x8 : Int) (x9 : Int) (x10 : Int) (x11 : Int) (x12 : Int) : Tree.den lstell_M R RP F lstell_tree J [(.l x0), (.i x1), (.i x2), (.i x3), (.i x4), (.i x5), (.i x6), (.i x7), (.i x8), (.i x9), (.i x10), (.i x11), (.i x12)] = (
  ∀ x13 : Int, x13 = ((List.length x0 : Int)) →
∀ x14 : Int, x14 = (if (Cmp.den .lt (200 : Int) x13) = true then (200 : Int) else x13) →
((Cmp.den .le x14 x13) = true → ∀ x15 : List Int, x15 = (List.take (Int.toNat x14 - Int.toNat (0 : Int)) (List.drop (Int.toNat (0 : Int)) x0)) →
(sof_sem.pre [(.l (x15))]) ∧ (
∀ x16 : Int, x16 = (Cv.int (Env.get (sof_sem.out [(.l (x15))]) 0)) → (-9223372036854775808 : Int) ≤ x16 → x16 ≤ (9223372036854775807 : Int) →
∀ x17 : Int, x17 = (Cv.int (Env.get (sof_sem.out [(.l (x15))]) 1)) → (-9223372036854775808 : Int) ≤ x17 → x17 ≤ (9223372036854775807 : Int) →
∀ x18 : Int, x18 = (Cv.int (Env.get (sof_sem.out [(.l (x15))]) 2)) → (0 : Int) ≤ x18 → x18 ≤ (18446744073709551615 : Int) →
∀ x19 : Int, x19 = (Cv.int (Env.get (sof_sem.out [(.l (x15))]) 3)) → (0 : Int) ≤ x19 → x19 ≤ (18446744073709551615 : Int) →
∀ x20 : Int, x20 = (Cv.int (Env.get (sof_sem.out [(.l (x15))]) 4)) → (-9223372036854775808 : Int) ≤ x20 → x20 ≤ (9223372036854775807 : Int) →
∀ x21 : Int, x21 = (Cv.int (Env.get (sof_sem.out [(.l (x15))]) 5)) → (-9223372036854775808 : Int) ≤ x21 → x21 ≤ (9223372036854775807 : Int) →
∀ x22 : Int, x22 = (Cv.int (Env.get (sof_sem.out [(.l (x15))]) 6)) → (-9223372036854775808 : Int) ≤ x22 → x22 ≤ (9223372036854775807 : Int) →
(sjn_sem.pre [(.i x1), (.i x2), (.i x3), (.i x4), (.i x5), (.i x6), (.i x7), (.i x8), (.i x9), (.i x10), (.i x11), (.i x12)]) ∧ (
∀ x23 : Int, x23 = (Cv.int (Env.get (sjn_sem.out [(.i x1), (.i x2), (.i x3), (.i x4), (.i x5), (.i x6), (.i x7), (.i x8), (.i x9), (.i x10), (.i x11), (.i x12)]) 0)) → (-9223372036854775808 : Int) ≤ x23 → x23 ≤ (9223372036854775807 : Int) →
∀ x24 : Int, x24 = (Cv.int (Env.get (sjn_sem.out [(.i x1), (.i x2), (.i x3), (.i x4), (.i x5), (.i x6), (.i x7), (.i x8), (.i x9), (.i x10), (.i x11), (.i x12)]) 1)) → (-9223372036854775808 : Int) ≤ x24 → x24 ≤ (9223372036854775807 : Int) →
∀ x25 : Int, x25 = (Cv.int (Env.get (sjn_sem.out [(.i x1), (.i x2), (.i x3), (.i x4), (.i x5), (.i x6), (.i x7), (.i x8), (.i x9), (.i x10), (.i x11), (.i x12)]) 2)) → (0 : Int) ≤ x25 → x25 ≤ (18446744073709551615 : Int) →
∀ x26 : Int, x26 = (Cv.int (Env.get (sjn_sem.out [(.i x1), (.i x2), (.i x3), (.i x4), (.i x5), (.i x6), (.i x7), (.i x8), (.i x9), (.i x10), (.i x11), (.i x12)]) 3)) → (0 : Int) ≤ x26 → x26 ≤ (18446744073709551615 : Int) →
∀ x27 : Int, x27 = (Cv.int (Env.get (sjn_sem.out [(.i x1), (.i x2), (.i x3), (.i x4), (.i x5), (.i x6), (.i x7), (.i x8), (.i x9), (.i x10), (.i x11), (.i x12)]) 4)) → (-9223372036854775808 : Int) ≤ x27 → x27 ≤ (9223372036854775807 : Int) →
∀ x28 : Int, x28 = (Cv.int (Env.get (sjn_sem.out [(.i x1), (.i x2), (.i x3), (.i x4), (.i x5), (.i x6), (.i x7), (.i x8), (.i x9), (.i x10), (.i x11), (.i x12)]) 5)) → (-9223372036854775808 : Int) ≤ x28 → x28 ≤ (9223372036854775807 : Int) →
∀ x29 : Int, x29 = (Cv.int (Env.get (sjn_sem.out [(.i x1), (.i x2), (.i x3), (.i x4), (.i x5), (.i x6), (.i x7), (.i x8), (.i x9), (.i x10), (.i x11), (.i x12)]) 6)) → (-9223372036854775808 : Int) ≤ x29 → x29 ≤ (9223372036854775807 : Int) →
(sspread_sem.pre [(.i x1), (.i x2), (.i x3), (.i x4), (.i x5), (.i x6)]) ∧ (
∀ x30 : Int, x30 = (Cv.int (Env.get (sspread_sem.out [(.i x1), (.i x2), (.i x3), (.i x4), (.i x5), (.i x6)]) 0)) → (0 : Int) ≤ x30 → x30 ≤ (18446744073709551615 : Int) →
∀ x31 : Int, x31 = (Cv.int (Env.get (sspread_sem.out [(.i x1), (.i x2), (.i x3), (.i x4), (.i x5), (.i x6)]) 1)) → (0 : Int) ≤ x31 → x31 ≤ (18446744073709551615 : Int) →
∀ x32 : Int, x32 = (Cv.int (Env.get (sspread_sem.out [(.i x1), (.i x2), (.i x3), (.i x4), (.i x5), (.i x6)]) 2)) → (-9223372036854775808 : Int) ≤ x32 → x32 ≤ (9223372036854775807 : Int) →
(sright_sem.pre [(.i x1), (.i x2), (.i x3), (.i x4), (.i x5), (.i x6)]) ∧ (
(r11right_sem.pre [(.i x1), (.i x2), (.i x3), (.i x4), (.i x5), (.i x6)]) ∧ (
((!((Cv.bool (Env.get (sright_sem.out [(.i x1), (.i x2), (.i x3), (.i x4), (.i x5), (.i x6)]) 0)) == (Cv.bool (Env.get (r11right_sem.out [(.i x1), (.i x2), (.i x3), (.i x4), (.i x5), (.i x6)]) 0)))) = true → R (Value.bool false)) ∧ ((!((Cv.bool (Env.get (sright_sem.out [(.i x1), (.i x2), (.i x3), (.i x4), (.i x5), (.i x6)]) 0)) == (Cv.bool (Env.get (r11right_sem.out [(.i x1), (.i x2), (.i x3), (.i x4), (.i x5), (.i x6)]) 0)))) = false → (s11al_sem.pre []) ∧ (
((!(Cv.bool (Env.get (s11al_sem.out []) 0))) = true → R (Value.bool false)) ∧ ((!(Cv.bool (Env.get (s11al_sem.out []) 0))) = false → (r11in_sem.pre [(.l (x15))]) ∧ (
((!(Cv.bool (Env.get (r11in_sem.out [(.l (x15))]) 0))) = true → ((!(Cmp.den .eq x22 (3 : Int))) = true → R (Value.bool false)) ∧ ((!(Cmp.den .eq x22 (3 : Int))) = false → ((!((Cmp.den .eq x16 (0 : Int)) && ((Cmp.den .eq x17 (0 : Int)) && ((Cmp.den .eq x18 (0 : Int)) && ((Cmp.den .eq x19 (0 : Int)) && ((Cmp.den .eq x20 (0 : Int)) && (Cmp.den .eq x21 (0 : Int)))))))) = true → R (Value.bool false)) ∧ ((!((Cmp.den .eq x16 (0 : Int)) && ((Cmp.den .eq x17 (0 : Int)) && ((Cmp.den .eq x18 (0 : Int)) && ((Cmp.den .eq x19 (0 : Int)) && ((Cmp.den .eq x20 (0 : Int)) && (Cmp.den .eq x21 (0 : Int)))))))) = false → (r11right_sem.pre [(.i x1), (.i x2), (.i x3), (.i x4), (.i x5), (.i x6)]) ∧ (
((!(Cv.bool (Env.get (r11right_sem.out [(.i x1), (.i x2), (.i x3), (.i x4), (.i x5), (.i x6)]) 0))) = true → ((Cmp.den .eq x29 (1 : Int)) = true → ((Cmp.den .eq x32 (1 : Int)) = true → (((Cmp.den .eq x23 (0 : Int)) && ((Cmp.den .eq x24 (0 : Int)) && ((Cmp.den .eq x25 (0 : Int)) && ((Cmp.den .eq x26 (0 : Int)) && ((Cmp.den .eq x27 (0 : Int)) && (Cmp.den .eq x28 (0 : Int))))))) = true → R (Value.bool ((Cmp.den .eq x30 (0 : Int)) && (Cmp.den .eq x31 (0 : Int))))) ∧ (((Cmp.den .eq x23 (0 : Int)) && ((Cmp.den .eq x24 (0 : Int)) && ((Cmp.den .eq x25 (0 : Int)) && ((Cmp.den .eq x26 (0 : Int)) && ((Cmp.den .eq x27 (0 : Int)) && (Cmp.den .eq x28 (0 : Int))))))) = false → R (Value.bool false))) ∧ ((Cmp.den .eq x32 (1 : Int)) = false → R (Value.bool false))) ∧ ((Cmp.den .eq x29 (1 : Int)) = false → R (Value.bool false))) ∧ ((!(Cv.bool (Env.get (r11right_sem.out [(.i x1), (.i x2), (.i x3), (.i x4), (.i x5), (.i x6)]) 0))) = false → ((Cmp.den .eq x1 (0 : Int)) = true → ((!(Cmp.den .eq x32 (6 : Int))) = true → R (Value.bool false)) ∧ ((!(Cmp.den .eq x32 (6 : Int))) = false → ((!((Cmp.den .eq x30 (0 : Int)) && (Cmp.den .eq x31 (0 : Int)))) = true → R (Value.bool false)) ∧ ((!((Cmp.den .eq x30 (0 : Int)) && (Cmp.den .eq x31 (0 : Int)))) = false → (r11right_sem.pre [(.i x7), (.i x8), (.i x9), (.i x10), (.i x11), (.i x12)]) ∧ (
((!(Cv.bool (Env.get (r11right_sem.out [(.i x7), (.i x8), (.i x9), (.i x10), (.i x11), (.i x12)]) 0))) = true → ((Cmp.den .eq x29 (1 : Int)) = true → R (Value.bool ((Cmp.den .eq x23 (0 : Int)) && ((Cmp.den .eq x24 (0 : Int)) && ((Cmp.den .eq x25 (0 : Int)) && ((Cmp.den .eq x26 (0 : Int)) && ((Cmp.den .eq x27 (0 : Int)) && (Cmp.den .eq x28 (0 : Int))))))))) ∧ ((Cmp.den .eq x29 (1 : Int)) = false → R (Value.bool false))) ∧ ((!(Cv.bool (Env.get (r11right_sem.out [(.i x7), (.i x8), (.i x9), (.i x10), (.i x11), (.i x12)]) 0))) = false → ∀ x39 : Int, x39 = (x1 + x7) →
((Cmp.den .lt (1000000000 : Int) x39) = true → ((Cmp.den .eq x29 (11 : Int)) = true → R (Value.bool ((Cmp.den .eq x23 (0 : Int)) && ((Cmp.den .eq x24 (0 : Int)) && ((Cmp.den .eq x25 (0 : Int)) && ((Cmp.den .eq x26 (0 : Int)) && ((Cmp.den .eq x27 (0 : Int)) && (Cmp.den .eq x28 (0 : Int))))))))) ∧ ((Cmp.den .eq x29 (11 : Int)) = false → R (Value.bool false))) ∧ ((Cmp.den .lt (1000000000 : Int) x39) = false → ((Cmp.den .eq x29 (0 : Int)) = true → (r11join_sem.pre [(.i x1), (.i x2), (.i x3), (.i x4), (.i x5), (.i x6), (.i x7), (.i x8), (.i x9), (.i x10), (.i x11), (.i x12)]) ∧ (
∀ x40 : Int, x40 = (Cv.int (Env.get (r11join_sem.out [(.i x1), (.i x2), (.i x3), (.i x4), (.i x5), (.i x6), (.i x7), (.i x8), (.i x9), (.i x10), (.i x11), (.i x12)]) 0)) → (-9223372036854775808 : Int) ≤ x40 → x40 ≤ (9223372036854775807 : Int) →
∀ x41 : Int, x41 = (Cv.int (Env.get (r11join_sem.out [(.i x1), (.i x2), (.i x3), (.i x4), (.i x5), (.i x6), (.i x7), (.i x8), (.i x9), (.i x10), (.i x11), (.i x12)]) 1)) → (-9223372036854775808 : Int) ≤ x41 → x41 ≤ (9223372036854775807 : Int) →
∀ x42 : Int, x42 = (Cv.int (Env.get (r11join_sem.out [(.i x1), (.i x2), (.i x3), (.i x4), (.i x5), (.i x6), (.i x7), (.i x8), (.i x9), (.i x10), (.i x11), (.i x12)]) 2)) → (0 : Int) ≤ x42 → x42 ≤ (18446744073709551615 : Int) →
∀ x43 : Int, x43 = (Cv.int (Env.get (r11join_sem.out [(.i x1), (.i x2), (.i x3), (.i x4), (.i x5), (.i x6), (.i x7), (.i x8), (.i x9), (.i x10), (.i x11), (.i x12)]) 3)) → (0 : Int) ≤ x43 → x43 ≤ (18446744073709551615 : Int) →
∀ x44 : Int, x44 = (Cv.int (Env.get (r11join_sem.out [(.i x1), (.i x2), (.i x3), (.i x4), (.i x5), (.i x6), (.i x7), (.i x8), (.i x9), (.i x10), (.i x11), (.i x12)]) 4)) → (-9223372036854775808 : Int) ≤ x44 → x44 ≤ (9223372036854775807 : Int) →
∀ x45 : Int, x45 = (Cv.int (Env.get (r11join_sem.out [(.i x1), (.i x2), (.i x3), (.i x4), (.i x5), (.i x6), (.i x7), (.i x8), (.i x9), (.i x10), (.i x11), (.i x12)]) 5)) → (-9223372036854775808 : Int) ≤ x45 → x45 ≤ (9223372036854775807 : Int) →
R (Value.bool ((Cmp.den .eq x23 x40) && ((Cmp.den .eq x24 x41) && ((Cmp.den .eq x25 x42) && ((Cmp.den .eq x26 x43) && ((Cmp.den .eq x27 x44) && (Cmp.den .eq x28 x45))))))))) ∧ ((Cmp.den .eq x29 (0 : Int)) = false → R (Value.bool false)))))))) ∧ ((Cmp.den .eq x1 (0 : Int)) = false → ((!(Cmp.den .eq x32 (0 : Int))) = true → R (Value.bool false)) ∧ ((!(Cmp.den .eq x32 (0 : Int))) = false → (r11sp_sem.pre [(.i x1), (.i x2), (.i x3), (.i x4), (.i x5), (.i x6)]) ∧ (
∀ x38 : Int, x38 = (Cv.int (Env.get (r11sp_sem.out [(.i x1), (.i x2), (.i x3), (.i x4), (.i x5), (.i x6)]) 0)) → (0 : Int) ≤ x38 → x38 ≤ (18446744073709551615 : Int) →
∀ x39 : Int, x39 = (Cv.int (Env.get (r11sp_sem.out [(.i x1), (.i x2), (.i x3), (.i x4), (.i x5), (.i x6)]) 1)) → (0 : Int) ≤ x39 → x39 ≤ (18446744073709551615 : Int) →
((!((Cmp.den .eq x30 x38) && (Cmp.den .eq x31 x39))) = true → R (Value.bool false)) ∧ ((!((Cmp.den .eq x30 x38) && (Cmp.den .eq x31 x39))) = false → (r11right_sem.pre [(.i x7), (.i x8), (.i x9), (.i x10), (.i x11), (.i x12)]) ∧ (
((!(Cv.bool (Env.get (r11right_sem.out [(.i x7), (.i x8), (.i x9), (.i x10), (.i x11), (.i x12)]) 0))) = true → ((Cmp.den .eq x29 (1 : Int)) = true → R (Value.bool ((Cmp.den .eq x23 (0 : Int)) && ((Cmp.den .eq x24 (0 : Int)) && ((Cmp.den .eq x25 (0 : Int)) && ((Cmp.den .eq x26 (0 : Int)) && ((Cmp.den .eq x27 (0 : Int)) && (Cmp.den .eq x28 (0 : Int))))))))) ∧ ((Cmp.den .eq x29 (1 : Int)) = false → R (Value.bool false))) ∧ ((!(Cv.bool (Env.get (r11right_sem.out [(.i x7), (.i x8), (.i x9), (.i x10), (.i x11), (.i x12)]) 0))) = false → ∀ x41 : Int, x41 = (IntKind.i64.wrap (x1 + x7)) →
((Cmp.den .lt (1000000000 : Int) x41) = true → ((Cmp.den .eq x29 (11 : Int)) = true → R (Value.bool ((Cmp.den .eq x23 (0 : Int)) && ((Cmp.den .eq x24 (0 : Int)) && ((Cmp.den .eq x25 (0 : Int)) && ((Cmp.den .eq x26 (0 : Int)) && ((Cmp.den .eq x27 (0 : Int)) && (Cmp.den .eq x28 (0 : Int))))))))) ∧ ((Cmp.den .eq x29 (11 : Int)) = false → R (Value.bool false))) ∧ ((Cmp.den .lt (1000000000 : Int) x41) = false → ((Cmp.den .eq x29 (0 : Int)) = true → (r11join_sem.pre [(.i x1), (.i x2), (.i x3), (.i x4), (.i x5), (.i x6), (.i x7), (.i x8), (.i x9), (.i x10), (.i x11), (.i x12)]) ∧ (
∀ x42 : Int, x42 = (Cv.int (Env.get (r11join_sem.out [(.i x1), (.i x2), (.i x3), (.i x4), (.i x5), (.i x6), (.i x7), (.i x8), (.i x9), (.i x10), (.i x11), (.i x12)]) 0)) → (-9223372036854775808 : Int) ≤ x42 → x42 ≤ (9223372036854775807 : Int) →
∀ x43 : Int, x43 = (Cv.int (Env.get (r11join_sem.out [(.i x1), (.i x2), (.i x3), (.i x4), (.i x5), (.i x6), (.i x7), (.i x8), (.i x9), (.i x10), (.i x11), (.i x12)]) 1)) → (-9223372036854775808 : Int) ≤ x43 → x43 ≤ (9223372036854775807 : Int) →
∀ x44 : Int, x44 = (Cv.int (Env.get (r11join_sem.out [(.i x1), (.i x2), (.i x3), (.i x4), (.i x5), (.i x6), (.i x7), (.i x8), (.i x9), (.i x10), (.i x11), (.i x12)]) 2)) → (0 : Int) ≤ x44 → x44 ≤ (18446744073709551615 : Int) →
∀ x45 : Int, x45 = (Cv.int (Env.get (r11join_sem.out [(.i x1), (.i x2), (.i x3), (.i x4), (.i x5), (.i x6), (.i x7), (.i x8), (.i x9), (.i x10), (.i x11), (.i x12)]) 3)) → (0 : Int) ≤ x45 → x45 ≤ (18446744073709551615 : Int) →
∀ x46 : Int, x46 = (Cv.int (Env.get (r11join_sem.out [(.i x1), (.i x2), (.i x3), (.i x4), (.i x5), (.i x6), (.i x7), (.i x8), (.i x9), (.i x10), (.i x11), (.i x12)]) 4)) → (-9223372036854775808 : Int) ≤ x46 → x46 ≤ (9223372036854775807 : Int) →
∀ x47 : Int, x47 = (Cv.int (Env.get (r11join_sem.out [(.i x1), (.i x2), (.i x3), (.i x4), (.i x5), (.i x6), (.i x7), (.i x8), (.i x9), (.i x10), (.i x11), (.i x12)]) 5)) → (-9223372036854775808 : Int) ≤ x47 → x47 ≤ (9223372036854775807 : Int) →
R (Value.bool ((Cmp.den .eq x23 x42) && ((Cmp.den .eq x24 x43) && ((Cmp.den .eq x25 x44) && ((Cmp.den .eq x26 x45) && ((Cmp.den .eq x27 x46) && (Cmp.den .eq x28 x47))))))))) ∧ ((Cmp.den .eq x29 (0 : Int)) = false → R (Value.bool false)))))))))))))) ∧ ((!(Cv.bool (Env.get (r11in_sem.out [(.l (x15))]) 0))) = false → ((!(Cmp.den .eq x22 (0 : Int))) = true → R (Value.bool false)) ∧ ((!(Cmp.den .eq x22 (0 : Int))) = false → (r11of_sem.pre [(.l (x15))]) ∧ (
∀ x37 : Int, x37 = (Cv.int (Env.get (r11of_sem.out [(.l (x15))]) 0)) → (-9223372036854775808 : Int) ≤ x37 → x37 ≤ (9223372036854775807 : Int) →
∀ x38 : Int, x38 = (Cv.int (Env.get (r11of_sem.out [(.l (x15))]) 1)) → (-9223372036854775808 : Int) ≤ x38 → x38 ≤ (9223372036854775807 : Int) →
∀ x39 : Int, x39 = (Cv.int (Env.get (r11of_sem.out [(.l (x15))]) 2)) → (0 : Int) ≤ x39 → x39 ≤ (18446744073709551615 : Int) →
∀ x40 : Int, x40 = (Cv.int (Env.get (r11of_sem.out [(.l (x15))]) 3)) → (0 : Int) ≤ x40 → x40 ≤ (18446744073709551615 : Int) →
∀ x41 : Int, x41 = (Cv.int (Env.get (r11of_sem.out [(.l (x15))]) 4)) → (-9223372036854775808 : Int) ≤ x41 → x41 ≤ (9223372036854775807 : Int) →
∀ x42 : Int, x42 = (Cv.int (Env.get (r11of_sem.out [(.l (x15))]) 5)) → (-9223372036854775808 : Int) ≤ x42 → x42 ≤ (9223372036854775807 : Int) →
((!((Cmp.den .eq x16 x37) && ((Cmp.den .eq x17 x38) && ((Cmp.den .eq x18 x39) && ((Cmp.den .eq x19 x40) && ((Cmp.den .eq x20 x41) && (Cmp.den .eq x21 x42))))))) = true → R (Value.bool false)) ∧ ((!((Cmp.den .eq x16 x37) && ((Cmp.den .eq x17 x38) && ((Cmp.den .eq x18 x39) && ((Cmp.den .eq x19 x40) && ((Cmp.den .eq x20 x41) && (Cmp.den .eq x21 x42))))))) = false → (sright_sem.pre [(.i x16), (.i x17), (.i x18), (.i x19), (.i x20), (.i x21)]) ∧ (
((!(Cv.bool (Env.get (sright_sem.out [(.i x16), (.i x17), (.i x18), (.i x19), (.i x20), (.i x21)]) 0))) = true → R (Value.bool false)) ∧ ((!(Cv.bool (Env.get (sright_sem.out [(.i x16), (.i x17), (.i x18), (.i x19), (.i x20), (.i x21)]) 0))) = false → (r11right_sem.pre [(.i x1), (.i x2), (.i x3), (.i x4), (.i x5), (.i x6)]) ∧ (
((!(Cv.bool (Env.get (r11right_sem.out [(.i x1), (.i x2), (.i x3), (.i x4), (.i x5), (.i x6)]) 0))) = true → ((Cmp.den .eq x29 (1 : Int)) = true → ((Cmp.den .eq x32 (1 : Int)) = true → (((Cmp.den .eq x23 (0 : Int)) && ((Cmp.den .eq x24 (0 : Int)) && ((Cmp.den .eq x25 (0 : Int)) && ((Cmp.den .eq x26 (0 : Int)) && ((Cmp.den .eq x27 (0 : Int)) && (Cmp.den .eq x28 (0 : Int))))))) = true → R (Value.bool ((Cmp.den .eq x30 (0 : Int)) && (Cmp.den .eq x31 (0 : Int))))) ∧ (((Cmp.den .eq x23 (0 : Int)) && ((Cmp.den .eq x24 (0 : Int)) && ((Cmp.den .eq x25 (0 : Int)) && ((Cmp.den .eq x26 (0 : Int)) && ((Cmp.den .eq x27 (0 : Int)) && (Cmp.den .eq x28 (0 : Int))))))) = false → R (Value.bool false))) ∧ ((Cmp.den .eq x32 (1 : Int)) = false → R (Value.bool false))) ∧ ((Cmp.den .eq x29 (1 : Int)) = false → R (Value.bool false))) ∧ ((!(Cv.bool (Env.get (r11right_sem.out [(.i x1), (.i x2), (.i x3), (.i x4), (.i x5), (.i x6)]) 0))) = false → ((Cmp.den .eq x1 (0 : Int)) = true → ((!(Cmp.den .eq x32 (6 : Int))) = true → R (Value.bool false)) ∧ ((!(Cmp.den .eq x32 (6 : Int))) = false → ((!((Cmp.den .eq x30 (0 : Int)) && (Cmp.den .eq x31 (0 : Int)))) = true → R (Value.bool false)) ∧ ((!((Cmp.den .eq x30 (0 : Int)) && (Cmp.den .eq x31 (0 : Int)))) = false → (r11right_sem.pre [(.i x7), (.i x8), (.i x9), (.i x10), (.i x11), (.i x12)]) ∧ (
((!(Cv.bool (Env.get (r11right_sem.out [(.i x7), (.i x8), (.i x9), (.i x10), (.i x11), (.i x12)]) 0))) = true → ((Cmp.den .eq x29 (1 : Int)) = true → R (Value.bool ((Cmp.den .eq x23 (0 : Int)) && ((Cmp.den .eq x24 (0 : Int)) && ((Cmp.den .eq x25 (0 : Int)) && ((Cmp.den .eq x26 (0 : Int)) && ((Cmp.den .eq x27 (0 : Int)) && (Cmp.den .eq x28 (0 : Int))))))))) ∧ ((Cmp.den .eq x29 (1 : Int)) = false → R (Value.bool false))) ∧ ((!(Cv.bool (Env.get (r11right_sem.out [(.i x7), (.i x8), (.i x9), (.i x10), (.i x11), (.i x12)]) 0))) = false → ∀ x46 : Int, x46 = (x1 + x7) →
((Cmp.den .lt (1000000000 : Int) x46) = true → ((Cmp.den .eq x29 (11 : Int)) = true → R (Value.bool ((Cmp.den .eq x23 (0 : Int)) && ((Cmp.den .eq x24 (0 : Int)) && ((Cmp.den .eq x25 (0 : Int)) && ((Cmp.den .eq x26 (0 : Int)) && ((Cmp.den .eq x27 (0 : Int)) && (Cmp.den .eq x28 (0 : Int))))))))) ∧ ((Cmp.den .eq x29 (11 : Int)) = false → R (Value.bool false))) ∧ ((Cmp.den .lt (1000000000 : Int) x46) = false → ((Cmp.den .eq x29 (0 : Int)) = true → (r11join_sem.pre [(.i x1), (.i x2), (.i x3), (.i x4), (.i x5), (.i x6), (.i x7), (.i x8), (.i x9), (.i x10), (.i x11), (.i x12)]) ∧ (
∀ x47 : Int, x47 = (Cv.int (Env.get (r11join_sem.out [(.i x1), (.i x2), (.i x3), (.i x4), (.i x5), (.i x6), (.i x7), (.i x8), (.i x9), (.i x10), (.i x11), (.i x12)]) 0)) → (-9223372036854775808 : Int) ≤ x47 → x47 ≤ (9223372036854775807 : Int) →
∀ x48 : Int, x48 = (Cv.int (Env.get (r11join_sem.out [(.i x1), (.i x2), (.i x3), (.i x4), (.i x5), (.i x6), (.i x7), (.i x8), (.i x9), (.i x10), (.i x11), (.i x12)]) 1)) → (-9223372036854775808 : Int) ≤ x48 → x48 ≤ (9223372036854775807 : Int) →
∀ x49 : Int, x49 = (Cv.int (Env.get (r11join_sem.out [(.i x1), (.i x2), (.i x3), (.i x4), (.i x5), (.i x6), (.i x7), (.i x8), (.i x9), (.i x10), (.i x11), (.i x12)]) 2)) → (0 : Int) ≤ x49 → x49 ≤ (18446744073709551615 : Int) →
∀ x50 : Int, x50 = (Cv.int (Env.get (r11join_sem.out [(.i x1), (.i x2), (.i x3), (.i x4), (.i x5), (.i x6), (.i x7), (.i x8), (.i x9), (.i x10), (.i x11), (.i x12)]) 3)) → (0 : Int) ≤ x50 → x50 ≤ (18446744073709551615 : Int) →
∀ x51 : Int, x51 = (Cv.int (Env.get (r11join_sem.out [(.i x1), (.i x2), (.i x3), (.i x4), (.i x5), (.i x6), (.i x7), (.i x8), (.i x9), (.i x10), (.i x11), (.i x12)]) 4)) → (-9223372036854775808 : Int) ≤ x51 → x51 ≤ (9223372036854775807 : Int) →
∀ x52 : Int, x52 = (Cv.int (Env.get (r11join_sem.out [(.i x1), (.i x2), (.i x3), (.i x4), (.i x5), (.i x6), (.i x7), (.i x8), (.i x9), (.i x10), (.i x11), (.i x12)]) 5)) → (-9223372036854775808 : Int) ≤ x52 → x52 ≤ (9223372036854775807 : Int) →
R (Value.bool ((Cmp.den .eq x23 x47) && ((Cmp.den .eq x24 x48) && ((Cmp.den .eq x25 x49) && ((Cmp.den .eq x26 x50) && ((Cmp.den .eq x27 x51) && (Cmp.den .eq x28 x52))))))))) ∧ ((Cmp.den .eq x29 (0 : Int)) = false → R (Value.bool false)))))))) ∧ ((Cmp.den .eq x1 (0 : Int)) = false → ((!(Cmp.den .eq x32 (0 : Int))) = true → R (Value.bool false)) ∧ ((!(Cmp.den .eq x32 (0 : Int))) = false → (r11sp_sem.pre [(.i x1), (.i x2), (.i x3), (.i x4), (.i x5), (.i x6)]) ∧ (
∀ x45 : Int, x45 = (Cv.int (Env.get (r11sp_sem.out [(.i x1), (.i x2), (.i x3), (.i x4), (.i x5), (.i x6)]) 0)) → (0 : Int) ≤ x45 → x45 ≤ (18446744073709551615 : Int) →
∀ x46 : Int, x46 = (Cv.int (Env.get (r11sp_sem.out [(.i x1), (.i x2), (.i x3), (.i x4), (.i x5), (.i x6)]) 1)) → (0 : Int) ≤ x46 → x46 ≤ (18446744073709551615 : Int) →
((!((Cmp.den .eq x30 x45) && (Cmp.den .eq x31 x46))) = true → R (Value.bool false)) ∧ ((!((Cmp.den .eq x30 x45) && (Cmp.den .eq x31 x46))) = false → (r11right_sem.pre [(.i x7), (.i x8), (.i x9), (.i x10), (.i x11), (.i x12)]) ∧ (
((!(Cv.bool (Env.get (r11right_sem.out [(.i x7), (.i x8), (.i x9), (.i x10), (.i x11), (.i x12)]) 0))) = true → ((Cmp.den .eq x29 (1 : Int)) = true → R (Value.bool ((Cmp.den .eq x23 (0 : Int)) && ((Cmp.den .eq x24 (0 : Int)) && ((Cmp.den .eq x25 (0 : Int)) && ((Cmp.den .eq x26 (0 : Int)) && ((Cmp.den .eq x27 (0 : Int)) && (Cmp.den .eq x28 (0 : Int))))))))) ∧ ((Cmp.den .eq x29 (1 : Int)) = false → R (Value.bool false))) ∧ ((!(Cv.bool (Env.get (r11right_sem.out [(.i x7), (.i x8), (.i x9), (.i x10), (.i x11), (.i x12)]) 0))) = false → ∀ x48 : Int, x48 = (IntKind.i64.wrap (x1 + x7)) →
((Cmp.den .lt (1000000000 : Int) x48) = true → ((Cmp.den .eq x29 (11 : Int)) = true → R (Value.bool ((Cmp.den .eq x23 (0 : Int)) && ((Cmp.den .eq x24 (0 : Int)) && ((Cmp.den .eq x25 (0 : Int)) && ((Cmp.den .eq x26 (0 : Int)) && ((Cmp.den .eq x27 (0 : Int)) && (Cmp.den .eq x28 (0 : Int))))))))) ∧ ((Cmp.den .eq x29 (11 : Int)) = false → R (Value.bool false))) ∧ ((Cmp.den .lt (1000000000 : Int) x48) = false → ((Cmp.den .eq x29 (0 : Int)) = true → (r11join_sem.pre [(.i x1), (.i x2), (.i x3), (.i x4), (.i x5), (.i x6), (.i x7), (.i x8), (.i x9), (.i x10), (.i x11), (.i x12)]) ∧ (
∀ x49 : Int, x49 = (Cv.int (Env.get (r11join_sem.out [(.i x1), (.i x2), (.i x3), (.i x4), (.i x5), (.i x6), (.i x7), (.i x8), (.i x9), (.i x10), (.i x11), (.i x12)]) 0)) → (-9223372036854775808 : Int) ≤ x49 → x49 ≤ (9223372036854775807 : Int) →
∀ x50 : Int, x50 = (Cv.int (Env.get (r11join_sem.out [(.i x1), (.i x2), (.i x3), (.i x4), (.i x5), (.i x6), (.i x7), (.i x8), (.i x9), (.i x10), (.i x11), (.i x12)]) 1)) → (-9223372036854775808 : Int) ≤ x50 → x50 ≤ (9223372036854775807 : Int) →
∀ x51 : Int, x51 = (Cv.int (Env.get (r11join_sem.out [(.i x1), (.i x2), (.i x3), (.i x4), (.i x5), (.i x6), (.i x7), (.i x8), (.i x9), (.i x10), (.i x11), (.i x12)]) 2)) → (0 : Int) ≤ x51 → x51 ≤ (18446744073709551615 : Int) →
∀ x52 : Int, x52 = (Cv.int (Env.get (r11join_sem.out [(.i x1), (.i x2), (.i x3), (.i x4), (.i x5), (.i x6), (.i x7), (.i x8), (.i x9), (.i x10), (.i x11), (.i x12)]) 3)) → (0 : Int) ≤ x52 → x52 ≤ (18446744073709551615 : Int) →
∀ x53 : Int, x53 = (Cv.int (Env.get (r11join_sem.out [(.i x1), (.i x2), (.i x3), (.i x4), (.i x5), (.i x6), (.i x7), (.i x8), (.i x9), (.i x10), (.i x11), (.i x12)]) 4)) → (-9223372036854775808 : Int) ≤ x53 → x53 ≤ (9223372036854775807 : Int) →
∀ x54 : Int, x54 = (Cv.int (Env.get (r11join_sem.out [(.i x1), (.i x2), (.i x3), (.i x4), (.i x5), (.i x6), (.i x7), (.i x8), (.i x9), (.i x10), (.i x11), (.i x12)]) 5)) → (-9223372036854775808 : Int) ≤ x54 → x54 ≤ (9223372036854775807 : Int) →
R (Value.bool ((Cmp.den .eq x23 x49) && ((Cmp.den .eq x24 x50) && ((Cmp.den .eq x25 x51) && ((Cmp.den .eq x26 x52) && ((Cmp.den .eq x27 x53) && (Cmp.den .eq x28 x54))))))))) ∧ ((Cmp.den .eq x29 (0 : Int)) = false → R (Value.bool false))))))))))))))))))))))))))) ∧ ((Cmp.den .le x14 x13) = false → False)) := by kernel_rfl

def lstell_sem : SpecSem := { pre := fun cs => match cs with | [.l xs, .i n, .i s, .i h, .i l, .i mn, .i mx, .i n2, .i s2, .i h2, .i l2, .i mn2, .i mx2] => InI xs ∧ IsI n ∧ IsI s ∧ IsU h ∧ IsU l ∧ IsI mn ∧ IsI mx ∧ IsI n2 ∧ IsI s2 ∧ IsU h2 ∧ IsU l2 ∧ IsI mn2 ∧ IsI mx2 | _ => False, out := fun cs => match cs with | [.l xs, .i n, .i s, .i h, .i l, .i mn, .i mx, .i n2, .i s2, .i h2, .i l2, .i mn2, .i mx2] => [.b true] | _ => [] }
set_option maxRecDepth 10000 in
set_option maxHeartbeats 16000000 in
theorem lstell_ok : SpecOK Try.prog 7 lstell_sp lstell_sem := by
  refine spec_of_tree lstell_cxok Try.func7 (by kernel_rfl) (by kernel_rfl) lstell_walk rfl ?_
  intro cs hpre
  match cs, hpre with
  | [.l xs, .i n, .i s, .i h, .i l, .i mn, .i mx, .i n2, .i s2, .i h2, .i l2, .i mn2, .i mx2], ⟨j_xs, j_n, j_s, j_h, j_l, j_mn, j_mx, j_n2, j_s2, j_h2, j_l2, j_mn2, j_mx2⟩ =>
    have h_n := j_n
    unfold IsI at h_n
    have h_s := j_s
    unfold IsI at h_s
    have h_h := j_h
    unfold IsU at h_h
    have h_l := j_l
    unfold IsU at h_l
    have h_mn := j_mn
    unfold IsI at h_mn
    have h_mx := j_mx
    unfold IsI at h_mx
    have h_n2 := j_n2
    unfold IsI at h_n2
    have h_s2 := j_s2
    unfold IsI at h_s2
    have h_h2 := j_h2
    unfold IsU at h_h2
    have h_l2 := j_l2
    unfold IsU at h_l2
    have h_mn2 := j_mn2
    unfold IsI at h_mn2
    have h_mx2 := j_mx2
    unfold IsI at h_mx2
    refine ⟨rfl, IvsB.ok (by simp only [lstell_ivs, IvsB, Cv.int, and_true, j_xs, true_and] <;> omega), ?_, ?_⟩
    · simp only [lstell_sem, lstell_sp, Fits]
    · rw [lstell_den]
      simp only [lstell_sem, lstell_sp, lstell_den, sof_sem, sjn_sem, sspread_sem, sright_sem, s11al_sem, r11right_sem, r11sp_sem, r11join_sem, r11in_sem, r11of_sem, Tree.den, LE.den, Cv.list, placeA, List.getElem?_cons_zero, List.getElem?_cons_succ, IE.den, BE.den, At.den, CA.den, Env.get, Cv.int, Cv.bool, List.cons_append, List.nil_append, List.map_cons, List.map_nil, bindRes, bindEq, Fits, SV.den, denL, place, placeL, eq_t, eq_f, lt_t, lt_f, le_t, le_f, beq_iff_eq, beq_eq_false_iff_ne, ne_eq, reduceCtorEq, b_dec, decide_eq_true_eq, decide_eq_false_iff_not, Bool.not_eq_false', Bool.or_eq_true, Bool.or_eq_false_iff, Bool.and_eq_false_iff, true_iff, false_iff, Bool.false_eq_true, Bool.not_eq_true', Bool.and_eq_true, Bool.not_true, Bool.not_false, List.cons.injEq, Cv.i.injEq, Cv.b.injEq, and_true, true_and, agg_inj, tup_inj, Value.int.injEq, Value.bool.injEq]
      intro x13 e13 x14 e14
      refine ⟨fun hle => ?_, fun h => by split at e14 <;> omega⟩
      intro x15 e15
      have hx : (x15.length : Int) ≤ 100000 := by
        have k1 := List.length_take_le (x14.toNat - Int.toNat 0) (List.drop (Int.toNat 0) xs)
        rw [← e15] at k1
        have k2 : x14 ≤ 200 := by split at e14 <;> omega
        have k3 : x14.toNat - Int.toNat 0 ≤ 200 := by omega
        omega
      have j15 : InI x15 := by rw [e15]; exact inI_take _ j_xs
      clear e15 e14 hle e13
      have st0 := of_stOK (l := x15)
      have rg := sts_rng (l := x15)
      have w1 : jnOK n s h l mn mx n2 s2 h2 l2 mn2 mx2 → IntKind.i64.wrap (n + n2) = n + n2 := fun k => by
        obtain ⟨a1, a2, a3, a4, a5, a6⟩ := st_rng j_h j_l k.1
        obtain ⟨b1, b2, b3, b4, b5, b6⟩ := st_rng j_h2 j_l2 k.2
        exact w64 (by omega) (by omega)
      have f3 : ((3 : Int) = 0) = False := by simp
      have f1 : ((1 : Int) = 0) = False := by simp
      have f6 : ((6 : Int) = 0) = False := by simp
      have f11 : ((11 : Int) = 0) = False := by simp
      have f31 : ((0 : Int) = 3) = False := by simp
      have f61 : ((0 : Int) = 6) = False := by simp
      have i0 : IsU 0 := ⟨by omega, by omega⟩
      have d1 : (0 : Int) / 18446744073709551616 = 0 := rfl
      have d2 : (0 : Int) % 18446744073709551616 = 0 := rfl
      by_cases c1 : stOK n s h l mn mx
      · by_cases c2 : stOK n2 s2 h2 l2 mn2 mx2
        · have c3 : jnOK n s h l mn mx n2 s2 h2 l2 mn2 mx2 := ⟨c1, c2⟩
          have w1 := w1 c3
          by_cases c4 : n + n2 ≤ 1000000000
          · have c5 : (1000000000 < n + n2) = False := eq_false (by omega)
            by_cases c6 : inS x15
            · have st0 := st0 c6 hx
              have rg := rg c6 hx
              have k1 : IsI (x15.length : Int) := ⟨by omega, by omega⟩
              have k2 : IsI (sumL x15) := ⟨by omega, by omega⟩
              have k3 : IsU (sqL x15) := ⟨by omega, by omega⟩
              have k4 : IsI (minS x15) := ⟨by omega, by omega⟩
              have k5 : IsI (maxS x15) := ⟨by omega, by omega⟩
              by_cases c7 : n = 0
              · subst c7
                have y : 0 * val h l - s * s = 0 := st_n0 c1
                simp only [c1, c2, c3, c4, c5, w1, c6, st0, k1, k2, k3, k4, k5, y, d1, d2, hx, j15, i0, f1, f3, f6, f11, f31, f61, j_n, j_s, j_h, j_l, j_mn, j_mx, j_n2, j_s2, j_h2, j_l2, j_mn2, j_mx2, forall_eq, eq_self, f00, if_true, if_false, true_and, and_true, false_and, and_false, true_or, or_true, false_or, or_false, true_iff, iff_true, false_iff, iff_false, not_true_eq_false, not_false_eq_true, true_implies, false_implies, implies_true, forall_const, decide_true, decide_false, reduceCtorEq]
              · simp only [c1, c2, c3, c4, c5, w1, c6, st0, k1, k2, k3, k4, k5, c7, hx, j15, i0, f1, f3, f6, f11, f31, f61, j_n, j_s, j_h, j_l, j_mn, j_mx, j_n2, j_s2, j_h2, j_l2, j_mn2, j_mx2, forall_eq, eq_self, f00, if_true, if_false, true_and, and_true, false_and, and_false, true_or, or_true, false_or, or_false, true_iff, iff_true, false_iff, iff_false, not_true_eq_false, not_false_eq_true, true_implies, false_implies, implies_true, forall_const, decide_true, decide_false, reduceCtorEq]
            · by_cases c7 : n = 0
              · subst c7
                have y : 0 * val h l - s * s = 0 := st_n0 c1
                simp only [c1, c2, c3, c4, c5, w1, c6, y, d1, d2, hx, j15, i0, f1, f3, f6, f11, f31, f61, j_n, j_s, j_h, j_l, j_mn, j_mx, j_n2, j_s2, j_h2, j_l2, j_mn2, j_mx2, forall_eq, eq_self, f00, if_true, if_false, true_and, and_true, false_and, and_false, true_or, or_true, false_or, or_false, true_iff, iff_true, false_iff, iff_false, not_true_eq_false, not_false_eq_true, true_implies, false_implies, implies_true, forall_const, decide_true, decide_false, reduceCtorEq]
              · simp only [c1, c2, c3, c4, c5, w1, c6, c7, hx, j15, i0, f1, f3, f6, f11, f31, f61, j_n, j_s, j_h, j_l, j_mn, j_mx, j_n2, j_s2, j_h2, j_l2, j_mn2, j_mx2, forall_eq, eq_self, f00, if_true, if_false, true_and, and_true, false_and, and_false, true_or, or_true, false_or, or_false, true_iff, iff_true, false_iff, iff_false, not_true_eq_false, not_false_eq_true, true_implies, false_implies, implies_true, forall_const, decide_true, decide_false, reduceCtorEq]
          · have c5 : 1000000000 < n + n2 := by omega
            by_cases c6 : inS x15
            · have st0 := st0 c6 hx
              have rg := rg c6 hx
              have k1 : IsI (x15.length : Int) := ⟨by omega, by omega⟩
              have k2 : IsI (sumL x15) := ⟨by omega, by omega⟩
              have k3 : IsU (sqL x15) := ⟨by omega, by omega⟩
              have k4 : IsI (minS x15) := ⟨by omega, by omega⟩
              have k5 : IsI (maxS x15) := ⟨by omega, by omega⟩
              by_cases c7 : n = 0
              · subst c7
                have y : 0 * val h l - s * s = 0 := st_n0 c1
                simp only [c1, c2, c3, c4, c5, w1, c6, st0, k1, k2, k3, k4, k5, y, d1, d2, hx, j15, i0, f1, f3, f6, f11, f31, f61, j_n, j_s, j_h, j_l, j_mn, j_mx, j_n2, j_s2, j_h2, j_l2, j_mn2, j_mx2, forall_eq, eq_self, f00, if_true, if_false, true_and, and_true, false_and, and_false, true_or, or_true, false_or, or_false, true_iff, iff_true, false_iff, iff_false, not_true_eq_false, not_false_eq_true, true_implies, false_implies, implies_true, forall_const, decide_true, decide_false, reduceCtorEq]
              · simp only [c1, c2, c3, c4, c5, w1, c6, st0, k1, k2, k3, k4, k5, c7, hx, j15, i0, f1, f3, f6, f11, f31, f61, j_n, j_s, j_h, j_l, j_mn, j_mx, j_n2, j_s2, j_h2, j_l2, j_mn2, j_mx2, forall_eq, eq_self, f00, if_true, if_false, true_and, and_true, false_and, and_false, true_or, or_true, false_or, or_false, true_iff, iff_true, false_iff, iff_false, not_true_eq_false, not_false_eq_true, true_implies, false_implies, implies_true, forall_const, decide_true, decide_false, reduceCtorEq]
            · by_cases c7 : n = 0
              · subst c7
                have y : 0 * val h l - s * s = 0 := st_n0 c1
                simp only [c1, c2, c3, c4, c5, w1, c6, y, d1, d2, hx, j15, i0, f1, f3, f6, f11, f31, f61, j_n, j_s, j_h, j_l, j_mn, j_mx, j_n2, j_s2, j_h2, j_l2, j_mn2, j_mx2, forall_eq, eq_self, f00, if_true, if_false, true_and, and_true, false_and, and_false, true_or, or_true, false_or, or_false, true_iff, iff_true, false_iff, iff_false, not_true_eq_false, not_false_eq_true, true_implies, false_implies, implies_true, forall_const, decide_true, decide_false, reduceCtorEq]
              · simp only [c1, c2, c3, c4, c5, w1, c6, c7, hx, j15, i0, f1, f3, f6, f11, f31, f61, j_n, j_s, j_h, j_l, j_mn, j_mx, j_n2, j_s2, j_h2, j_l2, j_mn2, j_mx2, forall_eq, eq_self, f00, if_true, if_false, true_and, and_true, false_and, and_false, true_or, or_true, false_or, or_false, true_iff, iff_true, false_iff, iff_false, not_true_eq_false, not_false_eq_true, true_implies, false_implies, implies_true, forall_const, decide_true, decide_false, reduceCtorEq]
        · have c3 : ¬ jnOK n s h l mn mx n2 s2 h2 l2 mn2 mx2 := fun k => c2 k.2
          by_cases c6 : inS x15
          · have st0 := st0 c6 hx
            have rg := rg c6 hx
            have k1 : IsI (x15.length : Int) := ⟨by omega, by omega⟩
            have k2 : IsI (sumL x15) := ⟨by omega, by omega⟩
            have k3 : IsU (sqL x15) := ⟨by omega, by omega⟩
            have k4 : IsI (minS x15) := ⟨by omega, by omega⟩
            have k5 : IsI (maxS x15) := ⟨by omega, by omega⟩
            by_cases c7 : n = 0
            · subst c7
              have y : 0 * val h l - s * s = 0 := st_n0 c1
              simp only [c1, c2, c3, c6, st0, k1, k2, k3, k4, k5, y, d1, d2, hx, j15, i0, f1, f3, f6, f11, f31, f61, j_n, j_s, j_h, j_l, j_mn, j_mx, j_n2, j_s2, j_h2, j_l2, j_mn2, j_mx2, forall_eq, eq_self, f00, if_true, if_false, true_and, and_true, false_and, and_false, true_or, or_true, false_or, or_false, true_iff, iff_true, false_iff, iff_false, not_true_eq_false, not_false_eq_true, true_implies, false_implies, implies_true, forall_const, decide_true, decide_false, reduceCtorEq]
            · simp only [c1, c2, c3, c6, st0, k1, k2, k3, k4, k5, c7, hx, j15, i0, f1, f3, f6, f11, f31, f61, j_n, j_s, j_h, j_l, j_mn, j_mx, j_n2, j_s2, j_h2, j_l2, j_mn2, j_mx2, forall_eq, eq_self, f00, if_true, if_false, true_and, and_true, false_and, and_false, true_or, or_true, false_or, or_false, true_iff, iff_true, false_iff, iff_false, not_true_eq_false, not_false_eq_true, true_implies, false_implies, implies_true, forall_const, decide_true, decide_false, reduceCtorEq]
          · by_cases c7 : n = 0
            · subst c7
              have y : 0 * val h l - s * s = 0 := st_n0 c1
              simp only [c1, c2, c3, c6, y, d1, d2, hx, j15, i0, f1, f3, f6, f11, f31, f61, j_n, j_s, j_h, j_l, j_mn, j_mx, j_n2, j_s2, j_h2, j_l2, j_mn2, j_mx2, forall_eq, eq_self, f00, if_true, if_false, true_and, and_true, false_and, and_false, true_or, or_true, false_or, or_false, true_iff, iff_true, false_iff, iff_false, not_true_eq_false, not_false_eq_true, true_implies, false_implies, implies_true, forall_const, decide_true, decide_false, reduceCtorEq]
            · simp only [c1, c2, c3, c6, c7, hx, j15, i0, f1, f3, f6, f11, f31, f61, j_n, j_s, j_h, j_l, j_mn, j_mx, j_n2, j_s2, j_h2, j_l2, j_mn2, j_mx2, forall_eq, eq_self, f00, if_true, if_false, true_and, and_true, false_and, and_false, true_or, or_true, false_or, or_false, true_iff, iff_true, false_iff, iff_false, not_true_eq_false, not_false_eq_true, true_implies, false_implies, implies_true, forall_const, decide_true, decide_false, reduceCtorEq]
      · have c3 : ¬ jnOK n s h l mn mx n2 s2 h2 l2 mn2 mx2 := fun k => c1 k.1
        by_cases c6 : inS x15
        · have st0 := st0 c6 hx
          have rg := rg c6 hx
          have k1 : IsI (x15.length : Int) := ⟨by omega, by omega⟩
          have k2 : IsI (sumL x15) := ⟨by omega, by omega⟩
          have k3 : IsU (sqL x15) := ⟨by omega, by omega⟩
          have k4 : IsI (minS x15) := ⟨by omega, by omega⟩
          have k5 : IsI (maxS x15) := ⟨by omega, by omega⟩
          simp only [c1, c3, c6, st0, k1, k2, k3, k4, k5, hx, j15, i0, f1, f3, f6, f11, f31, f61, j_n, j_s, j_h, j_l, j_mn, j_mx, j_n2, j_s2, j_h2, j_l2, j_mn2, j_mx2, forall_eq, eq_self, f00, if_true, if_false, true_and, and_true, false_and, and_false, true_or, or_true, false_or, or_false, true_iff, iff_true, false_iff, iff_false, not_true_eq_false, not_false_eq_true, true_implies, false_implies, implies_true, forall_const, decide_true, decide_false, reduceCtorEq]
        · simp only [c1, c3, c6, hx, j15, i0, f1, f3, f6, f11, f31, f61, j_n, j_s, j_h, j_l, j_mn, j_mx, j_n2, j_s2, j_h2, j_l2, j_mn2, j_mx2, forall_eq, eq_self, f00, if_true, if_false, true_and, and_true, false_and, and_false, true_or, or_true, false_or, or_false, true_iff, iff_true, false_iff, iff_false, not_true_eq_false, not_false_eq_true, true_implies, false_implies, implies_true, forall_const, decide_true, decide_false, reduceCtorEq]
end Go.Proofs.Ytgnihomdpandfaa.X
