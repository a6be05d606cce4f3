/-
  SpanTells tells true, for every two spans and every int.
-/
import Derived.Test.YtlhmhcjpdpakkaaSxRef5
namespace Go.Proofs.Ytlhmhcjpdpakkaa.X
open Go Go.SX Go.RowKit
set_option linter.unusedVariables false
set_option linter.unusedSimpArgs false






def lstells_sp : SpecSh := { args := [(.agg [(.int .i64 (.z 0)), (.int .i64 (.z 0))]), (.agg [(.int .i64 (.z 0)), (.int .i64 (.z 0))]), (.int .i64 (.z 0))], res := (.bool .f), sh := [.b] }
set_option maxRecDepth 100000 in
def lstells_tree : Tree :=
.call 30 [.i (some ((-9223372036854775808), 9223372036854775807)), .i (some ((-9223372036854775808), 9223372036854775807)), .i (some ((-9223372036854775808), 9223372036854775807))] [.i (.v 0), .i (.v 1), .i (.v 2), .i (.v 3)] <|
.call 22 [.i (some ((-9223372036854775808), 9223372036854775807)), .i (some ((-9223372036854775808), 9223372036854775807)), .i (some ((-9223372036854775808), 9223372036854775807))] [.i (.v 0), .i (.v 1), .i (.v 2), .i (.v 3)] <|
.call 23 [.i (some ((-9223372036854775808), 9223372036854775807)), .i (some ((-9223372036854775808), 9223372036854775807)), .i (some ((-9223372036854775808), 9223372036854775807))] [.i (.v 0), .i (.v 1), .i (.v 2), .i (.v 3)] <|
.ite (.not (.eqv (.cmp .le (.v 0) (.v 1)) (.cmp .le (.v 0) (.v 1)))) (.ret (.bool .f)) <|
.ite (.cmp .le (.v 0) (.v 4)) (.ite (.not (.eqv (.cmp .le (.v 4) (.v 1)) (.cmp .le (.v 4) (.v 1)))) (.ret (.bool .f)) <|
.call 29 [.b] [] <|
.ite (.not (.v 14)) (.ret (.bool .f)) <|
.ite (.not (.cmp .le (.v 0) (.v 1))) (.ite (.cmp .eq (.v 7) (.z 1)) (.ite (.cmp .eq (.v 10) (.z 1)) (.ite (.cmp .eq (.v 13) (.z 1)) (.ite (.and (.cmp .eq (.v 5) (.z 0)) (.cmp .eq (.v 6) (.z 0))) (.ite (.and (.cmp .eq (.v 8) (.z 0)) (.cmp .eq (.v 9) (.z 0))) (.ret (.bool (.and (.cmp .eq (.v 11) (.z 0)) (.cmp .eq (.v 12) (.z 0))))) <|
.ret (.bool .f)) <|
.ret (.bool .f)) <|
.ret (.bool .f)) <|
.ret (.bool .f)) <|
.ret (.bool .f)) <|
.ite (.not (.cmp .le (.v 2) (.v 3))) (.ite (.cmp .eq (.v 7) (.z 1)) (.ite (.cmp .eq (.v 10) (.z 1)) (.ite (.cmp .eq (.v 13) (.z 1)) (.ite (.and (.cmp .eq (.v 5) (.z 0)) (.cmp .eq (.v 6) (.z 0))) (.ite (.and (.cmp .eq (.v 8) (.z 0)) (.cmp .eq (.v 9) (.z 0))) (.ret (.bool (.and (.cmp .eq (.v 11) (.z 0)) (.cmp .eq (.v 12) (.z 0))))) <|
.ret (.bool .f)) <|
.ret (.bool .f)) <|
.ret (.bool .f)) <|
.ret (.bool .f)) <|
.ret (.bool .f)) <|
.call 35 [.i (some ((-9223372036854775808), 9223372036854775807)), .i (some ((-9223372036854775808), 9223372036854775807)), .i (some ((-9223372036854775808), 9223372036854775807))] [.i (.v 0), .i (.v 1), .i (.v 2), .i (.v 3)] <|
.call 36 [.i (some ((-9223372036854775808), 9223372036854775807)), .i (some ((-9223372036854775808), 9223372036854775807)), .i (some ((-9223372036854775808), 9223372036854775807))] [.i (.v 0), .i (.v 1), .i (.v 2), .i (.v 3)] <|
.ite (.cmp .eq (.v 7) (.z 0)) (.lett (.ite (.cmp .lt (.v 2) (.v 0)) (.v 2) (.v 0)) <|
.lett (.ite (.cmp .lt (.v 1) (.v 3)) (.v 3) (.v 1)) <|
.ite (.and (.cmp .eq (.v 5) (.v 21)) (.cmp .eq (.v 6) (.v 22))) (.ite (.and (.cmp .eq (.v 8) (.v 15)) (.cmp .eq (.v 9) (.v 16))) (.ite (.cmp .eq (.v 10) (.v 17)) (.ite (.and (.cmp .eq (.v 11) (.v 18)) (.cmp .eq (.v 12) (.v 19))) (.ret (.bool (.cmp .eq (.v 13) (.v 20)))) <|
.ret (.bool .f)) <|
.ret (.bool .f)) <|
.ret (.bool .f)) <|
.ret (.bool .f)) <|
.ret (.bool .f)) <|
.call 29 [.b] [] <|
.ite (.not (.v 14)) (.ret (.bool .f)) <|
.ite (.not (.cmp .le (.v 0) (.v 1))) (.ite (.cmp .eq (.v 7) (.z 1)) (.ite (.cmp .eq (.v 10) (.z 1)) (.ite (.cmp .eq (.v 13) (.z 1)) (.ite (.and (.cmp .eq (.v 5) (.z 0)) (.cmp .eq (.v 6) (.z 0))) (.ite (.and (.cmp .eq (.v 8) (.z 0)) (.cmp .eq (.v 9) (.z 0))) (.ret (.bool (.and (.cmp .eq (.v 11) (.z 0)) (.cmp .eq (.v 12) (.z 0))))) <|
.ret (.bool .f)) <|
.ret (.bool .f)) <|
.ret (.bool .f)) <|
.ret (.bool .f)) <|
.ret (.bool .f)) <|
.ite (.not (.cmp .le (.v 2) (.v 3))) (.ite (.cmp .eq (.v 7) (.z 1)) (.ite (.cmp .eq (.v 10) (.z 1)) (.ite (.cmp .eq (.v 13) (.z 1)) (.ite (.and (.cmp .eq (.v 5) (.z 0)) (.cmp .eq (.v 6) (.z 0))) (.ite (.and (.cmp .eq (.v 8) (.z 0)) (.cmp .eq (.v 9) (.z 0))) (.ret (.bool (.and (.cmp .eq (.v 11) (.z 0)) (.cmp .eq (.v 12) (.z 0))))) <|
.ret (.bool .f)) <|
.ret (.bool .f)) <|
.ret (.bool .f)) <|
.ret (.bool .f)) <|
.ret (.bool .f)) <|
.call 35 [.i (some ((-9223372036854775808), 9223372036854775807)), .i (some ((-9223372036854775808), 9223372036854775807)), .i (some ((-9223372036854775808), 9223372036854775807))] [.i (.v 0), .i (.v 1), .i (.v 2), .i (.v 3)] <|
.call 36 [.i (some ((-9223372036854775808), 9223372036854775807)), .i (some ((-9223372036854775808), 9223372036854775807)), .i (some ((-9223372036854775808), 9223372036854775807))] [.i (.v 0), .i (.v 1), .i (.v 2), .i (.v 3)] <|
.ite (.cmp .eq (.v 7) (.z 0)) (.lett (.ite (.cmp .lt (.v 2) (.v 0)) (.v 2) (.v 0)) <|
.lett (.ite (.cmp .lt (.v 1) (.v 3)) (.v 3) (.v 1)) <|
.ite (.and (.cmp .eq (.v 5) (.v 21)) (.cmp .eq (.v 6) (.v 22))) (.ite (.and (.cmp .eq (.v 8) (.v 15)) (.cmp .eq (.v 9) (.v 16))) (.ite (.cmp .eq (.v 10) (.v 17)) (.ite (.and (.cmp .eq (.v 11) (.v 18)) (.cmp .eq (.v 12) (.v 19))) (.ret (.bool (.cmp .eq (.v 13) (.v 20)))) <|
.ret (.bool .f)) <|
.ret (.bool .f)) <|
.ret (.bool .f)) <|
.ret (.bool .f)) <|
.ret (.bool .f)
noncomputable def lstells_cx : Ctx := { tys := tys, fns := fns, sps := [(30, sjoin_sp), (22, sadd_sp), (23, ssub_sp), (29, salive_sp), (35, r5add_sp), (36, r5sub_sp)], anns := [], trys := [] }
def lstells_ivs : List (Option (Int × Int)) := [some ((-9223372036854775808), 9223372036854775807), some ((-9223372036854775808), 9223372036854775807), some ((-9223372036854775808), 9223372036854775807), some ((-9223372036854775808), 9223372036854775807), some ((-9223372036854775808), 9223372036854775807)]
set_option maxRecDepth 100000 in
theorem lstells_walk : runFn lstells_cx 3000 4 Try.f4 lstells_sp.args lstells_ivs = lstells_tree := by kernel_rfl
noncomputable def lstells_M : Nat → SpecSem
  | 30 => sjoin_sem
  | 22 => sadd_sem
  | 23 => ssub_sem
  | 29 => salive_sem
  | 35 => r5add_sem
  | 36 => r5sub_sem
  | _ => noSem
theorem lstells_M30 : lstells_M 30 = sjoin_sem := rfl
theorem lstells_M22 : lstells_M 22 = sadd_sem := rfl
theorem lstells_M23 : lstells_M 23 = ssub_sem := rfl
theorem lstells_M29 : lstells_M 29 = salive_sem := rfl
theorem lstells_M35 : lstells_M 35 = r5add_sem := rfl
theorem lstells_M36 : lstells_M 36 = r5sub_sem := rfl
theorem lstells_cxok : CxOK Try.prog lstells_cx lstells_M := ⟨tysOK, fnsOK, spCons sjoin_ok <| spCons sadd_ok <| spCons ssub_ok <| spCons salive_ok <| spCons r5add_ok <| spCons r5sub_ok <| fun _ _ h => spNil h, mixedOK, fun _ _ h => trNil h⟩
set_option maxRecDepth 100000 in
set_option maxHeartbeats 8000000 in
theorem lstells_den (R RP : Value → Prop) (F : Ex → St → Js → Env → Prop) (J : Js) (x0 : Int) (x1 : Int) (x2 : Int) (x3 : Int) (x4 : Int) : Tree.den lstells_M R RP F lstells_tree J [(.i x0), (.i x1), (.i x2), (.i x3), (.i x4)] = (
  (sjoin_sem.pre [(.i x0), (.i x1), (.i x2), (.i x3)]) ∧ (
∀ x5 : Int, x5 = (Cv.int (Env.get (sjoin_sem.out [(.i x0), (.i x1), (.i x2), (.i x3)]) 0)) → (-9223372036854775808 : Int) ≤ x5 → x5 ≤ (9223372036854775807 : Int) →
∀ x6 : Int, x6 = (Cv.int (Env.get (sjoin_sem.out [(.i x0), (.i x1), (.i x2), (.i x3)]) 1)) → (-9223372036854775808 : Int) ≤ x6 → x6 ≤ (9223372036854775807 : Int) →
∀ x7 : Int, x7 = (Cv.int (Env.get (sjoin_sem.out [(.i x0), (.i x1), (.i x2), (.i x3)]) 2)) → (-9223372036854775808 : Int) ≤ x7 → x7 ≤ (9223372036854775807 : Int) →
(sadd_sem.pre [(.i x0), (.i x1), (.i x2), (.i x3)]) ∧ (
∀ x8 : Int, x8 = (Cv.int (Env.get (sadd_sem.out [(.i x0), (.i x1), (.i x2), (.i x3)]) 0)) → (-9223372036854775808 : Int) ≤ x8 → x8 ≤ (9223372036854775807 : Int) →
∀ x9 : Int, x9 = (Cv.int (Env.get (sadd_sem.out [(.i x0), (.i x1), (.i x2), (.i x3)]) 1)) → (-9223372036854775808 : Int) ≤ x9 → x9 ≤ (9223372036854775807 : Int) →
∀ x10 : Int, x10 = (Cv.int (Env.get (sadd_sem.out [(.i x0), (.i x1), (.i x2), (.i x3)]) 2)) → (-9223372036854775808 : Int) ≤ x10 → x10 ≤ (9223372036854775807 : Int) →
(ssub_sem.pre [(.i x0), (.i x1), (.i x2), (.i x3)]) ∧ (
∀ x11 : Int, x11 = (Cv.int (Env.get (ssub_sem.out [(.i x0), (.i x1), (.i x2), (.i x3)]) 0)) → (-9223372036854775808 : Int) ≤ x11 → x11 ≤ (9223372036854775807 : Int) →
∀ x12 : Int, x12 = (Cv.int (Env.get (ssub_sem.out [(.i x0), (.i x1), (.i x2), (.i x3)]) 1)) → (-9223372036854775808 : Int) ≤ x12 → x12 ≤ (9223372036854775807 : Int) →
∀ x13 : Int, x13 = (Cv.int (Env.get (ssub_sem.out [(.i x0), (.i x1), (.i x2), (.i x3)]) 2)) → (-9223372036854775808 : Int) ≤ x13 → x13 ≤ (9223372036854775807 : Int) →
((!((Cmp.den .le x0 x1) == (Cmp.den .le x0 x1))) = true → R (Value.bool false)) ∧ ((!((Cmp.den .le x0 x1) == (Cmp.den .le x0 x1))) = false → ((Cmp.den .le x0 x4) = true → ((!((Cmp.den .le x4 x1) == (Cmp.den .le x4 x1))) = true → R (Value.bool false)) ∧ ((!((Cmp.den .le x4 x1) == (Cmp.den .le x4 x1))) = false → (salive_sem.pre []) ∧ (
((!(Cv.bool (Env.get (salive_sem.out []) 0))) = true → R (Value.bool false)) ∧ ((!(Cv.bool (Env.get (salive_sem.out []) 0))) = false → ((!(Cmp.den .le x0 x1)) = true → ((Cmp.den .eq x7 (1 : Int)) = true → ((Cmp.den .eq x10 (1 : Int)) = true → ((Cmp.den .eq x13 (1 : Int)) = true → (((Cmp.den .eq x5 (0 : Int)) && (Cmp.den .eq x6 (0 : Int))) = true → (((Cmp.den .eq x8 (0 : Int)) && (Cmp.den .eq x9 (0 : Int))) = true → R (Value.bool ((Cmp.den .eq x11 (0 : Int)) && (Cmp.den .eq x12 (0 : Int))))) ∧ (((Cmp.den .eq x8 (0 : Int)) && (Cmp.den .eq x9 (0 : Int))) = false → R (Value.bool false))) ∧ (((Cmp.den .eq x5 (0 : Int)) && (Cmp.den .eq x6 (0 : Int))) = false → R (Value.bool false))) ∧ ((Cmp.den .eq x13 (1 : Int)) = false → R (Value.bool false))) ∧ ((Cmp.den .eq x10 (1 : Int)) = false → R (Value.bool false))) ∧ ((Cmp.den .eq x7 (1 : Int)) = false → R (Value.bool false))) ∧ ((!(Cmp.den .le x0 x1)) = false → ((!(Cmp.den .le x2 x3)) = true → ((Cmp.den .eq x7 (1 : Int)) = true → ((Cmp.den .eq x10 (1 : Int)) = true → ((Cmp.den .eq x13 (1 : Int)) = true → (((Cmp.den .eq x5 (0 : Int)) && (Cmp.den .eq x6 (0 : Int))) = true → (((Cmp.den .eq x8 (0 : Int)) && (Cmp.den .eq x9 (0 : Int))) = true → R (Value.bool ((Cmp.den .eq x11 (0 : Int)) && (Cmp.den .eq x12 (0 : Int))))) ∧ (((Cmp.den .eq x8 (0 : Int)) && (Cmp.den .eq x9 (0 : Int))) = false → R (Value.bool false))) ∧ (((Cmp.den .eq x5 (0 : Int)) && (Cmp.den .eq x6 (0 : Int))) = false → R (Value.bool false))) ∧ ((Cmp.den .eq x13 (1 : Int)) = false → R (Value.bool false))) ∧ ((Cmp.den .eq x10 (1 : Int)) = false → R (Value.bool false))) ∧ ((Cmp.den .eq x7 (1 : Int)) = false → R (Value.bool false))) ∧ ((!(Cmp.den .le x2 x3)) = false → (r5add_sem.pre [(.i x0), (.i x1), (.i x2), (.i x3)]) ∧ (
∀ x15 : Int, x15 = (Cv.int (Env.get (r5add_sem.out [(.i x0), (.i x1), (.i x2), (.i x3)]) 0)) → (-9223372036854775808 : Int) ≤ x15 → x15 ≤ (9223372036854775807 : Int) →
∀ x16 : Int, x16 = (Cv.int (Env.get (r5add_sem.out [(.i x0), (.i x1), (.i x2), (.i x3)]) 1)) → (-9223372036854775808 : Int) ≤ x16 → x16 ≤ (9223372036854775807 : Int) →
∀ x17 : Int, x17 = (Cv.int (Env.get (r5add_sem.out [(.i x0), (.i x1), (.i x2), (.i x3)]) 2)) → (-9223372036854775808 : Int) ≤ x17 → x17 ≤ (9223372036854775807 : Int) →
(r5sub_sem.pre [(.i x0), (.i x1), (.i x2), (.i x3)]) ∧ (
∀ x18 : Int, x18 = (Cv.int (Env.get (r5sub_sem.out [(.i x0), (.i x1), (.i x2), (.i x3)]) 0)) → (-9223372036854775808 : Int) ≤ x18 → x18 ≤ (9223372036854775807 : Int) →
∀ x19 : Int, x19 = (Cv.int (Env.get (r5sub_sem.out [(.i x0), (.i x1), (.i x2), (.i x3)]) 1)) → (-9223372036854775808 : Int) ≤ x19 → x19 ≤ (9223372036854775807 : Int) →
∀ x20 : Int, x20 = (Cv.int (Env.get (r5sub_sem.out [(.i x0), (.i x1), (.i x2), (.i x3)]) 2)) → (-9223372036854775808 : Int) ≤ x20 → x20 ≤ (9223372036854775807 : Int) →
((Cmp.den .eq x7 (0 : Int)) = true → ∀ x21 : Int, x21 = (if (Cmp.den .lt x2 x0) = true then x2 else x0) →
∀ x22 : Int, x22 = (if (Cmp.den .lt x1 x3) = true then x3 else x1) →
(((Cmp.den .eq x5 x21) && (Cmp.den .eq x6 x22)) = true → (((Cmp.den .eq x8 x15) && (Cmp.den .eq x9 x16)) = true → ((Cmp.den .eq x10 x17) = true → (((Cmp.den .eq x11 x18) && (Cmp.den .eq x12 x19)) = true → R (Value.bool (Cmp.den .eq x13 x20))) ∧ (((Cmp.den .eq x11 x18) && (Cmp.den .eq x12 x19)) = false → R (Value.bool false))) ∧ ((Cmp.den .eq x10 x17) = false → R (Value.bool false))) ∧ (((Cmp.den .eq x8 x15) && (Cmp.den .eq x9 x16)) = false → R (Value.bool false))) ∧ (((Cmp.den .eq x5 x21) && (Cmp.den .eq x6 x22)) = false → R (Value.bool false))) ∧ ((Cmp.den .eq x7 (0 : Int)) = false → R (Value.bool false)))))))))) ∧ ((Cmp.den .le x0 x4) = false → (salive_sem.pre []) ∧ (
((!(Cv.bool (Env.get (salive_sem.out []) 0))) = true → R (Value.bool false)) ∧ ((!(Cv.bool (Env.get (salive_sem.out []) 0))) = false → ((!(Cmp.den .le x0 x1)) = true → ((Cmp.den .eq x7 (1 : Int)) = true → ((Cmp.den .eq x10 (1 : Int)) = true → ((Cmp.den .eq x13 (1 : Int)) = true → (((Cmp.den .eq x5 (0 : Int)) && (Cmp.den .eq x6 (0 : Int))) = true → (((Cmp.den .eq x8 (0 : Int)) && (Cmp.den .eq x9 (0 : Int))) = true → R (Value.bool ((Cmp.den .eq x11 (0 : Int)) && (Cmp.den .eq x12 (0 : Int))))) ∧ (((Cmp.den .eq x8 (0 : Int)) && (Cmp.den .eq x9 (0 : Int))) = false → R (Value.bool false))) ∧ (((Cmp.den .eq x5 (0 : Int)) && (Cmp.den .eq x6 (0 : Int))) = false → R (Value.bool false))) ∧ ((Cmp.den .eq x13 (1 : Int)) = false → R (Value.bool false))) ∧ ((Cmp.den .eq x10 (1 : Int)) = false → R (Value.bool false))) ∧ ((Cmp.den .eq x7 (1 : Int)) = false → R (Value.bool false))) ∧ ((!(Cmp.den .le x0 x1)) = false → ((!(Cmp.den .le x2 x3)) = true → ((Cmp.den .eq x7 (1 : Int)) = true → ((Cmp.den .eq x10 (1 : Int)) = true → ((Cmp.den .eq x13 (1 : Int)) = true → (((Cmp.den .eq x5 (0 : Int)) && (Cmp.den .eq x6 (0 : Int))) = true → (((Cmp.den .eq x8 (0 : Int)) && (Cmp.den .eq x9 (0 : Int))) = true → R (Value.bool ((Cmp.den .eq x11 (0 : Int)) && (Cmp.den .eq x12 (0 : Int))))) ∧ (((Cmp.den .eq x8 (0 : Int)) && (Cmp.den .eq x9 (0 : Int))) = false → R (Value.bool false))) ∧ (((Cmp.den .eq x5 (0 : Int)) && (Cmp.den .eq x6 (0 : Int))) = false → R (Value.bool false))) ∧ ((Cmp.den .eq x13 (1 : Int)) = false → R (Value.bool false))) ∧ ((Cmp.den .eq x10 (1 : Int)) = false → R (Value.bool false))) ∧ ((Cmp.den .eq x7 (1 : Int)) = false → R (Value.bool false))) ∧ ((!(Cmp.den .le x2 x3)) = false → (r5add_sem.pre [(.i x0), (.i x1), (.i x2), (.i x3)]) ∧ (
∀ x15 : Int, x15 = (Cv.int (Env.get (r5add_sem.out [(.i x0), (.i x1), (.i x2), (.i x3)]) 0)) → (-9223372036854775808 : Int) ≤ x15 → x15 ≤ (9223372036854775807 : Int) →
∀ x16 : Int, x16 = (Cv.int (Env.get (r5add_sem.out [(.i x0), (.i x1), (.i x2), (.i x3)]) 1)) → (-9223372036854775808 : Int) ≤ x16 → x16 ≤ (9223372036854775807 : Int) →
∀ x17 : Int, x17 = (Cv.int (Env.get (r5add_sem.out [(.i x0), (.i x1), (.i x2), (.i x3)]) 2)) → (-9223372036854775808 : Int) ≤ x17 → x17 ≤ (9223372036854775807 : Int) →
(r5sub_sem.pre [(.i x0), (.i x1), (.i x2), (.i x3)]) ∧ (
∀ x18 : Int, x18 = (Cv.int (Env.get (r5sub_sem.out [(.i x0), (.i x1), (.i x2), (.i x3)]) 0)) → (-9223372036854775808 : Int) ≤ x18 → x18 ≤ (9223372036854775807 : Int) →
∀ x19 : Int, x19 = (Cv.int (Env.get (r5sub_sem.out [(.i x0), (.i x1), (.i x2), (.i x3)]) 1)) → (-9223372036854775808 : Int) ≤ x19 → x19 ≤ (9223372036854775807 : Int) →
∀ x20 : Int, x20 = (Cv.int (Env.get (r5sub_sem.out [(.i x0), (.i x1), (.i x2), (.i x3)]) 2)) → (-9223372036854775808 : Int) ≤ x20 → x20 ≤ (9223372036854775807 : Int) →
((Cmp.den .eq x7 (0 : Int)) = true → ∀ x21 : Int, x21 = (if (Cmp.den .lt x2 x0) = true then x2 else x0) →
∀ x22 : Int, x22 = (if (Cmp.den .lt x1 x3) = true then x3 else x1) →
(((Cmp.den .eq x5 x21) && (Cmp.den .eq x6 x22)) = true → (((Cmp.den .eq x8 x15) && (Cmp.den .eq x9 x16)) = true → ((Cmp.den .eq x10 x17) = true → (((Cmp.den .eq x11 x18) && (Cmp.den .eq x12 x19)) = true → R (Value.bool (Cmp.den .eq x13 x20))) ∧ (((Cmp.den .eq x11 x18) && (Cmp.den .eq x12 x19)) = false → R (Value.bool false))) ∧ ((Cmp.den .eq x10 x17) = false → R (Value.bool false))) ∧ (((Cmp.den .eq x8 x15) && (Cmp.den .eq x9 x16)) = false → R (Value.bool false))) ∧ (((Cmp.den .eq x5 x21) && (Cmp.den .eq x6 x22)) = false → R (Value.bool false))) ∧ ((Cmp.den .eq x7 (0 : Int)) = false → R (Value.bool false)))))))))))))) := by kernel_rfl

def lstells_sem : SpecSem := { pre := fun cs => match cs with | [.i a, .i b, .i c, .i d, .i x] => IsI a ∧ IsI b ∧ IsI c ∧ IsI d ∧ IsI x | _ => False, out := fun cs => match cs with | [.i a, .i b, .i c, .i d, .i x] => [.b true] | _ => [] }
set_option maxHeartbeats 16000000 in
theorem lstells_ok : SpecOK Try.prog 4 lstells_sp lstells_sem := by
  refine spec_of_tree lstells_cxok Try.func4 (by kernel_rfl) (by kernel_rfl) lstells_walk rfl ?_
  intro cs hpre
  match cs, hpre with
  | [.i a, .i b, .i c, .i d, .i x], ⟨j_a, j_b, j_c, j_d, j_x⟩ =>
    have h_a := j_a
    unfold IsI at h_a
    have h_b := j_b
    unfold IsI at h_b
    have h_c := j_c
    unfold IsI at h_c
    have h_d := j_d
    unfold IsI at h_d
    have h_x := j_x
    unfold IsI at h_x
    refine ⟨rfl, IvsB.ok (by simp only [lstells_ivs, IvsB, Cv.int, and_true] <;> omega), ?_, ?_⟩
    · simp only [lstells_sem, lstells_sp, Fits]
    · rw [lstells_den]
      simp only [lstells_sem, lstells_sp, spT, lstells_den, sjoin_sem, sadd_sem, ssub_sem, salive_sem, r5add_sem, r5sub_sem, Tree.den, List.getElem?_cons_zero, List.getElem?_cons_succ, IE.den, BE.den, At.den, CA.den, Env.get, Cv.int, Cv.bool, List.cons_append, List.nil_append, List.map_cons, List.map_nil, bindRes, bindEq, Fits, SV.den, denL, place, placeL, eq_t, eq_f, lt_t, lt_f, le_t, le_f, beq_iff_eq, beq_eq_false_iff_ne, ne_eq, reduceCtorEq, b_dec, decide_eq_true_eq, decide_eq_false_iff_not, Bool.not_eq_false', Bool.or_eq_true, Bool.or_eq_false_iff, Bool.and_eq_false_iff, true_iff, false_iff, Bool.false_eq_true, Bool.not_eq_true', Bool.and_eq_true, Bool.not_true, Bool.not_false, List.cons.injEq, Cv.i.injEq, Cv.b.injEq, and_true, true_and, agg_inj, tup_inj, Value.int.injEq, Value.bool.injEq]
      by_cases hr1 : a ≤ b
      · by_cases hr2 : c ≤ d
        · by_cases hs1 : IsI (a + c) <;> by_cases hs2 : IsI (b + d) <;> by_cases hs3 : IsI (a - d) <;> by_cases hs4 : IsI (b - c) <;>
            simp only [hr1, hr2, hs1, hs2, hs3, hs4, j_a, j_b, j_c, j_d, forall_eq, eq_self, if_true, if_false, true_and, and_true, false_and, and_false, true_or, or_true, false_or, or_false, true_iff, iff_true, false_iff, iff_false, not_true_eq_false, not_false_eq_true, true_implies, false_implies, implies_true, forall_const, decide_true, decide_false, reduceCtorEq] <;> (try ((repeat' (first | intro _ | refine And.intro ?_ ?_ | exact trivial)) <;> omega))
        · simp only [hr1, hr2, j_a, j_b, j_c, j_d, forall_eq, eq_self, if_true, if_false, true_and, and_true, false_and, and_false, true_or, or_true, false_or, or_false, true_iff, iff_true, false_iff, iff_false, not_true_eq_false, not_false_eq_true, true_implies, false_implies, implies_true, forall_const, decide_true, decide_false, reduceCtorEq]
      · simp only [hr1, j_a, j_b, j_c, j_d, forall_eq, eq_self, if_true, if_false, true_and, and_true, false_and, and_false, true_or, or_true, false_or, or_false, true_iff, iff_true, false_iff, iff_false, not_true_eq_false, not_false_eq_true, true_implies, false_implies, implies_true, forall_const, decide_true, decide_false, reduceCtorEq]
end Go.Proofs.Ytlhmhcjpdpakkaa.X
