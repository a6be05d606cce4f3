/-
  SpanTimes tells true, for every two spans.
-/
import Derived.Test.YtlhmhcjpdpakkaaSxRef5M
import Derived.Test.YtlhmhcjpdpakkaaSxSpanNum
namespace Go.Proofs.Ytlhmhcjpdpakkaa.X
open Go Go.SX Go.RowKit
set_option linter.unusedVariables false
set_option linter.unusedSimpArgs false







def lstimes_sp : SpecSh := { args := [(.agg [(.int .i64 (.z 0)), (.int .i64 (.z 0))]), (.agg [(.int .i64 (.z 0)), (.int .i64 (.z 0))])], res := (.bool .f), sh := [.b] }
set_option maxRecDepth 100000 in
def lstimes_tree : Tree :=
.call 24 [.i (some ((-9223372036854775808), 9223372036854775807)), .i (some ((-9223372036854775808), 9223372036854775807)), .i (some ((-9223372036854775808), 9223372036854775807))] [.i (.v 0), .i (.v 1), .i (.v 2), .i (.v 3)] <|
.call 48 [.i (some ((-9223372036854775808), 9223372036854775807)), .i (some ((-9223372036854775808), 9223372036854775807)), .i (some ((-9223372036854775808), 9223372036854775807))] [.i (.v 0), .i (.v 1), .i (.v 2), .i (.v 3)] <|
.call 50 [.i (some ((-9223372036854775808), 9223372036854775807)), .i (some ((-9223372036854775808), 9223372036854775807)), .i (some ((-9223372036854775808), 9223372036854775807))] [.i (.v 0), .i (.v 1)] <|
.call 29 [.b] [] <|
.ite (.not (.v 13)) (.ret (.bool .f)) <|
.ite (.not (.cmp .le (.v 0) (.v 1))) (.ite (.cmp .eq (.v 6) (.z 1)) (.ite (.cmp .eq (.v 9) (.z 1)) (.ite (.cmp .eq (.v 12) (.z 1)) (.ite (.and (.cmp .eq (.v 4) (.z 0)) (.cmp .eq (.v 5) (.z 0))) (.ite (.and (.cmp .eq (.v 7) (.z 0)) (.cmp .eq (.v 8) (.z 0))) (.ret (.bool (.and (.cmp .eq (.v 10) (.z 0)) (.cmp .eq (.v 11) (.z 0))))) <|
.ret (.bool .f)) <|
.ret (.bool .f)) <|
.ret (.bool .f)) <|
.ret (.bool .f)) <|
.ret (.bool .f)) <|
.ite (.cmp .lt (.v 0) (.z 0)) (.ite (.not (.cmp .eq (.v 12) (.z 3))) (.ret (.bool .f)) <|
.ite (.not (.and (.cmp .eq (.v 10) (.z 0)) (.cmp .eq (.v 11) (.z 0)))) (.ret (.bool .f)) <|
.ite (.not (.cmp .le (.v 2) (.v 3))) (.ite (.cmp .eq (.v 6) (.z 1)) (.ite (.cmp .eq (.v 9) (.z 1)) (.ite (.and (.cmp .eq (.v 4) (.z 0)) (.cmp .eq (.v 5) (.z 0))) (.ret (.bool (.and (.cmp .eq (.v 7) (.z 0)) (.cmp .eq (.v 8) (.z 0))))) <|
.ret (.bool .f)) <|
.ret (.bool .f)) <|
.ret (.bool .f)) <|
.call 52 [.i (some ((-9223372036854775808), 9223372036854775807)), .i (some ((-9223372036854775808), 9223372036854775807)), .i (some ((-9223372036854775808), 9223372036854775807))] [.i (.v 0), .i (.v 1), .i (.v 2), .i (.v 3)] <|
.ite (.not (.and (.cmp .eq (.v 4) (.v 14)) (.cmp .eq (.v 5) (.v 15)))) (.ret (.bool .f)) <|
.ite (.not (.cmp .eq (.v 6) (.v 16))) (.ret (.bool .f)) <|
.ite (.cmp .le (.v 2) (.z 0)) (.ite (.cmp .le (.z 0) (.v 3)) (.ite (.cmp .eq (.v 9) (.z 4)) (.ret (.bool (.and (.cmp .eq (.v 7) (.z 0)) (.cmp .eq (.v 8) (.z 0))))) <|
.ret (.bool .f)) <|
.call 53 [.i (some ((-9223372036854775808), 9223372036854775807)), .i (some ((-9223372036854775808), 9223372036854775807)), .i (some ((-9223372036854775808), 9223372036854775807))] [.i (.v 0), .i (.v 1), .i (.v 2), .i (.v 3)] <|
.ite (.and (.cmp .eq (.v 7) (.v 17)) (.cmp .eq (.v 8) (.v 18))) (.ret (.bool (.cmp .eq (.v 9) (.v 19)))) <|
.ret (.bool .f)) <|
.call 53 [.i (some ((-9223372036854775808), 9223372036854775807)), .i (some ((-9223372036854775808), 9223372036854775807)), .i (some ((-9223372036854775808), 9223372036854775807))] [.i (.v 0), .i (.v 1), .i (.v 2), .i (.v 3)] <|
.ite (.and (.cmp .eq (.v 7) (.v 17)) (.cmp .eq (.v 8) (.v 18))) (.ret (.bool (.cmp .eq (.v 9) (.v 19)))) <|
.ret (.bool .f)) <|
.ite (.not (.cmp .eq (.v 12) (.z 0))) (.ret (.bool .f)) <|
.call 51 [.i (some ((-9223372036854775808), 9223372036854775807)), .i (some ((-9223372036854775808), 9223372036854775807))] [.i (.v 0), .i (.v 1)] <|
.ite (.not (.and (.cmp .eq (.v 10) (.v 14)) (.cmp .eq (.v 11) (.v 15)))) (.ret (.bool .f)) <|
.ite (.not (.cmp .le (.v 2) (.v 3))) (.ite (.cmp .eq (.v 6) (.z 1)) (.ite (.cmp .eq (.v 9) (.z 1)) (.ite (.and (.cmp .eq (.v 4) (.z 0)) (.cmp .eq (.v 5) (.z 0))) (.ret (.bool (.and (.cmp .eq (.v 7) (.z 0)) (.cmp .eq (.v 8) (.z 0))))) <|
.ret (.bool .f)) <|
.ret (.bool .f)) <|
.ret (.bool .f)) <|
.call 52 [.i (some ((-9223372036854775808), 9223372036854775807)), .i (some ((-9223372036854775808), 9223372036854775807)), .i (some ((-9223372036854775808), 9223372036854775807))] [.i (.v 0), .i (.v 1), .i (.v 2), .i (.v 3)] <|
.ite (.not (.and (.cmp .eq (.v 4) (.v 16)) (.cmp .eq (.v 5) (.v 17)))) (.ret (.bool .f)) <|
.ite (.not (.cmp .eq (.v 6) (.v 18))) (.ret (.bool .f)) <|
.ite (.cmp .le (.v 2) (.z 0)) (.ite (.cmp .le (.z 0) (.v 3)) (.ite (.cmp .eq (.v 9) (.z 4)) (.ret (.bool (.and (.cmp .eq (.v 7) (.z 0)) (.cmp .eq (.v 8) (.z 0))))) <|
.ret (.bool .f)) <|
.call 53 [.i (some ((-9223372036854775808), 9223372036854775807)), .i (some ((-9223372036854775808), 9223372036854775807)), .i (some ((-9223372036854775808), 9223372036854775807))] [.i (.v 0), .i (.v 1), .i (.v 2), .i (.v 3)] <|
.ite (.and (.cmp .eq (.v 7) (.v 19)) (.cmp .eq (.v 8) (.v 20))) (.ret (.bool (.cmp .eq (.v 9) (.v 21)))) <|
.ret (.bool .f)) <|
.call 53 [.i (some ((-9223372036854775808), 9223372036854775807)), .i (some ((-9223372036854775808), 9223372036854775807)), .i (some ((-9223372036854775808), 9223372036854775807))] [.i (.v 0), .i (.v 1), .i (.v 2), .i (.v 3)] <|
.ite (.and (.cmp .eq (.v 7) (.v 19)) (.cmp .eq (.v 8) (.v 20))) (.ret (.bool (.cmp .eq (.v 9) (.v 21)))) <|
.ret (.bool .f)
noncomputable def lstimes_cx : Ctx := { tys := tys, fns := fns, sps := [(24, smul_sp), (48, sdiv_sp), (50, sroot_sp), (29, salive_sp), (52, r5mul_sp), (53, r5div_sp), (51, r5root_sp)], anns := [], trys := [] }
def lstimes_ivs : List (Option (Int × Int)) := [some ((-9223372036854775808), 9223372036854775807), some ((-9223372036854775808), 9223372036854775807), some ((-9223372036854775808), 9223372036854775807), some ((-9223372036854775808), 9223372036854775807)]
set_option maxRecDepth 100000 in
theorem lstimes_walk : runFn lstimes_cx 3000 9 Try.f9 lstimes_sp.args lstimes_ivs = lstimes_tree := by kernel_rfl
noncomputable def lstimes_M : Nat → SpecSem
  | 24 => smul_sem
  | 48 => sdiv_sem
  | 50 => sroot_sem
  | 29 => salive_sem
  | 52 => r5mul_sem
  | 53 => r5div_sem
  | 51 => r5root_sem
  | _ => noSem
theorem lstimes_M24 : lstimes_M 24 = smul_sem := rfl
theorem lstimes_M48 : lstimes_M 48 = sdiv_sem := rfl
theorem lstimes_M50 : lstimes_M 50 = sroot_sem := rfl
theorem lstimes_M29 : lstimes_M 29 = salive_sem := rfl
theorem lstimes_M52 : lstimes_M 52 = r5mul_sem := rfl
theorem lstimes_M53 : lstimes_M 53 = r5div_sem := rfl
theorem lstimes_M51 : lstimes_M 51 = r5root_sem := rfl
theorem lstimes_cxok : CxOK Try.prog lstimes_cx lstimes_M := ⟨tysOK, fnsOK, spCons smul_ok <| spCons sdiv_ok <| spCons sroot_ok <| spCons salive_ok <| spCons r5mul_ok <| spCons r5div_ok <| spCons r5root_ok <| fun _ _ h => spNil h, mixedOK, fun _ _ h => trNil h⟩
set_option maxRecDepth 100000 in
set_option maxHeartbeats 8000000 in
theorem lstimes_den (R RP : Value → Prop) (F : Ex → St → Js → Env → Prop) (J : Js) (x0 : Int) (x1 : Int) (x2 : Int) (x3 : Int) : Tree.den lstimes_M R RP F lstimes_tree J [(.i x0), (.i x1), (.i x2), (.i x3)] = (
  (smul_sem.pre [(.i x0), (.i x1), (.i x2), (.i x3)]) ∧ (
∀ x4 : Int, x4 = (Cv.int (Env.get (smul_sem.out [(.i x0), (.i x1), (.i x2), (.i x3)]) 0)) → (-9223372036854775808 : Int) ≤ x4 → x4 ≤ (9223372036854775807 : Int) →
∀ x5 : Int, x5 = (Cv.int (Env.get (smul_sem.out [(.i x0), (.i x1), (.i x2), (.i x3)]) 1)) → (-9223372036854775808 : Int) ≤ x5 → x5 ≤ (9223372036854775807 : Int) →
∀ x6 : Int, x6 = (Cv.int (Env.get (smul_sem.out [(.i x0), (.i x1), (.i x2), (.i x3)]) 2)) → (-9223372036854775808 : Int) ≤ x6 → x6 ≤ (9223372036854775807 : Int) →
(sdiv_sem.pre [(.i x0), (.i x1), (.i x2), (.i x3)]) ∧ (
∀ x7 : Int, x7 = (Cv.int (Env.get (sdiv_sem.out [(.i x0), (.i x1), (.i x2), (.i x3)]) 0)) → (-9223372036854775808 : Int) ≤ x7 → x7 ≤ (9223372036854775807 : Int) →
∀ x8 : Int, x8 = (Cv.int (Env.get (sdiv_sem.out [(.i x0), (.i x1), (.i x2), (.i x3)]) 1)) → (-9223372036854775808 : Int) ≤ x8 → x8 ≤ (9223372036854775807 : Int) →
∀ x9 : Int, x9 = (Cv.int (Env.get (sdiv_sem.out [(.i x0), (.i x1), (.i x2), (.i x3)]) 2)) → (-9223372036854775808 : Int) ≤ x9 → x9 ≤ (9223372036854775807 : Int) →
(sroot_sem.pre [(.i x0), (.i x1)]) ∧ (
∀ x10 : Int, x10 = (Cv.int (Env.get (sroot_sem.out [(.i x0), (.i x1)]) 0)) → (-9223372036854775808 : Int) ≤ x10 → x10 ≤ (9223372036854775807 : Int) →
∀ x11 : Int, x11 = (Cv.int (Env.get (sroot_sem.out [(.i x0), (.i x1)]) 1)) → (-9223372036854775808 : Int) ≤ x11 → x11 ≤ (9223372036854775807 : Int) →
∀ x12 : Int, x12 = (Cv.int (Env.get (sroot_sem.out [(.i x0), (.i x1)]) 2)) → (-9223372036854775808 : Int) ≤ x12 → x12 ≤ (9223372036854775807 : Int) →
(salive_sem.pre []) ∧ (
((!(Cv.bool (Env.get (salive_sem.out []) 0))) = true → R (Value.bool false)) ∧ ((!(Cv.bool (Env.get (salive_sem.out []) 0))) = false → ((!(Cmp.den .le x0 x1)) = true → ((Cmp.den .eq x6 (1 : Int)) = true → ((Cmp.den .eq x9 (1 : Int)) = true → ((Cmp.den .eq x12 (1 : Int)) = true → (((Cmp.den .eq x4 (0 : Int)) && (Cmp.den .eq x5 (0 : Int))) = true → (((Cmp.den .eq x7 (0 : Int)) && (Cmp.den .eq x8 (0 : Int))) = true → R (Value.bool ((Cmp.den .eq x10 (0 : Int)) && (Cmp.den .eq x11 (0 : Int))))) ∧ (((Cmp.den .eq x7 (0 : Int)) && (Cmp.den .eq x8 (0 : Int))) = false → R (Value.bool false))) ∧ (((Cmp.den .eq x4 (0 : Int)) && (Cmp.den .eq x5 (0 : Int))) = false → R (Value.bool false))) ∧ ((Cmp.den .eq x12 (1 : Int)) = false → R (Value.bool false))) ∧ ((Cmp.den .eq x9 (1 : Int)) = false → R (Value.bool false))) ∧ ((Cmp.den .eq x6 (1 : Int)) = false → R (Value.bool false))) ∧ ((!(Cmp.den .le x0 x1)) = false → ((Cmp.den .lt x0 (0 : Int)) = true → ((!(Cmp.den .eq x12 (3 : Int))) = true → R (Value.bool false)) ∧ ((!(Cmp.den .eq x12 (3 : Int))) = false → ((!((Cmp.den .eq x10 (0 : Int)) && (Cmp.den .eq x11 (0 : Int)))) = true → R (Value.bool false)) ∧ ((!((Cmp.den .eq x10 (0 : Int)) && (Cmp.den .eq x11 (0 : Int)))) = false → ((!(Cmp.den .le x2 x3)) = true → ((Cmp.den .eq x6 (1 : Int)) = true → ((Cmp.den .eq x9 (1 : Int)) = true → (((Cmp.den .eq x4 (0 : Int)) && (Cmp.den .eq x5 (0 : Int))) = true → R (Value.bool ((Cmp.den .eq x7 (0 : Int)) && (Cmp.den .eq x8 (0 : Int))))) ∧ (((Cmp.den .eq x4 (0 : Int)) && (Cmp.den .eq x5 (0 : Int))) = false → R (Value.bool false))) ∧ ((Cmp.den .eq x9 (1 : Int)) = false → R (Value.bool false))) ∧ ((Cmp.den .eq x6 (1 : Int)) = false → R (Value.bool false))) ∧ ((!(Cmp.den .le x2 x3)) = false → (r5mul_sem.pre [(.i x0), (.i x1), (.i x2), (.i x3)]) ∧ (
∀ x14 : Int, x14 = (Cv.int (Env.get (r5mul_sem.out [(.i x0), (.i x1), (.i x2), (.i x3)]) 0)) → (-9223372036854775808 : Int) ≤ x14 → x14 ≤ (9223372036854775807 : Int) →
∀ x15 : Int, x15 = (Cv.int (Env.get (r5mul_sem.out [(.i x0), (.i x1), (.i x2), (.i x3)]) 1)) → (-9223372036854775808 : Int) ≤ x15 → x15 ≤ (9223372036854775807 : Int) →
∀ x16 : Int, x16 = (Cv.int (Env.get (r5mul_sem.out [(.i x0), (.i x1), (.i x2), (.i x3)]) 2)) → (-9223372036854775808 : Int) ≤ x16 → x16 ≤ (9223372036854775807 : Int) →
((!((Cmp.den .eq x4 x14) && (Cmp.den .eq x5 x15))) = true → R (Value.bool false)) ∧ ((!((Cmp.den .eq x4 x14) && (Cmp.den .eq x5 x15))) = false → ((!(Cmp.den .eq x6 x16)) = true → R (Value.bool false)) ∧ ((!(Cmp.den .eq x6 x16)) = false → ((Cmp.den .le x2 (0 : Int)) = true → ((Cmp.den .le (0 : Int) x3) = true → ((Cmp.den .eq x9 (4 : Int)) = true → R (Value.bool ((Cmp.den .eq x7 (0 : Int)) && (Cmp.den .eq x8 (0 : Int))))) ∧ ((Cmp.den .eq x9 (4 : Int)) = false → R (Value.bool false))) ∧ ((Cmp.den .le (0 : Int) x3) = false → (r5div_sem.pre [(.i x0), (.i x1), (.i x2), (.i x3)]) ∧ (
∀ x17 : Int, x17 = (Cv.int (Env.get (r5div_sem.out [(.i x0), (.i x1), (.i x2), (.i x3)]) 0)) → (-9223372036854775808 : Int) ≤ x17 → x17 ≤ (9223372036854775807 : Int) →
∀ x18 : Int, x18 = (Cv.int (Env.get (r5div_sem.out [(.i x0), (.i x1), (.i x2), (.i x3)]) 1)) → (-9223372036854775808 : Int) ≤ x18 → x18 ≤ (9223372036854775807 : Int) →
∀ x19 : Int, x19 = (Cv.int (Env.get (r5div_sem.out [(.i x0), (.i x1), (.i x2), (.i x3)]) 2)) → (-9223372036854775808 : Int) ≤ x19 → x19 ≤ (9223372036854775807 : Int) →
(((Cmp.den .eq x7 x17) && (Cmp.den .eq x8 x18)) = true → R (Value.bool (Cmp.den .eq x9 x19))) ∧ (((Cmp.den .eq x7 x17) && (Cmp.den .eq x8 x18)) = false → R (Value.bool false))))) ∧ ((Cmp.den .le x2 (0 : Int)) = false → (r5div_sem.pre [(.i x0), (.i x1), (.i x2), (.i x3)]) ∧ (
∀ x17 : Int, x17 = (Cv.int (Env.get (r5div_sem.out [(.i x0), (.i x1), (.i x2), (.i x3)]) 0)) → (-9223372036854775808 : Int) ≤ x17 → x17 ≤ (9223372036854775807 : Int) →
∀ x18 : Int, x18 = (Cv.int (Env.get (r5div_sem.out [(.i x0), (.i x1), (.i x2), (.i x3)]) 1)) → (-9223372036854775808 : Int) ≤ x18 → x18 ≤ (9223372036854775807 : Int) →
∀ x19 : Int, x19 = (Cv.int (Env.get (r5div_sem.out [(.i x0), (.i x1), (.i x2), (.i x3)]) 2)) → (-9223372036854775808 : Int) ≤ x19 → x19 ≤ (9223372036854775807 : Int) →
(((Cmp.den .eq x7 x17) && (Cmp.den .eq x8 x18)) = true → R (Value.bool (Cmp.den .eq x9 x19))) ∧ (((Cmp.den .eq x7 x17) && (Cmp.den .eq x8 x18)) = false → R (Value.bool false))))))))))) ∧ ((Cmp.den .lt x0 (0 : Int)) = false → ((!(Cmp.den .eq x12 (0 : Int))) = true → R (Value.bool false)) ∧ ((!(Cmp.den .eq x12 (0 : Int))) = false → (r5root_sem.pre [(.i x0), (.i x1)]) ∧ (
∀ x14 : Int, x14 = (Cv.int (Env.get (r5root_sem.out [(.i x0), (.i x1)]) 0)) → (-9223372036854775808 : Int) ≤ x14 → x14 ≤ (9223372036854775807 : Int) →
∀ x15 : Int, x15 = (Cv.int (Env.get (r5root_sem.out [(.i x0), (.i x1)]) 1)) → (-9223372036854775808 : Int) ≤ x15 → x15 ≤ (9223372036854775807 : Int) →
((!((Cmp.den .eq x10 x14) && (Cmp.den .eq x11 x15))) = true → R (Value.bool false)) ∧ ((!((Cmp.den .eq x10 x14) && (Cmp.den .eq x11 x15))) = false → ((!(Cmp.den .le x2 x3)) = true → ((Cmp.den .eq x6 (1 : Int)) = true → ((Cmp.den .eq x9 (1 : Int)) = true → (((Cmp.den .eq x4 (0 : Int)) && (Cmp.den .eq x5 (0 : Int))) = true → R (Value.bool ((Cmp.den .eq x7 (0 : Int)) && (Cmp.den .eq x8 (0 : Int))))) ∧ (((Cmp.den .eq x4 (0 : Int)) && (Cmp.den .eq x5 (0 : Int))) = false → R (Value.bool false))) ∧ ((Cmp.den .eq x9 (1 : Int)) = false → R (Value.bool false))) ∧ ((Cmp.den .eq x6 (1 : Int)) = false → R (Value.bool false))) ∧ ((!(Cmp.den .le x2 x3)) = false → (r5mul_sem.pre [(.i x0), (.i x1), (.i x2), (.i x3)]) ∧ (
∀ x16 : Int, x16 = (Cv.int (Env.get (r5mul_sem.out [(.i x0), (.i x1), (.i x2), (.i x3)]) 0)) → (-9223372036854775808 : Int) ≤ x16 → x16 ≤ (9223372036854775807 : Int) →
∀ x17 : Int, x17 = (Cv.int (Env.get (r5mul_sem.out [(.i x0), (.i x1), (.i x2), (.i x3)]) 1)) → (-9223372036854775808 : Int) ≤ x17 → x17 ≤ (9223372036854775807 : Int) →
∀ x18 : Int, x18 = (Cv.int (Env.get (r5mul_sem.out [(.i x0), (.i x1), (.i x2), (.i x3)]) 2)) → (-9223372036854775808 : Int) ≤ x18 → x18 ≤ (9223372036854775807 : Int) →
((!((Cmp.den .eq x4 x16) && (Cmp.den .eq x5 x17))) = true → R (Value.bool false)) ∧ ((!((Cmp.den .eq x4 x16) && (Cmp.den .eq x5 x17))) = false → ((!(Cmp.den .eq x6 x18)) = true → R (Value.bool false)) ∧ ((!(Cmp.den .eq x6 x18)) = false → ((Cmp.den .le x2 (0 : Int)) = true → ((Cmp.den .le (0 : Int) x3) = true → ((Cmp.den .eq x9 (4 : Int)) = true → R (Value.bool ((Cmp.den .eq x7 (0 : Int)) && (Cmp.den .eq x8 (0 : Int))))) ∧ ((Cmp.den .eq x9 (4 : Int)) = false → R (Value.bool false))) ∧ ((Cmp.den .le (0 : Int) x3) = false → (r5div_sem.pre [(.i x0), (.i x1), (.i x2), (.i x3)]) ∧ (
∀ x19 : Int, x19 = (Cv.int (Env.get (r5div_sem.out [(.i x0), (.i x1), (.i x2), (.i x3)]) 0)) → (-9223372036854775808 : Int) ≤ x19 → x19 ≤ (9223372036854775807 : Int) →
∀ x20 : Int, x20 = (Cv.int (Env.get (r5div_sem.out [(.i x0), (.i x1), (.i x2), (.i x3)]) 1)) → (-9223372036854775808 : Int) ≤ x20 → x20 ≤ (9223372036854775807 : Int) →
∀ x21 : Int, x21 = (Cv.int (Env.get (r5div_sem.out [(.i x0), (.i x1), (.i x2), (.i x3)]) 2)) → (-9223372036854775808 : Int) ≤ x21 → x21 ≤ (9223372036854775807 : Int) →
(((Cmp.den .eq x7 x19) && (Cmp.den .eq x8 x20)) = true → R (Value.bool (Cmp.den .eq x9 x21))) ∧ (((Cmp.den .eq x7 x19) && (Cmp.den .eq x8 x20)) = false → R (Value.bool false))))) ∧ ((Cmp.den .le x2 (0 : Int)) = false → (r5div_sem.pre [(.i x0), (.i x1), (.i x2), (.i x3)]) ∧ (
∀ x19 : Int, x19 = (Cv.int (Env.get (r5div_sem.out [(.i x0), (.i x1), (.i x2), (.i x3)]) 0)) → (-9223372036854775808 : Int) ≤ x19 → x19 ≤ (9223372036854775807 : Int) →
∀ x20 : Int, x20 = (Cv.int (Env.get (r5div_sem.out [(.i x0), (.i x1), (.i x2), (.i x3)]) 1)) → (-9223372036854775808 : Int) ≤ x20 → x20 ≤ (9223372036854775807 : Int) →
∀ x21 : Int, x21 = (Cv.int (Env.get (r5div_sem.out [(.i x0), (.i x1), (.i x2), (.i x3)]) 2)) → (-9223372036854775808 : Int) ≤ x21 → x21 ≤ (9223372036854775807 : Int) →
(((Cmp.den .eq x7 x19) && (Cmp.den .eq x8 x20)) = true → R (Value.bool (Cmp.den .eq x9 x21))) ∧ (((Cmp.den .eq x7 x19) && (Cmp.den .eq x8 x20)) = false → R (Value.bool false))))))))))))))))))) := by kernel_rfl

def lstimes_sem : SpecSem := { pre := fun cs => match cs with | [.i a, .i b, .i c, .i d] => IsI a ∧ IsI b ∧ IsI c ∧ IsI d | _ => False, out := fun cs => match cs with | [.i a, .i b, .i c, .i d] => [.b true] | _ => [] }
set_option maxHeartbeats 16000000 in
theorem lstimes_ok : SpecOK Try.prog 9 lstimes_sp lstimes_sem := by
  refine spec_of_tree lstimes_cxok Try.func9 (by kernel_rfl) (by kernel_rfl) lstimes_walk rfl ?_
  intro cs hpre
  match cs, hpre with
  | [.i a, .i b, .i c, .i d], ⟨j_a, j_b, j_c, j_d⟩ =>
    have h_a := j_a
    unfold IsI at h_a
    have h_b := j_b
    unfold IsI at h_b
    have h_c := j_c
    unfold IsI at h_c
    have h_d := j_d
    unfold IsI at h_d
    refine ⟨rfl, IvsB.ok (by simp only [lstimes_ivs, IvsB, Cv.int, and_true] <;> omega), ?_, ?_⟩
    · simp only [lstimes_sem, lstimes_sp, Fits]
    · rw [lstimes_den]
      simp only [lstimes_sem, lstimes_sp, spT, lstimes_den, smul_sem, sdiv_sem, sroot_sem, salive_sem, r5mul_sem, r5div_sem, r5root_sem, Tree.den, List.getElem?_cons_zero, List.getElem?_cons_succ, IE.den, BE.den, At.den, CA.den, Env.get, Cv.int, Cv.bool, List.cons_append, List.nil_append, List.map_cons, List.map_nil, bindRes, bindEq, Fits, SV.den, denL, place, placeL, eq_t, eq_f, lt_t, lt_f, le_t, le_f, beq_iff_eq, beq_eq_false_iff_ne, ne_eq, reduceCtorEq, b_dec, decide_eq_true_eq, decide_eq_false_iff_not, Bool.not_eq_false', Bool.or_eq_true, Bool.or_eq_false_iff, Bool.and_eq_false_iff, true_iff, false_iff, Bool.false_eq_true, Bool.not_eq_true', Bool.and_eq_true, Bool.not_true, Bool.not_false, List.cons.injEq, Cv.i.injEq, Cv.b.injEq, and_true, true_and, agg_inj, tup_inj, Value.int.injEq, Value.bool.injEq]
      have hZ := q_rng a b c d
      by_cases hr1 : a ≤ b
      · by_cases hr2 : c ≤ d
        · by_cases hz : c ≤ 0 ∧ 0 ≤ d
          · obtain ⟨q1, q2, q3⟩ := q_zero ⟨hr1, hr2⟩ hz
            by_cases ha : 0 ≤ a
            · by_cases hm : IsI (mn4 (a * c) (a * d) (b * c) (b * d)) ∧ IsI (mx4 (a * c) (a * d) (b * c) (b * d))
              · simp only [hr1, hr2, hz.1, hz.2, q1, q2, q3, ha, hm.1, hm.2, j_a, j_b, j_c, j_d, forall_eq, eq_self, if_true, if_false, true_and, and_true, false_and, and_false, true_or, or_true, false_or, or_false, true_iff, iff_true, false_iff, iff_false, not_true_eq_false, not_false_eq_true, true_implies, false_implies, implies_true, forall_const, decide_true, decide_false, reduceCtorEq]
                (repeat' (first | intro _ | refine And.intro ?_ ?_ | exact trivial)) <;> omega
              · simp only [hr1, hr2, hz.1, hz.2, q1, q2, q3, ha, hm, j_a, j_b, j_c, j_d, forall_eq, eq_self, if_true, if_false, true_and, and_true, false_and, and_false, true_or, or_true, false_or, or_false, true_iff, iff_true, false_iff, iff_false, not_true_eq_false, not_false_eq_true, true_implies, false_implies, implies_true, forall_const, decide_true, decide_false, reduceCtorEq]
                (repeat' (first | intro _ | refine And.intro ?_ ?_ | exact trivial)) <;> omega
            · by_cases hm : IsI (mn4 (a * c) (a * d) (b * c) (b * d)) ∧ IsI (mx4 (a * c) (a * d) (b * c) (b * d))
              · simp only [hr1, hr2, hz.1, hz.2, q1, q2, q3, ha, hm.1, hm.2, j_a, j_b, j_c, j_d, forall_eq, eq_self, if_true, if_false, true_and, and_true, false_and, and_false, true_or, or_true, false_or, or_false, true_iff, iff_true, false_iff, iff_false, not_true_eq_false, not_false_eq_true, true_implies, false_implies, implies_true, forall_const, decide_true, decide_false, reduceCtorEq]
                (repeat' (first | intro _ | refine And.intro ?_ ?_ | exact trivial)) <;> omega
              · simp only [hr1, hr2, hz.1, hz.2, q1, q2, q3, ha, hm, j_a, j_b, j_c, j_d, forall_eq, eq_self, if_true, if_false, true_and, and_true, false_and, and_false, true_or, or_true, false_or, or_false, true_iff, iff_true, false_iff, iff_false, not_true_eq_false, not_false_eq_true, true_implies, false_implies, implies_true, forall_const, decide_true, decide_false, reduceCtorEq]
                (repeat' (first | intro _ | refine And.intro ?_ ?_ | exact trivial)) <;> omega
          · by_cases kD : qOK a b c d
            · obtain ⟨q1, q2, q3⟩ := q_fits ⟨hr1, hr2⟩ hz kD
              obtain ⟨k1, k2⟩ := kD
              generalize qLo a b c d = ql at *
              generalize qHi a b c d = qh at *
              generalize qEr a b c d = qe at *
              by_cases ha : 0 ≤ a <;> by_cases hc : c ≤ 0 <;> by_cases hm : IsI (mn4 (a * c) (a * d) (b * c) (b * d)) ∧ IsI (mx4 (a * c) (a * d) (b * c) (b * d))
              all_goals
                simp only [hr1, hr2, hz, hc, q3, ha, hm, j_a, j_b, j_c, j_d, forall_eq, eq_self, if_true, if_false, true_and, and_true, false_and, and_false, true_or, or_true, false_or, or_false, true_iff, iff_true, false_iff, iff_false, not_true_eq_false, not_false_eq_true, true_implies, false_implies, implies_true, forall_const, decide_true, decide_false, reduceCtorEq] <;> (try ((repeat' (first | intro _ | refine And.intro ?_ ?_ | exact trivial)) <;> omega))
            · obtain ⟨q1, q2, q3⟩ := q_over ⟨hr1, hr2⟩ hz kD
              by_cases ha : 0 ≤ a <;> by_cases hc : c ≤ 0 <;> by_cases hm : IsI (mn4 (a * c) (a * d) (b * c) (b * d)) ∧ IsI (mx4 (a * c) (a * d) (b * c) (b * d))
              all_goals
                simp only [hr1, hr2, hz, hc, q1, q2, q3, ha, hm, j_a, j_b, j_c, j_d, forall_eq, eq_self, if_true, if_false, true_and, and_true, false_and, and_false, true_or, or_true, false_or, or_false, true_iff, iff_true, false_iff, iff_false, not_true_eq_false, not_false_eq_true, true_implies, false_implies, implies_true, forall_const, decide_true, decide_false, reduceCtorEq] <;> (try ((repeat' (first | intro _ | refine And.intro ?_ ?_ | exact trivial)) <;> omega))
        · obtain ⟨q1, q2, q3⟩ := q_wrong (a := a) (b := b) (c := c) (d := d) (by omega)
          simp only [hr1, hr2, q1, q2, q3, j_a, j_b, j_c, j_d, forall_eq, eq_self, if_true, if_false, true_and, and_true, false_and, and_false, true_or, or_true, false_or, or_false, true_iff, iff_true, false_iff, iff_false, not_true_eq_false, not_false_eq_true, true_implies, false_implies, implies_true, forall_const, decide_true, decide_false, reduceCtorEq] <;> (try ((repeat' (first | intro _ | refine And.intro ?_ ?_ | exact trivial)) <;> omega))
      · obtain ⟨q1, q2, q3⟩ := q_wrong (a := a) (b := b) (c := c) (d := d) (by omega)
        simp only [hr1, q1, q2, q3, j_a, j_b, j_c, j_d, forall_eq, eq_self, if_true, if_false, true_and, and_true, false_and, and_false, true_or, or_true, false_or, or_false, true_iff, iff_true, false_iff, iff_false, not_true_eq_false, not_false_eq_true, true_implies, false_implies, implies_true, forall_const, decide_true, decide_false, reduceCtorEq] <;> (try ((repeat' (first | intro _ | refine And.intro ?_ ?_ | exact trivial)) <;> omega))
end Go.Proofs.Ytlhmhcjpdpakkaa.X
