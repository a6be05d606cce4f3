/-
  SpanTight tells true, for every input.
-/
import Derived.Test.YtlhmhcjpdpakkaaSxSpanNum
namespace Go.Proofs.Ytlhmhcjpdpakkaa.X
open Go Go.SX Go.RowKit
set_option linter.unusedVariables false
set_option linter.unusedSimpArgs false







def lstight_sp : SpecSh := { args := [(.int .i64 (.z 0)), (.int .i64 (.z 0)), (.int .i64 (.z 0)), (.int .i64 (.z 0))], res := (.bool .f), sh := [.b] }
set_option maxRecDepth 100000 in
def lstight_tree : Tree :=
.lett (.ite (.cmp .lt (.v 1) (.v 0)) (.v 1) (.v 0)) <|
.lett (.ite (.cmp .lt (.v 0) (.v 1)) (.v 1) (.v 0)) <|
.lett (.ite (.cmp .lt (.v 3) (.v 2)) (.v 3) (.v 2)) <|
.lett (.ite (.cmp .lt (.v 2) (.v 3)) (.v 3) (.v 2)) <|
.call 22 [.i (some ((-9223372036854775808), 9223372036854775807)), .i (some ((-9223372036854775808), 9223372036854775807)), .i (some ((-9223372036854775808), 9223372036854775807))] [.i (.v 4), .i (.v 5), .i (.v 6), .i (.v 7)] <|
.call 23 [.i (some ((-9223372036854775808), 9223372036854775807)), .i (some ((-9223372036854775808), 9223372036854775807)), .i (some ((-9223372036854775808), 9223372036854775807))] [.i (.v 4), .i (.v 5), .i (.v 6), .i (.v 7)] <|
.call 24 [.i (some ((-9223372036854775808), 9223372036854775807)), .i (some ((-9223372036854775808), 9223372036854775807)), .i (some ((-9223372036854775808), 9223372036854775807))] [.i (.v 4), .i (.v 5), .i (.v 6), .i (.v 7)] <|
.call 25 [.i (some ((-9223372036854775808), 9223372036854775807)), .i (some ((-9223372036854775808), 9223372036854775807))] [.i (.v 4), .i (.v 6)] <|
.call 26 [.i (some ((-9223372036854775808), 9223372036854775807)), .i (some ((-9223372036854775808), 9223372036854775807))] [.i (.v 4), .i (.v 6)] <|
.call 27 [.i (some ((-9223372036854775808), 9223372036854775807)), .i (some ((-9223372036854775808), 9223372036854775807))] [.i (.v 4), .i (.v 6)] <|
.call 25 [.i (some ((-9223372036854775808), 9223372036854775807)), .i (some ((-9223372036854775808), 9223372036854775807))] [.i (.v 4), .i (.v 7)] <|
.call 26 [.i (some ((-9223372036854775808), 9223372036854775807)), .i (some ((-9223372036854775808), 9223372036854775807))] [.i (.v 4), .i (.v 7)] <|
.call 27 [.i (some ((-9223372036854775808), 9223372036854775807)), .i (some ((-9223372036854775808), 9223372036854775807))] [.i (.v 4), .i (.v 7)] <|
.call 25 [.i (some ((-9223372036854775808), 9223372036854775807)), .i (some ((-9223372036854775808), 9223372036854775807))] [.i (.v 5), .i (.v 6)] <|
.call 26 [.i (some ((-9223372036854775808), 9223372036854775807)), .i (some ((-9223372036854775808), 9223372036854775807))] [.i (.v 5), .i (.v 6)] <|
.call 27 [.i (some ((-9223372036854775808), 9223372036854775807)), .i (some ((-9223372036854775808), 9223372036854775807))] [.i (.v 5), .i (.v 6)] <|
.call 25 [.i (some ((-9223372036854775808), 9223372036854775807)), .i (some ((-9223372036854775808), 9223372036854775807))] [.i (.v 5), .i (.v 7)] <|
.call 26 [.i (some ((-9223372036854775808), 9223372036854775807)), .i (some ((-9223372036854775808), 9223372036854775807))] [.i (.v 5), .i (.v 7)] <|
.call 27 [.i (some ((-9223372036854775808), 9223372036854775807)), .i (some ((-9223372036854775808), 9223372036854775807))] [.i (.v 5), .i (.v 7)] <|
.call 29 [.b] [] <|
.ite (.v 41) (.ite (.or (.and (.and (.and (.cmp .eq (.v 10) (.z 0)) (.or (.or (.or (.cmp .eq (.v 17) (.v 8)) (.cmp .eq (.v 23) (.v 8))) (.cmp .eq (.v 29) (.v 8))) (.cmp .eq (.v 35) (.v 8)))) (.or (.or (.or (.cmp .eq (.v 17) (.v 9)) (.cmp .eq (.v 23) (.v 9))) (.cmp .eq (.v 29) (.v 9))) (.cmp .eq (.v 35) (.v 9)))) (.not (.or (.or (.or (.not (.cmp .eq (.v 18) (.z 0))) (.not (.cmp .eq (.v 24) (.z 0)))) (.not (.cmp .eq (.v 30) (.z 0)))) (.not (.cmp .eq (.v 36) (.z 0)))))) (.and (.cmp .eq (.v 10) (.z 5)) (.or (.or (.or (.not (.cmp .eq (.v 18) (.z 0))) (.not (.cmp .eq (.v 24) (.z 0)))) (.not (.cmp .eq (.v 30) (.z 0)))) (.not (.cmp .eq (.v 36) (.z 0)))))) (.ite (.or (.and (.and (.and (.cmp .eq (.v 13) (.z 0)) (.or (.or (.or (.cmp .eq (.v 19) (.v 11)) (.cmp .eq (.v 25) (.v 11))) (.cmp .eq (.v 31) (.v 11))) (.cmp .eq (.v 37) (.v 11)))) (.or (.or (.or (.cmp .eq (.v 19) (.v 12)) (.cmp .eq (.v 25) (.v 12))) (.cmp .eq (.v 31) (.v 12))) (.cmp .eq (.v 37) (.v 12)))) (.not (.or (.or (.or (.not (.cmp .eq (.v 20) (.z 0))) (.not (.cmp .eq (.v 26) (.z 0)))) (.not (.cmp .eq (.v 32) (.z 0)))) (.not (.cmp .eq (.v 38) (.z 0)))))) (.and (.cmp .eq (.v 13) (.z 5)) (.or (.or (.or (.not (.cmp .eq (.v 20) (.z 0))) (.not (.cmp .eq (.v 26) (.z 0)))) (.not (.cmp .eq (.v 32) (.z 0)))) (.not (.cmp .eq (.v 38) (.z 0)))))) (.ret (.bool (.or (.and (.and (.and (.cmp .eq (.v 16) (.z 0)) (.or (.or (.or (.cmp .eq (.v 21) (.v 14)) (.cmp .eq (.v 27) (.v 14))) (.cmp .eq (.v 33) (.v 14))) (.cmp .eq (.v 39) (.v 14)))) (.or (.or (.or (.cmp .eq (.v 21) (.v 15)) (.cmp .eq (.v 27) (.v 15))) (.cmp .eq (.v 33) (.v 15))) (.cmp .eq (.v 39) (.v 15)))) (.not (.or (.or (.or (.not (.cmp .eq (.v 22) (.z 0))) (.not (.cmp .eq (.v 28) (.z 0)))) (.not (.cmp .eq (.v 34) (.z 0)))) (.not (.cmp .eq (.v 40) (.z 0)))))) (.and (.cmp .eq (.v 16) (.z 5)) (.or (.or (.or (.not (.cmp .eq (.v 22) (.z 0))) (.not (.cmp .eq (.v 28) (.z 0)))) (.not (.cmp .eq (.v 34) (.z 0)))) (.not (.cmp .eq (.v 40) (.z 0)))))))) <|
.ret (.bool .f)) <|
.ret (.bool .f)) <|
.ret (.bool .f)
noncomputable def lstight_cx : Ctx := { tys := tys, fns := fns, sps := [(22, sadd_sp), (23, ssub_sp), (24, smul_sp), (25, fadd_sp), (26, fsub_sp), (27, fmul_sp), (29, salive_sp)], anns := [], trys := [], mg := true }
def lstight_ivs : List (Option (Int × Int)) := [some ((-9223372036854775808), 9223372036854775807), some ((-9223372036854775808), 9223372036854775807), some ((-9223372036854775808), 9223372036854775807), some ((-9223372036854775808), 9223372036854775807)]
set_option maxRecDepth 100000 in
theorem lstight_walk : runFn lstight_cx 3000 3 Try.f3 lstight_sp.args lstight_ivs = lstight_tree := by kernel_rfl
noncomputable def lstight_M : Nat → SpecSem
  | 22 => sadd_sem
  | 23 => ssub_sem
  | 24 => smul_sem
  | 25 => fadd_sem
  | 26 => fsub_sem
  | 27 => fmul_sem
  | 29 => salive_sem
  | _ => noSem
theorem lstight_M22 : lstight_M 22 = sadd_sem := rfl
theorem lstight_M23 : lstight_M 23 = ssub_sem := rfl
theorem lstight_M24 : lstight_M 24 = smul_sem := rfl
theorem lstight_M25 : lstight_M 25 = fadd_sem := rfl
theorem lstight_M26 : lstight_M 26 = fsub_sem := rfl
theorem lstight_M27 : lstight_M 27 = fmul_sem := rfl
theorem lstight_M29 : lstight_M 29 = salive_sem := rfl
theorem lstight_cxok : CxOK Try.prog lstight_cx lstight_M := ⟨tysOK, fnsOK, spCons sadd_ok <| spCons ssub_ok <| spCons smul_ok <| spCons fadd_ok <| spCons fsub_ok <| spCons fmul_ok <| spCons salive_ok <| fun _ _ h => spNil h, mixedOK, fun _ _ h => trNil h⟩
set_option maxRecDepth 100000 in
set_option maxHeartbeats 8000000 in
theorem lstight_den (R RP : Value → Prop) (F : Ex → St → Js → Env → Prop) (J : Js) (x0 : Int) (x1 : Int) (x2 : Int) (x3 : Int) : Tree.den lstight_M R RP F lstight_tree J [(.i x0), (.i x1), (.i x2), (.i x3)] = (
  ∀ x4 : Int, x4 = (if (Cmp.den .lt x1 x0) = true then x1 else x0) →
∀ x5 : Int, x5 = (if (Cmp.den .lt x0 x1) = true then x1 else x0) →
∀ x6 : Int, x6 = (if (Cmp.den .lt x3 x2) = true then x3 else x2) →
∀ x7 : Int, x7 = (if (Cmp.den .lt x2 x3) = true then x3 else x2) →
(sadd_sem.pre [(.i x4), (.i x5), (.i x6), (.i x7)]) ∧ (
∀ x8 : Int, x8 = (Cv.int (Env.get (sadd_sem.out [(.i x4), (.i x5), (.i x6), (.i x7)]) 0)) → (-9223372036854775808 : Int) ≤ x8 → x8 ≤ (9223372036854775807 : Int) →
∀ x9 : Int, x9 = (Cv.int (Env.get (sadd_sem.out [(.i x4), (.i x5), (.i x6), (.i x7)]) 1)) → (-9223372036854775808 : Int) ≤ x9 → x9 ≤ (9223372036854775807 : Int) →
∀ x10 : Int, x10 = (Cv.int (Env.get (sadd_sem.out [(.i x4), (.i x5), (.i x6), (.i x7)]) 2)) → (-9223372036854775808 : Int) ≤ x10 → x10 ≤ (9223372036854775807 : Int) →
(ssub_sem.pre [(.i x4), (.i x5), (.i x6), (.i x7)]) ∧ (
∀ x11 : Int, x11 = (Cv.int (Env.get (ssub_sem.out [(.i x4), (.i x5), (.i x6), (.i x7)]) 0)) → (-9223372036854775808 : Int) ≤ x11 → x11 ≤ (9223372036854775807 : Int) →
∀ x12 : Int, x12 = (Cv.int (Env.get (ssub_sem.out [(.i x4), (.i x5), (.i x6), (.i x7)]) 1)) → (-9223372036854775808 : Int) ≤ x12 → x12 ≤ (9223372036854775807 : Int) →
∀ x13 : Int, x13 = (Cv.int (Env.get (ssub_sem.out [(.i x4), (.i x5), (.i x6), (.i x7)]) 2)) → (-9223372036854775808 : Int) ≤ x13 → x13 ≤ (9223372036854775807 : Int) →
(smul_sem.pre [(.i x4), (.i x5), (.i x6), (.i x7)]) ∧ (
∀ x14 : Int, x14 = (Cv.int (Env.get (smul_sem.out [(.i x4), (.i x5), (.i x6), (.i x7)]) 0)) → (-9223372036854775808 : Int) ≤ x14 → x14 ≤ (9223372036854775807 : Int) →
∀ x15 : Int, x15 = (Cv.int (Env.get (smul_sem.out [(.i x4), (.i x5), (.i x6), (.i x7)]) 1)) → (-9223372036854775808 : Int) ≤ x15 → x15 ≤ (9223372036854775807 : Int) →
∀ x16 : Int, x16 = (Cv.int (Env.get (smul_sem.out [(.i x4), (.i x5), (.i x6), (.i x7)]) 2)) → (-9223372036854775808 : Int) ≤ x16 → x16 ≤ (9223372036854775807 : Int) →
(fadd_sem.pre [(.i x4), (.i x6)]) ∧ (
∀ x17 : Int, x17 = (Cv.int (Env.get (fadd_sem.out [(.i x4), (.i x6)]) 0)) → (-9223372036854775808 : Int) ≤ x17 → x17 ≤ (9223372036854775807 : Int) →
∀ x18 : Int, x18 = (Cv.int (Env.get (fadd_sem.out [(.i x4), (.i x6)]) 1)) → (-9223372036854775808 : Int) ≤ x18 → x18 ≤ (9223372036854775807 : Int) →
(fsub_sem.pre [(.i x4), (.i x6)]) ∧ (
∀ x19 : Int, x19 = (Cv.int (Env.get (fsub_sem.out [(.i x4), (.i x6)]) 0)) → (-9223372036854775808 : Int) ≤ x19 → x19 ≤ (9223372036854775807 : Int) →
∀ x20 : Int, x20 = (Cv.int (Env.get (fsub_sem.out [(.i x4), (.i x6)]) 1)) → (-9223372036854775808 : Int) ≤ x20 → x20 ≤ (9223372036854775807 : Int) →
(fmul_sem.pre [(.i x4), (.i x6)]) ∧ (
∀ x21 : Int, x21 = (Cv.int (Env.get (fmul_sem.out [(.i x4), (.i x6)]) 0)) → (-9223372036854775808 : Int) ≤ x21 → x21 ≤ (9223372036854775807 : Int) →
∀ x22 : Int, x22 = (Cv.int (Env.get (fmul_sem.out [(.i x4), (.i x6)]) 1)) → (-9223372036854775808 : Int) ≤ x22 → x22 ≤ (9223372036854775807 : Int) →
(fadd_sem.pre [(.i x4), (.i x7)]) ∧ (
∀ x23 : Int, x23 = (Cv.int (Env.get (fadd_sem.out [(.i x4), (.i x7)]) 0)) → (-9223372036854775808 : Int) ≤ x23 → x23 ≤ (9223372036854775807 : Int) →
∀ x24 : Int, x24 = (Cv.int (Env.get (fadd_sem.out [(.i x4), (.i x7)]) 1)) → (-9223372036854775808 : Int) ≤ x24 → x24 ≤ (9223372036854775807 : Int) →
(fsub_sem.pre [(.i x4), (.i x7)]) ∧ (
∀ x25 : Int, x25 = (Cv.int (Env.get (fsub_sem.out [(.i x4), (.i x7)]) 0)) → (-9223372036854775808 : Int) ≤ x25 → x25 ≤ (9223372036854775807 : Int) →
∀ x26 : Int, x26 = (Cv.int (Env.get (fsub_sem.out [(.i x4), (.i x7)]) 1)) → (-9223372036854775808 : Int) ≤ x26 → x26 ≤ (9223372036854775807 : Int) →
(fmul_sem.pre [(.i x4), (.i x7)]) ∧ (
∀ x27 : Int, x27 = (Cv.int (Env.get (fmul_sem.out [(.i x4), (.i x7)]) 0)) → (-9223372036854775808 : Int) ≤ x27 → x27 ≤ (9223372036854775807 : Int) →
∀ x28 : Int, x28 = (Cv.int (Env.get (fmul_sem.out [(.i x4), (.i x7)]) 1)) → (-9223372036854775808 : Int) ≤ x28 → x28 ≤ (9223372036854775807 : Int) →
(fadd_sem.pre [(.i x5), (.i x6)]) ∧ (
∀ x29 : Int, x29 = (Cv.int (Env.get (fadd_sem.out [(.i x5), (.i x6)]) 0)) → (-9223372036854775808 : Int) ≤ x29 → x29 ≤ (9223372036854775807 : Int) →
∀ x30 : Int, x30 = (Cv.int (Env.get (fadd_sem.out [(.i x5), (.i x6)]) 1)) → (-9223372036854775808 : Int) ≤ x30 → x30 ≤ (9223372036854775807 : Int) →
(fsub_sem.pre [(.i x5), (.i x6)]) ∧ (
∀ x31 : Int, x31 = (Cv.int (Env.get (fsub_sem.out [(.i x5), (.i x6)]) 0)) → (-9223372036854775808 : Int) ≤ x31 → x31 ≤ (9223372036854775807 : Int) →
∀ x32 : Int, x32 = (Cv.int (Env.get (fsub_sem.out [(.i x5), (.i x6)]) 1)) → (-9223372036854775808 : Int) ≤ x32 → x32 ≤ (9223372036854775807 : Int) →
(fmul_sem.pre [(.i x5), (.i x6)]) ∧ (
∀ x33 : Int, x33 = (Cv.int (Env.get (fmul_sem.out [(.i x5), (.i x6)]) 0)) → (-9223372036854775808 : Int) ≤ x33 → x33 ≤ (9223372036854775807 : Int) →
∀ x34 : Int, x34 = (Cv.int (Env.get (fmul_sem.out [(.i x5), (.i x6)]) 1)) → (-9223372036854775808 : Int) ≤ x34 → x34 ≤ (9223372036854775807 : Int) →
(fadd_sem.pre [(.i x5), (.i x7)]) ∧ (
∀ x35 : Int, x35 = (Cv.int (Env.get (fadd_sem.out [(.i x5), (.i x7)]) 0)) → (-9223372036854775808 : Int) ≤ x35 → x35 ≤ (9223372036854775807 : Int) →
∀ x36 : Int, x36 = (Cv.int (Env.get (fadd_sem.out [(.i x5), (.i x7)]) 1)) → (-9223372036854775808 : Int) ≤ x36 → x36 ≤ (9223372036854775807 : Int) →
(fsub_sem.pre [(.i x5), (.i x7)]) ∧ (
∀ x37 : Int, x37 = (Cv.int (Env.get (fsub_sem.out [(.i x5), (.i x7)]) 0)) → (-9223372036854775808 : Int) ≤ x37 → x37 ≤ (9223372036854775807 : Int) →
∀ x38 : Int, x38 = (Cv.int (Env.get (fsub_sem.out [(.i x5), (.i x7)]) 1)) → (-9223372036854775808 : Int) ≤ x38 → x38 ≤ (9223372036854775807 : Int) →
(fmul_sem.pre [(.i x5), (.i x7)]) ∧ (
∀ x39 : Int, x39 = (Cv.int (Env.get (fmul_sem.out [(.i x5), (.i x7)]) 0)) → (-9223372036854775808 : Int) ≤ x39 → x39 ≤ (9223372036854775807 : Int) →
∀ x40 : Int, x40 = (Cv.int (Env.get (fmul_sem.out [(.i x5), (.i x7)]) 1)) → (-9223372036854775808 : Int) ≤ x40 → x40 ≤ (9223372036854775807 : Int) →
(salive_sem.pre []) ∧ (
((Cv.bool (Env.get (salive_sem.out []) 0)) = true → ((((((Cmp.den .eq x10 (0 : Int)) && ((((Cmp.den .eq x17 x8) || (Cmp.den .eq x23 x8)) || (Cmp.den .eq x29 x8)) || (Cmp.den .eq x35 x8))) && ((((Cmp.den .eq x17 x9) || (Cmp.den .eq x23 x9)) || (Cmp.den .eq x29 x9)) || (Cmp.den .eq x35 x9))) && (!((((!(Cmp.den .eq x18 (0 : Int))) || (!(Cmp.den .eq x24 (0 : Int)))) || (!(Cmp.den .eq x30 (0 : Int)))) || (!(Cmp.den .eq x36 (0 : Int)))))) || ((Cmp.den .eq x10 (5 : Int)) && ((((!(Cmp.den .eq x18 (0 : Int))) || (!(Cmp.den .eq x24 (0 : Int)))) || (!(Cmp.den .eq x30 (0 : Int)))) || (!(Cmp.den .eq x36 (0 : Int)))))) = true → ((((((Cmp.den .eq x13 (0 : Int)) && ((((Cmp.den .eq x19 x11) || (Cmp.den .eq x25 x11)) || (Cmp.den .eq x31 x11)) || (Cmp.den .eq x37 x11))) && ((((Cmp.den .eq x19 x12) || (Cmp.den .eq x25 x12)) || (Cmp.den .eq x31 x12)) || (Cmp.den .eq x37 x12))) && (!((((!(Cmp.den .eq x20 (0 : Int))) || (!(Cmp.den .eq x26 (0 : Int)))) || (!(Cmp.den .eq x32 (0 : Int)))) || (!(Cmp.den .eq x38 (0 : Int)))))) || ((Cmp.den .eq x13 (5 : Int)) && ((((!(Cmp.den .eq x20 (0 : Int))) || (!(Cmp.den .eq x26 (0 : Int)))) || (!(Cmp.den .eq x32 (0 : Int)))) || (!(Cmp.den .eq x38 (0 : Int)))))) = true → R (Value.bool (((((Cmp.den .eq x16 (0 : Int)) && ((((Cmp.den .eq x21 x14) || (Cmp.den .eq x27 x14)) || (Cmp.den .eq x33 x14)) || (Cmp.den .eq x39 x14))) && ((((Cmp.den .eq x21 x15) || (Cmp.den .eq x27 x15)) || (Cmp.den .eq x33 x15)) || (Cmp.den .eq x39 x15))) && (!((((!(Cmp.den .eq x22 (0 : Int))) || (!(Cmp.den .eq x28 (0 : Int)))) || (!(Cmp.den .eq x34 (0 : Int)))) || (!(Cmp.den .eq x40 (0 : Int)))))) || ((Cmp.den .eq x16 (5 : Int)) && ((((!(Cmp.den .eq x22 (0 : Int))) || (!(Cmp.den .eq x28 (0 : Int)))) || (!(Cmp.den .eq x34 (0 : Int)))) || (!(Cmp.den .eq x40 (0 : Int)))))))) ∧ ((((((Cmp.den .eq x13 (0 : Int)) && ((((Cmp.den .eq x19 x11) || (Cmp.den .eq x25 x11)) || (Cmp.den .eq x31 x11)) || (Cmp.den .eq x37 x11))) && ((((Cmp.den .eq x19 x12) || (Cmp.den .eq x25 x12)) || (Cmp.den .eq x31 x12)) || (Cmp.den .eq x37 x12))) && (!((((!(Cmp.den .eq x20 (0 : Int))) || (!(Cmp.den .eq x26 (0 : Int)))) || (!(Cmp.den .eq x32 (0 : Int)))) || (!(Cmp.den .eq x38 (0 : Int)))))) || ((Cmp.den .eq x13 (5 : Int)) && ((((!(Cmp.den .eq x20 (0 : Int))) || (!(Cmp.den .eq x26 (0 : Int)))) || (!(Cmp.den .eq x32 (0 : Int)))) || (!(Cmp.den .eq x38 (0 : Int)))))) = false → R (Value.bool false))) ∧ ((((((Cmp.den .eq x10 (0 : Int)) && ((((Cmp.den .eq x17 x8) || (Cmp.den .eq x23 x8)) || (Cmp.den .eq x29 x8)) || (Cmp.den .eq x35 x8))) && ((((Cmp.den .eq x17 x9) || (Cmp.den .eq x23 x9)) || (Cmp.den .eq x29 x9)) || (Cmp.den .eq x35 x9))) && (!((((!(Cmp.den .eq x18 (0 : Int))) || (!(Cmp.den .eq x24 (0 : Int)))) || (!(Cmp.den .eq x30 (0 : Int)))) || (!(Cmp.den .eq x36 (0 : Int)))))) || ((Cmp.den .eq x10 (5 : Int)) && ((((!(Cmp.den .eq x18 (0 : Int))) || (!(Cmp.den .eq x24 (0 : Int)))) || (!(Cmp.den .eq x30 (0 : Int)))) || (!(Cmp.den .eq x36 (0 : Int)))))) = false → R (Value.bool false))) ∧ ((Cv.bool (Env.get (salive_sem.out []) 0)) = false → R (Value.bool false))))))))))))))))))) := by kernel_rfl

def lstight_sem : SpecSem := { pre := fun cs => match cs with | [.i a, .i b, .i c, .i d] => IsI a ∧ IsI b ∧ IsI c ∧ IsI d | _ => False, out := fun cs => match cs with | [.i a, .i b, .i c, .i d] => [.b true] | _ => [] }
set_option maxRecDepth 10000 in
set_option maxHeartbeats 16000000 in
theorem lstight_ok : SpecOK Try.prog 3 lstight_sp lstight_sem := by
  refine spec_of_tree lstight_cxok Try.func3 (by kernel_rfl) (by kernel_rfl) lstight_walk rfl ?_
  intro cs hpre
  match cs, hpre with
  | [.i a, .i b, .i c, .i d], ⟨j_a, j_b, j_c, j_d⟩ =>
    have h_a := j_a
    unfold IsI at h_a
    have h_b := j_b
    unfold IsI at h_b
    have h_c := j_c
    unfold IsI at h_c
    have h_d := j_d
    unfold IsI at h_d
    refine ⟨rfl, IvsB.ok (by simp only [lstight_ivs, IvsB, Cv.int, and_true] <;> omega), ?_, ?_⟩
    · simp only [lstight_sem, lstight_sp, Fits]
    · rw [lstight_den]
      simp only [lstight_sem, lstight_sp, spT, tell, lstight_den, sadd_sem, ssub_sem, smul_sem, fadd_sem, fsub_sem, fmul_sem, salive_sem, Tree.den, LE.den, Cv.list, placeA, List.getElem?_cons_zero, List.getElem?_cons_succ, IE.den, BE.den, At.den, CA.den, Env.get, Cv.int, Cv.bool, List.cons_append, List.nil_append, List.map_cons, List.map_nil, bindRes, bindEq, Fits, SV.den, denL, place, placeL, eq_t, eq_f, lt_t, lt_f, le_t, le_f, beq_iff_eq, beq_eq_false_iff_ne, ne_eq, reduceCtorEq, b_dec, decide_eq_true_eq, decide_eq_false_iff_not, Bool.not_eq_false', Bool.or_eq_true, Bool.or_eq_false_iff, Bool.and_eq_false_iff, true_iff, false_iff, Bool.false_eq_true, Bool.not_eq_true', Bool.and_eq_true, Bool.not_true, Bool.not_false, List.cons.injEq, Cv.i.injEq, Cv.b.injEq, and_true, true_and, agg_inj, tup_inj, Value.int.injEq, Value.bool.injEq]
      intro x4 e4 x5 e5 x6 e6 x7 e7
      have F1 : x4 ≤ x5 ∧ (-9223372036854775808 ≤ x4 ∧ x5 ≤ 9223372036854775807) := by
        clear h_c h_d e6 e7
        omega
      have F2 : x6 ≤ x7 ∧ (-9223372036854775808 ≤ x6 ∧ x7 ≤ 9223372036854775807) := by
        clear h_a h_b e4 e5 F1
        omega
      clear e4 e5 e6 e7 h_a h_b h_c h_d j_a j_b j_c j_d
      obtain ⟨u1, u2, u3⟩ := F1
      obtain ⟨v1, v2, v3⟩ := F2
      have jA : IsI x4 := ⟨by omega, by omega⟩
      have jB : IsI x5 := ⟨by omega, by omega⟩
      have jC : IsI x6 := ⟨by omega, by omega⟩
      have jD : IsI x7 := ⟨by omega, by omega⟩
      have i0 : IsI 0 := by decide
      have i1 : IsI 1 := by decide
      have o1 : (x5 < x4) = False := eq_false (by omega)
      have o2 : (x7 < x6) = False := eq_false (by omega)
      have K1 : (IsI (x4 + x6) ∧ IsI (x4 + x7) ∧ IsI (x5 + x6) ∧ IsI (x5 + x7)) ∨ (¬ IsI (x4 + x6) ∧ True ∧ True ∧ True) ∨ (IsI (x4 + x6) ∧ True ∧ True ∧ ¬ IsI (x5 + x7)) := by unfold IsI; simp only [and_true, true_and]; omega
      have K2 : (IsI (x4 - x6) ∧ IsI (x4 - x7) ∧ IsI (x5 - x6) ∧ IsI (x5 - x7)) ∨ (True ∧ ¬ IsI (x4 - x7) ∧ True ∧ True) ∨ (True ∧ IsI (x4 - x7) ∧ ¬ IsI (x5 - x6) ∧ True) := by unfold IsI; simp only [and_true, true_and]; omega
      obtain ⟨⟨m1, m2, m3, m4⟩, m5⟩ := mn4_cases (x4 * x6) (x4 * x7) (x5 * x6) (x5 * x7)
      obtain ⟨⟨n1, n2, n3, n4⟩, n5⟩ := mx4_cases (x4 * x6) (x4 * x7) (x5 * x6) (x5 * x7)
      generalize hm : mn4 (x4 * x6) (x4 * x7) (x5 * x6) (x5 * x7) = m at *
      generalize hM : mx4 (x4 * x6) (x4 * x7) (x5 * x6) (x5 * x7) = M at *
      generalize x4 * x6 = p1 at *
      generalize x4 * x7 = p2 at *
      generalize x5 * x6 = p3 at *
      generalize x5 * x7 = p4 at *
      clear hm hM
      have K3 : ((IsI p1 ∧ IsI p2 ∧ IsI p3 ∧ IsI p4) ∧ (IsI m ∧ IsI M)) ∨ ((¬ IsI p1 ∧ True ∧ True ∧ True) ∧ (¬ (IsI m ∧ IsI M) ∧ True)) ∨ ((True ∧ ¬ IsI p2 ∧ True ∧ True) ∧ (¬ (IsI m ∧ IsI M) ∧ True)) ∨ ((True ∧ True ∧ ¬ IsI p3 ∧ True) ∧ (¬ (IsI m ∧ IsI M) ∧ True)) ∨ ((True ∧ True ∧ True ∧ ¬ IsI p4) ∧ (¬ (IsI m ∧ IsI M) ∧ True)) := by
        have e1 := mn4_cases p1 p2 p3 p4
        unfold IsI
        clear K1 K2
        simp only [and_true, true_and]
        omega
      have Q1 : ((p1 = m ∨ p2 = m) ∨ p3 = m) ∨ p4 = m := by omega
      have Q2 : ((p1 = M ∨ p2 = M) ∨ p3 = M) ∨ p4 = M := by omega
      have z5 : ((5 : Int) = 0) = False := eq_false (by omega)
      clear m1 m2 m3 m4 m5 n1 n2 n3 n4 n5
      rcases K1 with ⟨s1, s2, s3, s4⟩ | ⟨s1, s2, s3, s4⟩ | ⟨s1, s2, s3, s4⟩ <;> rcases K2 with ⟨t1, t2, t3, t4⟩ | ⟨t1, t2, t3, t4⟩ | ⟨t1, t2, t3, t4⟩ <;> rcases K3 with ⟨⟨q1, q2, q3, q4⟩, q5, q6⟩ | ⟨⟨q1, q2, q3, q4⟩, q5, q6⟩ | ⟨⟨q1, q2, q3, q4⟩, q5, q6⟩ | ⟨⟨q1, q2, q3, q4⟩, q5, q6⟩ | ⟨⟨q1, q2, q3, q4⟩, q5, q6⟩
      all_goals simp only [u1, v1, jA, jB, jC, jD, i0, i1, o1, o2, s1, s2, s3, s4, t1, t2, t3, t4, q1, q2, q3, q4, q5, q6, Q1, Q2, z5, f00, forall_eq, eq_self, if_true, if_false, true_and, and_true, false_and, and_false, true_or, or_true, false_or, or_false, true_iff, iff_true, false_iff, iff_false, not_true_eq_false, not_false_eq_true, true_implies, false_implies, implies_true, forall_const, decide_true, decide_false, reduceCtorEq]
end Go.Proofs.Ytlhmhcjpdpakkaa.X
