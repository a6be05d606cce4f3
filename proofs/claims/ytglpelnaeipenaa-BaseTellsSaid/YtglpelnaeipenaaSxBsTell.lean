/-
  BaseTells holds of every input: its contract.
-/
import Derived.Test.YtglpelnaeipenaaSxBsRef
namespace Go.Proofs.Ytglpelnaeipenaa.X
open Go Go.SX
set_option linter.unusedVariables false
set_option linter.unusedSimpArgs false







def lbtl_sp : SpecSh := { args := [(.agg [(.int .i64 (.z 0)), (.int .i64 (.z 0)), (.int .i64 (.z 0)), (.int .i64 (.z 0)), (.int .i64 (.z 0))]), (.int .i64 (.z 0)), (.int .i64 (.z 0))], res := (.bool .f), sh := [.b] }
set_option maxRecDepth 100000 in
def lbtl_tree : Tree :=
.call 17 [.i (some ((-9223372036854775808), 9223372036854775807)), .i (some ((-9223372036854775808), 9223372036854775807)), .i (some ((-9223372036854775808), 9223372036854775807)), .i (some (0, 18446744073709551615)), .i (some (0, 18446744073709551615)), .i (some ((-9223372036854775808), 9223372036854775807))] [.i (.v 0), .i (.v 1), .i (.v 2), .i (.v 3), .i (.v 4), .i (.v 5)] <|
.call 18 [.i (some ((-9223372036854775808), 9223372036854775807)), .i (some ((-9223372036854775808), 9223372036854775807))] [.i (.v 0), .i (.v 1), .i (.v 2), .i (.v 3), .i (.v 4), .i (.v 6)] <|
.call 12 [.b] [] <|
.ite (.not (.v 15)) (.ret (.bool .f)) <|
.call 11 [.b] [.i (.v 0), .i (.v 1), .i (.v 2), .i (.v 3), .i (.v 4)] <|
.ite (.not (.v 16)) (.ite (.not (.cmp .eq (.v 12) (.z 1))) (.ret (.bool .f)) <|
.ite (.not (.and (.cmp .eq (.v 7) (.z 0)) (.and (.cmp .eq (.v 8) (.z 0)) (.and (.cmp .eq (.v 9) (.z 0)) (.and (.cmp .eq (.v 10) (.z 0)) (.cmp .eq (.v 11) (.z 0))))))) (.ret (.bool .f)) <|
.call 11 [.b] [.i (.v 0), .i (.v 1), .i (.v 2), .i (.v 3), .i (.v 4)] <|
.ite (.not (.v 17)) (.ite (.cmp .eq (.v 14) (.z 1)) (.ret (.bool (.cmp .eq (.v 13) (.z 0)))) <|
.ret (.bool .f)) <|
.ite (.cmp .lt (.v 6) (.z 0)) (.ite (.cmp .eq (.v 14) (.z 1)) (.ret (.bool (.cmp .eq (.v 13) (.z 0)))) <|
.ret (.bool .f)) <|
.ite (.cmp .lt (.z 2000000) (.v 6)) (.ite (.cmp .eq (.v 14) (.z 1)) (.ret (.bool (.cmp .eq (.v 13) (.z 0)))) <|
.ret (.bool .f)) <|
.ite (.cmp .lt (.v 1) (.z 2)) (.ite (.cmp .eq (.v 14) (.z 12)) (.ret (.bool (.cmp .eq (.v 13) (.z 0)))) <|
.ret (.bool .f)) <|
.ite (.cmp .eq (.v 14) (.z 0)) (.call 21 [.i (some ((-9223372036854775808), 9223372036854775807))] [.i (.v 0), .i (.v 1), .i (.v 2), .i (.v 3), .i (.v 4), .i (.v 6)] <|
.ret (.bool (.cmp .eq (.v 13) (.v 18)))) <|
.ret (.bool .f)) <|
.call 19 [.b] [.i (.v 0), .i (.v 1), .i (.v 2), .i (.v 3), .i (.v 4), .i (.v 5)] <|
.ite (.not (.v 17)) (.ite (.not (.cmp .eq (.v 12) (.z 1))) (.ret (.bool .f)) <|
.ite (.not (.and (.cmp .eq (.v 7) (.z 0)) (.and (.cmp .eq (.v 8) (.z 0)) (.and (.cmp .eq (.v 9) (.z 0)) (.and (.cmp .eq (.v 10) (.z 0)) (.cmp .eq (.v 11) (.z 0))))))) (.ret (.bool .f)) <|
.call 11 [.b] [.i (.v 0), .i (.v 1), .i (.v 2), .i (.v 3), .i (.v 4)] <|
.ite (.not (.v 18)) (.ite (.cmp .eq (.v 14) (.z 1)) (.ret (.bool (.cmp .eq (.v 13) (.z 0)))) <|
.ret (.bool .f)) <|
.ite (.cmp .lt (.v 6) (.z 0)) (.ite (.cmp .eq (.v 14) (.z 1)) (.ret (.bool (.cmp .eq (.v 13) (.z 0)))) <|
.ret (.bool .f)) <|
.ite (.cmp .lt (.z 2000000) (.v 6)) (.ite (.cmp .eq (.v 14) (.z 1)) (.ret (.bool (.cmp .eq (.v 13) (.z 0)))) <|
.ret (.bool .f)) <|
.ite (.cmp .lt (.v 1) (.z 2)) (.ite (.cmp .eq (.v 14) (.z 12)) (.ret (.bool (.cmp .eq (.v 13) (.z 0)))) <|
.ret (.bool .f)) <|
.ite (.cmp .eq (.v 14) (.z 0)) (.call 21 [.i (some ((-9223372036854775808), 9223372036854775807))] [.i (.v 0), .i (.v 1), .i (.v 2), .i (.v 3), .i (.v 4), .i (.v 6)] <|
.ret (.bool (.cmp .eq (.v 13) (.v 19)))) <|
.ret (.bool .f)) <|
.ite (.cmp .lt (.v 1) (.z 2)) (.ite (.not (.cmp .eq (.v 12) (.z 12))) (.ret (.bool .f)) <|
.ite (.not (.and (.cmp .eq (.v 7) (.z 0)) (.and (.cmp .eq (.v 8) (.z 0)) (.and (.cmp .eq (.v 9) (.z 0)) (.and (.cmp .eq (.v 10) (.z 0)) (.cmp .eq (.v 11) (.z 0))))))) (.ret (.bool .f)) <|
.call 11 [.b] [.i (.v 0), .i (.v 1), .i (.v 2), .i (.v 3), .i (.v 4)] <|
.ite (.not (.v 18)) (.ite (.cmp .eq (.v 14) (.z 1)) (.ret (.bool (.cmp .eq (.v 13) (.z 0)))) <|
.ret (.bool .f)) <|
.ite (.cmp .lt (.v 6) (.z 0)) (.ite (.cmp .eq (.v 14) (.z 1)) (.ret (.bool (.cmp .eq (.v 13) (.z 0)))) <|
.ret (.bool .f)) <|
.ite (.cmp .lt (.z 2000000) (.v 6)) (.ite (.cmp .eq (.v 14) (.z 1)) (.ret (.bool (.cmp .eq (.v 13) (.z 0)))) <|
.ret (.bool .f)) <|
.ite (.cmp .eq (.v 14) (.z 12)) (.ret (.bool (.cmp .eq (.v 13) (.z 0)))) <|
.ret (.bool .f)) <|
.ite (.not (.cmp .eq (.v 12) (.z 0))) (.ret (.bool .f)) <|
.call 20 [.i (some ((-9223372036854775808), 9223372036854775807)), .i (some ((-9223372036854775808), 9223372036854775807)), .i (some ((-9223372036854775808), 9223372036854775807)), .i (some (0, 18446744073709551615)), .i (some (0, 18446744073709551615))] [.i (.v 0), .i (.v 1), .i (.v 2), .i (.v 3), .i (.v 4), .i (.v 5)] <|
.ite (.not (.and (.cmp .eq (.v 7) (.v 18)) (.and (.cmp .eq (.v 8) (.v 19)) (.and (.cmp .eq (.v 9) (.v 20)) (.and (.cmp .eq (.v 10) (.v 21)) (.cmp .eq (.v 11) (.v 22))))))) (.ret (.bool .f)) <|
.call 11 [.b] [.i (.v 0), .i (.v 1), .i (.v 2), .i (.v 3), .i (.v 4)] <|
.ite (.not (.v 23)) (.ite (.cmp .eq (.v 14) (.z 1)) (.ret (.bool (.cmp .eq (.v 13) (.z 0)))) <|
.ret (.bool .f)) <|
.ite (.cmp .lt (.v 6) (.z 0)) (.ite (.cmp .eq (.v 14) (.z 1)) (.ret (.bool (.cmp .eq (.v 13) (.z 0)))) <|
.ret (.bool .f)) <|
.ite (.cmp .lt (.z 2000000) (.v 6)) (.ite (.cmp .eq (.v 14) (.z 1)) (.ret (.bool (.cmp .eq (.v 13) (.z 0)))) <|
.ret (.bool .f)) <|
.ite (.cmp .eq (.v 14) (.z 0)) (.call 21 [.i (some ((-9223372036854775808), 9223372036854775807))] [.i (.v 0), .i (.v 1), .i (.v 2), .i (.v 3), .i (.v 4), .i (.v 6)] <|
.ret (.bool (.cmp .eq (.v 13) (.v 24)))) <|
.ret (.bool .f)
noncomputable def lbtl_cx : Ctx := { tys := tys, fns := fns, mets := mets, sps := [(17, bpoint_sp), (18, bwide_sp), (12, bal_sp), (11, rbright_sp), (19, rbsum_sp), (20, rbpoint_sp), (21, rbwide_sp)], anns := [], trys := [] }
def lbtl_ivs : List (Option (Int × Int)) := [some ((-9223372036854775808), 9223372036854775807), some ((-9223372036854775808), 9223372036854775807), some ((-9223372036854775808), 9223372036854775807), some ((-9223372036854775808), 9223372036854775807), some ((-9223372036854775808), 9223372036854775807), some ((-9223372036854775808), 9223372036854775807), some ((-9223372036854775808), 9223372036854775807)]
set_option maxRecDepth 100000 in
theorem lbtl_walk : runFn lbtl_cx 3000 5 Try.f5 lbtl_sp.args lbtl_ivs = lbtl_tree := by kernel_rfl
noncomputable def lbtl_M : Nat → SpecSem
  | 17 => bpoint_sem
  | 18 => bwide_sem
  | 12 => bal_sem
  | 11 => rbright_sem
  | 19 => rbsum_sem
  | 20 => rbpoint_sem
  | 21 => rbwide_sem
  | _ => noSem
theorem lbtl_M17 : lbtl_M 17 = bpoint_sem := rfl
theorem lbtl_M18 : lbtl_M 18 = bwide_sem := rfl
theorem lbtl_M12 : lbtl_M 12 = bal_sem := rfl
theorem lbtl_M11 : lbtl_M 11 = rbright_sem := rfl
theorem lbtl_M19 : lbtl_M 19 = rbsum_sem := rfl
theorem lbtl_M20 : lbtl_M 20 = rbpoint_sem := rfl
theorem lbtl_M21 : lbtl_M 21 = rbwide_sem := rfl
theorem lbtl_cxok : CxOK Try.prog lbtl_cx lbtl_M := ⟨tysOK, fnsOK, spCons bpoint_ok <| spCons bwide_ok <| spCons bal_ok <| spCons rbright_ok <| spCons rbsum_ok <| spCons rbpoint_ok <| spCons rbwide_ok <| fun _ _ h => spNil h, mixedOK, fun _ _ h => trNil h, fun _ _ h => atNil h, metsOK⟩
set_option maxRecDepth 100000 in
set_option maxHeartbeats 8000000 in
theorem lbtl_den (R RP : Value → Prop) (F : Ex → St → Js → Env → Prop) (J : Js) (x0 : Int) (x1 : Int) (x2 : Int) (x3 : Int) (x4 : Int) (x5 : Int) (x6 : Int) : Tree.den lbtl_M R RP F lbtl_tree J [(.i x0), (.i x1), (.i x2), (.i x3), (.i x4), (.i x5), (.i x6)] = (
  (bpoint_sem.pre [(.i x0), (.i x1), (.i x2), (.i x3), (.i x4), (.i x5)]) ∧ (
∀ x7 : Int, x7 = (Cv.int (Env.get (bpoint_sem.out [(.i x0), (.i x1), (.i x2), (.i x3), (.i x4), (.i x5)]) 0)) → (-9223372036854775808 : Int) ≤ x7 → x7 ≤ (9223372036854775807 : Int) →
∀ x8 : Int, x8 = (Cv.int (Env.get (bpoint_sem.out [(.i x0), (.i x1), (.i x2), (.i x3), (.i x4), (.i x5)]) 1)) → (-9223372036854775808 : Int) ≤ x8 → x8 ≤ (9223372036854775807 : Int) →
∀ x9 : Int, x9 = (Cv.int (Env.get (bpoint_sem.out [(.i x0), (.i x1), (.i x2), (.i x3), (.i x4), (.i x5)]) 2)) → (-9223372036854775808 : Int) ≤ x9 → x9 ≤ (9223372036854775807 : Int) →
∀ x10 : Int, x10 = (Cv.int (Env.get (bpoint_sem.out [(.i x0), (.i x1), (.i x2), (.i x3), (.i x4), (.i x5)]) 3)) → (0 : Int) ≤ x10 → x10 ≤ (18446744073709551615 : Int) →
∀ x11 : Int, x11 = (Cv.int (Env.get (bpoint_sem.out [(.i x0), (.i x1), (.i x2), (.i x3), (.i x4), (.i x5)]) 4)) → (0 : Int) ≤ x11 → x11 ≤ (18446744073709551615 : Int) →
∀ x12 : Int, x12 = (Cv.int (Env.get (bpoint_sem.out [(.i x0), (.i x1), (.i x2), (.i x3), (.i x4), (.i x5)]) 5)) → (-9223372036854775808 : Int) ≤ x12 → x12 ≤ (9223372036854775807 : Int) →
(bwide_sem.pre [(.i x0), (.i x1), (.i x2), (.i x3), (.i x4), (.i x6)]) ∧ (
∀ x13 : Int, x13 = (Cv.int (Env.get (bwide_sem.out [(.i x0), (.i x1), (.i x2), (.i x3), (.i x4), (.i x6)]) 0)) → (-9223372036854775808 : Int) ≤ x13 → x13 ≤ (9223372036854775807 : Int) →
∀ x14 : Int, x14 = (Cv.int (Env.get (bwide_sem.out [(.i x0), (.i x1), (.i x2), (.i x3), (.i x4), (.i x6)]) 1)) → (-9223372036854775808 : Int) ≤ x14 → x14 ≤ (9223372036854775807 : Int) →
(bal_sem.pre []) ∧ (
((!(Cv.bool (Env.get (bal_sem.out []) 0))) = true → R (Value.bool false)) ∧ ((!(Cv.bool (Env.get (bal_sem.out []) 0))) = false → (rbright_sem.pre [(.i x0), (.i x1), (.i x2), (.i x3), (.i x4)]) ∧ (
((!(Cv.bool (Env.get (rbright_sem.out [(.i x0), (.i x1), (.i x2), (.i x3), (.i x4)]) 0))) = true → ((!(Cmp.den .eq x12 (1 : Int))) = true → R (Value.bool false)) ∧ ((!(Cmp.den .eq x12 (1 : Int))) = false → ((!((Cmp.den .eq x7 (0 : Int)) && ((Cmp.den .eq x8 (0 : Int)) && ((Cmp.den .eq x9 (0 : Int)) && ((Cmp.den .eq x10 (0 : Int)) && (Cmp.den .eq x11 (0 : Int))))))) = true → R (Value.bool false)) ∧ ((!((Cmp.den .eq x7 (0 : Int)) && ((Cmp.den .eq x8 (0 : Int)) && ((Cmp.den .eq x9 (0 : Int)) && ((Cmp.den .eq x10 (0 : Int)) && (Cmp.den .eq x11 (0 : Int))))))) = false → (rbright_sem.pre [(.i x0), (.i x1), (.i x2), (.i x3), (.i x4)]) ∧ (
((!(Cv.bool (Env.get (rbright_sem.out [(.i x0), (.i x1), (.i x2), (.i x3), (.i x4)]) 0))) = true → ((Cmp.den .eq x14 (1 : Int)) = true → R (Value.bool (Cmp.den .eq x13 (0 : Int)))) ∧ ((Cmp.den .eq x14 (1 : Int)) = false → R (Value.bool false))) ∧ ((!(Cv.bool (Env.get (rbright_sem.out [(.i x0), (.i x1), (.i x2), (.i x3), (.i x4)]) 0))) = false → ((Cmp.den .lt x6 (0 : Int)) = true → ((Cmp.den .eq x14 (1 : Int)) = true → R (Value.bool (Cmp.den .eq x13 (0 : Int)))) ∧ ((Cmp.den .eq x14 (1 : Int)) = false → R (Value.bool false))) ∧ ((Cmp.den .lt x6 (0 : Int)) = false → ((Cmp.den .lt (2000000 : Int) x6) = true → ((Cmp.den .eq x14 (1 : Int)) = true → R (Value.bool (Cmp.den .eq x13 (0 : Int)))) ∧ ((Cmp.den .eq x14 (1 : Int)) = false → R (Value.bool false))) ∧ ((Cmp.den .lt (2000000 : Int) x6) = false → ((Cmp.den .lt x1 (2 : Int)) = true → ((Cmp.den .eq x14 (12 : Int)) = true → R (Value.bool (Cmp.den .eq x13 (0 : Int)))) ∧ ((Cmp.den .eq x14 (12 : Int)) = false → R (Value.bool false))) ∧ ((Cmp.den .lt x1 (2 : Int)) = false → ((Cmp.den .eq x14 (0 : Int)) = true → (rbwide_sem.pre [(.i x0), (.i x1), (.i x2), (.i x3), (.i x4), (.i x6)]) ∧ (
∀ x18 : Int, x18 = (Cv.int (Env.get (rbwide_sem.out [(.i x0), (.i x1), (.i x2), (.i x3), (.i x4), (.i x6)]) 0)) → (-9223372036854775808 : Int) ≤ x18 → x18 ≤ (9223372036854775807 : Int) →
R (Value.bool (Cmp.den .eq x13 x18)))) ∧ ((Cmp.den .eq x14 (0 : Int)) = false → R (Value.bool false)))))))))) ∧ ((!(Cv.bool (Env.get (rbright_sem.out [(.i x0), (.i x1), (.i x2), (.i x3), (.i x4)]) 0))) = false → (rbsum_sem.pre [(.i x0), (.i x1), (.i x2), (.i x3), (.i x4), (.i x5)]) ∧ (
((!(Cv.bool (Env.get (rbsum_sem.out [(.i x0), (.i x1), (.i x2), (.i x3), (.i x4), (.i x5)]) 0))) = true → ((!(Cmp.den .eq x12 (1 : Int))) = true → R (Value.bool false)) ∧ ((!(Cmp.den .eq x12 (1 : Int))) = false → ((!((Cmp.den .eq x7 (0 : Int)) && ((Cmp.den .eq x8 (0 : Int)) && ((Cmp.den .eq x9 (0 : Int)) && ((Cmp.den .eq x10 (0 : Int)) && (Cmp.den .eq x11 (0 : Int))))))) = true → R (Value.bool false)) ∧ ((!((Cmp.den .eq x7 (0 : Int)) && ((Cmp.den .eq x8 (0 : Int)) && ((Cmp.den .eq x9 (0 : Int)) && ((Cmp.den .eq x10 (0 : Int)) && (Cmp.den .eq x11 (0 : Int))))))) = false → (rbright_sem.pre [(.i x0), (.i x1), (.i x2), (.i x3), (.i x4)]) ∧ (
((!(Cv.bool (Env.get (rbright_sem.out [(.i x0), (.i x1), (.i x2), (.i x3), (.i x4)]) 0))) = true → ((Cmp.den .eq x14 (1 : Int)) = true → R (Value.bool (Cmp.den .eq x13 (0 : Int)))) ∧ ((Cmp.den .eq x14 (1 : Int)) = false → R (Value.bool false))) ∧ ((!(Cv.bool (Env.get (rbright_sem.out [(.i x0), (.i x1), (.i x2), (.i x3), (.i x4)]) 0))) = false → ((Cmp.den .lt x6 (0 : Int)) = true → ((Cmp.den .eq x14 (1 : Int)) = true → R (Value.bool (Cmp.den .eq x13 (0 : Int)))) ∧ ((Cmp.den .eq x14 (1 : Int)) = false → R (Value.bool false))) ∧ ((Cmp.den .lt x6 (0 : Int)) = false → ((Cmp.den .lt (2000000 : Int) x6) = true → ((Cmp.den .eq x14 (1 : Int)) = true → R (Value.bool (Cmp.den .eq x13 (0 : Int)))) ∧ ((Cmp.den .eq x14 (1 : Int)) = false → R (Value.bool false))) ∧ ((Cmp.den .lt (2000000 : Int) x6) = false → ((Cmp.den .lt x1 (2 : Int)) = true → ((Cmp.den .eq x14 (12 : Int)) = true → R (Value.bool (Cmp.den .eq x13 (0 : Int)))) ∧ ((Cmp.den .eq x14 (12 : Int)) = false → R (Value.bool false))) ∧ ((Cmp.den .lt x1 (2 : Int)) = false → ((Cmp.den .eq x14 (0 : Int)) = true → (rbwide_sem.pre [(.i x0), (.i x1), (.i x2), (.i x3), (.i x4), (.i x6)]) ∧ (
∀ x19 : Int, x19 = (Cv.int (Env.get (rbwide_sem.out [(.i x0), (.i x1), (.i x2), (.i x3), (.i x4), (.i x6)]) 0)) → (-9223372036854775808 : Int) ≤ x19 → x19 ≤ (9223372036854775807 : Int) →
R (Value.bool (Cmp.den .eq x13 x19)))) ∧ ((Cmp.den .eq x14 (0 : Int)) = false → R (Value.bool false)))))))))) ∧ ((!(Cv.bool (Env.get (rbsum_sem.out [(.i x0), (.i x1), (.i x2), (.i x3), (.i x4), (.i x5)]) 0))) = false → ((Cmp.den .lt x1 (2 : Int)) = true → ((!(Cmp.den .eq x12 (12 : Int))) = true → R (Value.bool false)) ∧ ((!(Cmp.den .eq x12 (12 : Int))) = false → ((!((Cmp.den .eq x7 (0 : Int)) && ((Cmp.den .eq x8 (0 : Int)) && ((Cmp.den .eq x9 (0 : Int)) && ((Cmp.den .eq x10 (0 : Int)) && (Cmp.den .eq x11 (0 : Int))))))) = true → R (Value.bool false)) ∧ ((!((Cmp.den .eq x7 (0 : Int)) && ((Cmp.den .eq x8 (0 : Int)) && ((Cmp.den .eq x9 (0 : Int)) && ((Cmp.den .eq x10 (0 : Int)) && (Cmp.den .eq x11 (0 : Int))))))) = false → (rbright_sem.pre [(.i x0), (.i x1), (.i x2), (.i x3), (.i x4)]) ∧ (
((!(Cv.bool (Env.get (rbright_sem.out [(.i x0), (.i x1), (.i x2), (.i x3), (.i x4)]) 0))) = true → ((Cmp.den .eq x14 (1 : Int)) = true → R (Value.bool (Cmp.den .eq x13 (0 : Int)))) ∧ ((Cmp.den .eq x14 (1 : Int)) = false → R (Value.bool false))) ∧ ((!(Cv.bool (Env.get (rbright_sem.out [(.i x0), (.i x1), (.i x2), (.i x3), (.i x4)]) 0))) = false → ((Cmp.den .lt x6 (0 : Int)) = true → ((Cmp.den .eq x14 (1 : Int)) = true → R (Value.bool (Cmp.den .eq x13 (0 : Int)))) ∧ ((Cmp.den .eq x14 (1 : Int)) = false → R (Value.bool false))) ∧ ((Cmp.den .lt x6 (0 : Int)) = false → ((Cmp.den .lt (2000000 : Int) x6) = true → ((Cmp.den .eq x14 (1 : Int)) = true → R (Value.bool (Cmp.den .eq x13 (0 : Int)))) ∧ ((Cmp.den .eq x14 (1 : Int)) = false → R (Value.bool false))) ∧ ((Cmp.den .lt (2000000 : Int) x6) = false → ((Cmp.den .eq x14 (12 : Int)) = true → R (Value.bool (Cmp.den .eq x13 (0 : Int)))) ∧ ((Cmp.den .eq x14 (12 : Int)) = false → R (Value.bool false))))))))) ∧ ((Cmp.den .lt x1 (2 : Int)) = false → ((!(Cmp.den .eq x12 (0 : Int))) = true → R (Value.bool false)) ∧ ((!(Cmp.den .eq x12 (0 : Int))) = false → (rbpoint_sem.pre [(.i x0), (.i x1), (.i x2), (.i x3), (.i x4), (.i x5)]) ∧ (
∀ x18 : Int, x18 = (Cv.int (Env.get (rbpoint_sem.out [(.i x0), (.i x1), (.i x2), (.i x3), (.i x4), (.i x5)]) 0)) → (-9223372036854775808 : Int) ≤ x18 → x18 ≤ (9223372036854775807 : Int) →
∀ x19 : Int, x19 = (Cv.int (Env.get (rbpoint_sem.out [(.i x0), (.i x1), (.i x2), (.i x3), (.i x4), (.i x5)]) 1)) → (-9223372036854775808 : Int) ≤ x19 → x19 ≤ (9223372036854775807 : Int) →
∀ x20 : Int, x20 = (Cv.int (Env.get (rbpoint_sem.out [(.i x0), (.i x1), (.i x2), (.i x3), (.i x4), (.i x5)]) 2)) → (-9223372036854775808 : Int) ≤ x20 → x20 ≤ (9223372036854775807 : Int) →
∀ x21 : Int, x21 = (Cv.int (Env.get (rbpoint_sem.out [(.i x0), (.i x1), (.i x2), (.i x3), (.i x4), (.i x5)]) 3)) → (0 : Int) ≤ x21 → x21 ≤ (18446744073709551615 : Int) →
∀ x22 : Int, x22 = (Cv.int (Env.get (rbpoint_sem.out [(.i x0), (.i x1), (.i x2), (.i x3), (.i x4), (.i x5)]) 4)) → (0 : Int) ≤ x22 → x22 ≤ (18446744073709551615 : Int) →
((!((Cmp.den .eq x7 x18) && ((Cmp.den .eq x8 x19) && ((Cmp.den .eq x9 x20) && ((Cmp.den .eq x10 x21) && (Cmp.den .eq x11 x22)))))) = true → R (Value.bool false)) ∧ ((!((Cmp.den .eq x7 x18) && ((Cmp.den .eq x8 x19) && ((Cmp.den .eq x9 x20) && ((Cmp.den .eq x10 x21) && (Cmp.den .eq x11 x22)))))) = false → (rbright_sem.pre [(.i x0), (.i x1), (.i x2), (.i x3), (.i x4)]) ∧ (
((!(Cv.bool (Env.get (rbright_sem.out [(.i x0), (.i x1), (.i x2), (.i x3), (.i x4)]) 0))) = true → ((Cmp.den .eq x14 (1 : Int)) = true → R (Value.bool (Cmp.den .eq x13 (0 : Int)))) ∧ ((Cmp.den .eq x14 (1 : Int)) = false → R (Value.bool false))) ∧ ((!(Cv.bool (Env.get (rbright_sem.out [(.i x0), (.i x1), (.i x2), (.i x3), (.i x4)]) 0))) = false → ((Cmp.den .lt x6 (0 : Int)) = true → ((Cmp.den .eq x14 (1 : Int)) = true → R (Value.bool (Cmp.den .eq x13 (0 : Int)))) ∧ ((Cmp.den .eq x14 (1 : Int)) = false → R (Value.bool false))) ∧ ((Cmp.den .lt x6 (0 : Int)) = false → ((Cmp.den .lt (2000000 : Int) x6) = true → ((Cmp.den .eq x14 (1 : Int)) = true → R (Value.bool (Cmp.den .eq x13 (0 : Int)))) ∧ ((Cmp.den .eq x14 (1 : Int)) = false → R (Value.bool false))) ∧ ((Cmp.den .lt (2000000 : Int) x6) = false → ((Cmp.den .eq x14 (0 : Int)) = true → (rbwide_sem.pre [(.i x0), (.i x1), (.i x2), (.i x3), (.i x4), (.i x6)]) ∧ (
∀ x24 : Int, x24 = (Cv.int (Env.get (rbwide_sem.out [(.i x0), (.i x1), (.i x2), (.i x3), (.i x4), (.i x6)]) 0)) → (-9223372036854775808 : Int) ≤ x24 → x24 ≤ (9223372036854775807 : Int) →
R (Value.bool (Cmp.den .eq x13 x24)))) ∧ ((Cmp.den .eq x14 (0 : Int)) = false → R (Value.bool false))))))))))))))))))) := by kernel_rfl

def lbtl_sem : SpecSem := { pre := fun cs => match cs with | [.i z, .i m, .i s, .i r, .i a, .i x, .i y] => IsI z ∧ IsI m ∧ IsI s ∧ IsI r ∧ IsI a ∧ IsI x ∧ IsI y | _ => False, out := fun cs => match cs with | [.i z, .i m, .i s, .i r, .i a, .i x, .i y] => [.b true] | _ => [] }
set_option maxRecDepth 10000 in
set_option maxHeartbeats 16000000 in
theorem lbtl_ok : SpecOK Try.prog 5 lbtl_sp lbtl_sem := by
  refine spec_of_tree lbtl_cxok Try.func5 (by kernel_rfl) (by kernel_rfl) lbtl_walk rfl ?_
  intro cs hpre
  match cs, hpre with
  | [.i z, .i m, .i s, .i r, .i a, .i x, .i y], ⟨j_z, j_m, j_s, j_r, j_a, j_x, j_y⟩ =>
    have h_z := j_z
    unfold IsI at h_z
    have h_m := j_m
    unfold IsI at h_m
    have h_s := j_s
    unfold IsI at h_s
    have h_r := j_r
    unfold IsI at h_r
    have h_a := j_a
    unfold IsI at h_a
    have h_x := j_x
    unfold IsI at h_x
    have h_y := j_y
    unfold IsI at h_y
    refine ⟨rfl, IvsB.ok (by simp only [lbtl_ivs, IvsB, Cv.int, and_true] <;> omega), ?_, ?_⟩
    · simp only [lbtl_sem, lbtl_sp, Fits]
    · rw [lbtl_den]
      have n1 : (2 ≤ m) = ¬ (m < 2) := propext ⟨fun h => by omega, fun h => by omega⟩
      have n2 : (0 ≤ y) = ¬ (y < 0) := propext ⟨fun h => by omega, fun h => by omega⟩
      have n3 : (y ≤ 2000000) = ¬ (2000000 < y) := propext ⟨fun h => by omega, fun h => by omega⟩
      have g1 : ((1 : Int) = 0) = False := by simp
      have g2 : ((12 : Int) = 0) = False := by simp
      have g3 : ((0 : Int) = 1) = False := by simp
      have g4 : ((0 : Int) = 12) = False := by simp
      have g5 : ((12 : Int) = 1) = False := by simp
      have g6 : ((1 : Int) = 12) = False := by simp
      rcases Decidable.em (BsOK z m s r a) with c1 | c1
      · have z1 : (1 ≤ z) = True := eq_true c1.1.1
        have z2 : (z ≤ 10) = True := eq_true c1.1.2
        rcases Decidable.em (-(z * 1000000) ≤ x ∧ x ≤ z * 1000000) with c2 | c2 <;> rcases Decidable.em (m < 2) with c3 | c3 <;> rcases Decidable.em (y < 0) with c4 | c4 <;> rcases Decidable.em (2000000 < y) with c5 | c5
        all_goals simp only [lbtl_sem, lbtl_sp, bpoint_sem, bwide_sem, bal_sem, rbright_sem, rbsum_sem, rbpoint_sem, rbwide_sem, bpE, bwE, lbtl_den, bpoint_sem, bwide_sem, bal_sem, rbright_sem, rbsum_sem, rbpoint_sem, rbwide_sem, Tree.den, LE.den, Cv.list, placeA, List.getElem?_cons_zero, List.getElem?_cons_succ, IE.den, BE.den, At.den, CA.den, Env.get, Cv.int, Cv.bool, List.cons_append, List.nil_append, List.map_cons, List.map_nil, bindRes, bindEq, Fits, SV.den, denL, place, placeL, eq_t, eq_f, lt_t, lt_f, le_t, le_f, beq_iff_eq, beq_eq_false_iff_ne, ne_eq, reduceCtorEq, b_dec, decide_eq_true_eq, decide_eq_false_iff_not, Bool.not_eq_false', Bool.or_eq_true, Bool.or_eq_false_iff, Bool.and_eq_false_iff, true_iff, false_iff, Bool.false_eq_true, Bool.not_eq_true', Bool.and_eq_true, Bool.not_true, Bool.not_false, List.cons.injEq, Cv.i.injEq, Cv.b.injEq, and_true, true_and, agg_inj, tup_inj, Value.int.injEq, Value.bool.injEq, j_z, j_m, j_s, j_r, j_a, j_x, j_y, n1, n2, n3, g1, g2, g3, g4, g5, g6, c1, z1, z2, c2, c3, c4, c5, forall_eq, eq_self, if_true, if_false, true_and, and_true, false_and, and_false, true_or, or_true, false_or, or_false, true_iff, iff_true, false_iff, iff_false, not_true_eq_false, not_false_eq_true, true_implies, false_implies, implies_true, forall_const, decide_true, decide_false, reduceCtorEq]
      · simp only [lbtl_sem, lbtl_sp, bpoint_sem, bwide_sem, bal_sem, rbright_sem, rbsum_sem, rbpoint_sem, rbwide_sem, bpE, bwE, lbtl_den, bpoint_sem, bwide_sem, bal_sem, rbright_sem, rbsum_sem, rbpoint_sem, rbwide_sem, Tree.den, LE.den, Cv.list, placeA, List.getElem?_cons_zero, List.getElem?_cons_succ, IE.den, BE.den, At.den, CA.den, Env.get, Cv.int, Cv.bool, List.cons_append, List.nil_append, List.map_cons, List.map_nil, bindRes, bindEq, Fits, SV.den, denL, place, placeL, eq_t, eq_f, lt_t, lt_f, le_t, le_f, beq_iff_eq, beq_eq_false_iff_ne, ne_eq, reduceCtorEq, b_dec, decide_eq_true_eq, decide_eq_false_iff_not, Bool.not_eq_false', Bool.or_eq_true, Bool.or_eq_false_iff, Bool.and_eq_false_iff, true_iff, false_iff, Bool.false_eq_true, Bool.not_eq_true', Bool.and_eq_true, Bool.not_true, Bool.not_false, List.cons.injEq, Cv.i.injEq, Cv.b.injEq, and_true, true_and, agg_inj, tup_inj, Value.int.injEq, Value.bool.injEq, j_z, j_m, j_s, j_r, j_a, j_x, j_y, n1, n2, n3, g1, g2, g3, g4, g5, g6, c1, forall_eq, eq_self, if_true, if_false, true_and, and_true, false_and, and_false, true_or, or_true, false_or, or_false, true_iff, iff_true, false_iff, iff_false, not_true_eq_false, not_false_eq_true, true_implies, false_implies, implies_true, forall_const, decide_true, decide_false, reduceCtorEq]
end Go.Proofs.Ytglpelnaeipenaa.X
