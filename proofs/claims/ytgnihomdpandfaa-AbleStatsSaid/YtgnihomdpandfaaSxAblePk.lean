/-
  The contract of able.Ppk, for every input in range.
-/
import Derived.Test.YtgnihomdpandfaaSxAbleTry
import Derived.Test.YtgnihomdpandfaaSxAbleNum
import Derived.Test.YtgnihomdpandfaaSxStat
namespace Go.Proofs.Ytgnihomdpandfaa.X
open Go Go.SX Go.RowKit
set_option linter.unusedVariables false
set_option linter.unusedSimpArgs false









def appk_sp : SpecSh := { args := [(.agg [(.int .i64 (.z 0)), (.int .i64 (.z 0)), (.int .u64 (.z 0)), (.int .u64 (.z 0)), (.int .i64 (.z 0)), (.int .i64 (.z 0))]), (.int .i64 (.z 0)), (.int .i64 (.z 0)), (.int .i64 (.z 0))], res := (.tup [(.agg [(.int .i64 (.z 0)), (.int .i64 (.z 0))]), (.int .i64 (.z 0))]), sh := [.i (some ((-9223372036854775808), 9223372036854775807)), .i (some ((-9223372036854775808), 9223372036854775807)), .i (some ((-9223372036854775808), 9223372036854775807))] }
set_option maxRecDepth 100000 in
def appk_tree : Tree :=
.call 23 [.b] [.i (.v 0), .i (.v 1), .i (.v 2), .i (.v 3), .i (.v 4), .i (.v 5)] <|
.ite (.v 9) (.ite (.cmp .le (.z (-1000000)) (.v 6)) (.ite (.cmp .le (.v 7) (.z 1000000)) (.ite (.not (.cmp .lt (.v 6) (.v 7))) (.ret (.tup [(.agg [(.int .i64 (.z 0)), (.int .i64 (.z 0))]), (.int .i64 (.z 1))])) <|
.ite (.cmp .le (.z 1) (.v 8)) (.ite (.not (.cmp .le (.v 8) (.z 1000))) (.ret (.tup [(.agg [(.int .i64 (.z 0)), (.int .i64 (.z 0))]), (.int .i64 (.z 3))])) <|
.lett (.mulw .i64 (.v 7) (.v 0)) <|
.lett (.subw .i64 (.v 10) (.v 1)) <|
.lett (.mulw .i64 (.v 6) (.v 0)) <|
.lett (.subw .i64 (.v 1) (.v 12)) <|
.lett (.ite (.cmp .lt (.v 13) (.v 11)) (.v 13) (.v 11)) <|
.lett (.subw .i64 (.z 0) (.v 14)) <|
.lett (.ite (.cmp .lt (.v 14) (.v 15)) (.v 15) (.v 14)) <|
.lett (.wrap .u64 (.v 16)) <|
.lett (.ite (.cmp .lt (.v 0) (.z 1)) (.z 1) (.v 0)) <|
.ite (.not (.cmp .le (.z 2) (.v 0))) (.ret (.tup [(.agg [(.int .i64 (.z 0)), (.int .i64 (.z 0))]), (.int .i64 (.z 12))])) <|
.ite (.not (.cmp .le (.v 0) (.z 1000))) (.ret (.tup [(.agg [(.int .i64 (.z 0)), (.int .i64 (.z 0))]), (.int .i64 (.z 2))])) <|
.call 16 [.i (some (0, 18446744073709551615)), .i (some (0, 18446744073709551615)), .i (some ((-9223372036854775808), 9223372036854775807))] [.i (.v 0), .i (.v 1), .i (.v 2), .i (.v 3), .i (.v 4), .i (.v 5)] <|
.lett (.mulw .u64 (.z 9) (.v 18)) <|
.lett (.sub (.v 18) (.z 1)) <|
.call 20 [.i (some (0, 18446744073709551615)), .i (some (0, 18446744073709551615)), .b] [.i (.z 0), .i (.z 1), .i (.z 0), .i (.v 17)] <|
.call 20 [.i (some (0, 18446744073709551615)), .i (some (0, 18446744073709551615)), .b] [.i (.v 24), .i (.v 25), .i (.z 0), .i (.v 17)] <|
.call 20 [.i (some (0, 18446744073709551615)), .i (some (0, 18446744073709551615)), .b] [.i (.v 27), .i (.v 28), .i (.z 0), .i (.v 23)] <|
.call 20 [.i (some (0, 18446744073709551615)), .i (some (0, 18446744073709551615)), .b] [.i (.v 30), .i (.v 31), .i (.z 0), .i (.v 8)] <|
.call 20 [.i (some (0, 18446744073709551615)), .i (some (0, 18446744073709551615)), .b] [.i (.v 33), .i (.v 34), .i (.z 0), .i (.v 8)] <|
.call 20 [.i (some (0, 18446744073709551615)), .i (some (0, 18446744073709551615)), .b] [.i (.v 19), .i (.v 20), .i (.z 0), .i (.v 22)] <|
.call 84 [.i (some (0, 18446744073709551615)), .i (some (0, 18446744073709551615)), .i (some (0, 18446744073709551615)), .i (some (0, 18446744073709551615)), .i (some ((-9223372036854775808), 9223372036854775807))] [.i (.v 36), .i (.v 37), .i (.v 39), .i (.v 40)] <|
.ite (.not (.cmp .eq (.v 46) (.z 0))) (.ret (.tup [(.agg [(.int .i64 (.z 0)), (.int .i64 (.z 0))]), (.int .i64 (.z 6))])) <|
.ite (.not (.and (.cmp .eq (.v 44) (.z 0)) (.cmp .eq (.v 45) (.z 0)))) (.call 18 [.i (some (0, 18446744073709551615)), .i (some (0, 18446744073709551615)), .b] [.i (.v 42), .i (.v 43), .i (.z 0), .i (.z 1)] <|
.call 85 [.i (some (0, 18446744073709551615))] [.i (.v 42), .i (.v 43)] <|
.lett (.wrap .i64 (.v 50)) <|
.call 86 [.i (some (0, 18446744073709551615)), .i (some (0, 18446744073709551615))] [.i (.v 47), .i (.v 48)] <|
.lett (.wrap .i64 (.v 53)) <|
.ite (.cmp .lt (.v 14) (.z 0)) (.lett (.subw .i64 (.z 0) (.v 54)) <|
.lett (.subw .i64 (.z 0) (.v 51)) <|
.ret (.tup [(.agg [(.int .i64 (.v 55)), (.int .i64 (.v 56))]), (.int .i64 (.z 0))])) <|
.ret (.tup [(.agg [(.int .i64 (.v 51)), (.int .i64 (.v 54))]), (.int .i64 (.z 0))])) <|
.call 85 [.i (some (0, 18446744073709551615))] [.i (.v 42), .i (.v 43)] <|
.lett (.wrap .i64 (.v 47)) <|
.call 86 [.i (some (0, 18446744073709551615)), .i (some (0, 18446744073709551615))] [.i (.v 42), .i (.v 43)] <|
.lett (.wrap .i64 (.v 50)) <|
.ite (.cmp .lt (.v 14) (.z 0)) (.lett (.subw .i64 (.z 0) (.v 51)) <|
.lett (.subw .i64 (.z 0) (.v 48)) <|
.ret (.tup [(.agg [(.int .i64 (.v 52)), (.int .i64 (.v 53))]), (.int .i64 (.z 0))])) <|
.ret (.tup [(.agg [(.int .i64 (.v 48)), (.int .i64 (.v 51))]), (.int .i64 (.z 0))])) <|
.ret (.tup [(.agg [(.int .i64 (.z 0)), (.int .i64 (.z 0))]), (.int .i64 (.z 3))])) <|
.ret (.tup [(.agg [(.int .i64 (.z 0)), (.int .i64 (.z 0))]), (.int .i64 (.z 1))])) <|
.ret (.tup [(.agg [(.int .i64 (.z 0)), (.int .i64 (.z 0))]), (.int .i64 (.z 1))])) <|
.ret (.tup [(.agg [(.int .i64 (.z 0)), (.int .i64 (.z 0))]), (.int .i64 (.z 1))])
noncomputable def appk_cx : Ctx := { tys := tys, fns := fns, sps := [(20, times_sp), (18, wadd_sp), (84, wdiv_sp), (85, wroot_sp), (86, wup_sp), (23, sright_sp), (16, sspread_sp)], anns := [], trys := [(57, atold_try)] }
def appk_ivs : List (Option (Int × Int)) := [some ((-9223372036854775808), 9223372036854775807), some ((-9223372036854775808), 9223372036854775807), some (0, 18446744073709551615), some (0, 18446744073709551615), some ((-9223372036854775808), 9223372036854775807), some ((-9223372036854775808), 9223372036854775807), some ((-9223372036854775808), 9223372036854775807), some ((-9223372036854775808), 9223372036854775807), some ((-9223372036854775808), 9223372036854775807)]
set_option maxRecDepth 100000 in
theorem appk_walk : runFn appk_cx 3000 30 Try.f30 appk_sp.args appk_ivs = appk_tree := by kernel_rfl
noncomputable def appk_M : Nat → SpecSem
  | 20 => times_sem
  | 18 => wadd_sem
  | 84 => wdiv_sem
  | 85 => wroot_sem
  | 86 => wup_sem
  | 23 => sright_sem
  | 16 => sspread_sem
  | _ => noSem
theorem appk_M20 : appk_M 20 = times_sem := rfl
theorem appk_M18 : appk_M 18 = wadd_sem := rfl
theorem appk_M84 : appk_M 84 = wdiv_sem := rfl
theorem appk_M85 : appk_M 85 = wroot_sem := rfl
theorem appk_M86 : appk_M 86 = wup_sem := rfl
theorem appk_M23 : appk_M 23 = sright_sem := rfl
theorem appk_M16 : appk_M 16 = sspread_sem := rfl
theorem appk_cxok : CxOK Try.prog appk_cx appk_M := ⟨tysOK, fnsOK, spCons times_ok <| spCons wadd_ok <| spCons wdiv_ok <| spCons wroot_ok <| spCons wup_ok <| spCons sright_ok <| spCons sspread_ok <| fun _ _ h => spNil h, mixedOK, trCons atold_ok <| fun _ _ h => trNil h⟩
set_option maxRecDepth 100000 in
set_option maxHeartbeats 8000000 in
theorem appk_den (R RP : Value → Prop) (F : Ex → St → Js → Env → Prop) (J : Js) (x0 : Int) (x1 : Int) (x2 : Int) (x3 : Int) (x4 : Int) (x5 : Int) (x6 : Int) (x7 : Int) (x8 : Int) : Tree.den appk_M R RP F appk_tree J [(.i x0), (.i x1), (.i x2), (.i x3), (.i x4), (.i x5), (.i x6), (.i x7), (.i x8)] = (
  (sright_sem.pre [(.i x0), (.i x1), (.i x2), (.i x3), (.i x4), (.i x5)]) ∧ (
((Cv.bool (Env.get (sright_sem.out [(.i x0), (.i x1), (.i x2), (.i x3), (.i x4), (.i x5)]) 0)) = true → ((Cmp.den .le (-1000000 : Int) x6) = true → ((Cmp.den .le x7 (1000000 : Int)) = true → ((!(Cmp.den .lt x6 x7)) = true → R (Value.tuple [(Value.agg [(Value.int .i64 (0 : Int)), (Value.int .i64 (0 : Int))].toArray), (Value.int .i64 (1 : Int))].toArray)) ∧ ((!(Cmp.den .lt x6 x7)) = false → ((Cmp.den .le (1 : Int) x8) = true → ((!(Cmp.den .le x8 (1000 : Int))) = true → R (Value.tuple [(Value.agg [(Value.int .i64 (0 : Int)), (Value.int .i64 (0 : Int))].toArray), (Value.int .i64 (3 : Int))].toArray)) ∧ ((!(Cmp.den .le x8 (1000 : Int))) = false → ∀ x10 : Int, x10 = (IntKind.i64.wrap (x7 * x0)) →
∀ x11 : Int, x11 = (IntKind.i64.wrap (x10 - x1)) →
∀ x12 : Int, x12 = (IntKind.i64.wrap (x6 * x0)) →
∀ x13 : Int, x13 = (IntKind.i64.wrap (x1 - x12)) →
∀ x14 : Int, x14 = (if (Cmp.den .lt x13 x11) = true then x13 else x11) →
∀ x15 : Int, x15 = (IntKind.i64.wrap ((0 : Int) - x14)) →
∀ x16 : Int, x16 = (if (Cmp.den .lt x14 x15) = true then x15 else x14) →
∀ x17 : Int, x17 = (IntKind.u64.wrap x16) →
∀ x18 : Int, x18 = (if (Cmp.den .lt x0 (1 : Int)) = true then (1 : Int) else x0) →
((!(Cmp.den .le (2 : Int) x0)) = true → R (Value.tuple [(Value.agg [(Value.int .i64 (0 : Int)), (Value.int .i64 (0 : Int))].toArray), (Value.int .i64 (12 : Int))].toArray)) ∧ ((!(Cmp.den .le (2 : Int) x0)) = false → ((!(Cmp.den .le x0 (1000 : Int))) = true → R (Value.tuple [(Value.agg [(Value.int .i64 (0 : Int)), (Value.int .i64 (0 : Int))].toArray), (Value.int .i64 (2 : Int))].toArray)) ∧ ((!(Cmp.den .le x0 (1000 : Int))) = false → (sspread_sem.pre [(.i x0), (.i x1), (.i x2), (.i x3), (.i x4), (.i x5)]) ∧ (
∀ x19 : Int, x19 = (Cv.int (Env.get (sspread_sem.out [(.i x0), (.i x1), (.i x2), (.i x3), (.i x4), (.i x5)]) 0)) → (0 : Int) ≤ x19 → x19 ≤ (18446744073709551615 : Int) →
∀ x20 : Int, x20 = (Cv.int (Env.get (sspread_sem.out [(.i x0), (.i x1), (.i x2), (.i x3), (.i x4), (.i x5)]) 1)) → (0 : Int) ≤ x20 → x20 ≤ (18446744073709551615 : Int) →
∀ x21 : Int, x21 = (Cv.int (Env.get (sspread_sem.out [(.i x0), (.i x1), (.i x2), (.i x3), (.i x4), (.i x5)]) 2)) → (-9223372036854775808 : Int) ≤ x21 → x21 ≤ (9223372036854775807 : Int) →
∀ x22 : Int, x22 = (IntKind.u64.wrap ((9 : Int) * x18)) →
∀ x23 : Int, x23 = (x18 - (1 : Int)) →
(times_sem.pre [(.i (0 : Int)), (.i (1 : Int)), (.i (0 : Int)), (.i x17)]) ∧ (
∀ x24 : Int, x24 = (Cv.int (Env.get (times_sem.out [(.i (0 : Int)), (.i (1 : Int)), (.i (0 : Int)), (.i x17)]) 0)) → (0 : Int) ≤ x24 → x24 ≤ (18446744073709551615 : Int) →
∀ x25 : Int, x25 = (Cv.int (Env.get (times_sem.out [(.i (0 : Int)), (.i (1 : Int)), (.i (0 : Int)), (.i x17)]) 1)) → (0 : Int) ≤ x25 → x25 ≤ (18446744073709551615 : Int) →
(times_sem.pre [(.i x24), (.i x25), (.i (0 : Int)), (.i x17)]) ∧ (
∀ x27 : Int, x27 = (Cv.int (Env.get (times_sem.out [(.i x24), (.i x25), (.i (0 : Int)), (.i x17)]) 0)) → (0 : Int) ≤ x27 → x27 ≤ (18446744073709551615 : Int) →
∀ x28 : Int, x28 = (Cv.int (Env.get (times_sem.out [(.i x24), (.i x25), (.i (0 : Int)), (.i x17)]) 1)) → (0 : Int) ≤ x28 → x28 ≤ (18446744073709551615 : Int) →
(times_sem.pre [(.i x27), (.i x28), (.i (0 : Int)), (.i x23)]) ∧ (
∀ x30 : Int, x30 = (Cv.int (Env.get (times_sem.out [(.i x27), (.i x28), (.i (0 : Int)), (.i x23)]) 0)) → (0 : Int) ≤ x30 → x30 ≤ (18446744073709551615 : Int) →
∀ x31 : Int, x31 = (Cv.int (Env.get (times_sem.out [(.i x27), (.i x28), (.i (0 : Int)), (.i x23)]) 1)) → (0 : Int) ≤ x31 → x31 ≤ (18446744073709551615 : Int) →
(times_sem.pre [(.i x30), (.i x31), (.i (0 : Int)), (.i x8)]) ∧ (
∀ x33 : Int, x33 = (Cv.int (Env.get (times_sem.out [(.i x30), (.i x31), (.i (0 : Int)), (.i x8)]) 0)) → (0 : Int) ≤ x33 → x33 ≤ (18446744073709551615 : Int) →
∀ x34 : Int, x34 = (Cv.int (Env.get (times_sem.out [(.i x30), (.i x31), (.i (0 : Int)), (.i x8)]) 1)) → (0 : Int) ≤ x34 → x34 ≤ (18446744073709551615 : Int) →
(times_sem.pre [(.i x33), (.i x34), (.i (0 : Int)), (.i x8)]) ∧ (
∀ x36 : Int, x36 = (Cv.int (Env.get (times_sem.out [(.i x33), (.i x34), (.i (0 : Int)), (.i x8)]) 0)) → (0 : Int) ≤ x36 → x36 ≤ (18446744073709551615 : Int) →
∀ x37 : Int, x37 = (Cv.int (Env.get (times_sem.out [(.i x33), (.i x34), (.i (0 : Int)), (.i x8)]) 1)) → (0 : Int) ≤ x37 → x37 ≤ (18446744073709551615 : Int) →
(times_sem.pre [(.i x19), (.i x20), (.i (0 : Int)), (.i x22)]) ∧ (
∀ x39 : Int, x39 = (Cv.int (Env.get (times_sem.out [(.i x19), (.i x20), (.i (0 : Int)), (.i x22)]) 0)) → (0 : Int) ≤ x39 → x39 ≤ (18446744073709551615 : Int) →
∀ x40 : Int, x40 = (Cv.int (Env.get (times_sem.out [(.i x19), (.i x20), (.i (0 : Int)), (.i x22)]) 1)) → (0 : Int) ≤ x40 → x40 ≤ (18446744073709551615 : Int) →
(wdiv_sem.pre [(.i x36), (.i x37), (.i x39), (.i x40)]) ∧ (
∀ x42 : Int, x42 = (Cv.int (Env.get (wdiv_sem.out [(.i x36), (.i x37), (.i x39), (.i x40)]) 0)) → (0 : Int) ≤ x42 → x42 ≤ (18446744073709551615 : Int) →
∀ x43 : Int, x43 = (Cv.int (Env.get (wdiv_sem.out [(.i x36), (.i x37), (.i x39), (.i x40)]) 1)) → (0 : Int) ≤ x43 → x43 ≤ (18446744073709551615 : Int) →
∀ x44 : Int, x44 = (Cv.int (Env.get (wdiv_sem.out [(.i x36), (.i x37), (.i x39), (.i x40)]) 2)) → (0 : Int) ≤ x44 → x44 ≤ (18446744073709551615 : Int) →
∀ x45 : Int, x45 = (Cv.int (Env.get (wdiv_sem.out [(.i x36), (.i x37), (.i x39), (.i x40)]) 3)) → (0 : Int) ≤ x45 → x45 ≤ (18446744073709551615 : Int) →
∀ x46 : Int, x46 = (Cv.int (Env.get (wdiv_sem.out [(.i x36), (.i x37), (.i x39), (.i x40)]) 4)) → (-9223372036854775808 : Int) ≤ x46 → x46 ≤ (9223372036854775807 : Int) →
((!(Cmp.den .eq x46 (0 : Int))) = true → R (Value.tuple [(Value.agg [(Value.int .i64 (0 : Int)), (Value.int .i64 (0 : Int))].toArray), (Value.int .i64 (6 : Int))].toArray)) ∧ ((!(Cmp.den .eq x46 (0 : Int))) = false → ((!((Cmp.den .eq x44 (0 : Int)) && (Cmp.den .eq x45 (0 : Int)))) = true → (wadd_sem.pre [(.i x42), (.i x43), (.i (0 : Int)), (.i (1 : Int))]) ∧ (
∀ x47 : Int, x47 = (Cv.int (Env.get (wadd_sem.out [(.i x42), (.i x43), (.i (0 : Int)), (.i (1 : Int))]) 0)) → (0 : Int) ≤ x47 → x47 ≤ (18446744073709551615 : Int) →
∀ x48 : Int, x48 = (Cv.int (Env.get (wadd_sem.out [(.i x42), (.i x43), (.i (0 : Int)), (.i (1 : Int))]) 1)) → (0 : Int) ≤ x48 → x48 ≤ (18446744073709551615 : Int) →
(wroot_sem.pre [(.i x42), (.i x43)]) ∧ (
∀ x50 : Int, x50 = (Cv.int (Env.get (wroot_sem.out [(.i x42), (.i x43)]) 0)) → (0 : Int) ≤ x50 → x50 ≤ (18446744073709551615 : Int) →
∀ x51 : Int, x51 = (IntKind.i64.wrap x50) →
(wup_sem.pre [(.i x47), (.i x48)]) ∧ (
∀ x52 : Int, x52 = (Cv.int (Env.get (wup_sem.out [(.i x47), (.i x48)]) 0)) → (0 : Int) ≤ x52 → x52 ≤ (18446744073709551615 : Int) →
∀ x53 : Int, x53 = (Cv.int (Env.get (wup_sem.out [(.i x47), (.i x48)]) 1)) → (0 : Int) ≤ x53 → x53 ≤ (18446744073709551615 : Int) →
∀ x54 : Int, x54 = (IntKind.i64.wrap x53) →
((Cmp.den .lt x14 (0 : Int)) = true → ∀ x55 : Int, x55 = (IntKind.i64.wrap ((0 : Int) - x54)) →
∀ x56 : Int, x56 = (IntKind.i64.wrap ((0 : Int) - x51)) →
R (Value.tuple [(Value.agg [(Value.int .i64 x55), (Value.int .i64 x56)].toArray), (Value.int .i64 (0 : Int))].toArray)) ∧ ((Cmp.den .lt x14 (0 : Int)) = false → R (Value.tuple [(Value.agg [(Value.int .i64 x51), (Value.int .i64 x54)].toArray), (Value.int .i64 (0 : Int))].toArray)))))) ∧ ((!((Cmp.den .eq x44 (0 : Int)) && (Cmp.den .eq x45 (0 : Int)))) = false → (wroot_sem.pre [(.i x42), (.i x43)]) ∧ (
∀ x47 : Int, x47 = (Cv.int (Env.get (wroot_sem.out [(.i x42), (.i x43)]) 0)) → (0 : Int) ≤ x47 → x47 ≤ (18446744073709551615 : Int) →
∀ x48 : Int, x48 = (IntKind.i64.wrap x47) →
(wup_sem.pre [(.i x42), (.i x43)]) ∧ (
∀ x49 : Int, x49 = (Cv.int (Env.get (wup_sem.out [(.i x42), (.i x43)]) 0)) → (0 : Int) ≤ x49 → x49 ≤ (18446744073709551615 : Int) →
∀ x50 : Int, x50 = (Cv.int (Env.get (wup_sem.out [(.i x42), (.i x43)]) 1)) → (0 : Int) ≤ x50 → x50 ≤ (18446744073709551615 : Int) →
∀ x51 : Int, x51 = (IntKind.i64.wrap x50) →
((Cmp.den .lt x14 (0 : Int)) = true → ∀ x52 : Int, x52 = (IntKind.i64.wrap ((0 : Int) - x51)) →
∀ x53 : Int, x53 = (IntKind.i64.wrap ((0 : Int) - x48)) →
R (Value.tuple [(Value.agg [(Value.int .i64 x52), (Value.int .i64 x53)].toArray), (Value.int .i64 (0 : Int))].toArray)) ∧ ((Cmp.den .lt x14 (0 : Int)) = false → R (Value.tuple [(Value.agg [(Value.int .i64 x48), (Value.int .i64 x51)].toArray), (Value.int .i64 (0 : Int))].toArray)))))))))))))))))) ∧ ((Cmp.den .le (1 : Int) x8) = false → R (Value.tuple [(Value.agg [(Value.int .i64 (0 : Int)), (Value.int .i64 (0 : Int))].toArray), (Value.int .i64 (3 : Int))].toArray)))) ∧ ((Cmp.den .le x7 (1000000 : Int)) = false → R (Value.tuple [(Value.agg [(Value.int .i64 (0 : Int)), (Value.int .i64 (0 : Int))].toArray), (Value.int .i64 (1 : Int))].toArray))) ∧ ((Cmp.den .le (-1000000 : Int) x6) = false → R (Value.tuple [(Value.agg [(Value.int .i64 (0 : Int)), (Value.int .i64 (0 : Int))].toArray), (Value.int .i64 (1 : Int))].toArray))) ∧ ((Cv.bool (Env.get (sright_sem.out [(.i x0), (.i x1), (.i x2), (.i x3), (.i x4), (.i x5)]) 0)) = false → R (Value.tuple [(Value.agg [(Value.int .i64 (0 : Int)), (Value.int .i64 (0 : Int))].toArray), (Value.int .i64 (1 : Int))].toArray)))) := by kernel_rfl

def appk_sem : SpecSem := { pre := fun cs => match cs with | [.i n, .i s, .i h, .i l, .i mn, .i mx, .i a, .i b, .i k] => IsI n ∧ IsI s ∧ IsU h ∧ IsU l ∧ IsI mn ∧ IsI mx ∧ IsI a ∧ IsI b ∧ IsI k | _ => False, out := fun cs => match cs with | [.i n, .i s, .i h, .i l, .i mn, .i mx, .i a, .i b, .i k] => [.i (if abOK n s h l mn mx a b k then pkLo n s a b k (n * val h l - s * s) else 0), .i (if abOK n s h l mn mx a b k then pkHi n s a b k (n * val h l - s * s) else 0), .i (abE n s h l mn mx a b k)] | _ => [] }
set_option maxRecDepth 10000 in
set_option maxHeartbeats 16000000 in
theorem appk_ok : SpecOK Try.prog 30 appk_sp appk_sem := by
  refine spec_of_tree appk_cxok Try.func30 (by kernel_rfl) (by kernel_rfl) appk_walk rfl ?_
  intro cs hpre
  match cs, hpre with
  | [.i n, .i s, .i h, .i l, .i mn, .i mx, .i a, .i b, .i k], ⟨j_n, j_s, j_h, j_l, j_mn, j_mx, j_a, j_b, j_k⟩ =>
    have h_n := j_n
    unfold IsI at h_n
    have h_s := j_s
    unfold IsI at h_s
    have h_h := j_h
    unfold IsU at h_h
    have h_l := j_l
    unfold IsU at h_l
    have h_mn := j_mn
    unfold IsI at h_mn
    have h_mx := j_mx
    unfold IsI at h_mx
    have h_a := j_a
    unfold IsI at h_a
    have h_b := j_b
    unfold IsI at h_b
    have h_k := j_k
    unfold IsI at h_k
    refine ⟨rfl, IvsB.ok (by simp only [appk_ivs, IvsB, Cv.int, and_true] <;> omega), ?_, ?_⟩
    · simp only [appk_sem, appk_sp, Fits, and_true]
      have he := abE_rng n s h l mn mx a b k
      by_cases ho : abOK n s h l mn mx a b k
      · obtain ⟨hA, hD⟩ := ab_num j_h j_l ho
        obtain ⟨_, _, _, _, p5⟩ := pkA_rng ho.2.1 ho.2.2.1 ho.2.2.2.1 (st_s ho.1 ho.2.2.2.1.2)
        have d9 := spn_rng hD ho.2.2.2.1
        have := rt_rng (A := pkA n s a b k) (D := (n * val h l - s * s) * (9 * n)) ⟨p5.1, by omega⟩ d9.1
        simp only [ho, pkLo, pkHi, if_true, if_false, true_and, and_true, false_and, and_false, true_or, or_true, false_or, or_false, true_iff, iff_true, false_iff, iff_false, not_true_eq_false, not_false_eq_true, true_implies, false_implies, implies_true, forall_const, decide_true, decide_false, reduceCtorEq]
        refine ⟨?_, ?_, ?_, ?_, by omega, by omega⟩ <;> split <;> omega
      · simp only [ho, if_true, if_false, true_and, and_true, false_and, and_false, true_or, or_true, false_or, or_false, true_iff, iff_true, false_iff, iff_false, not_true_eq_false, not_false_eq_true, true_implies, false_implies, implies_true, forall_const, decide_true, decide_false, reduceCtorEq]
        omega
    · rw [appk_den]
      simp only [appk_sem, appk_sp, appk_den, times_sem, wadd_sem, wdiv_sem, wroot_sem, wup_sem, sright_sem, sspread_sem, Tree.den, LE.den, Cv.list, placeA, List.getElem?_cons_zero, List.getElem?_cons_succ, IE.den, BE.den, At.den, CA.den, Env.get, Cv.int, Cv.bool, List.cons_append, List.nil_append, List.map_cons, List.map_nil, bindRes, bindEq, Fits, SV.den, denL, place, placeL, eq_t, eq_f, lt_t, lt_f, le_t, le_f, beq_iff_eq, beq_eq_false_iff_ne, ne_eq, reduceCtorEq, b_dec, decide_eq_true_eq, decide_eq_false_iff_not, Bool.not_eq_false', Bool.or_eq_true, Bool.or_eq_false_iff, Bool.and_eq_false_iff, true_iff, false_iff, Bool.false_eq_true, Bool.not_eq_true', Bool.and_eq_true, Bool.not_true, Bool.not_false, List.cons.injEq, Cv.i.injEq, Cv.b.injEq, and_true, true_and, agg_inj, tup_inj, Value.int.injEq, Value.bool.injEq]
      by_cases c1 : stOK n s h l mn mx
      · by_cases c2 : -1000000 ≤ a ∧ b ≤ 1000000 ∧ a < b
        · obtain ⟨c2a, c2b, c2c⟩ := c2
          have hst := st_rng j_h j_l c1
          obtain ⟨nr1, nr2, nr3⟩ := near_rng (n := n) (s := s) (mn := mn) (mx := mx) ⟨c2a, c2b, c2c⟩ hst.1 hst.2.1
          have v1 : IntKind.i64.wrap (b * n) = b * n := w64 (by omega) (by omega)
          have v2 : IntKind.i64.wrap (b * n - s) = b * n - s := w64 (by omega) (by omega)
          have v3 : IntKind.i64.wrap (a * n) = a * n := w64 (by omega) (by omega)
          have v4 : IntKind.i64.wrap (s - a * n) = s - a * n := w64 (by omega) (by omega)
          have v5 : (if s - a * n < b * n - s then s - a * n else b * n - s) = nearZ n s a b := rfl
          have v6 : IntKind.i64.wrap (0 - nearZ n s a b) = 0 - nearZ n s a b := w64 (by omega) (by omega)
          have v7 : (if nearZ n s a b < 0 - nearZ n s a b then 0 - nearZ n s a b else nearZ n s a b) = absZ (nearZ n s a b) := by unfold absZ; split <;> split <;> omega
          have v8 : IntKind.u64.wrap (absZ (nearZ n s a b)) = absZ (nearZ n s a b) := wu64 (by unfold absZ; split <;> omega) (by unfold absZ; split <;> omega)
          by_cases c3 : 1 ≤ k ∧ k ≤ 1000
          · obtain ⟨c3a, c3b⟩ := c3
            by_cases c4 : 2 ≤ n
            · by_cases c5 : n ≤ 1000
              · obtain ⟨r1, r2, r3, r4, r5, r6⟩ := st_rng j_h j_l c1
                obtain ⟨p0, p1, p2, p3, p5⟩ := pkA_rng (n := n) (s := s) ⟨c2a, c2b, c2c⟩ ⟨c3a, c3b⟩ ⟨c4, c5⟩ (st_s c1 c5)
                have sp0 := ab_sp j_h j_l c1 c5
                have q2 : (1000 < k) = False := eq_false (by omega)
                have q3 : (k < 1) = False := eq_false (by omega)
                have q4 : (n < 2) = False := eq_false (by omega)
                have q5 : (1000 < n) = False := eq_false (by omega)
                have q6 : (b ≤ a) = False := eq_false (by omega)
                have q7 : (a < -1000000) = False := eq_false (by omega)
                have q8 : (1000000 < b) = False := eq_false (by omega)
                have q9 : (n < 1) = False := eq_false (by omega)
                have q10 : (n = 0) = False := eq_false (by omega)
                have w1 : IntKind.u64.wrap (9 * n) = 9 * n := wu64 (by omega) (by omega)
                have ab0 : 0 ≤ absZ (nearZ n s a b) ∧ absZ (nearZ n s a b) ≤ 2000000000 := by unfold absZ; split <;> omega
                have u0 : IsU 0 := ⟨by omega, by omega⟩
                have u1 : IsU 1 := ⟨by omega, by omega⟩
                have u2 : IsU (9 * n) := ⟨by omega, by omega⟩
                have u3 : IsU (absZ (nearZ n s a b)) := ⟨by omega, by omega⟩
                have u4 : IsU n := ⟨by omega, by omega⟩
                have u5 : IsU (n - 1) := ⟨by omega, by omega⟩
                have u6 : IsU k := ⟨by omega, by omega⟩
                have ub : ∀ x : Int, IsU (x % 18446744073709551616) := fun x => ⟨by omega, by omega⟩
                have u7 : IsU ((n * val h l - s * s) / 18446744073709551616) := ⟨by omega, by omega⟩
                have e1 := vq2 (x := absZ (nearZ n s a b)) (by omega) (by omega)
                have e2 := vq2 p1.1 (by omega)
                have e3 := vq2 p2.1 (by omega)
                have e4 := vq2 p3.1 (by omega)
                have e5 := e4
                have e6 := vq (n * val h l - s * s)
                have eA : nearZ n s a b * nearZ n s a b * (n - 1) * k * k = pkA n s a b k := rfl
                by_cases hS : n * val h l - s * s = 0
                · have hno : ¬ abOK n s h l mn mx a b k := fun q => q.2.2.2.2 hS
                  have z1 : val ((0 : Int) / 18446744073709551616 % 18446744073709551616) ((0 : Int) % 18446744073709551616) = 0 := by decide
                  have z2 : val (0 : Int) 0 = 0 := by decide
                  have z3 : (0 : Int) / 18446744073709551616 = 0 := by decide
                  have z4 : (0 : Int) % 18446744073709551616 = 0 := by decide
                  have z5 : ((4 : Int) = 0) = False := by simp
                  have ud := fun x y z w => (divQR_rng (a := x) (b := y) (c := z) (d := w))
                  simp only [hS, hno, c1, c2a, c2b, c2c, c3a, c3b, c4, c5, q2, q3, q4, q5, q6, q7, q8, q9, q10, w1, u0, u1, u2, u3, u4, u5, u6, ub, val0, Int.one_mul, abs_sq, v1, v2, v3, v4, v5, v6, v7, v8, Int.zero_mul, e1, e2, e3, e4, e5, eA, abE, z2, z3, z4, z5, j_n, j_s, j_h, j_l, j_mn, j_mx, forall_eq, eq_self, f00, if_true, if_false, true_and, and_true, false_and, and_false, true_or, or_true, false_or, or_false, true_iff, iff_true, false_iff, iff_false, not_true_eq_false, not_false_eq_true, true_implies, false_implies, implies_true, forall_const, decide_true, decide_false, reduceCtorEq]
                · have ho : abOK n s h l mn mx a b k := ⟨c1, ⟨c2a, c2b, c2c⟩, ⟨c3a, c3b⟩, ⟨c4, c5⟩, hS⟩
                  have d9 := spn_rng (SP := n * val h l - s * s) (n := n) (by omega) ⟨c4, c5⟩
                  obtain ⟨y1, y2, y3, y4, y5⟩ := rt_rng (A := pkA n s a b k) (D := (n * val h l - s * s) * (9 * n)) ⟨p5.1, by omega⟩ d9.1
                  have y6 : IntKind.i64.wrap (0 - rtHi (pkA n s a b k) ((n * val h l - s * s) * (9 * n))) = -(rtHi (pkA n s a b k) ((n * val h l - s * s) * (9 * n))) := by rw [w64 (by omega) (by omega)]; omega
                  have y7 : IntKind.i64.wrap (0 - rtLo (pkA n s a b k) ((n * val h l - s * s) * (9 * n))) = -(rtLo (pkA n s a b k) ((n * val h l - s * s) * (9 * n))) := by rw [w64 (by omega) (by omega)]; omega
                  obtain ⟨⟨t1, t2⟩, t3, ⟨t4, t5⟩, t6, t7, t8, t9, t10⟩ := rooted (A := pkA n s a b k) (D := (n * val h l - s * s) * (9 * n)) ⟨p5.1, by omega⟩ ⟨d9.1, by omega⟩
                  have hD : ((n * val h l - s * s) * (9 * n) = 0) = False := eq_false (by omega)
                  by_cases hr : pkA n s a b k % ((n * val h l - s * s) * (9 * n)) = 0
                  · have t7 := t7 hr
                    have z3 : (0 : Int) / 18446744073709551616 = 0 := by decide
                    have z4 : (0 : Int) % 18446744073709551616 = 0 := by decide
                    by_cases sg : nearZ n s a b < 0
                    · have sg2 : (0 ≤ nearZ n s a b) = False := eq_false (by omega)
                      simp only [hS, ho, hD, pkLo, pkHi, y6, y7, sg, sg2, hr, c1, c2a, c2b, c2c, c3a, c3b, c4, c5, q2, q3, q4, q5, q6, q7, q8, q9, q10, w1, u0, u1, u2, u3, u4, u5, u6, u7, ub, val0, Int.one_mul, abs_sq, v1, v2, v3, v4, v5, v6, v7, v8, e1, e2, e3, e4, e5, e6, eA, abE, t1, t2, t3, t4, t5, t6, t7, t9, t10, z3, z4, j_n, j_s, j_h, j_l, j_mn, j_mx, forall_eq, eq_self, f00, if_true, if_false, true_and, and_true, false_and, and_false, true_or, or_true, false_or, or_false, true_iff, iff_true, false_iff, iff_false, not_true_eq_false, not_false_eq_true, true_implies, false_implies, implies_true, forall_const, decide_true, decide_false, reduceCtorEq]
                    · have sg2 : 0 ≤ nearZ n s a b := by omega
                      simp only [hS, ho, hD, pkLo, pkHi, y6, y7, sg, sg2, hr, c1, c2a, c2b, c2c, c3a, c3b, c4, c5, q2, q3, q4, q5, q6, q7, q8, q9, q10, w1, u0, u1, u2, u3, u4, u5, u6, u7, ub, val0, Int.one_mul, abs_sq, v1, v2, v3, v4, v5, v6, v7, v8, e1, e2, e3, e4, e5, e6, eA, abE, t1, t2, t3, t4, t5, t6, t7, t9, t10, z3, z4, j_n, j_s, j_h, j_l, j_mn, j_mx, forall_eq, eq_self, f00, if_true, if_false, true_and, and_true, false_and, and_false, true_or, or_true, false_or, or_false, true_iff, iff_true, false_iff, iff_false, not_true_eq_false, not_false_eq_true, true_implies, false_implies, implies_true, forall_const, decide_true, decide_false, reduceCtorEq]
                  · have t8 := t8 hr
                    have z1 : (¬ pkA n s a b k % ((n * val h l - s * s) * (9 * n)) / 18446744073709551616 = 0 ∨ ¬ pkA n s a b k % ((n * val h l - s * s) * (9 * n)) % 18446744073709551616 = 0) = True := eq_true (by omega)
                    have z2 : (pkA n s a b k % ((n * val h l - s * s) * (9 * n)) / 18446744073709551616 = 0 ∧ pkA n s a b k % ((n * val h l - s * s) * (9 * n)) % 18446744073709551616 = 0) = False := eq_false (by omega)
                    by_cases sg : nearZ n s a b < 0
                    · have sg2 : (0 ≤ nearZ n s a b) = False := eq_false (by omega)
                      simp only [hS, ho, hD, pkLo, pkHi, y6, y7, sg, sg2, z1, z2, c1, c2a, c2b, c2c, c3a, c3b, c4, c5, q2, q3, q4, q5, q6, q7, q8, q9, q10, w1, u0, u1, u2, u3, u4, u5, u6, u7, ub, val0, Int.one_mul, abs_sq, v1, v2, v3, v4, v5, v6, v7, v8, e1, e2, e3, e4, e5, e6, eA, abE, t1, t2, t3, t4, t5, t6, t8, t9, t10, j_n, j_s, j_h, j_l, j_mn, j_mx, forall_eq, eq_self, f00, if_true, if_false, true_and, and_true, false_and, and_false, true_or, or_true, false_or, or_false, true_iff, iff_true, false_iff, iff_false, not_true_eq_false, not_false_eq_true, true_implies, false_implies, implies_true, forall_const, decide_true, decide_false, reduceCtorEq]
                    · have sg2 : 0 ≤ nearZ n s a b := by omega
                      simp only [hS, ho, hD, pkLo, pkHi, y6, y7, sg, sg2, z1, z2, c1, c2a, c2b, c2c, c3a, c3b, c4, c5, q2, q3, q4, q5, q6, q7, q8, q9, q10, w1, u0, u1, u2, u3, u4, u5, u6, u7, ub, val0, Int.one_mul, abs_sq, v1, v2, v3, v4, v5, v6, v7, v8, e1, e2, e3, e4, e5, e6, eA, abE, t1, t2, t3, t4, t5, t6, t8, t9, t10, j_n, j_s, j_h, j_l, j_mn, j_mx, forall_eq, eq_self, f00, if_true, if_false, true_and, and_true, false_and, and_false, true_or, or_true, false_or, or_false, true_iff, iff_true, false_iff, iff_false, not_true_eq_false, not_false_eq_true, true_implies, false_implies, implies_true, forall_const, decide_true, decide_false, reduceCtorEq]
              · have q5 : 1000 < n := by omega
                have q2 : (1000 < k) = False := eq_false (by omega)
                have q4 : (n < 2) = False := eq_false (by omega)
                have q6 : (b ≤ a) = False := eq_false (by omega)
                have hno : ¬ abOK n s h l mn mx a b k := fun q => c5 q.2.2.2.1.2
                simp only [hno, abE, c1, c2a, c2b, c2c, c3a, c3b, c4, c5, q2, q4, q5, q6, j_n, j_s, j_h, j_l, j_mn, j_mx, forall_eq, eq_self, f00, if_true, if_false, true_and, and_true, false_and, and_false, true_or, or_true, false_or, or_false, true_iff, iff_true, false_iff, iff_false, not_true_eq_false, not_false_eq_true, true_implies, false_implies, implies_true, forall_const, decide_true, decide_false, reduceCtorEq]
                intros
                omega
            · have q4 : n < 2 := by omega
              have q2 : (1000 < k) = False := eq_false (by omega)
              have q6 : (b ≤ a) = False := eq_false (by omega)
              have hno : ¬ abOK n s h l mn mx a b k := fun q => c4 q.2.2.2.1.1
              simp only [hno, abE, c1, c2a, c2b, c2c, c3a, c3b, c4, q2, q4, q6, j_n, j_s, j_h, j_l, j_mn, j_mx, forall_eq, eq_self, f00, if_true, if_false, true_and, and_true, false_and, and_false, true_or, or_true, false_or, or_false, true_iff, iff_true, false_iff, iff_false, not_true_eq_false, not_false_eq_true, true_implies, false_implies, implies_true, forall_const, decide_true, decide_false, reduceCtorEq]
              intros
              omega
          · have hno : ¬ abOK n s h l mn mx a b k := fun q => c3 q.2.2.1
            have q6 : (b ≤ a) = False := eq_false (by omega)
            by_cases c3a : 1 ≤ k
            · have q2 : 1000 < k := by omega
              have q3 : (k ≤ 1000) = False := eq_false (by omega)
              simp only [hno, abE, c1, c2a, c2b, c2c, c3, c3a, q2, q3, q6, j_n, j_s, j_h, j_l, j_mn, j_mx, forall_eq, eq_self, f00, if_true, if_false, true_and, and_true, false_and, and_false, true_or, or_true, false_or, or_false, true_iff, iff_true, false_iff, iff_false, not_true_eq_false, not_false_eq_true, true_implies, false_implies, implies_true, forall_const, decide_true, decide_false, reduceCtorEq]
              intros
              omega
            · have q2 : k < 1 := by omega
              simp only [hno, abE, c1, c2a, c2b, c2c, c3, c3a, q2, q6, j_n, j_s, j_h, j_l, j_mn, j_mx, forall_eq, eq_self, f00, if_true, if_false, true_and, and_true, false_and, and_false, true_or, or_true, false_or, or_false, true_iff, iff_true, false_iff, iff_false, not_true_eq_false, not_false_eq_true, true_implies, false_implies, implies_true, forall_const, decide_true, decide_false, reduceCtorEq]
              omega
        · have hno : ¬ abOK n s h l mn mx a b k := fun q => c2 q.2.1
          by_cases c2a : -1000000 ≤ a
          · by_cases c2b : b ≤ 1000000
            · have q6 : b ≤ a := by omega
              have q7 : (a < b) = False := eq_false (by omega)
              simp only [hno, abE, c1, c2, c2a, c2b, q6, q7, j_n, j_s, j_h, j_l, j_mn, j_mx, forall_eq, eq_self, f00, if_true, if_false, true_and, and_true, false_and, and_false, true_or, or_true, false_or, or_false, true_iff, iff_true, false_iff, iff_false, not_true_eq_false, not_false_eq_true, true_implies, false_implies, implies_true, forall_const, decide_true, decide_false, reduceCtorEq]
            · have q6 : 1000000 < b := by omega
              simp only [hno, abE, c1, c2, c2a, c2b, q6, j_n, j_s, j_h, j_l, j_mn, j_mx, forall_eq, eq_self, f00, if_true, if_false, true_and, and_true, false_and, and_false, true_or, or_true, false_or, or_false, true_iff, iff_true, false_iff, iff_false, not_true_eq_false, not_false_eq_true, true_implies, false_implies, implies_true, forall_const, decide_true, decide_false, reduceCtorEq]
          · have q6 : a < -1000000 := by omega
            simp only [hno, abE, c1, c2, c2a, q6, j_n, j_s, j_h, j_l, j_mn, j_mx, forall_eq, eq_self, f00, if_true, if_false, true_and, and_true, false_and, and_false, true_or, or_true, false_or, or_false, true_iff, iff_true, false_iff, iff_false, not_true_eq_false, not_false_eq_true, true_implies, false_implies, implies_true, forall_const, decide_true, decide_false, reduceCtorEq]
      · have hno : ¬ abOK n s h l mn mx a b k := fun q => c1 q.1
        simp only [hno, abE, c1, j_n, j_s, j_h, j_l, j_mn, j_mx, forall_eq, eq_self, f00, if_true, if_false, true_and, and_true, false_and, and_false, true_or, or_true, false_or, or_false, true_iff, iff_true, false_iff, iff_false, not_true_eq_false, not_false_eq_true, true_implies, false_implies, implies_true, forall_const, decide_true, decide_false, reduceCtorEq]
end Go.Proofs.Ytgnihomdpandfaa.X
