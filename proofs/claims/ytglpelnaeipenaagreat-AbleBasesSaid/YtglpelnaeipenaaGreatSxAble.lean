/-
  The contracts of able.Pp and able.Ppk, for every input in range.
-/
import Derived.Test.YtglpelnaeipenaaGreatSxAbleTry
import Derived.Test.YtglpelnaeipenaaGreatSxAbleNum
import Derived.Test.YtglpelnaeipenaaGreatSxStat
namespace Go.Proofs.YtglpelnaeipenaaGreat.X
open Go Go.SX Go.RowKit
set_option linter.unusedVariables false
set_option linter.unusedSimpArgs false









def app_sp : SpecSh := { args := [(.agg [(.int .i64 (.z 0)), (.int .i64 (.z 0)), (.int .u64 (.z 0)), (.int .u64 (.z 0)), (.int .i64 (.z 0)), (.int .i64 (.z 0))]), (.int .i64 (.z 0)), (.int .i64 (.z 0)), (.int .i64 (.z 0))], res := (.tup [(.agg [(.int .i64 (.z 0)), (.int .i64 (.z 0))]), (.int .i64 (.z 0))]), sh := [.i (some ((-9223372036854775808), 9223372036854775807)), .i (some ((-9223372036854775808), 9223372036854775807)), .i (some ((-9223372036854775808), 9223372036854775807))] }
set_option maxRecDepth 100000 in
def app_tree : Tree :=
.call 34 [.b] [.i (.v 0), .i (.v 1), .i (.v 2), .i (.v 3), .i (.v 4), .i (.v 5)] <|
.ite (.v 9) (.ite (.cmp .le (.z (-1000000)) (.v 6)) (.ite (.cmp .le (.v 7) (.z 1000000)) (.ite (.not (.cmp .lt (.v 6) (.v 7))) (.ret (.tup [(.agg [(.int .i64 (.z 0)), (.int .i64 (.z 0))]), (.int .i64 (.z 1))])) <|
.ite (.cmp .le (.z 1) (.v 8)) (.ite (.not (.cmp .le (.v 8) (.z 1000))) (.ret (.tup [(.agg [(.int .i64 (.z 0)), (.int .i64 (.z 0))]), (.int .i64 (.z 3))])) <|
.lett (.sub (.v 7) (.v 6)) <|
.lett (.wrap .u64 (.v 10)) <|
.lett (.ite (.cmp .lt (.v 0) (.z 1)) (.z 1) (.v 0)) <|
.ite (.not (.cmp .le (.z 2) (.v 0))) (.ret (.tup [(.agg [(.int .i64 (.z 0)), (.int .i64 (.z 0))]), (.int .i64 (.z 12))])) <|
.ite (.not (.cmp .le (.v 0) (.z 1000))) (.ret (.tup [(.agg [(.int .i64 (.z 0)), (.int .i64 (.z 0))]), (.int .i64 (.z 2))])) <|
.call 57 [.i (some (0, 18446744073709551615)), .i (some (0, 18446744073709551615)), .i (some ((-9223372036854775808), 9223372036854775807))] [.i (.v 0), .i (.v 1), .i (.v 2), .i (.v 3), .i (.v 4), .i (.v 5)] <|
.lett (.sub (.v 12) (.z 1)) <|
.call 54 [.i (some (0, 18446744073709551615)), .i (some (0, 18446744073709551615)), .b] [.i (.z 0), .i (.z 1), .i (.z 0), .i (.v 11)] <|
.call 54 [.i (some (0, 18446744073709551615)), .i (some (0, 18446744073709551615)), .b] [.i (.v 17), .i (.v 18), .i (.z 0), .i (.v 11)] <|
.call 54 [.i (some (0, 18446744073709551615)), .i (some (0, 18446744073709551615)), .b] [.i (.v 20), .i (.v 21), .i (.z 0), .i (.v 12)] <|
.call 54 [.i (some (0, 18446744073709551615)), .i (some (0, 18446744073709551615)), .b] [.i (.v 23), .i (.v 24), .i (.z 0), .i (.v 16)] <|
.call 54 [.i (some (0, 18446744073709551615)), .i (some (0, 18446744073709551615)), .b] [.i (.v 26), .i (.v 27), .i (.z 0), .i (.v 8)] <|
.call 54 [.i (some (0, 18446744073709551615)), .i (some (0, 18446744073709551615)), .b] [.i (.v 29), .i (.v 30), .i (.z 0), .i (.v 8)] <|
.call 54 [.i (some (0, 18446744073709551615)), .i (some (0, 18446744073709551615)), .b] [.i (.v 13), .i (.v 14), .i (.z 0), .i (.z 36)] <|
.call 46 [.i (some (0, 18446744073709551615)), .i (some (0, 18446744073709551615)), .i (some (0, 18446744073709551615)), .i (some (0, 18446744073709551615)), .i (some ((-9223372036854775808), 9223372036854775807))] [.i (.v 32), .i (.v 33), .i (.v 35), .i (.v 36)] <|
.ite (.not (.cmp .eq (.v 42) (.z 0))) (.ret (.tup [(.agg [(.int .i64 (.z 0)), (.int .i64 (.z 0))]), (.int .i64 (.z 6))])) <|
.ite (.not (.and (.cmp .eq (.v 40) (.z 0)) (.cmp .eq (.v 41) (.z 0)))) (.call 48 [.i (some (0, 18446744073709551615)), .i (some (0, 18446744073709551615)), .b] [.i (.v 38), .i (.v 39), .i (.z 0), .i (.z 1)] <|
.call 55 [.i (some (0, 18446744073709551615))] [.i (.v 38), .i (.v 39)] <|
.lett (.wrap .i64 (.v 46)) <|
.call 56 [.i (some (0, 18446744073709551615)), .i (some (0, 18446744073709551615))] [.i (.v 43), .i (.v 44)] <|
.lett (.wrap .i64 (.v 49)) <|
.ret (.tup [(.agg [(.int .i64 (.v 47)), (.int .i64 (.v 50))]), (.int .i64 (.z 0))])) <|
.call 55 [.i (some (0, 18446744073709551615))] [.i (.v 38), .i (.v 39)] <|
.lett (.wrap .i64 (.v 43)) <|
.call 56 [.i (some (0, 18446744073709551615)), .i (some (0, 18446744073709551615))] [.i (.v 38), .i (.v 39)] <|
.lett (.wrap .i64 (.v 46)) <|
.ret (.tup [(.agg [(.int .i64 (.v 44)), (.int .i64 (.v 47))]), (.int .i64 (.z 0))])) <|
.ret (.tup [(.agg [(.int .i64 (.z 0)), (.int .i64 (.z 0))]), (.int .i64 (.z 3))])) <|
.ret (.tup [(.agg [(.int .i64 (.z 0)), (.int .i64 (.z 0))]), (.int .i64 (.z 1))])) <|
.ret (.tup [(.agg [(.int .i64 (.z 0)), (.int .i64 (.z 0))]), (.int .i64 (.z 1))])) <|
.ret (.tup [(.agg [(.int .i64 (.z 0)), (.int .i64 (.z 0))]), (.int .i64 (.z 1))])
noncomputable def app_cx : Ctx := { tys := tys, fns := fns, mets := mets, sps := [(54, times_sp), (48, wadd_sp), (46, wdiv_sp), (55, wroot_sp), (56, wup_sp), (34, sright_sp), (57, sspread_sp)], anns := [], trys := [(10, atold_try)] }
def app_ivs : List (Option (Int × Int)) := [some ((-9223372036854775808), 9223372036854775807), some ((-9223372036854775808), 9223372036854775807), some (0, 18446744073709551615), some (0, 18446744073709551615), some ((-9223372036854775808), 9223372036854775807), some ((-9223372036854775808), 9223372036854775807), some ((-9223372036854775808), 9223372036854775807), some ((-9223372036854775808), 9223372036854775807), some ((-9223372036854775808), 9223372036854775807)]
set_option maxRecDepth 100000 in
theorem app_walk : runFn app_cx 3000 20 Tryz.f20 app_sp.args app_ivs = app_tree := by kernel_rfl
noncomputable def app_M : Nat → SpecSem
  | 54 => times_sem
  | 48 => wadd_sem
  | 46 => wdiv_sem
  | 55 => wroot_sem
  | 56 => wup_sem
  | 34 => sright_sem
  | 57 => sspread_sem
  | _ => noSem
theorem app_M54 : app_M 54 = times_sem := rfl
theorem app_M48 : app_M 48 = wadd_sem := rfl
theorem app_M46 : app_M 46 = wdiv_sem := rfl
theorem app_M55 : app_M 55 = wroot_sem := rfl
theorem app_M56 : app_M 56 = wup_sem := rfl
theorem app_M34 : app_M 34 = sright_sem := rfl
theorem app_M57 : app_M 57 = sspread_sem := rfl
theorem app_cxok : CxOK Tryz.prog app_cx app_M := ⟨tysOK, fnsOK, spCons times_ok <| spCons wadd_ok <| spCons wdiv_ok <| spCons wroot_ok <| spCons wup_ok <| spCons sright_ok <| spCons sspread_ok <| fun _ _ h => spNil h, mixedOK, trCons atold_ok <| fun _ _ h => trNil h, fun _ _ h => atNil h, metsOK⟩
set_option maxRecDepth 100000 in
set_option maxHeartbeats 8000000 in
theorem app_den (R RP : Value → Prop) (F : Ex → St → Js → Env → Prop) (J : Js) (x0 : Int) (x1 : Int) (x2 : Int) (x3 : Int) (x4 : Int) (x5 : Int) (x6 : Int) (x7 : Int) (x8 : Int) : Tree.den app_M R RP F app_tree J [(.i x0), (.i x1), (.i x2), (.i x3), (.i x4), (.i x5), (.i x6), (.i x7), (.i x8)] = (
  (sright_sem.pre [(.i x0), (.i x1), (.i x2), (.i x3), (.i x4), (.i x5)]) ∧ (
((Cv.bool (Env.get (sright_sem.out [(.i x0), (.i x1), (.i x2), (.i x3), (.i x4), (.i x5)]) 0)) = true → ((Cmp.den .le (-1000000 : Int) x6) = true → ((Cmp.den .le x7 (1000000 : Int)) = true → ((!(Cmp.den .lt x6 x7)) = true → R (Value.tuple [(Value.agg [(Value.int .i64 (0 : Int)), (Value.int .i64 (0 : Int))].toArray), (Value.int .i64 (1 : Int))].toArray)) ∧ ((!(Cmp.den .lt x6 x7)) = false → ((Cmp.den .le (1 : Int) x8) = true → ((!(Cmp.den .le x8 (1000 : Int))) = true → R (Value.tuple [(Value.agg [(Value.int .i64 (0 : Int)), (Value.int .i64 (0 : Int))].toArray), (Value.int .i64 (3 : Int))].toArray)) ∧ ((!(Cmp.den .le x8 (1000 : Int))) = false → ∀ x10 : Int, x10 = (x7 - x6) →
∀ x11 : Int, x11 = (IntKind.u64.wrap x10) →
∀ x12 : Int, x12 = (if (Cmp.den .lt x0 (1 : Int)) = true then (1 : Int) else x0) →
((!(Cmp.den .le (2 : Int) x0)) = true → R (Value.tuple [(Value.agg [(Value.int .i64 (0 : Int)), (Value.int .i64 (0 : Int))].toArray), (Value.int .i64 (12 : Int))].toArray)) ∧ ((!(Cmp.den .le (2 : Int) x0)) = false → ((!(Cmp.den .le x0 (1000 : Int))) = true → R (Value.tuple [(Value.agg [(Value.int .i64 (0 : Int)), (Value.int .i64 (0 : Int))].toArray), (Value.int .i64 (2 : Int))].toArray)) ∧ ((!(Cmp.den .le x0 (1000 : Int))) = false → (sspread_sem.pre [(.i x0), (.i x1), (.i x2), (.i x3), (.i x4), (.i x5)]) ∧ (
∀ x13 : Int, x13 = (Cv.int (Env.get (sspread_sem.out [(.i x0), (.i x1), (.i x2), (.i x3), (.i x4), (.i x5)]) 0)) → (0 : Int) ≤ x13 → x13 ≤ (18446744073709551615 : Int) →
∀ x14 : Int, x14 = (Cv.int (Env.get (sspread_sem.out [(.i x0), (.i x1), (.i x2), (.i x3), (.i x4), (.i x5)]) 1)) → (0 : Int) ≤ x14 → x14 ≤ (18446744073709551615 : Int) →
∀ x15 : Int, x15 = (Cv.int (Env.get (sspread_sem.out [(.i x0), (.i x1), (.i x2), (.i x3), (.i x4), (.i x5)]) 2)) → (-9223372036854775808 : Int) ≤ x15 → x15 ≤ (9223372036854775807 : Int) →
∀ x16 : Int, x16 = (x12 - (1 : Int)) →
(times_sem.pre [(.i (0 : Int)), (.i (1 : Int)), (.i (0 : Int)), (.i x11)]) ∧ (
∀ x17 : Int, x17 = (Cv.int (Env.get (times_sem.out [(.i (0 : Int)), (.i (1 : Int)), (.i (0 : Int)), (.i x11)]) 0)) → (0 : Int) ≤ x17 → x17 ≤ (18446744073709551615 : Int) →
∀ x18 : Int, x18 = (Cv.int (Env.get (times_sem.out [(.i (0 : Int)), (.i (1 : Int)), (.i (0 : Int)), (.i x11)]) 1)) → (0 : Int) ≤ x18 → x18 ≤ (18446744073709551615 : Int) →
(times_sem.pre [(.i x17), (.i x18), (.i (0 : Int)), (.i x11)]) ∧ (
∀ x20 : Int, x20 = (Cv.int (Env.get (times_sem.out [(.i x17), (.i x18), (.i (0 : Int)), (.i x11)]) 0)) → (0 : Int) ≤ x20 → x20 ≤ (18446744073709551615 : Int) →
∀ x21 : Int, x21 = (Cv.int (Env.get (times_sem.out [(.i x17), (.i x18), (.i (0 : Int)), (.i x11)]) 1)) → (0 : Int) ≤ x21 → x21 ≤ (18446744073709551615 : Int) →
(times_sem.pre [(.i x20), (.i x21), (.i (0 : Int)), (.i x12)]) ∧ (
∀ x23 : Int, x23 = (Cv.int (Env.get (times_sem.out [(.i x20), (.i x21), (.i (0 : Int)), (.i x12)]) 0)) → (0 : Int) ≤ x23 → x23 ≤ (18446744073709551615 : Int) →
∀ x24 : Int, x24 = (Cv.int (Env.get (times_sem.out [(.i x20), (.i x21), (.i (0 : Int)), (.i x12)]) 1)) → (0 : Int) ≤ x24 → x24 ≤ (18446744073709551615 : Int) →
(times_sem.pre [(.i x23), (.i x24), (.i (0 : Int)), (.i x16)]) ∧ (
∀ x26 : Int, x26 = (Cv.int (Env.get (times_sem.out [(.i x23), (.i x24), (.i (0 : Int)), (.i x16)]) 0)) → (0 : Int) ≤ x26 → x26 ≤ (18446744073709551615 : Int) →
∀ x27 : Int, x27 = (Cv.int (Env.get (times_sem.out [(.i x23), (.i x24), (.i (0 : Int)), (.i x16)]) 1)) → (0 : Int) ≤ x27 → x27 ≤ (18446744073709551615 : Int) →
(times_sem.pre [(.i x26), (.i x27), (.i (0 : Int)), (.i x8)]) ∧ (
∀ x29 : Int, x29 = (Cv.int (Env.get (times_sem.out [(.i x26), (.i x27), (.i (0 : Int)), (.i x8)]) 0)) → (0 : Int) ≤ x29 → x29 ≤ (18446744073709551615 : Int) →
∀ x30 : Int, x30 = (Cv.int (Env.get (times_sem.out [(.i x26), (.i x27), (.i (0 : Int)), (.i x8)]) 1)) → (0 : Int) ≤ x30 → x30 ≤ (18446744073709551615 : Int) →
(times_sem.pre [(.i x29), (.i x30), (.i (0 : Int)), (.i x8)]) ∧ (
∀ x32 : Int, x32 = (Cv.int (Env.get (times_sem.out [(.i x29), (.i x30), (.i (0 : Int)), (.i x8)]) 0)) → (0 : Int) ≤ x32 → x32 ≤ (18446744073709551615 : Int) →
∀ x33 : Int, x33 = (Cv.int (Env.get (times_sem.out [(.i x29), (.i x30), (.i (0 : Int)), (.i x8)]) 1)) → (0 : Int) ≤ x33 → x33 ≤ (18446744073709551615 : Int) →
(times_sem.pre [(.i x13), (.i x14), (.i (0 : Int)), (.i (36 : Int))]) ∧ (
∀ x35 : Int, x35 = (Cv.int (Env.get (times_sem.out [(.i x13), (.i x14), (.i (0 : Int)), (.i (36 : Int))]) 0)) → (0 : Int) ≤ x35 → x35 ≤ (18446744073709551615 : Int) →
∀ x36 : Int, x36 = (Cv.int (Env.get (times_sem.out [(.i x13), (.i x14), (.i (0 : Int)), (.i (36 : Int))]) 1)) → (0 : Int) ≤ x36 → x36 ≤ (18446744073709551615 : Int) →
(wdiv_sem.pre [(.i x32), (.i x33), (.i x35), (.i x36)]) ∧ (
∀ x38 : Int, x38 = (Cv.int (Env.get (wdiv_sem.out [(.i x32), (.i x33), (.i x35), (.i x36)]) 0)) → (0 : Int) ≤ x38 → x38 ≤ (18446744073709551615 : Int) →
∀ x39 : Int, x39 = (Cv.int (Env.get (wdiv_sem.out [(.i x32), (.i x33), (.i x35), (.i x36)]) 1)) → (0 : Int) ≤ x39 → x39 ≤ (18446744073709551615 : Int) →
∀ x40 : Int, x40 = (Cv.int (Env.get (wdiv_sem.out [(.i x32), (.i x33), (.i x35), (.i x36)]) 2)) → (0 : Int) ≤ x40 → x40 ≤ (18446744073709551615 : Int) →
∀ x41 : Int, x41 = (Cv.int (Env.get (wdiv_sem.out [(.i x32), (.i x33), (.i x35), (.i x36)]) 3)) → (0 : Int) ≤ x41 → x41 ≤ (18446744073709551615 : Int) →
∀ x42 : Int, x42 = (Cv.int (Env.get (wdiv_sem.out [(.i x32), (.i x33), (.i x35), (.i x36)]) 4)) → (-9223372036854775808 : Int) ≤ x42 → x42 ≤ (9223372036854775807 : Int) →
((!(Cmp.den .eq x42 (0 : Int))) = true → R (Value.tuple [(Value.agg [(Value.int .i64 (0 : Int)), (Value.int .i64 (0 : Int))].toArray), (Value.int .i64 (6 : Int))].toArray)) ∧ ((!(Cmp.den .eq x42 (0 : Int))) = false → ((!((Cmp.den .eq x40 (0 : Int)) && (Cmp.den .eq x41 (0 : Int)))) = true → (wadd_sem.pre [(.i x38), (.i x39), (.i (0 : Int)), (.i (1 : Int))]) ∧ (
∀ x43 : Int, x43 = (Cv.int (Env.get (wadd_sem.out [(.i x38), (.i x39), (.i (0 : Int)), (.i (1 : Int))]) 0)) → (0 : Int) ≤ x43 → x43 ≤ (18446744073709551615 : Int) →
∀ x44 : Int, x44 = (Cv.int (Env.get (wadd_sem.out [(.i x38), (.i x39), (.i (0 : Int)), (.i (1 : Int))]) 1)) → (0 : Int) ≤ x44 → x44 ≤ (18446744073709551615 : Int) →
(wroot_sem.pre [(.i x38), (.i x39)]) ∧ (
∀ x46 : Int, x46 = (Cv.int (Env.get (wroot_sem.out [(.i x38), (.i x39)]) 0)) → (0 : Int) ≤ x46 → x46 ≤ (18446744073709551615 : Int) →
∀ x47 : Int, x47 = (IntKind.i64.wrap x46) →
(wup_sem.pre [(.i x43), (.i x44)]) ∧ (
∀ x48 : Int, x48 = (Cv.int (Env.get (wup_sem.out [(.i x43), (.i x44)]) 0)) → (0 : Int) ≤ x48 → x48 ≤ (18446744073709551615 : Int) →
∀ x49 : Int, x49 = (Cv.int (Env.get (wup_sem.out [(.i x43), (.i x44)]) 1)) → (0 : Int) ≤ x49 → x49 ≤ (18446744073709551615 : Int) →
∀ x50 : Int, x50 = (IntKind.i64.wrap x49) →
R (Value.tuple [(Value.agg [(Value.int .i64 x47), (Value.int .i64 x50)].toArray), (Value.int .i64 (0 : Int))].toArray))))) ∧ ((!((Cmp.den .eq x40 (0 : Int)) && (Cmp.den .eq x41 (0 : Int)))) = false → (wroot_sem.pre [(.i x38), (.i x39)]) ∧ (
∀ x43 : Int, x43 = (Cv.int (Env.get (wroot_sem.out [(.i x38), (.i x39)]) 0)) → (0 : Int) ≤ x43 → x43 ≤ (18446744073709551615 : Int) →
∀ x44 : Int, x44 = (IntKind.i64.wrap x43) →
(wup_sem.pre [(.i x38), (.i x39)]) ∧ (
∀ x45 : Int, x45 = (Cv.int (Env.get (wup_sem.out [(.i x38), (.i x39)]) 0)) → (0 : Int) ≤ x45 → x45 ≤ (18446744073709551615 : Int) →
∀ x46 : Int, x46 = (Cv.int (Env.get (wup_sem.out [(.i x38), (.i x39)]) 1)) → (0 : Int) ≤ x46 → x46 ≤ (18446744073709551615 : Int) →
∀ x47 : Int, x47 = (IntKind.i64.wrap x46) →
R (Value.tuple [(Value.agg [(Value.int .i64 x44), (Value.int .i64 x47)].toArray), (Value.int .i64 (0 : Int))].toArray)))))))))))))))))) ∧ ((Cmp.den .le (1 : Int) x8) = false → R (Value.tuple [(Value.agg [(Value.int .i64 (0 : Int)), (Value.int .i64 (0 : Int))].toArray), (Value.int .i64 (3 : Int))].toArray)))) ∧ ((Cmp.den .le x7 (1000000 : Int)) = false → R (Value.tuple [(Value.agg [(Value.int .i64 (0 : Int)), (Value.int .i64 (0 : Int))].toArray), (Value.int .i64 (1 : Int))].toArray))) ∧ ((Cmp.den .le (-1000000 : Int) x6) = false → R (Value.tuple [(Value.agg [(Value.int .i64 (0 : Int)), (Value.int .i64 (0 : Int))].toArray), (Value.int .i64 (1 : Int))].toArray))) ∧ ((Cv.bool (Env.get (sright_sem.out [(.i x0), (.i x1), (.i x2), (.i x3), (.i x4), (.i x5)]) 0)) = false → R (Value.tuple [(Value.agg [(Value.int .i64 (0 : Int)), (Value.int .i64 (0 : Int))].toArray), (Value.int .i64 (1 : Int))].toArray)))) := by kernel_rfl

def app_sem : SpecSem := { pre := fun cs => match cs with | [.i n, .i s, .i h, .i l, .i mn, .i mx, .i a, .i b, .i k] => IsI n ∧ IsI s ∧ IsU h ∧ IsU l ∧ IsI mn ∧ IsI mx ∧ IsI a ∧ IsI b ∧ IsI k | _ => False, out := fun cs => match cs with | [.i n, .i s, .i h, .i l, .i mn, .i mx, .i a, .i b, .i k] => [.i (if abOK n s h l mn mx a b k then rtLo (ppA n a b k) ((n * val h l - s * s) * 36) else 0), .i (if abOK n s h l mn mx a b k then rtHi (ppA n a b k) ((n * val h l - s * s) * 36) else 0), .i (abE n s h l mn mx a b k)] | _ => [] }
set_option maxRecDepth 10000 in
set_option maxHeartbeats 16000000 in
theorem app_ok : SpecOK Tryz.prog 20 app_sp app_sem := by
  refine spec_of_tree app_cxok Tryz.func20 (by kernel_rfl) (by kernel_rfl) app_walk rfl ?_
  intro cs hpre
  match cs, hpre with
  | [.i n, .i s, .i h, .i l, .i mn, .i mx, .i a, .i b, .i k], ⟨j_n, j_s, j_h, j_l, j_mn, j_mx, j_a, j_b, j_k⟩ =>
    have h_n := j_n
    unfold IsI at h_n
    have h_s := j_s
    unfold IsI at h_s
    have h_h := j_h
    unfold IsU at h_h
    have h_l := j_l
    unfold IsU at h_l
    have h_mn := j_mn
    unfold IsI at h_mn
    have h_mx := j_mx
    unfold IsI at h_mx
    have h_a := j_a
    unfold IsI at h_a
    have h_b := j_b
    unfold IsI at h_b
    have h_k := j_k
    unfold IsI at h_k
    refine ⟨rfl, IvsB.ok (by simp only [app_ivs, IvsB, Cv.int, and_true] <;> omega), ?_, ?_⟩
    · simp only [app_sem, app_sp, Fits, and_true]
      have he := abE_rng n s h l mn mx a b k
      by_cases ho : abOK n s h l mn mx a b k
      · obtain ⟨hA, hD⟩ := ab_num j_h j_l ho
        have := rt_rng (A := ppA n a b k) (D := (n * val h l - s * s) * 36) ⟨hA.1, by omega⟩ (by omega)
        simp only [ho, if_true, if_false, true_and, and_true, false_and, and_false, true_or, or_true, false_or, or_false, true_iff, iff_true, false_iff, iff_false, not_true_eq_false, not_false_eq_true, true_implies, false_implies, implies_true, forall_const, decide_true, decide_false, reduceCtorEq]
        omega
      · simp only [ho, if_true, if_false, true_and, and_true, false_and, and_false, true_or, or_true, false_or, or_false, true_iff, iff_true, false_iff, iff_false, not_true_eq_false, not_false_eq_true, true_implies, false_implies, implies_true, forall_const, decide_true, decide_false, reduceCtorEq]
        omega
    · rw [app_den]
      simp only [app_sem, app_sp, app_den, times_sem, wadd_sem, wdiv_sem, wroot_sem, wup_sem, sright_sem, sspread_sem, Tree.den, LE.den, Cv.list, placeA, List.getElem?_cons_zero, List.getElem?_cons_succ, IE.den, BE.den, At.den, CA.den, Env.get, Cv.int, Cv.bool, List.cons_append, List.nil_append, List.map_cons, List.map_nil, bindRes, bindEq, Fits, SV.den, denL, place, placeL, eq_t, eq_f, lt_t, lt_f, le_t, le_f, beq_iff_eq, beq_eq_false_iff_ne, ne_eq, reduceCtorEq, b_dec, decide_eq_true_eq, decide_eq_false_iff_not, Bool.not_eq_false', Bool.or_eq_true, Bool.or_eq_false_iff, Bool.and_eq_false_iff, true_iff, false_iff, Bool.false_eq_true, Bool.not_eq_true', Bool.and_eq_true, Bool.not_true, Bool.not_false, List.cons.injEq, Cv.i.injEq, Cv.b.injEq, and_true, true_and, agg_inj, tup_inj, Value.int.injEq, Value.bool.injEq]
      by_cases c1 : stOK n s h l mn mx
      · by_cases c2 : -1000000 ≤ a ∧ b ≤ 1000000 ∧ a < b
        · obtain ⟨c2a, c2b, c2c⟩ := c2
          by_cases c3 : 1 ≤ k ∧ k ≤ 1000
          · obtain ⟨c3a, c3b⟩ := c3
            by_cases c4 : 2 ≤ n
            · by_cases c5 : n ≤ 1000
              · obtain ⟨r1, r2, r3, r4, r5, r6⟩ := st_rng j_h j_l c1
                obtain ⟨p1, p2, p3, p4, p5⟩ := ppA_rng (n := n) ⟨c2a, c2b, c2c⟩ ⟨c3a, c3b⟩ ⟨c4, c5⟩
                have sp0 := ab_sp j_h j_l c1 c5
                have q2 : (1000 < k) = False := eq_false (by omega)
                have q3 : (k < 1) = False := eq_false (by omega)
                have q4 : (n < 2) = False := eq_false (by omega)
                have q5 : (1000 < n) = False := eq_false (by omega)
                have q6 : (b ≤ a) = False := eq_false (by omega)
                have q7 : (a < -1000000) = False := eq_false (by omega)
                have q8 : (1000000 < b) = False := eq_false (by omega)
                have q9 : (n < 1) = False := eq_false (by omega)
                have q10 : (n = 0) = False := eq_false (by omega)
                have w1 : IntKind.u64.wrap (b - a) = b - a := wu64 (by omega) (by omega)
                have u0 : IsU 0 := ⟨by omega, by omega⟩
                have u1 : IsU 1 := ⟨by omega, by omega⟩
                have u2 : IsU 36 := ⟨by omega, by omega⟩
                have u3 : IsU (b - a) := ⟨by omega, by omega⟩
                have u4 : IsU n := ⟨by omega, by omega⟩
                have u5 : IsU (n - 1) := ⟨by omega, by omega⟩
                have u6 : IsU k := ⟨by omega, by omega⟩
                have ub : ∀ x : Int, IsU (x % 18446744073709551616) := fun x => ⟨by omega, by omega⟩
                have u7 : IsU ((n * val h l - s * s) / 18446744073709551616) := ⟨by omega, by omega⟩
                have e1 := vq2 (x := b - a) (by omega) (by omega)
                have e2 := vq2 p1.1 (by omega)
                have e3 := vq2 p2.1 (by omega)
                have e4 := vq2 p3.1 (by omega)
                have e5 := vq2 p4.1 (by omega)
                have e6 := vq (n * val h l - s * s)
                have eA : (b - a) * (b - a) * n * (n - 1) * k * k = ppA n a b k := rfl
                by_cases hS : n * val h l - s * s = 0
                · have hno : ¬ abOK n s h l mn mx a b k := fun q => q.2.2.2.2 hS
                  have z1 : val ((0 : Int) / 18446744073709551616 % 18446744073709551616) ((0 : Int) % 18446744073709551616) = 0 := by decide
                  have z2 : val (0 : Int) 0 = 0 := by decide
                  have z3 : (0 : Int) / 18446744073709551616 = 0 := by decide
                  have z4 : (0 : Int) % 18446744073709551616 = 0 := by decide
                  have z5 : ((4 : Int) = 0) = False := by simp
                  have ud := fun x y z w => (divQR_rng (a := x) (b := y) (c := z) (d := w))
                  simp only [hS, hno, c1, c2a, c2b, c2c, c3a, c3b, c4, c5, q2, q3, q4, q5, q6, q7, q8, q9, q10, w1, u0, u1, u2, u3, u4, u5, u6, ub, val0, Int.one_mul, Int.zero_mul, e1, e2, e3, e4, e5, eA, abE, z2, z3, z4, z5, j_n, j_s, j_h, j_l, j_mn, j_mx, forall_eq, eq_self, f00, if_true, if_false, true_and, and_true, false_and, and_false, true_or, or_true, false_or, or_false, true_iff, iff_true, false_iff, iff_false, not_true_eq_false, not_false_eq_true, true_implies, false_implies, implies_true, forall_const, decide_true, decide_false, reduceCtorEq]
                · have ho : abOK n s h l mn mx a b k := ⟨c1, ⟨c2a, c2b, c2c⟩, ⟨c3a, c3b⟩, ⟨c4, c5⟩, hS⟩
                  obtain ⟨⟨t1, t2⟩, t3, ⟨t4, t5⟩, t6, t7, t8, t9, t10⟩ := rooted (A := ppA n a b k) (D := (n * val h l - s * s) * 36) ⟨p5.1, by omega⟩ (by omega)
                  have hD : ((n * val h l - s * s) * 36 = 0) = False := eq_false (by omega)
                  by_cases hr : ppA n a b k % ((n * val h l - s * s) * 36) = 0
                  · have t7 := t7 hr
                    have z3 : (0 : Int) / 18446744073709551616 = 0 := by decide
                    have z4 : (0 : Int) % 18446744073709551616 = 0 := by decide
                    simp only [hS, ho, hD, hr, c1, c2a, c2b, c2c, c3a, c3b, c4, c5, q2, q3, q4, q5, q6, q7, q8, q9, q10, w1, u0, u1, u2, u3, u4, u5, u6, u7, ub, val0, Int.one_mul, e1, e2, e3, e4, e5, e6, eA, abE, t1, t2, t3, t4, t5, t6, t7, t9, t10, z3, z4, j_n, j_s, j_h, j_l, j_mn, j_mx, forall_eq, eq_self, f00, if_true, if_false, true_and, and_true, false_and, and_false, true_or, or_true, false_or, or_false, true_iff, iff_true, false_iff, iff_false, not_true_eq_false, not_false_eq_true, true_implies, false_implies, implies_true, forall_const, decide_true, decide_false, reduceCtorEq]
                  · have t8 := t8 hr
                    have z1 : (¬ ppA n a b k % ((n * val h l - s * s) * 36) / 18446744073709551616 = 0 ∨ ¬ ppA n a b k % ((n * val h l - s * s) * 36) % 18446744073709551616 = 0) = True := eq_true (by omega)
                    have z2 : (ppA n a b k % ((n * val h l - s * s) * 36) / 18446744073709551616 = 0 ∧ ppA n a b k % ((n * val h l - s * s) * 36) % 18446744073709551616 = 0) = False := eq_false (by omega)
                    simp only [hS, ho, hD, z1, z2, c1, c2a, c2b, c2c, c3a, c3b, c4, c5, q2, q3, q4, q5, q6, q7, q8, q9, q10, w1, u0, u1, u2, u3, u4, u5, u6, u7, ub, val0, Int.one_mul, e1, e2, e3, e4, e5, e6, eA, abE, t1, t2, t3, t4, t5, t6, t8, t9, t10, j_n, j_s, j_h, j_l, j_mn, j_mx, forall_eq, eq_self, f00, if_true, if_false, true_and, and_true, false_and, and_false, true_or, or_true, false_or, or_false, true_iff, iff_true, false_iff, iff_false, not_true_eq_false, not_false_eq_true, true_implies, false_implies, implies_true, forall_const, decide_true, decide_false, reduceCtorEq]
              · have q5 : 1000 < n := by omega
                have q2 : (1000 < k) = False := eq_false (by omega)
                have q4 : (n < 2) = False := eq_false (by omega)
                have q6 : (b ≤ a) = False := eq_false (by omega)
                have hno : ¬ abOK n s h l mn mx a b k := fun q => c5 q.2.2.2.1.2
                simp only [hno, abE, c1, c2a, c2b, c2c, c3a, c3b, c4, c5, q2, q4, q5, q6, j_n, j_s, j_h, j_l, j_mn, j_mx, forall_eq, eq_self, f00, if_true, if_false, true_and, and_true, false_and, and_false, true_or, or_true, false_or, or_false, true_iff, iff_true, false_iff, iff_false, not_true_eq_false, not_false_eq_true, true_implies, false_implies, implies_true, forall_const, decide_true, decide_false, reduceCtorEq]
                intros
                omega
            · have q4 : n < 2 := by omega
              have q2 : (1000 < k) = False := eq_false (by omega)
              have q6 : (b ≤ a) = False := eq_false (by omega)
              have hno : ¬ abOK n s h l mn mx a b k := fun q => c4 q.2.2.2.1.1
              simp only [hno, abE, c1, c2a, c2b, c2c, c3a, c3b, c4, q2, q4, q6, j_n, j_s, j_h, j_l, j_mn, j_mx, forall_eq, eq_self, f00, if_true, if_false, true_and, and_true, false_and, and_false, true_or, or_true, false_or, or_false, true_iff, iff_true, false_iff, iff_false, not_true_eq_false, not_false_eq_true, true_implies, false_implies, implies_true, forall_const, decide_true, decide_false, reduceCtorEq]
              intros
              omega
          · have hno : ¬ abOK n s h l mn mx a b k := fun q => c3 q.2.2.1
            have q6 : (b ≤ a) = False := eq_false (by omega)
            by_cases c3a : 1 ≤ k
            · have q2 : 1000 < k := by omega
              have q3 : (k ≤ 1000) = False := eq_false (by omega)
              simp only [hno, abE, c1, c2a, c2b, c2c, c3, c3a, q2, q3, q6, j_n, j_s, j_h, j_l, j_mn, j_mx, forall_eq, eq_self, f00, if_true, if_false, true_and, and_true, false_and, and_false, true_or, or_true, false_or, or_false, true_iff, iff_true, false_iff, iff_false, not_true_eq_false, not_false_eq_true, true_implies, false_implies, implies_true, forall_const, decide_true, decide_false, reduceCtorEq]
              intros
              omega
            · have q2 : k < 1 := by omega
              simp only [hno, abE, c1, c2a, c2b, c2c, c3, c3a, q2, q6, j_n, j_s, j_h, j_l, j_mn, j_mx, forall_eq, eq_self, f00, if_true, if_false, true_and, and_true, false_and, and_false, true_or, or_true, false_or, or_false, true_iff, iff_true, false_iff, iff_false, not_true_eq_false, not_false_eq_true, true_implies, false_implies, implies_true, forall_const, decide_true, decide_false, reduceCtorEq]
              omega
        · have hno : ¬ abOK n s h l mn mx a b k := fun q => c2 q.2.1
          by_cases c2a : -1000000 ≤ a
          · by_cases c2b : b ≤ 1000000
            · have q6 : b ≤ a := by omega
              have q7 : (a < b) = False := eq_false (by omega)
              simp only [hno, abE, c1, c2, c2a, c2b, q6, q7, j_n, j_s, j_h, j_l, j_mn, j_mx, forall_eq, eq_self, f00, if_true, if_false, true_and, and_true, false_and, and_false, true_or, or_true, false_or, or_false, true_iff, iff_true, false_iff, iff_false, not_true_eq_false, not_false_eq_true, true_implies, false_implies, implies_true, forall_const, decide_true, decide_false, reduceCtorEq]
            · have q6 : 1000000 < b := by omega
              simp only [hno, abE, c1, c2, c2a, c2b, q6, j_n, j_s, j_h, j_l, j_mn, j_mx, forall_eq, eq_self, f00, if_true, if_false, true_and, and_true, false_and, and_false, true_or, or_true, false_or, or_false, true_iff, iff_true, false_iff, iff_false, not_true_eq_false, not_false_eq_true, true_implies, false_implies, implies_true, forall_const, decide_true, decide_false, reduceCtorEq]
          · have q6 : a < -1000000 := by omega
            simp only [hno, abE, c1, c2, c2a, q6, j_n, j_s, j_h, j_l, j_mn, j_mx, forall_eq, eq_self, f00, if_true, if_false, true_and, and_true, false_and, and_false, true_or, or_true, false_or, or_false, true_iff, iff_true, false_iff, iff_false, not_true_eq_false, not_false_eq_true, true_implies, false_implies, implies_true, forall_const, decide_true, decide_false, reduceCtorEq]
      · have hno : ¬ abOK n s h l mn mx a b k := fun q => c1 q.1
        simp only [hno, abE, c1, j_n, j_s, j_h, j_l, j_mn, j_mx, forall_eq, eq_self, f00, if_true, if_false, true_and, and_true, false_and, and_false, true_or, or_true, false_or, or_false, true_iff, iff_true, false_iff, iff_false, not_true_eq_false, not_false_eq_true, true_implies, false_implies, implies_true, forall_const, decide_true, decide_false, reduceCtorEq]
end Go.Proofs.YtglpelnaeipenaaGreat.X
