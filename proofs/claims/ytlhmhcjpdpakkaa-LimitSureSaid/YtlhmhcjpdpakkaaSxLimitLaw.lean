/-
  LimitDraws tells true, for every input.
-/
import Derived.Test.YtlhmhcjpdpakkaaSxLimit
namespace Go.Proofs.Ytlhmhcjpdpakkaa.X
open Go Go.SX Go.RowKit
set_option linter.unusedVariables false
set_option linter.unusedSimpArgs false




theorem dn1 (x : Int) : dnZ x 1 = x := by rw [dnZ_eq]; unfold absZ; rw [if_neg (by omega), if_neg (by omega), Int.ediv_one]
theorem up1 (x : Int) : upD x 1 = x := by rw [upD_eq]; unfold absZ; rw [if_neg (by omega), if_neg (by omega), Int.ediv_one, Int.neg_neg]
def lal_sp : SpecSh := { args := [], res := (.bool .f), sh := [.b] }
set_option maxRecDepth 100000 in
def lal_tree : Tree :=
.call 54 [.i (some ((-9223372036854775808), 9223372036854775807)), .i (some ((-9223372036854775808), 9223372036854775807)), .i (some ((-9223372036854775808), 9223372036854775807)), .i (some ((-9223372036854775808), 9223372036854775807)), .i (some ((-9223372036854775808), 9223372036854775807)), .i (some ((-9223372036854775808), 9223372036854775807)), .i (some ((-9223372036854775808), 9223372036854775807)), .i (some ((-9223372036854775808), 9223372036854775807)), .i (some ((-9223372036854775808), 9223372036854775807))] [.i (.z 5), .i (.z 1), .i (.z 7), .i (.z 0), .i (.z 4), .i (.z 10)] <|
.ite (.not (.cmp .le (.v 0) (.v 1))) (.ite (.cmp .eq (.v 8) (.z 0)) (.ret (.bool .f)) <|
.ret (.bool .f)) <|
.ite (.not (.cmp .le (.v 2) (.v 3))) (.ite (.cmp .eq (.v 8) (.z 0)) (.ret (.bool .f)) <|
.ret (.bool .f)) <|
.ite (.not (.cmp .le (.v 4) (.v 5))) (.ite (.cmp .eq (.v 8) (.z 0)) (.ret (.bool .f)) <|
.ret (.bool .f)) <|
.ite (.not (.cmp .le (.v 6) (.v 7))) (.ite (.cmp .eq (.v 8) (.z 0)) (.ret (.bool .f)) <|
.ret (.bool .f)) <|
.ite (.or (.and (.cmp .lt (.v 5) (.v 6)) (.cmp .lt (.v 5) (.v 6))) (.and (.not (.cmp .lt (.v 5) (.v 6))) (.cmp .lt (.v 7) (.v 0)))) (.ite (.cmp .eq (.v 8) (.z 0)) (.ite (.cmp .eq (.v 4) (.z 110)) (.ite (.cmp .eq (.v 7) (.z 120)) (.ret (.bool (.cmp .eq (.z 1) (.z 1)))) <|
.ret (.bool .f)) <|
.ret (.bool .f)) <|
.ret (.bool .f)) <|
.ite (.or (.and (.cmp .lt (.v 4) (.v 7)) (.cmp .lt (.v 4) (.v 7))) (.and (.not (.cmp .lt (.v 4) (.v 7))) (.cmp .lt (.v 6) (.v 1)))) (.ite (.cmp .eq (.v 8) (.z 0)) (.ite (.cmp .eq (.v 4) (.z 110)) (.ite (.cmp .eq (.v 7) (.z 120)) (.ret (.bool (.cmp .eq (.z 2) (.z 1)))) <|
.ret (.bool .f)) <|
.ret (.bool .f)) <|
.ret (.bool .f)) <|
.ite (.cmp .eq (.v 8) (.z 0)) (.ite (.cmp .eq (.v 4) (.z 110)) (.ite (.cmp .eq (.v 7) (.z 120)) (.ret (.bool (.cmp .eq (.z 0) (.z 1)))) <|
.ret (.bool .f)) <|
.ret (.bool .f)) <|
.ret (.bool .f)
noncomputable def lal_cx : Ctx := { tys := tys, fns := fns, sps := [(54, ldraw_sp)], anns := [], trys := [] }
def lal_ivs : List (Option (Int × Int)) := []
set_option maxRecDepth 100000 in
theorem lal_walk : runFn lal_cx 3000 57 Try.f57 lal_sp.args lal_ivs = lal_tree := by kernel_rfl
noncomputable def lal_M : Nat → SpecSem
  | 54 => ldraw_sem
  | _ => noSem
theorem lal_M54 : lal_M 54 = ldraw_sem := rfl
theorem lal_cxok : CxOK Try.prog lal_cx lal_M := ⟨tysOK, fnsOK, spCons ldraw_ok <| fun _ _ h => spNil h, mixedOK, fun _ _ h => trNil h⟩
set_option maxRecDepth 100000 in
set_option maxHeartbeats 8000000 in
theorem lal_den (R RP : Value → Prop) (F : Ex → St → Js → Env → Prop) (J : Js)  : Tree.den lal_M R RP F lal_tree J [] = (
  (ldraw_sem.pre [(.i (5 : Int)), (.i (1 : Int)), (.i (7 : Int)), (.i (0 : Int)), (.i (4 : Int)), (.i (10 : Int))]) ∧ (
∀ x0 : Int, x0 = (Cv.int (Env.get (ldraw_sem.out [(.i (5 : Int)), (.i (1 : Int)), (.i (7 : Int)), (.i (0 : Int)), (.i (4 : Int)), (.i (10 : Int))]) 0)) → (-9223372036854775808 : Int) ≤ x0 → x0 ≤ (9223372036854775807 : Int) →
∀ x1 : Int, x1 = (Cv.int (Env.get (ldraw_sem.out [(.i (5 : Int)), (.i (1 : Int)), (.i (7 : Int)), (.i (0 : Int)), (.i (4 : Int)), (.i (10 : Int))]) 1)) → (-9223372036854775808 : Int) ≤ x1 → x1 ≤ (9223372036854775807 : Int) →
∀ x2 : Int, x2 = (Cv.int (Env.get (ldraw_sem.out [(.i (5 : Int)), (.i (1 : Int)), (.i (7 : Int)), (.i (0 : Int)), (.i (4 : Int)), (.i (10 : Int))]) 2)) → (-9223372036854775808 : Int) ≤ x2 → x2 ≤ (9223372036854775807 : Int) →
∀ x3 : Int, x3 = (Cv.int (Env.get (ldraw_sem.out [(.i (5 : Int)), (.i (1 : Int)), (.i (7 : Int)), (.i (0 : Int)), (.i (4 : Int)), (.i (10 : Int))]) 3)) → (-9223372036854775808 : Int) ≤ x3 → x3 ≤ (9223372036854775807 : Int) →
∀ x4 : Int, x4 = (Cv.int (Env.get (ldraw_sem.out [(.i (5 : Int)), (.i (1 : Int)), (.i (7 : Int)), (.i (0 : Int)), (.i (4 : Int)), (.i (10 : Int))]) 4)) → (-9223372036854775808 : Int) ≤ x4 → x4 ≤ (9223372036854775807 : Int) →
∀ x5 : Int, x5 = (Cv.int (Env.get (ldraw_sem.out [(.i (5 : Int)), (.i (1 : Int)), (.i (7 : Int)), (.i (0 : Int)), (.i (4 : Int)), (.i (10 : Int))]) 5)) → (-9223372036854775808 : Int) ≤ x5 → x5 ≤ (9223372036854775807 : Int) →
∀ x6 : Int, x6 = (Cv.int (Env.get (ldraw_sem.out [(.i (5 : Int)), (.i (1 : Int)), (.i (7 : Int)), (.i (0 : Int)), (.i (4 : Int)), (.i (10 : Int))]) 6)) → (-9223372036854775808 : Int) ≤ x6 → x6 ≤ (9223372036854775807 : Int) →
∀ x7 : Int, x7 = (Cv.int (Env.get (ldraw_sem.out [(.i (5 : Int)), (.i (1 : Int)), (.i (7 : Int)), (.i (0 : Int)), (.i (4 : Int)), (.i (10 : Int))]) 7)) → (-9223372036854775808 : Int) ≤ x7 → x7 ≤ (9223372036854775807 : Int) →
∀ x8 : Int, x8 = (Cv.int (Env.get (ldraw_sem.out [(.i (5 : Int)), (.i (1 : Int)), (.i (7 : Int)), (.i (0 : Int)), (.i (4 : Int)), (.i (10 : Int))]) 8)) → (-9223372036854775808 : Int) ≤ x8 → x8 ≤ (9223372036854775807 : Int) →
((!(Cmp.den .le x0 x1)) = true → ((Cmp.den .eq x8 (0 : Int)) = true → R (Value.bool false)) ∧ ((Cmp.den .eq x8 (0 : Int)) = false → R (Value.bool false))) ∧ ((!(Cmp.den .le x0 x1)) = false → ((!(Cmp.den .le x2 x3)) = true → ((Cmp.den .eq x8 (0 : Int)) = true → R (Value.bool false)) ∧ ((Cmp.den .eq x8 (0 : Int)) = false → R (Value.bool false))) ∧ ((!(Cmp.den .le x2 x3)) = false → ((!(Cmp.den .le x4 x5)) = true → ((Cmp.den .eq x8 (0 : Int)) = true → R (Value.bool false)) ∧ ((Cmp.den .eq x8 (0 : Int)) = false → R (Value.bool false))) ∧ ((!(Cmp.den .le x4 x5)) = false → ((!(Cmp.den .le x6 x7)) = true → ((Cmp.den .eq x8 (0 : Int)) = true → R (Value.bool false)) ∧ ((Cmp.den .eq x8 (0 : Int)) = false → R (Value.bool false))) ∧ ((!(Cmp.den .le x6 x7)) = false → ((((Cmp.den .lt x5 x6) && (Cmp.den .lt x5 x6)) || ((!(Cmp.den .lt x5 x6)) && (Cmp.den .lt x7 x0))) = true → ((Cmp.den .eq x8 (0 : Int)) = true → ((Cmp.den .eq x4 (110 : Int)) = true → ((Cmp.den .eq x7 (120 : Int)) = true → R (Value.bool (Cmp.den .eq (1 : Int) (1 : Int)))) ∧ ((Cmp.den .eq x7 (120 : Int)) = false → R (Value.bool false))) ∧ ((Cmp.den .eq x4 (110 : Int)) = false → R (Value.bool false))) ∧ ((Cmp.den .eq x8 (0 : Int)) = false → R (Value.bool false))) ∧ ((((Cmp.den .lt x5 x6) && (Cmp.den .lt x5 x6)) || ((!(Cmp.den .lt x5 x6)) && (Cmp.den .lt x7 x0))) = false → ((((Cmp.den .lt x4 x7) && (Cmp.den .lt x4 x7)) || ((!(Cmp.den .lt x4 x7)) && (Cmp.den .lt x6 x1))) = true → ((Cmp.den .eq x8 (0 : Int)) = true → ((Cmp.den .eq x4 (110 : Int)) = true → ((Cmp.den .eq x7 (120 : Int)) = true → R (Value.bool (Cmp.den .eq (2 : Int) (1 : Int)))) ∧ ((Cmp.den .eq x7 (120 : Int)) = false → R (Value.bool false))) ∧ ((Cmp.den .eq x4 (110 : Int)) = false → R (Value.bool false))) ∧ ((Cmp.den .eq x8 (0 : Int)) = false → R (Value.bool false))) ∧ ((((Cmp.den .lt x4 x7) && (Cmp.den .lt x4 x7)) || ((!(Cmp.den .lt x4 x7)) && (Cmp.den .lt x6 x1))) = false → ((Cmp.den .eq x8 (0 : Int)) = true → ((Cmp.den .eq x4 (110 : Int)) = true → ((Cmp.den .eq x7 (120 : Int)) = true → R (Value.bool (Cmp.den .eq (0 : Int) (1 : Int)))) ∧ ((Cmp.den .eq x7 (120 : Int)) = false → R (Value.bool false))) ∧ ((Cmp.den .eq x4 (110 : Int)) = false → R (Value.bool false))) ∧ ((Cmp.den .eq x8 (0 : Int)) = false → R (Value.bool false)))))))))) := by kernel_rfl

def lal_sem : SpecSem := { pre := fun cs => match cs with | [] => True | _ => False, out := fun cs => match cs with | [] => [.b true] | _ => [] }
set_option maxRecDepth 10000 in
set_option maxHeartbeats 16000000 in
theorem lal_ok : SpecOK Try.prog 57 lal_sp lal_sem := by
  refine spec_of_tree lal_cxok Try.func57 (by kernel_rfl) (by kernel_rfl) lal_walk rfl ?_
  intro cs hpre
  match cs, hpre with
  | [], _ =>
    refine ⟨rfl, IvsB.ok (by simp only [lal_ivs, IvsB, Cv.int, and_true] <;> omega), ?_, ?_⟩
    · simp only [lal_sem, lal_sp, Fits]
    · rw [lal_den]
      have hd : drOK 5 1 7 0 10 := by unfold drOK ptOK; omega
      have hp : ptOK 5 1 7 0 := hd.1
      have eA : allZ 0 4 10 = 3600 := by unfold allZ val; omega
      have r60 : rootZ 3600 = 60 := rootZ_uniq (by omega) (by omega) (by omega)
      have u60 : upZ 3600 = 60 := by unfold upZ; rw [r60]; rfl
      simp only [lal_sem, lal_sp, hd, hp, eA, r60, u60, dn1, up1, IsI, IsU, forall_eq, Int.reduceMul, Int.reduceAdd, Int.reduceSub, Int.reduceLE, Int.reduceLT, Int.reduceNeg, if_true, if_false, true_and, and_true, false_and, and_false, true_or, or_true, false_or, or_false, true_iff, iff_true, false_iff, iff_false, not_true_eq_false, not_false_eq_true, true_implies, false_implies, implies_true, forall_const, decide_true, decide_false, reduceCtorEq, lal_den, ldraw_sem, Tree.den, LE.den, Cv.list, placeA, List.getElem?_cons_zero, List.getElem?_cons_succ, IE.den, BE.den, At.den, CA.den, Env.get, Cv.int, Cv.bool, List.cons_append, List.nil_append, List.map_cons, List.map_nil, bindRes, bindEq, Fits, SV.den, denL, place, placeL, eq_t, eq_f, lt_t, lt_f, le_t, le_f, beq_iff_eq, beq_eq_false_iff_ne, ne_eq, reduceCtorEq, b_dec, decide_eq_true_eq, decide_eq_false_iff_not, Bool.not_eq_false', Bool.or_eq_true, Bool.or_eq_false_iff, Bool.and_eq_false_iff, true_iff, false_iff, Bool.false_eq_true, Bool.not_eq_true', Bool.and_eq_true, Bool.not_true, Bool.not_false, List.cons.injEq, Cv.i.injEq, Cv.b.injEq, and_true, true_and, agg_inj, tup_inj, Value.int.injEq, Value.bool.injEq] <;> (try ((repeat' (first | intro _ | refine And.intro ?_ ?_ | exact trivial)) <;> omega))

def lldraws_sp : SpecSh := { args := [(.agg [(.int .i64 (.z 0)), (.int .i64 (.z 0)), (.int .i64 (.z 0)), (.int .u64 (.z 0)), (.int .u64 (.z 0))]), (.int .i64 (.z 0))], res := (.bool .f), sh := [.b] }
set_option maxRecDepth 100000 in
def lldraws_tree : Tree :=
.call 54 [.i (some ((-9223372036854775808), 9223372036854775807)), .i (some ((-9223372036854775808), 9223372036854775807)), .i (some ((-9223372036854775808), 9223372036854775807)), .i (some ((-9223372036854775808), 9223372036854775807)), .i (some ((-9223372036854775808), 9223372036854775807)), .i (some ((-9223372036854775808), 9223372036854775807)), .i (some ((-9223372036854775808), 9223372036854775807)), .i (some ((-9223372036854775808), 9223372036854775807)), .i (some ((-9223372036854775808), 9223372036854775807))] [.i (.v 0), .i (.v 1), .i (.v 2), .i (.v 3), .i (.v 4), .i (.v 5)] <|
.call 55 [.b] [.i (.v 0), .i (.v 1), .i (.v 2), .i (.v 3), .i (.v 4)] <|
.call 56 [.b] [.i (.v 0), .i (.v 1), .i (.v 2), .i (.v 3), .i (.v 4)] <|
.ite (.not (.eqv (.v 15) (.v 16))) (.ret (.bool .f)) <|
.call 57 [.b] [] <|
.ite (.not (.v 17)) (.ret (.bool .f)) <|
.call 56 [.b] [.i (.v 0), .i (.v 1), .i (.v 2), .i (.v 3), .i (.v 4)] <|
.ite (.not (.v 18)) (.ite (.cmp .eq (.v 14) (.z 1)) (.ret (.bool (.and (.cmp .eq (.v 6) (.z 0)) (.and (.cmp .eq (.v 7) (.z 0)) (.and (.cmp .eq (.v 8) (.z 0)) (.and (.cmp .eq (.v 9) (.z 0)) (.and (.cmp .eq (.v 10) (.z 0)) (.and (.cmp .eq (.v 11) (.z 0)) (.and (.cmp .eq (.v 12) (.z 0)) (.cmp .eq (.v 13) (.z 0))))))))))) <|
.ret (.bool .f)) <|
.ite (.cmp .le (.z 1) (.v 5)) (.ite (.not (.cmp .le (.v 5) (.z 1000))) (.ite (.cmp .eq (.v 14) (.z 3)) (.ret (.bool (.and (.cmp .eq (.v 6) (.z 0)) (.and (.cmp .eq (.v 7) (.z 0)) (.and (.cmp .eq (.v 8) (.z 0)) (.and (.cmp .eq (.v 9) (.z 0)) (.and (.cmp .eq (.v 10) (.z 0)) (.and (.cmp .eq (.v 11) (.z 0)) (.and (.cmp .eq (.v 12) (.z 0)) (.cmp .eq (.v 13) (.z 0))))))))))) <|
.ret (.bool .f)) <|
.ite (.cmp .eq (.v 14) (.z 0)) (.call 59 [.i (some ((-9223372036854775808), 9223372036854775807)), .i (some ((-9223372036854775808), 9223372036854775807)), .i (some ((-9223372036854775808), 9223372036854775807)), .i (some ((-9223372036854775808), 9223372036854775807)), .i (some ((-9223372036854775808), 9223372036854775807)), .i (some ((-9223372036854775808), 9223372036854775807)), .i (some ((-9223372036854775808), 9223372036854775807)), .i (some ((-9223372036854775808), 9223372036854775807))] [.i (.v 0), .i (.v 1), .i (.v 2), .i (.v 3), .i (.v 4), .i (.v 5)] <|
.ret (.bool (.and (.cmp .eq (.v 6) (.v 19)) (.and (.cmp .eq (.v 7) (.v 20)) (.and (.cmp .eq (.v 8) (.v 21)) (.and (.cmp .eq (.v 9) (.v 22)) (.and (.cmp .eq (.v 10) (.v 23)) (.and (.cmp .eq (.v 11) (.v 24)) (.and (.cmp .eq (.v 12) (.v 25)) (.cmp .eq (.v 13) (.v 26))))))))))) <|
.ret (.bool .f)) <|
.ite (.cmp .eq (.v 14) (.z 3)) (.ret (.bool (.and (.cmp .eq (.v 6) (.z 0)) (.and (.cmp .eq (.v 7) (.z 0)) (.and (.cmp .eq (.v 8) (.z 0)) (.and (.cmp .eq (.v 9) (.z 0)) (.and (.cmp .eq (.v 10) (.z 0)) (.and (.cmp .eq (.v 11) (.z 0)) (.and (.cmp .eq (.v 12) (.z 0)) (.cmp .eq (.v 13) (.z 0))))))))))) <|
.ret (.bool .f)
noncomputable def lldraws_cx : Ctx := { tys := tys, fns := fns, sps := [(54, ldraw_sp), (57, lal_sp), (55, lright_sp), (56, r17right_sp), (59, r17draw_sp)], anns := [], trys := [] }
def lldraws_ivs : List (Option (Int × Int)) := [some ((-9223372036854775808), 9223372036854775807), some ((-9223372036854775808), 9223372036854775807), some ((-9223372036854775808), 9223372036854775807), some (0, 18446744073709551615), some (0, 18446744073709551615), some ((-9223372036854775808), 9223372036854775807)]
set_option maxRecDepth 100000 in
theorem lldraws_walk : runFn lldraws_cx 3000 10 Try.f10 lldraws_sp.args lldraws_ivs = lldraws_tree := by kernel_rfl
noncomputable def lldraws_M : Nat → SpecSem
  | 54 => ldraw_sem
  | 57 => lal_sem
  | 55 => lright_sem
  | 56 => r17right_sem
  | 59 => r17draw_sem
  | _ => noSem
theorem lldraws_M54 : lldraws_M 54 = ldraw_sem := rfl
theorem lldraws_M57 : lldraws_M 57 = lal_sem := rfl
theorem lldraws_M55 : lldraws_M 55 = lright_sem := rfl
theorem lldraws_M56 : lldraws_M 56 = r17right_sem := rfl
theorem lldraws_M59 : lldraws_M 59 = r17draw_sem := rfl
theorem lldraws_cxok : CxOK Try.prog lldraws_cx lldraws_M := ⟨tysOK, fnsOK, spCons ldraw_ok <| spCons lal_ok <| spCons lright_ok <| spCons r17right_ok <| spCons r17draw_ok <| fun _ _ h => spNil h, mixedOK, fun _ _ h => trNil h⟩
set_option maxRecDepth 100000 in
set_option maxHeartbeats 8000000 in
theorem lldraws_den (R RP : Value → Prop) (F : Ex → St → Js → Env → Prop) (J : Js) (x0 : Int) (x1 : Int) (x2 : Int) (x3 : Int) (x4 : Int) (x5 : Int) : Tree.den lldraws_M R RP F lldraws_tree J [(.i x0), (.i x1), (.i x2), (.i x3), (.i x4), (.i x5)] = (
  (ldraw_sem.pre [(.i x0), (.i x1), (.i x2), (.i x3), (.i x4), (.i x5)]) ∧ (
∀ x6 : Int, x6 = (Cv.int (Env.get (ldraw_sem.out [(.i x0), (.i x1), (.i x2), (.i x3), (.i x4), (.i x5)]) 0)) → (-9223372036854775808 : Int) ≤ x6 → x6 ≤ (9223372036854775807 : Int) →
∀ x7 : Int, x7 = (Cv.int (Env.get (ldraw_sem.out [(.i x0), (.i x1), (.i x2), (.i x3), (.i x4), (.i x5)]) 1)) → (-9223372036854775808 : Int) ≤ x7 → x7 ≤ (9223372036854775807 : Int) →
∀ x8 : Int, x8 = (Cv.int (Env.get (ldraw_sem.out [(.i x0), (.i x1), (.i x2), (.i x3), (.i x4), (.i x5)]) 2)) → (-9223372036854775808 : Int) ≤ x8 → x8 ≤ (9223372036854775807 : Int) →
∀ x9 : Int, x9 = (Cv.int (Env.get (ldraw_sem.out [(.i x0), (.i x1), (.i x2), (.i x3), (.i x4), (.i x5)]) 3)) → (-9223372036854775808 : Int) ≤ x9 → x9 ≤ (9223372036854775807 : Int) →
∀ x10 : Int, x10 = (Cv.int (Env.get (ldraw_sem.out [(.i x0), (.i x1), (.i x2), (.i x3), (.i x4), (.i x5)]) 4)) → (-9223372036854775808 : Int) ≤ x10 → x10 ≤ (9223372036854775807 : Int) →
∀ x11 : Int, x11 = (Cv.int (Env.get (ldraw_sem.out [(.i x0), (.i x1), (.i x2), (.i x3), (.i x4), (.i x5)]) 5)) → (-9223372036854775808 : Int) ≤ x11 → x11 ≤ (9223372036854775807 : Int) →
∀ x12 : Int, x12 = (Cv.int (Env.get (ldraw_sem.out [(.i x0), (.i x1), (.i x2), (.i x3), (.i x4), (.i x5)]) 6)) → (-9223372036854775808 : Int) ≤ x12 → x12 ≤ (9223372036854775807 : Int) →
∀ x13 : Int, x13 = (Cv.int (Env.get (ldraw_sem.out [(.i x0), (.i x1), (.i x2), (.i x3), (.i x4), (.i x5)]) 7)) → (-9223372036854775808 : Int) ≤ x13 → x13 ≤ (9223372036854775807 : Int) →
∀ x14 : Int, x14 = (Cv.int (Env.get (ldraw_sem.out [(.i x0), (.i x1), (.i x2), (.i x3), (.i x4), (.i x5)]) 8)) → (-9223372036854775808 : Int) ≤ x14 → x14 ≤ (9223372036854775807 : Int) →
(lright_sem.pre [(.i x0), (.i x1), (.i x2), (.i x3), (.i x4)]) ∧ (
(r17right_sem.pre [(.i x0), (.i x1), (.i x2), (.i x3), (.i x4)]) ∧ (
((!((Cv.bool (Env.get (lright_sem.out [(.i x0), (.i x1), (.i x2), (.i x3), (.i x4)]) 0)) == (Cv.bool (Env.get (r17right_sem.out [(.i x0), (.i x1), (.i x2), (.i x3), (.i x4)]) 0)))) = true → R (Value.bool false)) ∧ ((!((Cv.bool (Env.get (lright_sem.out [(.i x0), (.i x1), (.i x2), (.i x3), (.i x4)]) 0)) == (Cv.bool (Env.get (r17right_sem.out [(.i x0), (.i x1), (.i x2), (.i x3), (.i x4)]) 0)))) = false → (lal_sem.pre []) ∧ (
((!(Cv.bool (Env.get (lal_sem.out []) 0))) = true → R (Value.bool false)) ∧ ((!(Cv.bool (Env.get (lal_sem.out []) 0))) = false → (r17right_sem.pre [(.i x0), (.i x1), (.i x2), (.i x3), (.i x4)]) ∧ (
((!(Cv.bool (Env.get (r17right_sem.out [(.i x0), (.i x1), (.i x2), (.i x3), (.i x4)]) 0))) = true → ((Cmp.den .eq x14 (1 : Int)) = true → R (Value.bool ((Cmp.den .eq x6 (0 : Int)) && ((Cmp.den .eq x7 (0 : Int)) && ((Cmp.den .eq x8 (0 : Int)) && ((Cmp.den .eq x9 (0 : Int)) && ((Cmp.den .eq x10 (0 : Int)) && ((Cmp.den .eq x11 (0 : Int)) && ((Cmp.den .eq x12 (0 : Int)) && (Cmp.den .eq x13 (0 : Int))))))))))) ∧ ((Cmp.den .eq x14 (1 : Int)) = false → R (Value.bool false))) ∧ ((!(Cv.bool (Env.get (r17right_sem.out [(.i x0), (.i x1), (.i x2), (.i x3), (.i x4)]) 0))) = false → ((Cmp.den .le (1 : Int) x5) = true → ((!(Cmp.den .le x5 (1000 : Int))) = true → ((Cmp.den .eq x14 (3 : Int)) = true → R (Value.bool ((Cmp.den .eq x6 (0 : Int)) && ((Cmp.den .eq x7 (0 : Int)) && ((Cmp.den .eq x8 (0 : Int)) && ((Cmp.den .eq x9 (0 : Int)) && ((Cmp.den .eq x10 (0 : Int)) && ((Cmp.den .eq x11 (0 : Int)) && ((Cmp.den .eq x12 (0 : Int)) && (Cmp.den .eq x13 (0 : Int))))))))))) ∧ ((Cmp.den .eq x14 (3 : Int)) = false → R (Value.bool false))) ∧ ((!(Cmp.den .le x5 (1000 : Int))) = false → ((Cmp.den .eq x14 (0 : Int)) = true → (r17draw_sem.pre [(.i x0), (.i x1), (.i x2), (.i x3), (.i x4), (.i x5)]) ∧ (
∀ x19 : Int, x19 = (Cv.int (Env.get (r17draw_sem.out [(.i x0), (.i x1), (.i x2), (.i x3), (.i x4), (.i x5)]) 0)) → (-9223372036854775808 : Int) ≤ x19 → x19 ≤ (9223372036854775807 : Int) →
∀ x20 : Int, x20 = (Cv.int (Env.get (r17draw_sem.out [(.i x0), (.i x1), (.i x2), (.i x3), (.i x4), (.i x5)]) 1)) → (-9223372036854775808 : Int) ≤ x20 → x20 ≤ (9223372036854775807 : Int) →
∀ x21 : Int, x21 = (Cv.int (Env.get (r17draw_sem.out [(.i x0), (.i x1), (.i x2), (.i x3), (.i x4), (.i x5)]) 2)) → (-9223372036854775808 : Int) ≤ x21 → x21 ≤ (9223372036854775807 : Int) →
∀ x22 : Int, x22 = (Cv.int (Env.get (r17draw_sem.out [(.i x0), (.i x1), (.i x2), (.i x3), (.i x4), (.i x5)]) 3)) → (-9223372036854775808 : Int) ≤ x22 → x22 ≤ (9223372036854775807 : Int) →
∀ x23 : Int, x23 = (Cv.int (Env.get (r17draw_sem.out [(.i x0), (.i x1), (.i x2), (.i x3), (.i x4), (.i x5)]) 4)) → (-9223372036854775808 : Int) ≤ x23 → x23 ≤ (9223372036854775807 : Int) →
∀ x24 : Int, x24 = (Cv.int (Env.get (r17draw_sem.out [(.i x0), (.i x1), (.i x2), (.i x3), (.i x4), (.i x5)]) 5)) → (-9223372036854775808 : Int) ≤ x24 → x24 ≤ (9223372036854775807 : Int) →
∀ x25 : Int, x25 = (Cv.int (Env.get (r17draw_sem.out [(.i x0), (.i x1), (.i x2), (.i x3), (.i x4), (.i x5)]) 6)) → (-9223372036854775808 : Int) ≤ x25 → x25 ≤ (9223372036854775807 : Int) →
∀ x26 : Int, x26 = (Cv.int (Env.get (r17draw_sem.out [(.i x0), (.i x1), (.i x2), (.i x3), (.i x4), (.i x5)]) 7)) → (-9223372036854775808 : Int) ≤ x26 → x26 ≤ (9223372036854775807 : Int) →
R (Value.bool ((Cmp.den .eq x6 x19) && ((Cmp.den .eq x7 x20) && ((Cmp.den .eq x8 x21) && ((Cmp.den .eq x9 x22) && ((Cmp.den .eq x10 x23) && ((Cmp.den .eq x11 x24) && ((Cmp.den .eq x12 x25) && (Cmp.den .eq x13 x26))))))))))) ∧ ((Cmp.den .eq x14 (0 : Int)) = false → R (Value.bool false)))) ∧ ((Cmp.den .le (1 : Int) x5) = false → ((Cmp.den .eq x14 (3 : Int)) = true → R (Value.bool ((Cmp.den .eq x6 (0 : Int)) && ((Cmp.den .eq x7 (0 : Int)) && ((Cmp.den .eq x8 (0 : Int)) && ((Cmp.den .eq x9 (0 : Int)) && ((Cmp.den .eq x10 (0 : Int)) && ((Cmp.den .eq x11 (0 : Int)) && ((Cmp.den .eq x12 (0 : Int)) && (Cmp.den .eq x13 (0 : Int))))))))))) ∧ ((Cmp.den .eq x14 (3 : Int)) = false → R (Value.bool false)))))))))))) := by kernel_rfl

def lldraws_sem : SpecSem := { pre := fun cs => match cs with | [.i c, .i d, .i e, .i h, .i l, .i s] => IsI c ∧ IsI d ∧ IsI e ∧ IsU h ∧ IsU l ∧ IsI s | _ => False, out := fun cs => match cs with | [.i c, .i d, .i e, .i h, .i l, .i s] => [.b true] | _ => [] }
set_option maxRecDepth 10000 in
set_option maxHeartbeats 16000000 in
theorem lldraws_ok : SpecOK Try.prog 10 lldraws_sp lldraws_sem := by
  refine spec_of_tree lldraws_cxok Try.func10 (by kernel_rfl) (by kernel_rfl) lldraws_walk rfl ?_
  intro cs hpre
  match cs, hpre with
  | [.i c, .i d, .i e, .i h, .i l, .i s], ⟨j_c, j_d, j_e, j_h, j_l, j_s⟩ =>
    have h_c := j_c
    unfold IsI at h_c
    have h_d := j_d
    unfold IsI at h_d
    have h_e := j_e
    unfold IsI at h_e
    have h_h := j_h
    unfold IsU at h_h
    have h_l := j_l
    unfold IsU at h_l
    have h_s := j_s
    unfold IsI at h_s
    refine ⟨rfl, IvsB.ok (by simp only [lldraws_ivs, IvsB, Cv.int, and_true] <;> omega), ?_, ?_⟩
    · simp only [lldraws_sem, lldraws_sp, Fits]
    · rw [lldraws_den]
      simp only [lldraws_sem, lldraws_sp, lldraws_den, ldraw_sem, lal_sem, lright_sem, r17right_sem, r17draw_sem, Tree.den, LE.den, Cv.list, placeA, List.getElem?_cons_zero, List.getElem?_cons_succ, IE.den, BE.den, At.den, CA.den, Env.get, Cv.int, Cv.bool, List.cons_append, List.nil_append, List.map_cons, List.map_nil, bindRes, bindEq, Fits, SV.den, denL, place, placeL, eq_t, eq_f, lt_t, lt_f, le_t, le_f, beq_iff_eq, beq_eq_false_iff_ne, ne_eq, reduceCtorEq, b_dec, decide_eq_true_eq, decide_eq_false_iff_not, Bool.not_eq_false', Bool.or_eq_true, Bool.or_eq_false_iff, Bool.and_eq_false_iff, true_iff, false_iff, Bool.false_eq_true, Bool.not_eq_true', Bool.and_eq_true, Bool.not_true, Bool.not_false, List.cons.injEq, Cv.i.injEq, Cv.b.injEq, and_true, true_and, agg_inj, tup_inj, Value.int.injEq, Value.bool.injEq]
      by_cases hp : ptOK c d e h
      · by_cases hs : 1 ≤ s ∧ s ≤ 1000
        · have hr : drOK c d e h s := ⟨hp, hs⟩
          simp only [hp, hr, hs, hs.1, hs.2, j_c, j_d, j_e, j_h, j_l, j_s, forall_eq, eq_self, if_true, if_false, true_and, and_true, false_and, and_false, true_or, or_true, false_or, or_false, true_iff, iff_true, false_iff, iff_false, not_true_eq_false, not_false_eq_true, true_implies, false_implies, implies_true, forall_const, decide_true, decide_false, reduceCtorEq] <;> (try ((repeat' (first | intro _ | refine And.intro ?_ ?_ | exact trivial)) <;> omega))
        · have hr : ¬ drOK c d e h s := fun k => hs k.2
          simp only [hp, hr, hs, j_c, j_d, j_e, j_h, j_l, j_s, forall_eq, eq_self, if_true, if_false, true_and, and_true, false_and, and_false, true_or, or_true, false_or, or_false, true_iff, iff_true, false_iff, iff_false, not_true_eq_false, not_false_eq_true, true_implies, false_implies, implies_true, forall_const, decide_true, decide_false, reduceCtorEq] <;> (try ((repeat' (first | intro _ | refine And.intro ?_ ?_ | exact trivial)) <;> omega))
      · have hr : ¬ drOK c d e h s := fun k => hp k.1
        simp only [hp, hr, j_c, j_d, j_e, j_h, j_l, j_s, forall_eq, eq_self, if_true, if_false, true_and, and_true, false_and, and_false, true_or, or_true, false_or, or_false, true_iff, iff_true, false_iff, iff_false, not_true_eq_false, not_false_eq_true, true_implies, false_implies, implies_true, forall_const, decide_true, decide_false, reduceCtorEq] <;> (try ((repeat' (first | intro _ | refine And.intro ?_ ?_ | exact trivial)) <;> omega))
end Go.Proofs.Ytlhmhcjpdpakkaa.X
