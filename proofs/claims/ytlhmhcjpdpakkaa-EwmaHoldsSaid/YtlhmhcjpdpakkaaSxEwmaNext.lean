/-
  The contracts of ewma.New and ewma.Next, and of the reference's (datumref19), for every input in range.
-/
import Derived.Test.YtlhmhcjpdpakkaaSxEwma
import Derived.Test.YtlhmhcjpdpakkaaSxLimitNum
namespace Go.Proofs.Ytlhmhcjpdpakkaa.X
open Go Go.SX Go.RowKit
set_option linter.unusedVariables false
set_option linter.unusedSimpArgs false


def enew_sp : SpecSh := { args := [(.int .i64 (.z 0)), (.int .i64 (.z 0)), (.int .i64 (.z 0))], res := (.tup [(.agg [(.int .i64 (.z 0)), (.int .i64 (.z 0)), (.int .i64 (.z 0)), (.int .i64 (.z 0)), (.int .i64 (.z 0)), (.int .i64 (.z 0)), (.int .i64 (.z 0)), (.int .i64 (.z 0))]), (.int .i64 (.z 0))]), sh := [.i (some ((-9223372036854775808), 9223372036854775807)), .i (some ((-9223372036854775808), 9223372036854775807)), .i (some ((-9223372036854775808), 9223372036854775807)), .i (some ((-9223372036854775808), 9223372036854775807)), .i (some ((-9223372036854775808), 9223372036854775807)), .i (some ((-9223372036854775808), 9223372036854775807)), .i (some ((-9223372036854775808), 9223372036854775807)), .i (some ((-9223372036854775808), 9223372036854775807)), .i (some ((-9223372036854775808), 9223372036854775807))] }
set_option maxRecDepth 100000 in
def enew_tree : Tree :=
.lett (.mulw .i64 (.v 0) (.z 1000)) <|
.ite (.cmp .le (.z (-1000000)) (.v 0)) (.ite (.not (.cmp .le (.v 0) (.z 1000000))) (.ret (.tup [(.agg [(.int .i64 (.z 0)), (.int .i64 (.z 0)), (.int .i64 (.z 0)), (.int .i64 (.z 0)), (.int .i64 (.z 0)), (.int .i64 (.z 0)), (.int .i64 (.z 0)), (.int .i64 (.z 0))]), (.int .i64 (.z 1))])) <|
.call 72 [.b] [.i (.v 0), .i (.v 1), .i (.v 2), .i (.z 0), .i (.v 3), .i (.v 3), .i (.z 1000000), .i (.z 1000000)] <|
.ite (.not (.v 4)) (.ret (.tup [(.agg [(.int .i64 (.z 0)), (.int .i64 (.z 0)), (.int .i64 (.z 0)), (.int .i64 (.z 0)), (.int .i64 (.z 0)), (.int .i64 (.z 0)), (.int .i64 (.z 0)), (.int .i64 (.z 0))]), (.int .i64 (.z 1))])) <|
.ret (.tup [(.agg [(.int .i64 (.v 0)), (.int .i64 (.v 1)), (.int .i64 (.v 2)), (.int .i64 (.z 0)), (.int .i64 (.v 3)), (.int .i64 (.v 3)), (.int .i64 (.z 1000000)), (.int .i64 (.z 1000000))]), (.int .i64 (.z 0))])) <|
.ret (.tup [(.agg [(.int .i64 (.z 0)), (.int .i64 (.z 0)), (.int .i64 (.z 0)), (.int .i64 (.z 0)), (.int .i64 (.z 0)), (.int .i64 (.z 0)), (.int .i64 (.z 0)), (.int .i64 (.z 0))]), (.int .i64 (.z 1))])
noncomputable def enew_cx : Ctx := { tys := tys, fns := fns, sps := [(72, eright_sp)], anns := [], trys := [] }
def enew_ivs : List (Option (Int × Int)) := [some ((-9223372036854775808), 9223372036854775807), some ((-9223372036854775808), 9223372036854775807), some ((-9223372036854775808), 9223372036854775807)]
set_option maxRecDepth 100000 in
theorem enew_walk : runFn enew_cx 3000 133 Try.f133 enew_sp.args enew_ivs = enew_tree := by kernel_rfl
noncomputable def enew_M : Nat → SpecSem
  | 72 => eright_sem
  | _ => noSem
theorem enew_M72 : enew_M 72 = eright_sem := rfl
theorem enew_cxok : CxOK Try.prog enew_cx enew_M := ⟨tysOK, fnsOK, spCons eright_ok <| fun _ _ h => spNil h, mixedOK, fun _ _ h => trNil h⟩
set_option maxRecDepth 100000 in
set_option maxHeartbeats 8000000 in
theorem enew_den (R RP : Value → Prop) (F : Ex → St → Js → Env → Prop) (J : Js) (x0 : Int) (x1 : Int) (x2 : Int) : Tree.den enew_M R RP F enew_tree J [(.i x0), (.i x1), (.i x2)] = (
  ∀ x3 : Int, x3 = (IntKind.i64.wrap (x0 * (1000 : Int))) →
((Cmp.den .le (-1000000 : Int) x0) = true → ((!(Cmp.den .le x0 (1000000 : Int))) = true → R (Value.tuple [(Value.agg [(Value.int .i64 (0 : Int)), (Value.int .i64 (0 : Int)), (Value.int .i64 (0 : Int)), (Value.int .i64 (0 : Int)), (Value.int .i64 (0 : Int)), (Value.int .i64 (0 : Int)), (Value.int .i64 (0 : Int)), (Value.int .i64 (0 : Int))].toArray), (Value.int .i64 (1 : Int))].toArray)) ∧ ((!(Cmp.den .le x0 (1000000 : Int))) = false → (eright_sem.pre [(.i x0), (.i x1), (.i x2), (.i (0 : Int)), (.i x3), (.i x3), (.i (1000000 : Int)), (.i (1000000 : Int))]) ∧ (
((!(Cv.bool (Env.get (eright_sem.out [(.i x0), (.i x1), (.i x2), (.i (0 : Int)), (.i x3), (.i x3), (.i (1000000 : Int)), (.i (1000000 : Int))]) 0))) = true → R (Value.tuple [(Value.agg [(Value.int .i64 (0 : Int)), (Value.int .i64 (0 : Int)), (Value.int .i64 (0 : Int)), (Value.int .i64 (0 : Int)), (Value.int .i64 (0 : Int)), (Value.int .i64 (0 : Int)), (Value.int .i64 (0 : Int)), (Value.int .i64 (0 : Int))].toArray), (Value.int .i64 (1 : Int))].toArray)) ∧ ((!(Cv.bool (Env.get (eright_sem.out [(.i x0), (.i x1), (.i x2), (.i (0 : Int)), (.i x3), (.i x3), (.i (1000000 : Int)), (.i (1000000 : Int))]) 0))) = false → R (Value.tuple [(Value.agg [(Value.int .i64 x0), (Value.int .i64 x1), (Value.int .i64 x2), (Value.int .i64 (0 : Int)), (Value.int .i64 x3), (Value.int .i64 x3), (Value.int .i64 (1000000 : Int)), (Value.int .i64 (1000000 : Int))].toArray), (Value.int .i64 (0 : Int))].toArray))))) ∧ ((Cmp.den .le (-1000000 : Int) x0) = false → R (Value.tuple [(Value.agg [(Value.int .i64 (0 : Int)), (Value.int .i64 (0 : Int)), (Value.int .i64 (0 : Int)), (Value.int .i64 (0 : Int)), (Value.int .i64 (0 : Int)), (Value.int .i64 (0 : Int)), (Value.int .i64 (0 : Int)), (Value.int .i64 (0 : Int))].toArray), (Value.int .i64 (1 : Int))].toArray))) := by kernel_rfl

def enew_sem : SpecSem := { pre := fun cs => match cs with | [.i t, .i w, .i s] => IsI t ∧ IsI w ∧ IsI s | _ => False, out := fun cs => match cs with | [.i t, .i w, .i s] => [.i (if szOK t w s then t else 0), .i (if szOK t w s then w else 0), .i (if szOK t w s then s else 0), .i 0, .i (if szOK t w s then t * 1000 else 0), .i (if szOK t w s then t * 1000 else 0), .i (if szOK t w s then 1000000 else 0), .i (if szOK t w s then 1000000 else 0), .i (if szOK t w s then 0 else 1)] | _ => [] }
set_option maxRecDepth 10000 in
set_option maxHeartbeats 16000000 in
theorem enew_ok : SpecOK Try.prog 133 enew_sp enew_sem := by
  refine spec_of_tree enew_cxok Try.func133 (by kernel_rfl) (by kernel_rfl) enew_walk rfl ?_
  intro cs hpre
  match cs, hpre with
  | [.i t, .i w, .i s], ⟨j_t, j_w, j_s⟩ =>
    have h_t := j_t
    unfold IsI at h_t
    have h_w := j_w
    unfold IsI at h_w
    have h_s := j_s
    unfold IsI at h_s
    refine ⟨rfl, IvsB.ok (by simp only [enew_ivs, IvsB, Cv.int, and_true] <;> omega), ?_, ?_⟩
    · simp only [enew_sem, enew_sp, Fits, and_true]
      by_cases ho : szOK t w s <;> simp only [ho, if_true, if_false, true_and, and_true, false_and, and_false, true_or, or_true, false_or, or_false, true_iff, iff_true, false_iff, iff_false, not_true_eq_false, not_false_eq_true, true_implies, false_implies, implies_true, forall_const, decide_true, decide_false, reduceCtorEq]
      · unfold szOK at ho; omega
      · omega
    · rw [enew_den]
      simp only [enew_sem, enew_sp, enew_den, eright_sem, Tree.den, LE.den, Cv.list, placeA, List.getElem?_cons_zero, List.getElem?_cons_succ, IE.den, BE.den, At.den, CA.den, Env.get, Cv.int, Cv.bool, List.cons_append, List.nil_append, List.map_cons, List.map_nil, bindRes, bindEq, Fits, SV.den, denL, place, placeL, eq_t, eq_f, lt_t, lt_f, le_t, le_f, beq_iff_eq, beq_eq_false_iff_ne, ne_eq, reduceCtorEq, b_dec, decide_eq_true_eq, decide_eq_false_iff_not, Bool.not_eq_false', Bool.or_eq_true, Bool.or_eq_false_iff, Bool.and_eq_false_iff, true_iff, false_iff, Bool.false_eq_true, Bool.not_eq_true', Bool.and_eq_true, Bool.not_true, Bool.not_false, List.cons.injEq, Cv.i.injEq, Cv.b.injEq, and_true, true_and, agg_inj, tup_inj, Value.int.injEq, Value.bool.injEq]
      by_cases ht : -1000000 ≤ t ∧ t ≤ 1000000
      · have w1 : IntKind.i64.wrap (t * 1000) = t * 1000 := w64 (by omega) (by omega)
        have i0 : IsI 0 := ⟨by omega, by omega⟩
        have i1 : IsI 1000000 := ⟨by omega, by omega⟩
        have i2 : IsI (t * 1000) := ⟨by omega, by omega⟩
        have n1 : (t < -1000000) = False := eq_false (by omega)
        have n2 : (1000000 < t) = False := eq_false (by omega)
        by_cases ho : szOK t w s
        · have he : ewOK t w s 0 (t * 1000) (t * 1000) 1000000 1000000 := ⟨ho, by omega, Or.inl ⟨rfl, by omega, by omega, rfl, rfl⟩⟩
          simp only [ho, he, ht, ht.1, ht.2, n1, n2, w1, i0, i1, i2, j_t, j_w, j_s, forall_eq, eq_self, f00, if_true, if_false, true_and, and_true, false_and, and_false, true_or, or_true, false_or, or_false, true_iff, iff_true, false_iff, iff_false, not_true_eq_false, not_false_eq_true, true_implies, false_implies, implies_true, forall_const, decide_true, decide_false, reduceCtorEq]
        · have he : ¬ ewOK t w s 0 (t * 1000) (t * 1000) 1000000 1000000 := fun k => ho k.1
          simp only [ho, he, ht, ht.1, ht.2, n1, n2, w1, i0, i1, i2, j_t, j_w, j_s, forall_eq, eq_self, f00, if_true, if_false, true_and, and_true, false_and, and_false, true_or, or_true, false_or, or_false, true_iff, iff_true, false_iff, iff_false, not_true_eq_false, not_false_eq_true, true_implies, false_implies, implies_true, forall_const, decide_true, decide_false, reduceCtorEq]
      · have ho : ¬ szOK t w s := fun k => ht k.1
        simp only [ho, if_true, if_false, true_and, and_true, false_and, and_false, true_or, or_true, false_or, or_false, true_iff, iff_true, false_iff, iff_false, not_true_eq_false, not_false_eq_true, true_implies, false_implies, implies_true, forall_const, decide_true, decide_false, reduceCtorEq]
        (repeat' (first | intro _ | refine And.intro ?_ ?_ | exact trivial)) <;> omega
def nxA (w x z : Int) : Int := dnZ (w * x * 1000 + (100 - w) * z) 100
def nxB (w x z : Int) : Int := upD (w * x * 1000 + (100 - w) * z) 100
def nxC (w q : Int) : Int := dnZ ((100 - w) * (100 - w) * q) 10000
def nxD (w q : Int) : Int := upD ((100 - w) * (100 - w) * q) 10000
theorem ew_rng2 {t w s n zl zh ql qh : Int} (h : ewOK t w s n zl zh ql qh) : (-1000000 ≤ t ∧ t ≤ 1000000) ∧ (1 ≤ w ∧ w ≤ 99) ∧ (1 ≤ s ∧ s ≤ 1000000) ∧ (0 ≤ n ∧ n ≤ 1000000000) ∧ (-1000000000 ≤ zl ∧ zl ≤ zh ∧ zh ≤ 1000000000) ∧ (0 ≤ ql ∧ ql ≤ qh ∧ qh ≤ 1000000) := by
  unfold ewOK szOK at h
  omega
/-- the mean's numbers fit -/
theorem nx_num {w x z : Int} (hw : 1 ≤ w ∧ w ≤ 99) (hx : -1000000 ≤ x ∧ x ≤ 1000000) (hz : -1000000000 ≤ z ∧ z ≤ 1000000000) : (-99000000 ≤ w * x ∧ w * x ≤ 99000000) ∧ (-99000000000 ≤ (100 - w) * z ∧ (100 - w) * z ≤ 99000000000) ∧ (-100000000000 ≤ w * x * 1000 + (100 - w) * z ∧ w * x * 1000 + (100 - w) * z ≤ 100000000000) := by
  have a1 := Int.mul_le_mul_of_nonneg_left (c := w) hx.2 (by omega)
  have a2 := Int.mul_le_mul_of_nonneg_left (c := w) hx.1 (by omega)
  have b1 := Int.mul_le_mul_of_nonneg_left (c := 100 - w) hz.2 (by omega)
  have b2 := Int.mul_le_mul_of_nonneg_left (c := 100 - w) hz.1 (by omega)
  omega
theorem nx_rng {w x z : Int} (hw : 1 ≤ w ∧ w ≤ 99) (hx : -1000000 ≤ x ∧ x ≤ 1000000) (hz : -1000000000 ≤ z ∧ z ≤ 1000000000) : (-1000000000 ≤ nxA w x z ∧ nxA w x z ≤ 1000000000) ∧ (-1000000000 ≤ nxB w x z ∧ nxB w x z ≤ 1000000000) := by
  obtain ⟨_, _, h1, h2⟩ := nx_num hw hx hz
  unfold nxA nxB
  rw [dn_pos (by omega), up_pos (by omega)]
  omega
theorem nq_num {w q : Int} (hw : 1 ≤ w ∧ w ≤ 99) (hq : 0 ≤ q ∧ q ≤ 1000000) : (0 ≤ (100 - w) * (100 - w) ∧ (100 - w) * (100 - w) ≤ 9801) ∧ (0 ≤ (100 - w) * (100 - w) * q ∧ (100 - w) * (100 - w) * q ≤ 9801000000) := by
  have a1 := Int.mul_le_mul (a := 100 - w) (b := 100 - w) (c := 99) (d := 99) (by omega) (by omega) (by omega) (by omega)
  have a2 : 0 ≤ (100 - w) * (100 - w) := Int.mul_nonneg (by omega) (by omega)
  have b1 := Int.mul_le_mul (a := (100 - w) * (100 - w)) (b := q) (c := 9801) (d := 1000000) (by omega) (by omega) (by omega) (by omega)
  have b2 : 0 ≤ (100 - w) * (100 - w) * q := Int.mul_nonneg (by omega) (by omega)
  omega
theorem nq_rng {w q : Int} (hw : 1 ≤ w ∧ w ≤ 99) (hq : 0 ≤ q ∧ q ≤ 1000000) : (0 ≤ nxC w q ∧ nxC w q ≤ 1000000) ∧ (0 ≤ nxD w q ∧ nxD w q ≤ 1000000) := by
  obtain ⟨_, h1, h2⟩ := nq_num hw hq
  unfold nxC nxD
  rw [dn_pos (by omega), up_pos (by omega)]
  omega
theorem mdV_one (a b c m : Int) : mdV a b c m = mdV (a * b) 1 c m := by
  unfold mdV mdZ
  rw [Int.mul_one]
def nxOK (t w s n zl zh ql qh x : Int) : Prop := ewOK t w s n zl zh ql qh ∧ (-1000000 ≤ x ∧ x ≤ 1000000) ∧ n ≠ 1000000000
instance decNx (t w s n zl zh ql qh x : Int) : Decidable (nxOK t w s n zl zh ql qh x) := by unfold nxOK; exact inferInstance
def nxW (w x zl zh : Int) : Prop := 64 < nxB w x zh - nxA w x zl
instance decNxW (w x zl zh : Int) : Decidable (nxW w x zl zh) := by unfold nxW; exact inferInstance
def enext_sp : SpecSh := { args := [(.agg [(.int .i64 (.z 0)), (.int .i64 (.z 0)), (.int .i64 (.z 0)), (.int .i64 (.z 0)), (.int .i64 (.z 0)), (.int .i64 (.z 0)), (.int .i64 (.z 0)), (.int .i64 (.z 0))]), (.int .i64 (.z 0))], res := (.tup [(.agg [(.int .i64 (.z 0)), (.int .i64 (.z 0)), (.int .i64 (.z 0)), (.int .i64 (.z 0)), (.int .i64 (.z 0)), (.int .i64 (.z 0)), (.int .i64 (.z 0)), (.int .i64 (.z 0))]), (.bool .f), (.int .i64 (.z 0))]), sh := [.i (some ((-9223372036854775808), 9223372036854775807)), .i (some ((-9223372036854775808), 9223372036854775807)), .i (some ((-9223372036854775808), 9223372036854775807)), .i (some ((-9223372036854775808), 9223372036854775807)), .i (some ((-9223372036854775808), 9223372036854775807)), .i (some ((-9223372036854775808), 9223372036854775807)), .i (some ((-9223372036854775808), 9223372036854775807)), .i (some ((-9223372036854775808), 9223372036854775807)), .b, .i (some ((-9223372036854775808), 9223372036854775807))] }
set_option maxRecDepth 100000 in
def enext_tree : Tree :=
.call 72 [.b] [.i (.v 0), .i (.v 1), .i (.v 2), .i (.v 3), .i (.v 4), .i (.v 5), .i (.v 6), .i (.v 7)] <|
.ite (.not (.v 9)) (.ret (.tup [(.agg [(.int .i64 (.z 0)), (.int .i64 (.z 0)), (.int .i64 (.z 0)), (.int .i64 (.z 0)), (.int .i64 (.z 0)), (.int .i64 (.z 0)), (.int .i64 (.z 0)), (.int .i64 (.z 0))]), (.bool .f), (.int .i64 (.z 1))])) <|
.ite (.cmp .le (.z (-1000000)) (.v 8)) (.ite (.not (.cmp .le (.v 8) (.z 1000000))) (.ret (.tup [(.agg [(.int .i64 (.z 0)), (.int .i64 (.z 0)), (.int .i64 (.z 0)), (.int .i64 (.z 0)), (.int .i64 (.z 0)), (.int .i64 (.z 0)), (.int .i64 (.z 0)), (.int .i64 (.z 0))]), (.bool .f), (.int .i64 (.z 3))])) <|
.ite (.cmp .eq (.v 3) (.z 1000000000)) (.ret (.tup [(.agg [(.int .i64 (.z 0)), (.int .i64 (.z 0)), (.int .i64 (.z 0)), (.int .i64 (.z 0)), (.int .i64 (.z 0)), (.int .i64 (.z 0)), (.int .i64 (.z 0)), (.int .i64 (.z 0))]), (.bool .f), (.int .i64 (.z 11))])) <|
.lett (.subw .i64 (.z 100) (.v 1)) <|
.lett (.addw .i64 (.v 3) (.z 1)) <|
.lett (.mulw .i64 (.v 1) (.v 8)) <|
.lett (.mulw .i64 (.v 12) (.z 1000)) <|
.lett (.mulw .i64 (.v 10) (.v 4)) <|
.lett (.addw .i64 (.v 13) (.v 14)) <|
.call 49 [.i (some ((-9223372036854775808), 9223372036854775807)), .i (some ((-9223372036854775808), 9223372036854775807))] [.i (.v 15), .i (.z 1), .i (.z 100), .i (.z 0)] <|
.lett (.mulw .i64 (.v 1) (.v 8)) <|
.lett (.mulw .i64 (.v 18) (.z 1000)) <|
.lett (.mulw .i64 (.v 10) (.v 5)) <|
.lett (.addw .i64 (.v 19) (.v 20)) <|
.call 49 [.i (some ((-9223372036854775808), 9223372036854775807)), .i (some ((-9223372036854775808), 9223372036854775807))] [.i (.v 21), .i (.z 1), .i (.z 100), .i (.z 1)] <|
.lett (.mulw .i64 (.v 10) (.v 10)) <|
.call 49 [.i (some ((-9223372036854775808), 9223372036854775807)), .i (some ((-9223372036854775808), 9223372036854775807))] [.i (.v 24), .i (.v 6), .i (.z 10000), .i (.z 0)] <|
.lett (.mulw .i64 (.v 10) (.v 10)) <|
.call 49 [.i (some ((-9223372036854775808), 9223372036854775807)), .i (some ((-9223372036854775808), 9223372036854775807))] [.i (.v 27), .i (.v 7), .i (.z 10000), .i (.z 1)] <|
.lett (.subw .i64 (.v 22) (.v 16)) <|
.ite (.cmp .lt (.z 64) (.v 30)) (.lett (.mulw .i64 (.v 0) (.z 1000)) <|
.ret (.tup [(.agg [(.int .i64 (.v 0)), (.int .i64 (.v 1)), (.int .i64 (.v 2)), (.int .i64 (.z 0)), (.int .i64 (.v 31)), (.int .i64 (.v 31)), (.int .i64 (.z 1000000)), (.int .i64 (.z 1000000))]), (.bool .t), (.int .i64 (.z 0))])) <|
.ret (.tup [(.agg [(.int .i64 (.v 0)), (.int .i64 (.v 1)), (.int .i64 (.v 2)), (.int .i64 (.v 11)), (.int .i64 (.v 16)), (.int .i64 (.v 22)), (.int .i64 (.v 25)), (.int .i64 (.v 28))]), (.bool .f), (.int .i64 (.z 0))])) <|
.ret (.tup [(.agg [(.int .i64 (.z 0)), (.int .i64 (.z 0)), (.int .i64 (.z 0)), (.int .i64 (.z 0)), (.int .i64 (.z 0)), (.int .i64 (.z 0)), (.int .i64 (.z 0)), (.int .i64 (.z 0))]), (.bool .f), (.int .i64 (.z 3))])
noncomputable def enext_cx : Ctx := { tys := tys, fns := fns, sps := [(72, eright_sp), (49, fmd_sp)], anns := [], trys := [] }
def enext_ivs : List (Option (Int × Int)) := [some ((-9223372036854775808), 9223372036854775807), some ((-9223372036854775808), 9223372036854775807), some ((-9223372036854775808), 9223372036854775807), some ((-9223372036854775808), 9223372036854775807), some ((-9223372036854775808), 9223372036854775807), some ((-9223372036854775808), 9223372036854775807), some ((-9223372036854775808), 9223372036854775807), some ((-9223372036854775808), 9223372036854775807), some ((-9223372036854775808), 9223372036854775807)]
set_option maxRecDepth 100000 in
theorem enext_walk : runFn enext_cx 3000 71 Try.f71 enext_sp.args enext_ivs = enext_tree := by kernel_rfl
noncomputable def enext_M : Nat → SpecSem
  | 72 => eright_sem
  | 49 => fmd_sem
  | _ => noSem
theorem enext_M72 : enext_M 72 = eright_sem := rfl
theorem enext_M49 : enext_M 49 = fmd_sem := rfl
theorem enext_cxok : CxOK Try.prog enext_cx enext_M := ⟨tysOK, fnsOK, spCons eright_ok <| spCons fmd_ok <| fun _ _ h => spNil h, mixedOK, fun _ _ h => trNil h⟩
set_option maxRecDepth 100000 in
set_option maxHeartbeats 8000000 in
theorem enext_den (R RP : Value → Prop) (F : Ex → St → Js → Env → Prop) (J : Js) (x0 : Int) (x1 : Int) (x2 : Int) (x3 : Int) (x4 : Int) (x5 : Int) (x6 : Int) (x7 : Int) (x8 : Int) : Tree.den enext_M R RP F enext_tree J [(.i x0), (.i x1), (.i x2), (.i x3), (.i x4), (.i x5), (.i x6), (.i x7), (.i x8)] = (
  (eright_sem.pre [(.i x0), (.i x1), (.i x2), (.i x3), (.i x4), (.i x5), (.i x6), (.i x7)]) ∧ (
((!(Cv.bool (Env.get (eright_sem.out [(.i x0), (.i x1), (.i x2), (.i x3), (.i x4), (.i x5), (.i x6), (.i x7)]) 0))) = true → R (Value.tuple [(Value.agg [(Value.int .i64 (0 : Int)), (Value.int .i64 (0 : Int)), (Value.int .i64 (0 : Int)), (Value.int .i64 (0 : Int)), (Value.int .i64 (0 : Int)), (Value.int .i64 (0 : Int)), (Value.int .i64 (0 : Int)), (Value.int .i64 (0 : Int))].toArray), (Value.bool false), (Value.int .i64 (1 : Int))].toArray)) ∧ ((!(Cv.bool (Env.get (eright_sem.out [(.i x0), (.i x1), (.i x2), (.i x3), (.i x4), (.i x5), (.i x6), (.i x7)]) 0))) = false → ((Cmp.den .le (-1000000 : Int) x8) = true → ((!(Cmp.den .le x8 (1000000 : Int))) = true → R (Value.tuple [(Value.agg [(Value.int .i64 (0 : Int)), (Value.int .i64 (0 : Int)), (Value.int .i64 (0 : Int)), (Value.int .i64 (0 : Int)), (Value.int .i64 (0 : Int)), (Value.int .i64 (0 : Int)), (Value.int .i64 (0 : Int)), (Value.int .i64 (0 : Int))].toArray), (Value.bool false), (Value.int .i64 (3 : Int))].toArray)) ∧ ((!(Cmp.den .le x8 (1000000 : Int))) = false → ((Cmp.den .eq x3 (1000000000 : Int)) = true → R (Value.tuple [(Value.agg [(Value.int .i64 (0 : Int)), (Value.int .i64 (0 : Int)), (Value.int .i64 (0 : Int)), (Value.int .i64 (0 : Int)), (Value.int .i64 (0 : Int)), (Value.int .i64 (0 : Int)), (Value.int .i64 (0 : Int)), (Value.int .i64 (0 : Int))].toArray), (Value.bool false), (Value.int .i64 (11 : Int))].toArray)) ∧ ((Cmp.den .eq x3 (1000000000 : Int)) = false → ∀ x10 : Int, x10 = (IntKind.i64.wrap ((100 : Int) - x1)) →
∀ x11 : Int, x11 = (IntKind.i64.wrap (x3 + (1 : Int))) →
∀ x12 : Int, x12 = (IntKind.i64.wrap (x1 * x8)) →
∀ x13 : Int, x13 = (IntKind.i64.wrap (x12 * (1000 : Int))) →
∀ x14 : Int, x14 = (IntKind.i64.wrap (x10 * x4)) →
∀ x15 : Int, x15 = (IntKind.i64.wrap (x13 + x14)) →
(fmd_sem.pre [(.i x15), (.i (1 : Int)), (.i (100 : Int)), (.i (0 : Int))]) ∧ (
∀ x16 : Int, x16 = (Cv.int (Env.get (fmd_sem.out [(.i x15), (.i (1 : Int)), (.i (100 : Int)), (.i (0 : Int))]) 0)) → (-9223372036854775808 : Int) ≤ x16 → x16 ≤ (9223372036854775807 : Int) →
∀ x17 : Int, x17 = (Cv.int (Env.get (fmd_sem.out [(.i x15), (.i (1 : Int)), (.i (100 : Int)), (.i (0 : Int))]) 1)) → (-9223372036854775808 : Int) ≤ x17 → x17 ≤ (9223372036854775807 : Int) →
∀ x18 : Int, x18 = (IntKind.i64.wrap (x1 * x8)) →
∀ x19 : Int, x19 = (IntKind.i64.wrap (x18 * (1000 : Int))) →
∀ x20 : Int, x20 = (IntKind.i64.wrap (x10 * x5)) →
∀ x21 : Int, x21 = (IntKind.i64.wrap (x19 + x20)) →
(fmd_sem.pre [(.i x21), (.i (1 : Int)), (.i (100 : Int)), (.i (1 : Int))]) ∧ (
∀ x22 : Int, x22 = (Cv.int (Env.get (fmd_sem.out [(.i x21), (.i (1 : Int)), (.i (100 : Int)), (.i (1 : Int))]) 0)) → (-9223372036854775808 : Int) ≤ x22 → x22 ≤ (9223372036854775807 : Int) →
∀ x23 : Int, x23 = (Cv.int (Env.get (fmd_sem.out [(.i x21), (.i (1 : Int)), (.i (100 : Int)), (.i (1 : Int))]) 1)) → (-9223372036854775808 : Int) ≤ x23 → x23 ≤ (9223372036854775807 : Int) →
∀ x24 : Int, x24 = (IntKind.i64.wrap (x10 * x10)) →
(fmd_sem.pre [(.i x24), (.i x6), (.i (10000 : Int)), (.i (0 : Int))]) ∧ (
∀ x25 : Int, x25 = (Cv.int (Env.get (fmd_sem.out [(.i x24), (.i x6), (.i (10000 : Int)), (.i (0 : Int))]) 0)) → (-9223372036854775808 : Int) ≤ x25 → x25 ≤ (9223372036854775807 : Int) →
∀ x26 : Int, x26 = (Cv.int (Env.get (fmd_sem.out [(.i x24), (.i x6), (.i (10000 : Int)), (.i (0 : Int))]) 1)) → (-9223372036854775808 : Int) ≤ x26 → x26 ≤ (9223372036854775807 : Int) →
∀ x27 : Int, x27 = (IntKind.i64.wrap (x10 * x10)) →
(fmd_sem.pre [(.i x27), (.i x7), (.i (10000 : Int)), (.i (1 : Int))]) ∧ (
∀ x28 : Int, x28 = (Cv.int (Env.get (fmd_sem.out [(.i x27), (.i x7), (.i (10000 : Int)), (.i (1 : Int))]) 0)) → (-9223372036854775808 : Int) ≤ x28 → x28 ≤ (9223372036854775807 : Int) →
∀ x29 : Int, x29 = (Cv.int (Env.get (fmd_sem.out [(.i x27), (.i x7), (.i (10000 : Int)), (.i (1 : Int))]) 1)) → (-9223372036854775808 : Int) ≤ x29 → x29 ≤ (9223372036854775807 : Int) →
∀ x30 : Int, x30 = (IntKind.i64.wrap (x22 - x16)) →
((Cmp.den .lt (64 : Int) x30) = true → ∀ x31 : Int, x31 = (IntKind.i64.wrap (x0 * (1000 : Int))) →
R (Value.tuple [(Value.agg [(Value.int .i64 x0), (Value.int .i64 x1), (Value.int .i64 x2), (Value.int .i64 (0 : Int)), (Value.int .i64 x31), (Value.int .i64 x31), (Value.int .i64 (1000000 : Int)), (Value.int .i64 (1000000 : Int))].toArray), (Value.bool true), (Value.int .i64 (0 : Int))].toArray)) ∧ ((Cmp.den .lt (64 : Int) x30) = false → R (Value.tuple [(Value.agg [(Value.int .i64 x0), (Value.int .i64 x1), (Value.int .i64 x2), (Value.int .i64 x11), (Value.int .i64 x16), (Value.int .i64 x22), (Value.int .i64 x25), (Value.int .i64 x28)].toArray), (Value.bool false), (Value.int .i64 (0 : Int))].toArray))))))))) ∧ ((Cmp.den .le (-1000000 : Int) x8) = false → R (Value.tuple [(Value.agg [(Value.int .i64 (0 : Int)), (Value.int .i64 (0 : Int)), (Value.int .i64 (0 : Int)), (Value.int .i64 (0 : Int)), (Value.int .i64 (0 : Int)), (Value.int .i64 (0 : Int)), (Value.int .i64 (0 : Int)), (Value.int .i64 (0 : Int))].toArray), (Value.bool false), (Value.int .i64 (3 : Int))].toArray))))) := by kernel_rfl

def enext_sem : SpecSem := { pre := fun cs => match cs with | [.i t, .i w, .i s, .i n, .i zl, .i zh, .i ql, .i qh, .i x] => IsI t ∧ IsI w ∧ IsI s ∧ IsI n ∧ IsI zl ∧ IsI zh ∧ IsI ql ∧ IsI qh ∧ IsI x | _ => False, out := fun cs => match cs with | [.i t, .i w, .i s, .i n, .i zl, .i zh, .i ql, .i qh, .i x] => [.i (if nxOK t w s n zl zh ql qh x then t else 0), .i (if nxOK t w s n zl zh ql qh x then w else 0), .i (if nxOK t w s n zl zh ql qh x then s else 0), .i (if nxOK t w s n zl zh ql qh x then (if nxW w x zl zh then 0 else n + 1) else 0), .i (if nxOK t w s n zl zh ql qh x then (if nxW w x zl zh then t * 1000 else nxA w x zl) else 0), .i (if nxOK t w s n zl zh ql qh x then (if nxW w x zl zh then t * 1000 else nxB w x zh) else 0), .i (if nxOK t w s n zl zh ql qh x then (if nxW w x zl zh then 1000000 else nxC w ql) else 0), .i (if nxOK t w s n zl zh ql qh x then (if nxW w x zl zh then 1000000 else nxD w qh) else 0), .b (decide (nxOK t w s n zl zh ql qh x ∧ nxW w x zl zh)), .i (if ewOK t w s n zl zh ql qh then (if -1000000 ≤ x ∧ x ≤ 1000000 then (if n = 1000000000 then 11 else 0) else 3) else 1)] | _ => [] }
set_option maxRecDepth 10000 in
set_option maxHeartbeats 16000000 in
theorem enext_ok : SpecOK Try.prog 71 enext_sp enext_sem := by
  refine spec_of_tree enext_cxok Try.func71 (by kernel_rfl) (by kernel_rfl) enext_walk rfl ?_
  intro cs hpre
  match cs, hpre with
  | [.i t, .i w, .i s, .i n, .i zl, .i zh, .i ql, .i qh, .i x], ⟨j_t, j_w, j_s, j_n, j_zl, j_zh, j_ql, j_qh, j_x⟩ =>
    have h_t := j_t
    unfold IsI at h_t
    have h_w := j_w
    unfold IsI at h_w
    have h_s := j_s
    unfold IsI at h_s
    have h_n := j_n
    unfold IsI at h_n
    have h_zl := j_zl
    unfold IsI at h_zl
    have h_zh := j_zh
    unfold IsI at h_zh
    have h_ql := j_ql
    unfold IsI at h_ql
    have h_qh := j_qh
    unfold IsI at h_qh
    have h_x := j_x
    unfold IsI at h_x
    refine ⟨rfl, IvsB.ok (by simp only [enext_ivs, IvsB, Cv.int, and_true] <;> omega), ?_, ?_⟩
    · simp only [enext_sem, enext_sp, Fits, and_true]
      by_cases ho : nxOK t w s n zl zh ql qh x
      · obtain ⟨r1, r2, r3, r4, ⟨r5, r6, r7⟩, r8, r9, r10⟩ := ew_rng2 ho.1
        have hn : n ≠ 1000000000 := ho.2.2
        have q1 := nx_rng r2 ho.2.1 (z := zl) ⟨r5, by omega⟩
        have q2 := nx_rng r2 ho.2.1 (z := zh) ⟨by omega, r7⟩
        have q3 := nq_rng r2 (q := ql) ⟨r8, by omega⟩
        have q4 := nq_rng r2 (q := qh) ⟨by omega, r10⟩
        by_cases hw : nxW w x zl zh <;> simp only [ho, hw, if_true, if_false, true_and, and_true, false_and, and_false, true_or, or_true, false_or, or_false, true_iff, iff_true, false_iff, iff_false, not_true_eq_false, not_false_eq_true, true_implies, false_implies, implies_true, forall_const, decide_true, decide_false, reduceCtorEq] <;> (try split) <;> (try split) <;> (try split) <;> omega
      · simp only [ho, if_true, if_false, true_and, and_true, false_and, and_false, true_or, or_true, false_or, or_false, true_iff, iff_true, false_iff, iff_false, not_true_eq_false, not_false_eq_true, true_implies, false_implies, implies_true, forall_const, decide_true, decide_false, reduceCtorEq]
        split <;> (try split) <;> (try split) <;> omega
    · rw [enext_den]
      simp only [enext_sem, enext_sp, enext_den, eright_sem, fmd_sem, Tree.den, LE.den, Cv.list, placeA, List.getElem?_cons_zero, List.getElem?_cons_succ, IE.den, BE.den, At.den, CA.den, Env.get, Cv.int, Cv.bool, List.cons_append, List.nil_append, List.map_cons, List.map_nil, bindRes, bindEq, Fits, SV.den, denL, place, placeL, eq_t, eq_f, lt_t, lt_f, le_t, le_f, beq_iff_eq, beq_eq_false_iff_ne, ne_eq, reduceCtorEq, b_dec, decide_eq_true_eq, decide_eq_false_iff_not, Bool.not_eq_false', Bool.or_eq_true, Bool.or_eq_false_iff, Bool.and_eq_false_iff, true_iff, false_iff, Bool.false_eq_true, Bool.not_eq_true', Bool.and_eq_true, Bool.not_true, Bool.not_false, List.cons.injEq, Cv.i.injEq, Cv.b.injEq, and_true, true_and, agg_inj, tup_inj, Value.int.injEq, Value.bool.injEq]
      by_cases ho : ewOK t w s n zl zh ql qh
      · obtain ⟨r1, r2, r3, r4, ⟨r5, r6, r7⟩, r8, r9, r10⟩ := ew_rng2 ho
        by_cases hx : -1000000 ≤ x ∧ x ≤ 1000000
        · have c1 : (x < -1000000) = False := eq_false (by omega)
          have c2 : (1000000 < x) = False := eq_false (by omega)
          by_cases hn : n = 1000000000
          · have hno : ¬ nxOK t w s n zl zh ql qh x := fun k => k.2.2 hn
            simp only [ho, hx, hx.1, hx.2, c1, c2, hno, j_t, j_w, j_s, j_n, j_zl, j_zh, j_ql, j_qh, forall_eq, eq_self, if_true, if_false, true_and, and_true, false_and, and_false, true_or, or_true, false_or, or_false, true_iff, iff_true, false_iff, iff_false, not_true_eq_false, not_false_eq_true, true_implies, false_implies, implies_true, forall_const, decide_true, decide_false, reduceCtorEq]
            try (subst hn)
            try simp only [ho, hno, j_n, eq_self, f00, if_true, if_false, true_and, and_true, false_and, and_false, true_or, or_true, false_or, or_false, true_iff, iff_true, false_iff, iff_false, not_true_eq_false, not_false_eq_true, true_implies, false_implies, implies_true, forall_const, decide_true, decide_false, reduceCtorEq]
          · have hno : nxOK t w s n zl zh ql qh x := ⟨ho, hx, hn⟩
            have q1 := nx_rng r2 hx (z := zl) ⟨r5, by omega⟩
            have q2 := nx_rng r2 hx (z := zh) ⟨by omega, r7⟩
            have q3 := nq_rng r2 (q := ql) ⟨r8, by omega⟩
            have q4 := nq_rng r2 (q := qh) ⟨by omega, r10⟩
            obtain ⟨p1, p2, p3⟩ := nx_num r2 hx (z := zl) ⟨r5, by omega⟩
            obtain ⟨_, p4, p5⟩ := nx_num r2 hx (z := zh) ⟨by omega, r7⟩
            obtain ⟨p6, p7⟩ := nq_num r2 (q := ql) ⟨r8, by omega⟩
            have f1 : mdV (w * x * 1000 + (100 - w) * zl) 1 100 0 = nxA w x zl := by rw [mdV0 (by omega)]; exact if_pos ⟨by have := q1.1.1; unfold nxA at this; omega, by have := q1.1.2; unfold nxA at this; omega⟩
            have f2 : mdV (w * x * 1000 + (100 - w) * zh) 1 100 1 = nxB w x zh := by rw [mdV1 (by omega)]; exact if_pos ⟨by have := q2.2.1; unfold nxB at this; omega, by have := q2.2.2; unfold nxB at this; omega⟩
            have f3 : mdV ((100 - w) * (100 - w)) ql 10000 0 = nxC w ql := by rw [mdV_one, mdV0 (by omega)]; exact if_pos ⟨by have := q3.1.1; unfold nxC at this; omega, by have := q3.1.2; unfold nxC at this; omega⟩
            have f4 : mdV ((100 - w) * (100 - w)) qh 10000 1 = nxD w qh := by rw [mdV_one, mdV1 (by omega)]; exact if_pos ⟨by have := q4.2.1; unfold nxD at this; omega, by have := q4.2.2; unfold nxD at this; omega⟩
            have w0 : IntKind.i64.wrap (100 - w) = 100 - w := w64 (by omega) (by omega)
            have w1 : IntKind.i64.wrap (n + 1) = n + 1 := w64 (by omega) (by omega)
            have w2 : IntKind.i64.wrap (w * x) = w * x := w64 (by omega) (by omega)
            have w3 : IntKind.i64.wrap (w * x * 1000) = w * x * 1000 := w64 (by omega) (by omega)
            have w4 : IntKind.i64.wrap ((100 - w) * zl) = (100 - w) * zl := w64 (by omega) (by omega)
            have w5 : IntKind.i64.wrap ((100 - w) * zh) = (100 - w) * zh := w64 (by omega) (by omega)
            have w6 : IntKind.i64.wrap (w * x * 1000 + (100 - w) * zl) = w * x * 1000 + (100 - w) * zl := w64 (by omega) (by omega)
            have w7 : IntKind.i64.wrap (w * x * 1000 + (100 - w) * zh) = w * x * 1000 + (100 - w) * zh := w64 (by omega) (by omega)
            have w8 : IntKind.i64.wrap ((100 - w) * (100 - w)) = (100 - w) * (100 - w) := w64 (by omega) (by omega)
            have w9 : IntKind.i64.wrap (nxB w x zh - nxA w x zl) = nxB w x zh - nxA w x zl := w64 (by omega) (by omega)
            have w10 : IntKind.i64.wrap (t * 1000) = t * 1000 := w64 (by omega) (by omega)
            have i1 : IsI (w * x * 1000 + (100 - w) * zl) := ⟨by omega, by omega⟩
            have i2 : IsI (w * x * 1000 + (100 - w) * zh) := ⟨by omega, by omega⟩
            have i3 : IsI ((100 - w) * (100 - w)) := ⟨by omega, by omega⟩
            have i4 : IsI 1 := ⟨by omega, by omega⟩
            have i5 : IsI 100 := ⟨by omega, by omega⟩
            have i6 : IsI 0 := ⟨by omega, by omega⟩
            have i7 : IsI 10000 := ⟨by omega, by omega⟩
            by_cases hw : nxW w x zl zh
            · have h1 : 64 < nxB w x zh - nxA w x zl := hw
              have h2 : (nxB w x zh - nxA w x zl ≤ 64) = False := eq_false (by omega)
              simp only [ho, hx, hx.1, hx.2, c1, c2, hn, hno, hw, h1, h2, f1, f2, f3, f4, w0, w1, w2, w3, w4, w5, w6, w7, w8, w9, w10, i1, i2, i3, i4, i5, i6, i7, j_t, j_w, j_s, j_n, j_zl, j_zh, j_ql, j_qh, forall_eq, eq_self, if_true, if_false, true_and, and_true, false_and, and_false, true_or, or_true, false_or, or_false, true_iff, iff_true, false_iff, iff_false, not_true_eq_false, not_false_eq_true, true_implies, false_implies, implies_true, forall_const, decide_true, decide_false, reduceCtorEq]
            · have h1 : (64 < nxB w x zh - nxA w x zl) = False := eq_false hw
              have h2 : nxB w x zh - nxA w x zl ≤ 64 := Int.not_lt.1 hw
              simp only [ho, hx, hx.1, hx.2, c1, c2, hn, hno, hw, h1, h2, f1, f2, f3, f4, w0, w1, w2, w3, w4, w5, w6, w7, w8, w9, w10, i1, i2, i3, i4, i5, i6, i7, j_t, j_w, j_s, j_n, j_zl, j_zh, j_ql, j_qh, forall_eq, eq_self, if_true, if_false, true_and, and_true, false_and, and_false, true_or, or_true, false_or, or_false, true_iff, iff_true, false_iff, iff_false, not_true_eq_false, not_false_eq_true, true_implies, false_implies, implies_true, forall_const, decide_true, decide_false, reduceCtorEq]
        · have hno : ¬ nxOK t w s n zl zh ql qh x := fun k => hx k.2.1
          simp only [ho, hx, hno, j_t, j_w, j_s, j_n, j_zl, j_zh, j_ql, j_qh, eq_self, if_true, if_false, true_and, and_true, false_and, and_false, true_or, or_true, false_or, or_false, true_iff, iff_true, false_iff, iff_false, not_true_eq_false, not_false_eq_true, true_implies, false_implies, implies_true, forall_const, decide_true, decide_false, reduceCtorEq]
          clear r1 r2 r3 r4 r5 r6 r7 r8 r9 r10
          (repeat' (first | intro _ | refine And.intro ?_ ?_ | exact trivial)) <;> omega
      · have hno : ¬ nxOK t w s n zl zh ql qh x := fun k => ho k.1
        simp only [ho, hno, j_t, j_w, j_s, j_n, j_zl, j_zh, j_ql, j_qh, eq_self, if_true, if_false, true_and, and_true, false_and, and_false, true_or, or_true, false_or, or_false, true_iff, iff_true, false_iff, iff_false, not_true_eq_false, not_false_eq_true, true_implies, false_implies, implies_true, forall_const, decide_true, decide_false, reduceCtorEq]
end Go.Proofs.Ytlhmhcjpdpakkaa.X
