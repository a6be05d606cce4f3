/-
  datumref15: Right, Sum, Point, Wide, by contract.
-/
import Derived.Test.YtglpelnaeipenaaSxBs3
import Derived.Test.YtglpelnaeipenaaSxFctRef
import Derived.Test.YtglpelnaeipenaaSxRefProd
namespace Go.Proofs.Ytglpelnaeipenaa.X
open Go Go.SX
set_option linter.unusedVariables false
set_option linter.unusedSimpArgs false







def rbright_sp : SpecSh := { args := [(.agg [(.int .i64 (.z 0)), (.int .i64 (.z 0)), (.int .i64 (.z 0)), (.int .i64 (.z 0)), (.int .i64 (.z 0))])], res := (.bool .f), sh := [.b] }
set_option maxRecDepth 100000 in
def rbright_tree : Tree :=
.ite (.cmp .lt (.v 0) (.z 1)) (.ret (.bool .f)) <|
.ite (.cmp .lt (.z 10) (.v 0)) (.ret (.bool .f)) <|
.ite (.cmp .lt (.v 1) (.z 0)) (.ret (.bool .f)) <|
.ite (.cmp .lt (.z 25) (.v 1)) (.ret (.bool .f)) <|
.ite (.cmp .lt (.v 4) (.z (-1000000))) (.ret (.bool .f)) <|
.ite (.cmp .lt (.z 1000000) (.v 4)) (.ret (.bool .f)) <|
.ite (.cmp .eq (.v 1) (.z 0)) (.ite (.not (.cmp .eq (.v 4) (.z 0))) (.ret (.bool .f)) <|
.lett (.mul (.v 1) (.v 0)) <|
.lett (.ite (.cmp .eq (.v 0) (.z 1)) (.z 0) (.v 1)) <|
.ite (.cmp .le (.z 0) (.v 2)) (.ite (.cmp .le (.v 2) (.z 0)) (.ite (.cmp .le (.z 0) (.v 3)) (.ret (.bool (.cmp .le (.v 3) (.z 0)))) <|
.ret (.bool .f)) <|
.ret (.bool .f)) <|
.ret (.bool .f)) <|
.lett (.mul (.v 1) (.v 0)) <|
.lett (.mul (.v 5) (.z 1000000)) <|
.ite (.cmp .eq (.v 0) (.z 1)) (.lett (.sub (.v 1) (.z 1)) <|
.lett (.ite (.cmp .lt (.z 0) (.v 7)) (.v 7) (.z 0)) <|
.lett (.sub (.z 0) (.v 6)) <|
.ite (.cmp .le (.v 9) (.v 2)) (.ite (.cmp .le (.v 2) (.v 6)) (.ite (.cmp .le (.z 0) (.v 3)) (.lett (.mul (.z 2000000) (.v 8)) <|
.ret (.bool (.cmp .le (.v 3) (.v 10)))) <|
.ret (.bool .f)) <|
.ret (.bool .f)) <|
.ret (.bool .f)) <|
.lett (.sub (.z 0) (.v 6)) <|
.ite (.cmp .le (.v 7) (.v 2)) (.ite (.cmp .le (.v 2) (.v 6)) (.ite (.cmp .le (.z 0) (.v 3)) (.lett (.mul (.z 2000000) (.v 1)) <|
.ret (.bool (.cmp .le (.v 3) (.v 8)))) <|
.ret (.bool .f)) <|
.ret (.bool .f)) <|
.ret (.bool .f)
noncomputable def rbright_cx : Ctx := { tys := tys, fns := fns, mets := mets, sps := [], anns := [], trys := [] }
def rbright_ivs : List (Option (Int × Int)) := [some ((-9223372036854775808), 9223372036854775807), some ((-9223372036854775808), 9223372036854775807), some ((-9223372036854775808), 9223372036854775807), some ((-9223372036854775808), 9223372036854775807), some ((-9223372036854775808), 9223372036854775807)]
set_option maxRecDepth 100000 in
theorem rbright_walk : runFn rbright_cx 3000 11 Try.f11 rbright_sp.args rbright_ivs = rbright_tree := by kernel_rfl
noncomputable def rbright_M : Nat → SpecSem
  | _ => noSem
theorem rbright_cxok : CxOK Try.prog rbright_cx rbright_M := ⟨tysOK, fnsOK, fun _ _ h => spNil h, mixedOK, fun _ _ h => trNil h, fun _ _ h => atNil h, metsOK⟩

def rbright_sem : SpecSem := { pre := fun cs => match cs with | [.i z, .i m, .i s, .i r, .i a] => IsI z ∧ IsI m ∧ IsI s ∧ IsI r ∧ IsI a | _ => False, out := fun cs => match cs with | [.i z, .i m, .i s, .i r, .i a] => [.b (decide (BsOK z m s r a))] | _ => [] }
set_option maxRecDepth 10000 in
set_option maxHeartbeats 16000000 in
theorem rbright_ok : SpecOK Try.prog 11 rbright_sp rbright_sem := by
  refine spec_of_tree rbright_cxok Try.func11 (by kernel_rfl) (by kernel_rfl) rbright_walk rfl ?_
  intro cs hpre
  match cs, hpre with
  | [.i z, .i m, .i s, .i r, .i a], ⟨j_z, j_m, j_s, j_r, j_a⟩ =>
    have h_z := j_z
    unfold IsI at h_z
    have h_m := j_m
    unfold IsI at h_m
    have h_s := j_s
    unfold IsI at h_s
    have h_r := j_r
    unfold IsI at h_r
    have h_a := j_a
    unfold IsI at h_a
    refine ⟨rfl, IvsB.ok (by simp only [rbright_ivs, IvsB, Cv.int, and_true] <;> omega), ?_, ?_⟩
    · simp only [rbright_sem, rbright_sp, Fits]
    · simp only [rbright_sem, rbright_sp, rbright_tree, Tree.den, LE.den, Cv.list, placeA, List.getElem?_cons_zero, List.getElem?_cons_succ, IE.den, BE.den, At.den, CA.den, Env.get, Cv.int, Cv.bool, List.cons_append, List.nil_append, List.map_cons, List.map_nil, bindRes, bindEq, Fits, SV.den, denL, place, placeL, eq_t, eq_f, lt_t, lt_f, le_t, le_f, beq_iff_eq, beq_eq_false_iff_ne, ne_eq, reduceCtorEq, b_dec, decide_eq_true_eq, decide_eq_false_iff_not, Bool.not_eq_false', Bool.or_eq_true, Bool.or_eq_false_iff, Bool.and_eq_false_iff, true_iff, false_iff, Bool.false_eq_true, Bool.not_eq_true', Bool.and_eq_true, Bool.not_true, Bool.not_false, List.cons.injEq, Cv.i.injEq, Cv.b.injEq, and_true, true_and, agg_inj, tup_inj, Value.int.injEq, Value.bool.injEq]
      have hp : m = 0 → m * z = 0 := fun h => by rw [h, Int.zero_mul]
      unfold BsOK bsteps
      generalize m * z = p at *
      clear j_z j_m j_s j_r j_a
      (repeat' (first | intro _ | refine And.intro ?_ ?_ | exact trivial)) <;> (repeat' split at *) <;> omega
def rbsum_sp : SpecSh := { args := [(.agg [(.int .i64 (.z 0)), (.int .i64 (.z 0)), (.int .i64 (.z 0)), (.int .i64 (.z 0)), (.int .i64 (.z 0))]), (.int .i64 (.z 0))], res := (.bool .f), sh := [.b] }
set_option maxRecDepth 100000 in
def rbsum_tree : Tree :=
.lett (.mulw .i64 (.z (-1000000)) (.v 0)) <|
.ite (.cmp .le (.v 6) (.v 5)) (.lett (.mulw .i64 (.z 1000000) (.v 0)) <|
.ret (.bool (.cmp .le (.v 5) (.v 7)))) <|
.ret (.bool .f)
noncomputable def rbsum_cx : Ctx := { tys := tys, fns := fns, mets := mets, sps := [], anns := [], trys := [] }
def rbsum_ivs : List (Option (Int × Int)) := [some ((-9223372036854775808), 9223372036854775807), some ((-9223372036854775808), 9223372036854775807), some ((-9223372036854775808), 9223372036854775807), some ((-9223372036854775808), 9223372036854775807), some ((-9223372036854775808), 9223372036854775807), some ((-9223372036854775808), 9223372036854775807)]
set_option maxRecDepth 100000 in
theorem rbsum_walk : runFn rbsum_cx 3000 19 Try.f19 rbsum_sp.args rbsum_ivs = rbsum_tree := by kernel_rfl
noncomputable def rbsum_M : Nat → SpecSem
  | _ => noSem
theorem rbsum_cxok : CxOK Try.prog rbsum_cx rbsum_M := ⟨tysOK, fnsOK, fun _ _ h => spNil h, mixedOK, fun _ _ h => trNil h, fun _ _ h => atNil h, metsOK⟩

def rbsum_sem : SpecSem := { pre := fun cs => match cs with | [.i z, .i m, .i s, .i r, .i a, .i x] => IsI z ∧ IsI m ∧ IsI s ∧ IsI r ∧ IsI a ∧ IsI x ∧ (1 ≤ z ∧ z ≤ 10) | _ => False, out := fun cs => match cs with | [.i z, .i m, .i s, .i r, .i a, .i x] => [.b (decide (-(z * 1000000) ≤ x ∧ x ≤ z * 1000000))] | _ => [] }
set_option maxRecDepth 10000 in
set_option maxHeartbeats 16000000 in
theorem rbsum_ok : SpecOK Try.prog 19 rbsum_sp rbsum_sem := by
  refine spec_of_tree rbsum_cxok Try.func19 (by kernel_rfl) (by kernel_rfl) rbsum_walk rfl ?_
  intro cs hpre
  match cs, hpre with
  | [.i z, .i m, .i s, .i r, .i a, .i x], ⟨j_z, j_m, j_s, j_r, j_a, j_x, hx⟩ =>
    have h_z := j_z
    unfold IsI at h_z
    have h_m := j_m
    unfold IsI at h_m
    have h_s := j_s
    unfold IsI at h_s
    have h_r := j_r
    unfold IsI at h_r
    have h_a := j_a
    unfold IsI at h_a
    have h_x := j_x
    unfold IsI at h_x
    refine ⟨rfl, IvsB.ok (by simp only [rbsum_ivs, IvsB, Cv.int, and_true] <;> omega), ?_, ?_⟩
    · simp only [rbsum_sem, rbsum_sp, Fits]
    · have w1 : IntKind.i64.wrap (-1000000 * z) = -1000000 * z := w64 (by omega) (by omega)
      have w2 : IntKind.i64.wrap (1000000 * z) = 1000000 * z := w64 (by omega) (by omega)
      simp only [rbsum_sem, rbsum_sp, rbsum_tree, Tree.den, LE.den, Cv.list, placeA, List.getElem?_cons_zero, List.getElem?_cons_succ, IE.den, BE.den, At.den, CA.den, Env.get, Cv.int, Cv.bool, List.cons_append, List.nil_append, List.map_cons, List.map_nil, bindRes, bindEq, Fits, SV.den, denL, place, placeL, eq_t, eq_f, lt_t, lt_f, le_t, le_f, beq_iff_eq, beq_eq_false_iff_ne, ne_eq, reduceCtorEq, b_dec, decide_eq_true_eq, decide_eq_false_iff_not, Bool.not_eq_false', Bool.or_eq_true, Bool.or_eq_false_iff, Bool.and_eq_false_iff, true_iff, false_iff, Bool.false_eq_true, Bool.not_eq_true', Bool.and_eq_true, Bool.not_true, Bool.not_false, List.cons.injEq, Cv.i.injEq, Cv.b.injEq, and_true, true_and, agg_inj, tup_inj, Value.int.injEq, Value.bool.injEq, w1, w2, forall_eq]
      clear w1 w2
      (repeat' (first | intro _ | refine And.intro ?_ ?_ | exact trivial)) <;> omega
def rbpoint_sp : SpecSh := { args := [(.agg [(.int .i64 (.z 0)), (.int .i64 (.z 0)), (.int .i64 (.z 0)), (.int .i64 (.z 0)), (.int .i64 (.z 0))]), (.int .i64 (.z 0))], res := (.agg [(.int .i64 (.z 0)), (.int .i64 (.z 0)), (.int .i64 (.z 0)), (.int .u64 (.z 0)), (.int .u64 (.z 0))]), sh := [.i (some ((-9223372036854775808), 9223372036854775807)), .i (some ((-9223372036854775808), 9223372036854775807)), .i (some ((-9223372036854775808), 9223372036854775807)), .i (some (0, 18446744073709551615)), .i (some (0, 18446744073709551615))] }
set_option maxRecDepth 100000 in
def rbpoint_tree : Tree :=
.lett (.mulw .i64 (.v 5) (.v 1)) <|
.lett (.subw .i64 (.v 6) (.v 2)) <|
.ite (.cmp .eq (.v 0) (.z 1)) (.lett (.mulw .i64 (.z 10000) (.v 1)) <|
.lett (.mulw .i64 (.v 8) (.v 3)) <|
.lett (.mulw .i64 (.z 11280) (.v 1)) <|
.lett (.subw .i64 (.v 1) (.z 1)) <|
.lett (.mulw .i64 (.v 10) (.v 11)) <|
.lett (.subw .i64 (.v 1) (.z 1)) <|
.lett (.mulw .i64 (.z 11280) (.v 13)) <|
.lett (.mulw .i64 (.v 14) (.v 2)) <|
.lett (.subw .i64 (.v 1) (.z 1)) <|
.lett (.mulw .i64 (.z 11280) (.v 16)) <|
.lett (.mulw .i64 (.v 17) (.v 7)) <|
.call 30 [.b, .i (some (0, 18446744073709551615)), .i (some (0, 18446744073709551615))] [.i (.v 9), .i (.v 9)] <|
.ret (.agg [(.int .i64 (.v 15)), (.int .i64 (.v 12)), (.int .i64 (.v 18)), (.int .u64 (.v 20)), (.int .u64 (.v 21))])) <|
.call 31 [.i (some (0, 32670))] [.i (.z 0), .i (.v 0)] <|
.lett (.mulw .i64 (.v 8) (.v 3)) <|
.lett (.mulw .i64 (.v 9) (.v 0)) <|
.lett (.mulw .i64 (.z 30000) (.v 1)) <|
.lett (.mulw .i64 (.v 11) (.v 0)) <|
.lett (.mulw .i64 (.z 30000) (.v 2)) <|
.lett (.mulw .i64 (.z 30000) (.v 7)) <|
.call 30 [.b, .i (some (0, 18446744073709551615)), .i (some (0, 18446744073709551615))] [.i (.v 10), .i (.v 10)] <|
.ret (.agg [(.int .i64 (.v 13)), (.int .i64 (.v 12)), (.int .i64 (.v 14)), (.int .u64 (.v 16)), (.int .u64 (.v 17))])
noncomputable def rbpoint_cx : Ctx := { tys := tys, fns := fns, mets := mets, sps := [(31, rfac_sp), (30, r4prod_sp)], anns := [], trys := [] }
def rbpoint_ivs : List (Option (Int × Int)) := [some ((-9223372036854775808), 9223372036854775807), some ((-9223372036854775808), 9223372036854775807), some ((-9223372036854775808), 9223372036854775807), some ((-9223372036854775808), 9223372036854775807), some ((-9223372036854775808), 9223372036854775807), some ((-9223372036854775808), 9223372036854775807)]
set_option maxRecDepth 100000 in
theorem rbpoint_walk : runFn rbpoint_cx 3000 20 Try.f20 rbpoint_sp.args rbpoint_ivs = rbpoint_tree := by kernel_rfl
noncomputable def rbpoint_M : Nat → SpecSem
  | 31 => rfac_sem
  | 30 => r4prod_sem
  | _ => noSem
theorem rbpoint_M31 : rbpoint_M 31 = rfac_sem := rfl
theorem rbpoint_M30 : rbpoint_M 30 = r4prod_sem := rfl
theorem rbpoint_cxok : CxOK Try.prog rbpoint_cx rbpoint_M := ⟨tysOK, fnsOK, spCons rfac_ok <| spCons r4prod_ok <| fun _ _ h => spNil h, mixedOK, fun _ _ h => trNil h, fun _ _ h => atNil h, metsOK⟩
set_option maxRecDepth 100000 in
set_option maxHeartbeats 8000000 in
theorem rbpoint_den (R RP : Value → Prop) (F : Ex → St → Js → Env → Prop) (J : Js) (x0 : Int) (x1 : Int) (x2 : Int) (x3 : Int) (x4 : Int) (x5 : Int) : Tree.den rbpoint_M R RP F rbpoint_tree J [(.i x0), (.i x1), (.i x2), (.i x3), (.i x4), (.i x5)] = (
  ∀ x6 : Int, x6 = (IntKind.i64.wrap (x5 * x1)) →
∀ x7 : Int, x7 = (IntKind.i64.wrap (x6 - x2)) →
((Cmp.den .eq x0 (1 : Int)) = true → ∀ x8 : Int, x8 = (IntKind.i64.wrap ((10000 : Int) * x1)) →
∀ x9 : Int, x9 = (IntKind.i64.wrap (x8 * x3)) →
∀ x10 : Int, x10 = (IntKind.i64.wrap ((11280 : Int) * x1)) →
∀ x11 : Int, x11 = (IntKind.i64.wrap (x1 - (1 : Int))) →
∀ x12 : Int, x12 = (IntKind.i64.wrap (x10 * x11)) →
∀ x13 : Int, x13 = (IntKind.i64.wrap (x1 - (1 : Int))) →
∀ x14 : Int, x14 = (IntKind.i64.wrap ((11280 : Int) * x13)) →
∀ x15 : Int, x15 = (IntKind.i64.wrap (x14 * x2)) →
∀ x16 : Int, x16 = (IntKind.i64.wrap (x1 - (1 : Int))) →
∀ x17 : Int, x17 = (IntKind.i64.wrap ((11280 : Int) * x16)) →
∀ x18 : Int, x18 = (IntKind.i64.wrap (x17 * x7)) →
(r4prod_sem.pre [(.i x9), (.i x9)]) ∧ (
∀ x20 : Int, x20 = (Cv.int (Env.get (r4prod_sem.out [(.i x9), (.i x9)]) 1)) → (0 : Int) ≤ x20 → x20 ≤ (18446744073709551615 : Int) →
∀ x21 : Int, x21 = (Cv.int (Env.get (r4prod_sem.out [(.i x9), (.i x9)]) 2)) → (0 : Int) ≤ x21 → x21 ≤ (18446744073709551615 : Int) →
R (Value.agg [(Value.int .i64 x15), (Value.int .i64 x12), (Value.int .i64 x18), (Value.int .u64 x20), (Value.int .u64 x21)].toArray))) ∧ ((Cmp.den .eq x0 (1 : Int)) = false → (rfac_sem.pre [(.i (0 : Int)), (.i x0)]) ∧ (
∀ x8 : Int, x8 = (Cv.int (Env.get (rfac_sem.out [(.i (0 : Int)), (.i x0)]) 0)) → (0 : Int) ≤ x8 → x8 ≤ (32670 : Int) →
∀ x9 : Int, x9 = (IntKind.i64.wrap (x8 * x3)) →
∀ x10 : Int, x10 = (IntKind.i64.wrap (x9 * x0)) →
∀ x11 : Int, x11 = (IntKind.i64.wrap ((30000 : Int) * x1)) →
∀ x12 : Int, x12 = (IntKind.i64.wrap (x11 * x0)) →
∀ x13 : Int, x13 = (IntKind.i64.wrap ((30000 : Int) * x2)) →
∀ x14 : Int, x14 = (IntKind.i64.wrap ((30000 : Int) * x7)) →
(r4prod_sem.pre [(.i x10), (.i x10)]) ∧ (
∀ x16 : Int, x16 = (Cv.int (Env.get (r4prod_sem.out [(.i x10), (.i x10)]) 1)) → (0 : Int) ≤ x16 → x16 ≤ (18446744073709551615 : Int) →
∀ x17 : Int, x17 = (Cv.int (Env.get (r4prod_sem.out [(.i x10), (.i x10)]) 2)) → (0 : Int) ≤ x17 → x17 ≤ (18446744073709551615 : Int) →
R (Value.agg [(Value.int .i64 x13), (Value.int .i64 x12), (Value.int .i64 x14), (Value.int .u64 x16), (Value.int .u64 x17)].toArray))))) := by kernel_rfl

def rbpoint_sem : SpecSem := { pre := fun cs => match cs with | [.i z, .i m, .i s, .i r, .i a, .i x] => IsI z ∧ IsI m ∧ IsI s ∧ IsI r ∧ IsI a ∧ IsI x ∧ (BsOK z m s r a ∧ (-(z * 1000000) ≤ x ∧ x ≤ z * 1000000) ∧ 2 ≤ m) | _ => False, out := fun cs => match cs with | [.i z, .i m, .i s, .i r, .i a, .i x] => [.i (bpC z m s), .i (bpN z m), .i (bpD z m s x), .i (bpV z m r * bpV z m r / 18446744073709551616), .i (bpV z m r * bpV z m r % 18446744073709551616)] | _ => [] }
set_option maxRecDepth 10000 in
set_option maxHeartbeats 16000000 in
theorem rbpoint_ok : SpecOK Try.prog 20 rbpoint_sp rbpoint_sem := by
  refine spec_of_tree rbpoint_cxok Try.func20 (by kernel_rfl) (by kernel_rfl) rbpoint_walk rfl ?_
  intro cs hpre
  match cs, hpre with
  | [.i z, .i m, .i s, .i r, .i a, .i x], ⟨j_z, j_m, j_s, j_r, j_a, j_x, hx⟩ =>
    have h_z := j_z
    unfold IsI at h_z
    have h_m := j_m
    unfold IsI at h_m
    have h_s := j_s
    unfold IsI at h_s
    have h_r := j_r
    unfold IsI at h_r
    have h_a := j_a
    unfold IsI at h_a
    have h_x := j_x
    unfold IsI at h_x
    refine ⟨rfl, IvsB.ok (by simp only [rbpoint_ivs, IvsB, Cv.int, and_true] <;> omega), ?_, ?_⟩
    · obtain ⟨c1, c2, c3⟩ := hx
      have hb := bp_rng c1 c2
      have hv := mul_hi (x := bpV z m r) (y := bpV z m r) ⟨by omega, by omega⟩ ⟨by omega, by omega⟩
      simp only [rbpoint_sem, rbpoint_sp, Fits, and_true]
      omega
    · rw [rbpoint_den]
      obtain ⟨c1, c2, c3⟩ := hx
      have hb := bs_bd c1
      have hr := bp_rng c1 c2
      obtain ⟨q1, q2, q3, q4, q5, q6⟩ := c1
      have t := ftab_rng 0 z
      have e1 := mbd 10000000 25 (a := x) (b := m) (by omega) (by omega)
      have w3 : IntKind.i64.wrap (x * m) = x * m := w64 (by omega) (by omega)
      have w4 : IntKind.i64.wrap (x * m - s) = x * m - s := w64 (by omega) (by omega)
      have w0 : IntKind.i64.wrap (m - 1) = m - 1 := w64 (by omega) (by omega)
      have ha : absZ (bpV z m r) = bpV z m r := by unfold absZ; rw [if_neg (by omega)]
      have iv : IsI (bpV z m r) := ⟨by omega, by omega⟩
      have k0 : IsI 0 := ⟨by omega, by omega⟩
      have iz : IsI z := j_z
      by_cases c5 : z = 1
      · have d1 : bpC z m s = 11280 * (m - 1) * s := by unfold bpC; rw [if_pos c5]
        have d2 : bpN z m = 11280 * m * (m - 1) := by unfold bpN; rw [if_pos c5, Int.mul_right_comm]
        have d3 : bpD z m s x = 11280 * (m - 1) * (x * m - s) := by unfold bpD; rw [if_pos c5]
        have d4 : bpV z m r = 10000 * m * r := by unfold bpV; rw [if_pos c5]
        have w5 : IntKind.i64.wrap (11280 * (m - 1)) = 11280 * (m - 1) := w64 (by omega) (by omega)
        have w6 : IntKind.i64.wrap (11280 * (m - 1) * s) = bpC z m s := by rw [d1]; exact w64 (by omega) (by omega)
        have w11 : IntKind.i64.wrap (11280 * m) = 11280 * m := w64 (by omega) (by omega)
        have w7 : IntKind.i64.wrap (11280 * m * (m - 1)) = bpN z m := by rw [d2]; exact w64 (by omega) (by omega)
        have w8 : IntKind.i64.wrap (11280 * (m - 1) * (x * m - s)) = bpD z m s x := by rw [d3]; exact w64 (by omega) (by omega)
        have w9 : IntKind.i64.wrap (10000 * m) = 10000 * m := w64 (by omega) (by omega)
        have w10 : IntKind.i64.wrap (10000 * m * r) = bpV z m r := by rw [d4]; exact w64 (by omega) (by omega)
        have o1 : (z = 1) = True := eq_true c5
        clear d1 d2 d3 d4 e1
        simp only [rbpoint_sem, rbpoint_sp, r4prod_sem, rfac_sem, rbpoint_den, rfac_sem, r4prod_sem, Tree.den, LE.den, Cv.list, placeA, List.getElem?_cons_zero, List.getElem?_cons_succ, IE.den, BE.den, At.den, CA.den, Env.get, Cv.int, Cv.bool, List.cons_append, List.nil_append, List.map_cons, List.map_nil, bindRes, bindEq, Fits, SV.den, denL, place, placeL, eq_t, eq_f, lt_t, lt_f, le_t, le_f, beq_iff_eq, beq_eq_false_iff_ne, ne_eq, reduceCtorEq, b_dec, decide_eq_true_eq, decide_eq_false_iff_not, Bool.not_eq_false', Bool.or_eq_true, Bool.or_eq_false_iff, Bool.and_eq_false_iff, true_iff, false_iff, Bool.false_eq_true, Bool.not_eq_true', Bool.and_eq_true, Bool.not_true, Bool.not_false, List.cons.injEq, Cv.i.injEq, Cv.b.injEq, and_true, true_and, agg_inj, tup_inj, Value.int.injEq, Value.bool.injEq, w0, w3, w4, w5, w6, w7, w8, w9, w10, w11, ha, iv, o1, forall_eq, eq_self, if_true, if_false, true_and, and_true, false_and, and_false, true_or, or_true, false_or, or_false, true_iff, iff_true, false_iff, iff_false, not_true_eq_false, not_false_eq_true, true_implies, false_implies, implies_true, forall_const, decide_true, decide_false, reduceCtorEq]
      · have z2 : 2 ≤ z ∧ z ≤ 10 := by omega
        have d1 : bpC z m s = 30000 * s := by unfold bpC; rw [if_neg c5]
        have d2 : bpN z m = 30000 * m * z := by unfold bpN; rw [if_neg c5]
        have d3 : bpD z m s x = 30000 * (x * m - s) := by unfold bpD; rw [if_neg c5]
        have d4 : bpV z m r = ftab 0 z * r * z := by unfold bpV; rw [if_neg c5]
        have e2 := mbd 32670 50000000 (a := ftab 0 z) (b := r) (by omega) (by omega)
        have w5 : IntKind.i64.wrap (30000 * m) = 30000 * m := w64 (by omega) (by omega)
        have w6 : IntKind.i64.wrap (30000 * s) = bpC z m s := by rw [d1]; exact w64 (by omega) (by omega)
        have w7 : IntKind.i64.wrap (30000 * m * z) = bpN z m := by rw [d2]; exact w64 (by omega) (by omega)
        have w8 : IntKind.i64.wrap (30000 * (x * m - s)) = bpD z m s x := by rw [d3]; exact w64 (by omega) (by omega)
        have w9 : IntKind.i64.wrap (ftab 0 z * r) = ftab 0 z * r := w64 (by omega) (by omega)
        have w10 : IntKind.i64.wrap (ftab 0 z * r * z) = bpV z m r := by rw [d4]; exact w64 (by omega) (by omega)
        have o1 : (z = 1) = False := eq_false c5
        have y1 : (2 ≤ z) = True := eq_true z2.1
        have y2 : (z ≤ 10) = True := eq_true z2.2
        have y3 : ((0 : Int) ≤ 0) = True := eq_true (by omega)
        have y4 : ((0 : Int) ≤ 6) = True := eq_true (by omega)
        clear d1 d2 d3 d4 e1
        simp only [rbpoint_sem, rbpoint_sp, r4prod_sem, rfac_sem, rbpoint_den, rfac_sem, r4prod_sem, Tree.den, LE.den, Cv.list, placeA, List.getElem?_cons_zero, List.getElem?_cons_succ, IE.den, BE.den, At.den, CA.den, Env.get, Cv.int, Cv.bool, List.cons_append, List.nil_append, List.map_cons, List.map_nil, bindRes, bindEq, Fits, SV.den, denL, place, placeL, eq_t, eq_f, lt_t, lt_f, le_t, le_f, beq_iff_eq, beq_eq_false_iff_ne, ne_eq, reduceCtorEq, b_dec, decide_eq_true_eq, decide_eq_false_iff_not, Bool.not_eq_false', Bool.or_eq_true, Bool.or_eq_false_iff, Bool.and_eq_false_iff, true_iff, false_iff, Bool.false_eq_true, Bool.not_eq_true', Bool.and_eq_true, Bool.not_true, Bool.not_false, List.cons.injEq, Cv.i.injEq, Cv.b.injEq, and_true, true_and, agg_inj, tup_inj, Value.int.injEq, Value.bool.injEq, w0, w3, w4, w5, w6, w7, w8, w9, w10, ha, iv, iz, k0, o1, y1, y2, y3, y4, forall_eq, eq_self, if_true, if_false, true_and, and_true, false_and, and_false, true_or, or_true, false_or, or_false, true_iff, iff_true, false_iff, iff_false, not_true_eq_false, not_false_eq_true, true_implies, false_implies, implies_true, forall_const, decide_true, decide_false, reduceCtorEq]
def rbwide_sp : SpecSh := { args := [(.agg [(.int .i64 (.z 0)), (.int .i64 (.z 0)), (.int .i64 (.z 0)), (.int .i64 (.z 0)), (.int .i64 (.z 0))]), (.int .i64 (.z 0))], res := (.int .i64 (.z 0)), sh := [.i (some ((-9223372036854775808), 9223372036854775807))] }
set_option maxRecDepth 100000 in
def rbwide_tree : Tree :=
.ite (.cmp .eq (.v 0) (.z 1)) (.lett (.subw .i64 (.v 1) (.z 1)) <|
.lett (.mulw .i64 (.v 5) (.v 6)) <|
.lett (.mulw .i64 (.v 7) (.z 10000)) <|
.call 31 [.i (some (0, 32670))] [.i (.z 2), .i (.z 2)] <|
.lett (.mulw .i64 (.v 9) (.v 3)) <|
.ite (.cmp .lt (.v 10) (.v 8)) (.ret (.int .i64 (.z 1))) <|
.call 31 [.i (some (0, 32670))] [.i (.z 1), .i (.z 2)] <|
.lett (.mulw .i64 (.v 11) (.v 3)) <|
.ite (.cmp .lt (.v 8) (.v 12)) (.ret (.int .i64 (.z (-1)))) <|
.ret (.int .i64 (.z 0))) <|
.lett (.mulw .i64 (.v 5) (.v 1)) <|
.lett (.mulw .i64 (.v 6) (.z 10000)) <|
.call 31 [.i (some (0, 32670))] [.i (.z 2), .i (.v 0)] <|
.lett (.mulw .i64 (.v 8) (.v 3)) <|
.ite (.cmp .lt (.v 9) (.v 7)) (.ret (.int .i64 (.z 1))) <|
.call 31 [.i (some (0, 32670))] [.i (.z 1), .i (.v 0)] <|
.lett (.mulw .i64 (.v 10) (.v 3)) <|
.ite (.cmp .lt (.v 7) (.v 11)) (.ret (.int .i64 (.z (-1)))) <|
.ret (.int .i64 (.z 0))
noncomputable def rbwide_cx : Ctx := { tys := tys, fns := fns, mets := mets, sps := [(31, rfac_sp)], anns := [], trys := [] }
def rbwide_ivs : List (Option (Int × Int)) := [some ((-9223372036854775808), 9223372036854775807), some ((-9223372036854775808), 9223372036854775807), some ((-9223372036854775808), 9223372036854775807), some ((-9223372036854775808), 9223372036854775807), some ((-9223372036854775808), 9223372036854775807), some ((-9223372036854775808), 9223372036854775807)]
set_option maxRecDepth 100000 in
theorem rbwide_walk : runFn rbwide_cx 3000 21 Try.f21 rbwide_sp.args rbwide_ivs = rbwide_tree := by kernel_rfl
noncomputable def rbwide_M : Nat → SpecSem
  | 31 => rfac_sem
  | _ => noSem
theorem rbwide_M31 : rbwide_M 31 = rfac_sem := rfl
theorem rbwide_cxok : CxOK Try.prog rbwide_cx rbwide_M := ⟨tysOK, fnsOK, spCons rfac_ok <| fun _ _ h => spNil h, mixedOK, fun _ _ h => trNil h, fun _ _ h => atNil h, metsOK⟩
set_option maxRecDepth 100000 in
set_option maxHeartbeats 8000000 in
theorem rbwide_den (R RP : Value → Prop) (F : Ex → St → Js → Env → Prop) (J : Js) (x0 : Int) (x1 : Int) (x2 : Int) (x3 : Int) (x4 : Int) (x5 : Int) : Tree.den rbwide_M R RP F rbwide_tree J [(.i x0), (.i x1), (.i x2), (.i x3), (.i x4), (.i x5)] = (
  ((Cmp.den .eq x0 (1 : Int)) = true → ∀ x6 : Int, x6 = (IntKind.i64.wrap (x1 - (1 : Int))) →
∀ x7 : Int, x7 = (IntKind.i64.wrap (x5 * x6)) →
∀ x8 : Int, x8 = (IntKind.i64.wrap (x7 * (10000 : Int))) →
(rfac_sem.pre [(.i (2 : Int)), (.i (2 : Int))]) ∧ (
∀ x9 : Int, x9 = (Cv.int (Env.get (rfac_sem.out [(.i (2 : Int)), (.i (2 : Int))]) 0)) → (0 : Int) ≤ x9 → x9 ≤ (32670 : Int) →
∀ x10 : Int, x10 = (IntKind.i64.wrap (x9 * x3)) →
((Cmp.den .lt x10 x8) = true → R (Value.int .i64 (1 : Int))) ∧ ((Cmp.den .lt x10 x8) = false → (rfac_sem.pre [(.i (1 : Int)), (.i (2 : Int))]) ∧ (
∀ x11 : Int, x11 = (Cv.int (Env.get (rfac_sem.out [(.i (1 : Int)), (.i (2 : Int))]) 0)) → (0 : Int) ≤ x11 → x11 ≤ (32670 : Int) →
∀ x12 : Int, x12 = (IntKind.i64.wrap (x11 * x3)) →
((Cmp.den .lt x8 x12) = true → R (Value.int .i64 (-1 : Int))) ∧ ((Cmp.den .lt x8 x12) = false → R (Value.int .i64 (0 : Int))))))) ∧ ((Cmp.den .eq x0 (1 : Int)) = false → ∀ x6 : Int, x6 = (IntKind.i64.wrap (x5 * x1)) →
∀ x7 : Int, x7 = (IntKind.i64.wrap (x6 * (10000 : Int))) →
(rfac_sem.pre [(.i (2 : Int)), (.i x0)]) ∧ (
∀ x8 : Int, x8 = (Cv.int (Env.get (rfac_sem.out [(.i (2 : Int)), (.i x0)]) 0)) → (0 : Int) ≤ x8 → x8 ≤ (32670 : Int) →
∀ x9 : Int, x9 = (IntKind.i64.wrap (x8 * x3)) →
((Cmp.den .lt x9 x7) = true → R (Value.int .i64 (1 : Int))) ∧ ((Cmp.den .lt x9 x7) = false → (rfac_sem.pre [(.i (1 : Int)), (.i x0)]) ∧ (
∀ x10 : Int, x10 = (Cv.int (Env.get (rfac_sem.out [(.i (1 : Int)), (.i x0)]) 0)) → (0 : Int) ≤ x10 → x10 ≤ (32670 : Int) →
∀ x11 : Int, x11 = (IntKind.i64.wrap (x10 * x3)) →
((Cmp.den .lt x7 x11) = true → R (Value.int .i64 (-1 : Int))) ∧ ((Cmp.den .lt x7 x11) = false → R (Value.int .i64 (0 : Int)))))))) := by kernel_rfl

def rbwide_sem : SpecSem := { pre := fun cs => match cs with | [.i z, .i m, .i s, .i r, .i a, .i x] => IsI z ∧ IsI m ∧ IsI s ∧ IsI r ∧ IsI a ∧ IsI x ∧ (BsOK z m s r a ∧ (0 ≤ x ∧ x ≤ 2000000) ∧ 2 ≤ m) | _ => False, out := fun cs => match cs with | [.i z, .i m, .i s, .i r, .i a, .i x] => [.i (bwV z m r x)] | _ => [] }
set_option maxRecDepth 10000 in
set_option maxHeartbeats 16000000 in
theorem rbwide_ok : SpecOK Try.prog 21 rbwide_sp rbwide_sem := by
  refine spec_of_tree rbwide_cxok Try.func21 (by kernel_rfl) (by kernel_rfl) rbwide_walk rfl ?_
  intro cs hpre
  match cs, hpre with
  | [.i z, .i m, .i s, .i r, .i a, .i x], ⟨j_z, j_m, j_s, j_r, j_a, j_x, hx⟩ =>
    have h_z := j_z
    unfold IsI at h_z
    have h_m := j_m
    unfold IsI at h_m
    have h_s := j_s
    unfold IsI at h_s
    have h_r := j_r
    unfold IsI at h_r
    have h_a := j_a
    unfold IsI at h_a
    have h_x := j_x
    unfold IsI at h_x
    refine ⟨rfl, IvsB.ok (by simp only [rbwide_ivs, IvsB, Cv.int, and_true] <;> omega), ?_, ?_⟩
    · have hv := bwV_rng z m r x
      simp only [rbwide_sem, rbwide_sp, Fits, and_true]
      omega
    · rw [rbwide_den]
      obtain ⟨c1, c2, c3⟩ := hx
      have hb := bs_bd c1
      obtain ⟨q1, q2, q3, q4, q5, q6⟩ := c1
      have k1 : IsI 1 := ⟨by omega, by omega⟩
      have k2 : IsI 2 := ⟨by omega, by omega⟩
      have iz : IsI z := j_z
      have t1 := ftab_rng 1 (bwK z)
      have t2 := ftab_rng 2 (bwK z)
      have m1 : 0 ≤ bwM z m ∧ bwM z m ≤ 25 := by unfold bwM; split <;> omega
      have e1 := mbd 2000000 25 (a := x) (b := bwM z m) (by omega) (by omega)
      have e2 := mbd 32670 50000000 (a := ftab 1 (bwK z)) (b := r) (by omega) (by omega)
      have e3 := mbd 32670 50000000 (a := ftab 2 (bwK z)) (b := r) (by omega) (by omega)
      have w0 : IntKind.i64.wrap (m - 1) = m - 1 := w64 (by omega) (by omega)
      have w1 : IntKind.i64.wrap (x * bwM z m) = x * bwM z m := w64 (by omega) (by omega)
      have w2 : IntKind.i64.wrap (x * bwM z m * 10000) = x * bwM z m * 10000 := w64 (by omega) (by omega)
      have w3 : IntKind.i64.wrap (ftab 1 (bwK z) * r) = ftab 1 (bwK z) * r := w64 (by omega) (by omega)
      have w4 : IntKind.i64.wrap (ftab 2 (bwK z) * r) = ftab 2 (bwK z) * r := w64 (by omega) (by omega)
      have hv : bwV z m r x = if ftab 2 (bwK z) * r < x * bwM z m * 10000 then 1 else if x * bwM z m * 10000 < ftab 1 (bwK z) * r then -1 else 0 := rfl
      by_cases c5 : z = 1
      · have d1 : bwM z m = m - 1 := by unfold bwM; rw [if_pos c5]
        have d2 : bwK z = 2 := by unfold bwK; rw [if_pos c5]
        have o1 : (z = 1) = True := eq_true c5
        rw [d1] at w1 w2 hv
        rw [d2] at w3 w4 hv t1 t2
        simp only [rbwide_sem, rbwide_sp, rfac_sem, rbwide_den, rfac_sem, Tree.den, LE.den, Cv.list, placeA, List.getElem?_cons_zero, List.getElem?_cons_succ, IE.den, BE.den, At.den, CA.den, Env.get, Cv.int, Cv.bool, List.cons_append, List.nil_append, List.map_cons, List.map_nil, bindRes, bindEq, Fits, SV.den, denL, place, placeL, eq_t, eq_f, lt_t, lt_f, le_t, le_f, beq_iff_eq, beq_eq_false_iff_ne, ne_eq, reduceCtorEq, b_dec, decide_eq_true_eq, decide_eq_false_iff_not, Bool.not_eq_false', Bool.or_eq_true, Bool.or_eq_false_iff, Bool.and_eq_false_iff, true_iff, false_iff, Bool.false_eq_true, Bool.not_eq_true', Bool.and_eq_true, Bool.not_true, Bool.not_false, List.cons.injEq, Cv.i.injEq, Cv.b.injEq, and_true, true_and, agg_inj, tup_inj, Value.int.injEq, Value.bool.injEq, o1, k1, k2, w0, w1, w2, w3, w4, forall_eq, eq_self, if_true, if_false, true_and, and_true, false_and, and_false, true_or, or_true, false_or, or_false, true_iff, iff_true, false_iff, iff_false, not_true_eq_false, not_false_eq_true, true_implies, false_implies, implies_true, forall_const, decide_true, decide_false, reduceCtorEq]
        rw [hv]
        clear e1 e2 e3 w0 w1 w2 w3 w4 hv
        generalize ftab 2 2 * r = A
        generalize ftab 1 2 * r = B
        generalize x * (m - 1) * 10000 = C
        (repeat' (first | intro _ | refine And.intro ?_ ?_ | exact trivial)) <;> omega
      · have d1 : bwM z m = m := by unfold bwM; rw [if_neg c5]
        have d2 : bwK z = z := by unfold bwK; rw [if_neg c5]
        have o1 : (z = 1) = False := eq_false c5
        rw [d1] at w1 w2 hv
        rw [d2] at w3 w4 hv t1 t2
        simp only [rbwide_sem, rbwide_sp, rfac_sem, rbwide_den, rfac_sem, Tree.den, LE.den, Cv.list, placeA, List.getElem?_cons_zero, List.getElem?_cons_succ, IE.den, BE.den, At.den, CA.den, Env.get, Cv.int, Cv.bool, List.cons_append, List.nil_append, List.map_cons, List.map_nil, bindRes, bindEq, Fits, SV.den, denL, place, placeL, eq_t, eq_f, lt_t, lt_f, le_t, le_f, beq_iff_eq, beq_eq_false_iff_ne, ne_eq, reduceCtorEq, b_dec, decide_eq_true_eq, decide_eq_false_iff_not, Bool.not_eq_false', Bool.or_eq_true, Bool.or_eq_false_iff, Bool.and_eq_false_iff, true_iff, false_iff, Bool.false_eq_true, Bool.not_eq_true', Bool.and_eq_true, Bool.not_true, Bool.not_false, List.cons.injEq, Cv.i.injEq, Cv.b.injEq, and_true, true_and, agg_inj, tup_inj, Value.int.injEq, Value.bool.injEq, o1, k1, k2, iz, w0, w1, w2, w3, w4, forall_eq, eq_self, if_true, if_false, true_and, and_true, false_and, and_false, true_or, or_true, false_or, or_false, true_iff, iff_true, false_iff, iff_false, not_true_eq_false, not_false_eq_true, true_implies, false_implies, implies_true, forall_const, decide_true, decide_false, reduceCtorEq]
        rw [hv]
        clear e1 e2 e3 w0 w1 w2 w3 w4 hv
        generalize ftab 2 z * r = A
        generalize ftab 1 z * r = B
        generalize x * m * 10000 = C
        (repeat' (first | intro _ | refine And.intro ?_ ?_ | exact trivial)) <;> omega
def bal_sp : SpecSh := { args := [], res := (.bool .f), sh := [.b] }
set_option maxRecDepth 100000 in
def bal_tree : Tree :=
.call 8 [.i (some ((-9223372036854775808), 9223372036854775807)), .i (some ((-9223372036854775808), 9223372036854775807)), .i (some ((-9223372036854775808), 9223372036854775807)), .i (some ((-9223372036854775808), 9223372036854775807)), .i (some ((-9223372036854775808), 9223372036854775807)), .i (some ((-9223372036854775808), 9223372036854775807))] [.i (.z 2)] <|
.call 10 [.b] [.i (.v 0), .i (.v 1), .i (.v 2), .i (.v 3), .i (.v 4)] <|
.ite (.not (.v 6)) (.call 10 [.b] [.i (.z 0), .i (.z 0), .i (.z 0), .i (.z 0), .i (.z 0)] <|
.ite (.not (.v 7)) (.call 17 [.i (some ((-9223372036854775808), 9223372036854775807)), .i (some ((-9223372036854775808), 9223372036854775807)), .i (some ((-9223372036854775808), 9223372036854775807)), .i (some (0, 18446744073709551615)), .i (some (0, 18446744073709551615)), .i (some ((-9223372036854775808), 9223372036854775807))] [.i (.z 0), .i (.z 0), .i (.z 0), .i (.z 0), .i (.z 0), .i (.z 6)] <|
.ite (.cmp .eq (.v 5) (.z 0)) (.ret (.bool .f)) <|
.ret (.bool .f)) <|
.call 17 [.i (some ((-9223372036854775808), 9223372036854775807)), .i (some ((-9223372036854775808), 9223372036854775807)), .i (some ((-9223372036854775808), 9223372036854775807)), .i (some (0, 18446744073709551615)), .i (some (0, 18446744073709551615)), .i (some ((-9223372036854775808), 9223372036854775807))] [.i (.z 0), .i (.z 0), .i (.z 0), .i (.z 0), .i (.z 0), .i (.z 6)] <|
.ite (.cmp .eq (.v 5) (.z 0)) (.ret (.bool .f)) <|
.ret (.bool .f)) <|
.ite (.not (.cmp .eq (.z 2) (.v 0))) (.call 10 [.b] [.i (.z 0), .i (.z 0), .i (.z 0), .i (.z 0), .i (.z 0)] <|
.ite (.not (.v 7)) (.call 17 [.i (some ((-9223372036854775808), 9223372036854775807)), .i (some ((-9223372036854775808), 9223372036854775807)), .i (some ((-9223372036854775808), 9223372036854775807)), .i (some (0, 18446744073709551615)), .i (some (0, 18446744073709551615)), .i (some ((-9223372036854775808), 9223372036854775807))] [.i (.z 0), .i (.z 0), .i (.z 0), .i (.z 0), .i (.z 0), .i (.z 6)] <|
.ite (.cmp .eq (.v 5) (.z 0)) (.ret (.bool .f)) <|
.ret (.bool .f)) <|
.call 17 [.i (some ((-9223372036854775808), 9223372036854775807)), .i (some ((-9223372036854775808), 9223372036854775807)), .i (some ((-9223372036854775808), 9223372036854775807)), .i (some (0, 18446744073709551615)), .i (some (0, 18446744073709551615)), .i (some ((-9223372036854775808), 9223372036854775807))] [.i (.z 0), .i (.z 0), .i (.z 0), .i (.z 0), .i (.z 0), .i (.z 6)] <|
.ite (.cmp .eq (.v 5) (.z 0)) (.ret (.bool .f)) <|
.ret (.bool .f)) <|
.ite (.cmp .eq (.v 1) (.z 25)) (.call 10 [.b] [.i (.z 0), .i (.z 0), .i (.z 0), .i (.z 0), .i (.z 0)] <|
.ite (.not (.v 7)) (.call 17 [.i (some ((-9223372036854775808), 9223372036854775807)), .i (some ((-9223372036854775808), 9223372036854775807)), .i (some ((-9223372036854775808), 9223372036854775807)), .i (some (0, 18446744073709551615)), .i (some (0, 18446744073709551615)), .i (some ((-9223372036854775808), 9223372036854775807))] [.i (.z 0), .i (.z 0), .i (.z 0), .i (.z 0), .i (.z 0), .i (.z 6)] <|
.ite (.cmp .eq (.v 5) (.z 0)) (.ret (.bool .f)) <|
.ret (.bool .f)) <|
.call 17 [.i (some ((-9223372036854775808), 9223372036854775807)), .i (some ((-9223372036854775808), 9223372036854775807)), .i (some ((-9223372036854775808), 9223372036854775807)), .i (some (0, 18446744073709551615)), .i (some (0, 18446744073709551615)), .i (some ((-9223372036854775808), 9223372036854775807))] [.i (.z 0), .i (.z 0), .i (.z 0), .i (.z 0), .i (.z 0), .i (.z 6)] <|
.ite (.cmp .eq (.v 5) (.z 0)) (.ret (.bool .f)) <|
.ret (.bool .f)) <|
.lett (.addw .i64 (.v 3) (.z 2)) <|
.lett (.addw .i64 (.v 2) (.z 1)) <|
.lett (.addw .i64 (.v 8) (.z 3)) <|
.lett (.addw .i64 (.v 1) (.z 1)) <|
.call 10 [.b] [.i (.v 0), .i (.v 10), .i (.v 9), .i (.v 7), .i (.z 3)] <|
.ite (.not (.v 11)) (.call 17 [.i (some ((-9223372036854775808), 9223372036854775807)), .i (some ((-9223372036854775808), 9223372036854775807)), .i (some ((-9223372036854775808), 9223372036854775807)), .i (some (0, 18446744073709551615)), .i (some (0, 18446744073709551615)), .i (some ((-9223372036854775808), 9223372036854775807))] [.i (.z 0), .i (.z 0), .i (.z 0), .i (.z 0), .i (.z 0), .i (.z 6)] <|
.ite (.cmp .eq (.v 5) (.z 0)) (.ret (.bool .f)) <|
.ret (.bool .f)) <|
.ite (.cmp .eq (.v 10) (.z 25)) (.call 17 [.i (some ((-9223372036854775808), 9223372036854775807)), .i (some ((-9223372036854775808), 9223372036854775807)), .i (some ((-9223372036854775808), 9223372036854775807)), .i (some (0, 18446744073709551615)), .i (some (0, 18446744073709551615)), .i (some ((-9223372036854775808), 9223372036854775807))] [.i (.z 0), .i (.z 0), .i (.z 0), .i (.z 0), .i (.z 0), .i (.z 6)] <|
.ite (.cmp .eq (.v 5) (.z 0)) (.ret (.bool .f)) <|
.ret (.bool .f)) <|
.lett (.addw .i64 (.v 7) (.z 4)) <|
.lett (.addw .i64 (.v 9) (.z 2)) <|
.lett (.addw .i64 (.v 13) (.z 6)) <|
.lett (.addw .i64 (.v 10) (.z 1)) <|
.call 17 [.i (some ((-9223372036854775808), 9223372036854775807)), .i (some ((-9223372036854775808), 9223372036854775807)), .i (some ((-9223372036854775808), 9223372036854775807)), .i (some (0, 18446744073709551615)), .i (some (0, 18446744073709551615)), .i (some ((-9223372036854775808), 9223372036854775807))] [.i (.v 0), .i (.v 15), .i (.v 14), .i (.v 12), .i (.z 6), .i (.z 6)] <|
.ite (.cmp .eq (.v 5) (.z 0)) (.ite (.cmp .eq (.v 21) (.z 0)) (.ite (.cmp .eq (.v 15) (.z 2)) (.ite (.cmp .eq (.v 14) (.z 12)) (.ite (.cmp .eq (.v 12) (.z 6)) (.ite (.cmp .eq (.v 17) (.z 120000)) (.ret (.bool (.cmp .eq (.v 18) (.z 0)))) <|
.ret (.bool .f)) <|
.ret (.bool .f)) <|
.ret (.bool .f)) <|
.ret (.bool .f)) <|
.ret (.bool .f)) <|
.ret (.bool .f)
noncomputable def bal_cx : Ctx := { tys := tys, fns := fns, mets := mets, sps := [(10, bright_sp), (8, bnew_sp), (17, bpoint_sp)], anns := [], trys := [] }
def bal_ivs : List (Option (Int × Int)) := []
set_option maxRecDepth 100000 in
theorem bal_walk : runFn bal_cx 3000 12 Try.f12 bal_sp.args bal_ivs = bal_tree := by kernel_rfl
noncomputable def bal_M : Nat → SpecSem
  | 10 => bright_sem
  | 8 => bnew_sem
  | 17 => bpoint_sem
  | _ => noSem
theorem bal_M10 : bal_M 10 = bright_sem := rfl
theorem bal_M8 : bal_M 8 = bnew_sem := rfl
theorem bal_M17 : bal_M 17 = bpoint_sem := rfl
theorem bal_cxok : CxOK Try.prog bal_cx bal_M := ⟨tysOK, fnsOK, spCons bright_ok <| spCons bnew_ok <| spCons bpoint_ok <| fun _ _ h => spNil h, mixedOK, fun _ _ h => trNil h, fun _ _ h => atNil h, metsOK⟩

def bal_sem : SpecSem := { pre := fun cs => match cs with | [] => True | _ => False, out := fun cs => match cs with | [] => [.b true] | _ => [] }
set_option maxRecDepth 10000 in
set_option maxHeartbeats 16000000 in
theorem bal_ok : SpecOK Try.prog 12 bal_sp bal_sem := by
  refine spec_of_tree bal_cxok Try.func12 (by kernel_rfl) (by kernel_rfl) bal_walk rfl ?_
  intro cs hpre
  match cs, hpre with
  | [], _ =>
    refine ⟨rfl, IvsB.ok (by simp only [bal_ivs, IvsB, Cv.int, and_true] <;> omega), ?_, ?_⟩
    · simp only [bal_sem, bal_sp, Fits]
    · have t1 : BsOK 2 0 0 0 0 := by decide
      have t2 : BsOK 2 1 4 2 3 := by decide
      have t3 : bpE 2 2 12 6 6 6 = 0 := by decide
      have t4 : bpC 2 2 12 = 360000 := by decide
      have t5 : bpN 2 2 = 120000 := by decide
      have t6 : bpD 2 2 12 6 = 0 := by decide
      have k : ∀ j : Int, 0 ≤ j → j ≤ 100 → IsI j := fun j a b => ⟨by omega, by omega⟩
      have k0 := k 0 (by omega) (by omega)
      have k1 := k 1 (by omega) (by omega)
      have k2 := k 2 (by omega) (by omega)
      have k3 := k 3 (by omega) (by omega)
      have k4 := k 4 (by omega) (by omega)
      have k6 := k 6 (by omega) (by omega)
      have k12 := k 12 (by omega) (by omega)
      have y1 : ((1 : Int) ≤ 2 ∧ (2 : Int) ≤ 10) = True := by simp
      have wk : ∀ j : Int, 0 ≤ j → j ≤ 100 → IntKind.i64.wrap j = j := fun j a b => w64 (by omega) (by omega)
      have x1 := wk 1 (by omega) (by omega)
      have x2 := wk 2 (by omega) (by omega)
      have x4 := wk 4 (by omega) (by omega)
      have x6 := wk 6 (by omega) (by omega)
      have x12 := wk 12 (by omega) (by omega)
      simp only [bal_sem, bal_sp, bright_sem, bnew_sem, bpoint_sem, bal_tree, bal_M10, bright_sem, bal_M8, bnew_sem, bal_M17, bpoint_sem, Tree.den, LE.den, Cv.list, placeA, List.getElem?_cons_zero, List.getElem?_cons_succ, IE.den, BE.den, At.den, CA.den, Env.get, Cv.int, Cv.bool, List.cons_append, List.nil_append, List.map_cons, List.map_nil, bindRes, bindEq, Fits, SV.den, denL, place, placeL, eq_t, eq_f, lt_t, lt_f, le_t, le_f, beq_iff_eq, beq_eq_false_iff_ne, ne_eq, reduceCtorEq, b_dec, decide_eq_true_eq, decide_eq_false_iff_not, Bool.not_eq_false', Bool.or_eq_true, Bool.or_eq_false_iff, Bool.and_eq_false_iff, true_iff, false_iff, Bool.false_eq_true, Bool.not_eq_true', Bool.and_eq_true, Bool.not_true, Bool.not_false, List.cons.injEq, Cv.i.injEq, Cv.b.injEq, and_true, true_and, agg_inj, tup_inj, Value.int.injEq, Value.bool.injEq, y1, t1, t2, t3, t4, t5, t6, k0, k1, k2, k3, k4, k6, k12, x1, x2, x4, x6, x12, Int.reduceAdd, Int.reduceSub, Int.reduceMul, Int.reduceLT, Int.reduceLE, Int.reduceEq, Int.reduceNeg, forall_eq, eq_self, if_true, if_false, true_and, and_true, false_and, and_false, true_or, or_true, false_or, or_false, true_iff, iff_true, false_iff, iff_false, not_true_eq_false, not_false_eq_true, true_implies, false_implies, implies_true, forall_const, decide_true, decide_false, reduceCtorEq]
end Go.Proofs.Ytglpelnaeipenaa.X
