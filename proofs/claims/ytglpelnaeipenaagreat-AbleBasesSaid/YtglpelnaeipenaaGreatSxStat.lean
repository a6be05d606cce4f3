/-
  The contracts of package stats, and of the reference's (datumref11), for every input in range.
-/
import Derived.Test.YtglpelnaeipenaaGreatSxStatNum2
import Derived.Test.YtglpelnaeipenaaGreatSxTimes
import Derived.Test.YtglpelnaeipenaaGreatSxWide2
namespace Go.Proofs.YtglpelnaeipenaaGreat.X
open Go Go.SX Go.RowKit
set_option linter.unusedVariables false
set_option linter.unusedSimpArgs false





def ssize_sp : SpecSh := { args := [(.int .i64 (.z 0))], res := (.int .u64 (.z 0)), sh := [.i (some (0, 18446744073709551615))] }
set_option maxRecDepth 100000 in
def ssize_tree : Tree :=
.lett (.subw .i64 (.z 0) (.v 0)) <|
.lett (.ite (.cmp .lt (.v 0) (.v 1)) (.v 1) (.v 0)) <|
.lett (.wrap .u64 (.v 2)) <|
.ret (.int .u64 (.v 3))
noncomputable def ssize_cx : Ctx := { tys := tys, fns := fns, mets := mets, sps := [], anns := [], trys := [] }
def ssize_ivs : List (Option (Int × Int)) := [some ((-9223372036854775808), 9223372036854775807)]
set_option maxRecDepth 100000 in
theorem ssize_walk : runFn ssize_cx 3000 50 Tryz.f50 ssize_sp.args ssize_ivs = ssize_tree := by kernel_rfl
noncomputable def ssize_M : Nat → SpecSem
  | _ => noSem
theorem ssize_cxok : CxOK Tryz.prog ssize_cx ssize_M := ⟨tysOK, fnsOK, fun _ _ h => spNil h, mixedOK, fun _ _ h => trNil h, fun _ _ h => atNil h, metsOK⟩

def ssize_sem : SpecSem := { pre := fun cs => match cs with | [.i a] => IsI a | _ => False, out := fun cs => match cs with | [.i a] => [.i (absZ a)] | _ => [] }
set_option maxRecDepth 10000 in
set_option maxHeartbeats 16000000 in
theorem ssize_ok : SpecOK Tryz.prog 50 ssize_sp ssize_sem := by
  refine spec_of_tree ssize_cxok Tryz.func50 (by kernel_rfl) (by kernel_rfl) ssize_walk rfl ?_
  intro cs hpre
  match cs, hpre with
  | [.i a], j_a =>
    have j_a : IsI a := j_a
    have h_a := j_a
    unfold IsI at h_a
    refine ⟨rfl, IvsB.ok (by simp only [ssize_ivs, IvsB, Cv.int, and_true] <;> omega), ?_, ?_⟩
    · simp only [ssize_sem, ssize_sp, Fits, and_true, absZ]; split <;> omega
    · simp only [ssize_sem, ssize_sp, IsU, absZ, wu64_mod, ssize_tree, Tree.den, LE.den, Cv.list, placeA, List.getElem?_cons_zero, List.getElem?_cons_succ, IE.den, BE.den, At.den, CA.den, Env.get, Cv.int, Cv.bool, List.cons_append, List.nil_append, List.map_cons, List.map_nil, bindRes, bindEq, Fits, SV.den, denL, place, placeL, eq_t, eq_f, lt_t, lt_f, le_t, le_f, beq_iff_eq, beq_eq_false_iff_ne, ne_eq, reduceCtorEq, b_dec, decide_eq_true_eq, decide_eq_false_iff_not, Bool.not_eq_false', Bool.or_eq_true, Bool.or_eq_false_iff, Bool.and_eq_false_iff, true_iff, false_iff, Bool.false_eq_true, Bool.not_eq_true', Bool.and_eq_true, Bool.not_true, Bool.not_false, List.cons.injEq, Cv.i.injEq, Cv.b.injEq, and_true, true_and, agg_inj, tup_inj, Value.int.injEq, Value.bool.injEq]
      intro x1 e1 x2 e2 x3 e3
      by_cases k : a < 0
      · have : IntKind.i64.wrap (0 - a) = 0 - a ∨ a = -9223372036854775808 := by
          by_cases q : a = -9223372036854775808
          · exact Or.inr q
          · exact Or.inl (w64 (by omega) (by omega))
        rcases this with q | q
        · rw [q] at e1; rw [if_pos k]; split at e2 <;> omega
        · subst q
          have q : IntKind.i64.wrap (0 - -9223372036854775808) = -9223372036854775808 := by decide
          rw [q] at e1; rw [if_pos k]; split at e2 <;> omega
      · have q : IntKind.i64.wrap (0 - a) = 0 - a := w64 (by omega) (by omega)
        rw [q] at e1; rw [if_neg k]; split at e2 <;> omega
def sspr_sp : SpecSh := { args := [(.agg [(.int .i64 (.z 0)), (.int .i64 (.z 0)), (.int .u64 (.z 0)), (.int .u64 (.z 0)), (.int .i64 (.z 0)), (.int .i64 (.z 0))])], res := (.tup [(.agg [(.int .u64 (.z 0)), (.int .u64 (.z 0))]), (.bool .f)]), sh := [.i (some (0, 18446744073709551615)), .i (some (0, 18446744073709551615)), .b] }
set_option maxRecDepth 100000 in
def sspr_tree : Tree :=
.lett (.wrap .u64 (.v 0)) <|
.call 54 [.i (some (0, 18446744073709551615)), .i (some (0, 18446744073709551615)), .b] [.i (.z 0), .i (.v 6), .i (.v 2), .i (.v 3)] <|
.call 50 [.i (some (0, 18446744073709551615))] [.i (.v 1)] <|
.call 50 [.i (some (0, 18446744073709551615))] [.i (.v 1)] <|
.call 47 [.i (some (0, 18446744073709551615)), .i (some (0, 18446744073709551615))] [.i (.v 10), .i (.v 11)] <|
.call 65 [.i (some (0, 18446744073709551615)), .i (some (0, 18446744073709551615)), .b] [.i (.v 7), .i (.v 8), .i (.v 12), .i (.v 13)] <|
.ret (.tup [(.agg [(.int .u64 (.v 14)), (.int .u64 (.v 15))]), (.bool (.v 16))])
noncomputable def sspr_cx : Ctx := { tys := tys, fns := fns, mets := mets, sps := [(47, mul_sp), (54, times_sp), (65, wsub_sp), (50, ssize_sp)], anns := [], trys := [] }
def sspr_ivs : List (Option (Int × Int)) := [some ((-9223372036854775808), 9223372036854775807), some ((-9223372036854775808), 9223372036854775807), some (0, 18446744073709551615), some (0, 18446744073709551615), some ((-9223372036854775808), 9223372036854775807), some ((-9223372036854775808), 9223372036854775807)]
set_option maxRecDepth 100000 in
theorem sspr_walk : runFn sspr_cx 3000 53 Tryz.f53 sspr_sp.args sspr_ivs = sspr_tree := by kernel_rfl
noncomputable def sspr_M : Nat → SpecSem
  | 47 => mul_sem
  | 54 => times_sem
  | 65 => wsub_sem
  | 50 => ssize_sem
  | _ => noSem
theorem sspr_M47 : sspr_M 47 = mul_sem := rfl
theorem sspr_M54 : sspr_M 54 = times_sem := rfl
theorem sspr_M65 : sspr_M 65 = wsub_sem := rfl
theorem sspr_M50 : sspr_M 50 = ssize_sem := rfl
theorem sspr_cxok : CxOK Tryz.prog sspr_cx sspr_M := ⟨tysOK, fnsOK, spCons mul_ok <| spCons times_ok <| spCons wsub_ok <| spCons ssize_ok <| fun _ _ h => spNil h, mixedOK, fun _ _ h => trNil h, fun _ _ h => atNil h, metsOK⟩
set_option maxRecDepth 100000 in
set_option maxHeartbeats 8000000 in
theorem sspr_den (R RP : Value → Prop) (F : Ex → St → Js → Env → Prop) (J : Js) (x0 : Int) (x1 : Int) (x2 : Int) (x3 : Int) (x4 : Int) (x5 : Int) : Tree.den sspr_M R RP F sspr_tree J [(.i x0), (.i x1), (.i x2), (.i x3), (.i x4), (.i x5)] = (
  ∀ x6 : Int, x6 = (IntKind.u64.wrap x0) →
(times_sem.pre [(.i (0 : Int)), (.i x6), (.i x2), (.i x3)]) ∧ (
∀ x7 : Int, x7 = (Cv.int (Env.get (times_sem.out [(.i (0 : Int)), (.i x6), (.i x2), (.i x3)]) 0)) → (0 : Int) ≤ x7 → x7 ≤ (18446744073709551615 : Int) →
∀ x8 : Int, x8 = (Cv.int (Env.get (times_sem.out [(.i (0 : Int)), (.i x6), (.i x2), (.i x3)]) 1)) → (0 : Int) ≤ x8 → x8 ≤ (18446744073709551615 : Int) →
(ssize_sem.pre [(.i x1)]) ∧ (
∀ x10 : Int, x10 = (Cv.int (Env.get (ssize_sem.out [(.i x1)]) 0)) → (0 : Int) ≤ x10 → x10 ≤ (18446744073709551615 : Int) →
(ssize_sem.pre [(.i x1)]) ∧ (
∀ x11 : Int, x11 = (Cv.int (Env.get (ssize_sem.out [(.i x1)]) 0)) → (0 : Int) ≤ x11 → x11 ≤ (18446744073709551615 : Int) →
(mul_sem.pre [(.i x10), (.i x11)]) ∧ (
∀ x12 : Int, x12 = (Cv.int (Env.get (mul_sem.out [(.i x10), (.i x11)]) 0)) → (0 : Int) ≤ x12 → x12 ≤ (18446744073709551615 : Int) →
∀ x13 : Int, x13 = (Cv.int (Env.get (mul_sem.out [(.i x10), (.i x11)]) 1)) → (0 : Int) ≤ x13 → x13 ≤ (18446744073709551615 : Int) →
(wsub_sem.pre [(.i x7), (.i x8), (.i x12), (.i x13)]) ∧ (
∀ x14 : Int, x14 = (Cv.int (Env.get (wsub_sem.out [(.i x7), (.i x8), (.i x12), (.i x13)]) 0)) → (0 : Int) ≤ x14 → x14 ≤ (18446744073709551615 : Int) →
∀ x15 : Int, x15 = (Cv.int (Env.get (wsub_sem.out [(.i x7), (.i x8), (.i x12), (.i x13)]) 1)) → (0 : Int) ≤ x15 → x15 ≤ (18446744073709551615 : Int) →
R (Value.tuple [(Value.agg [(Value.int .u64 x14), (Value.int .u64 x15)].toArray), (Value.bool (Cv.bool (Env.get (wsub_sem.out [(.i x7), (.i x8), (.i x12), (.i x13)]) 2)))].toArray))))))) := by kernel_rfl

def sspr_sem : SpecSem := { pre := fun cs => match cs with | [.i n, .i s, .i h, .i l, .i mn, .i mx] => IsI n ∧ IsI s ∧ IsU h ∧ IsU l ∧ IsI mn ∧ IsI mx ∧ ((0 ≤ n ∧ n ≤ 1000000000) ∧ (-1000000000000000 ≤ s ∧ s ≤ 1000000000000000) ∧ val h l ≤ 1000000000000000000000) | _ => False, out := fun cs => match cs with | [.i n, .i s, .i h, .i l, .i mn, .i mx] => [.i ((n * val h l - s * s) / 18446744073709551616 % 18446744073709551616), .i ((n * val h l - s * s) % 18446744073709551616), .b (decide (n * val h l < s * s))] | _ => [] }
set_option maxRecDepth 10000 in
set_option maxHeartbeats 16000000 in
theorem sspr_ok : SpecOK Tryz.prog 53 sspr_sp sspr_sem := by
  refine spec_of_tree sspr_cxok Tryz.func53 (by kernel_rfl) (by kernel_rfl) sspr_walk rfl ?_
  intro cs hpre
  match cs, hpre with
  | [.i n, .i s, .i h, .i l, .i mn, .i mx], ⟨j_n, j_s, j_h, j_l, j_mn, j_mx, hx⟩ =>
    have h_n := j_n
    unfold IsI at h_n
    have h_s := j_s
    unfold IsI at h_s
    have h_h := j_h
    unfold IsU at h_h
    have h_l := j_l
    unfold IsU at h_l
    have h_mn := j_mn
    unfold IsI at h_mn
    have h_mx := j_mx
    unfold IsI at h_mx
    refine ⟨rfl, IvsB.ok (by simp only [sspr_ivs, IvsB, Cv.int, and_true] <;> omega), ?_, ?_⟩
    · simp only [sspr_sem, sspr_sp, Fits, and_true]; omega
    · obtain ⟨k1, k2, k3⟩ := hx
      have v0 : 0 ≤ val h l := by unfold val; omega
      have hs := sq_le15 k2
      have hq := nq_le30 k1 ⟨v0, k3⟩
      have a1 : 0 ≤ absZ s ∧ absZ s ≤ 1000000000000000 := by unfold absZ; split <;> omega
      have w1 : IntKind.u64.wrap n = n := wu64 (by omega) (by omega)
      have u1 : IsU n := ⟨by omega, by omega⟩
      have u2 : IsU (absZ s) := ⟨a1.1, by omega⟩
      have u0 : IsU 0 := ⟨by omega, by omega⟩
      have e1 := vq2 hq.1 (by omega)
      have e2 := vq (s * s)
      have ub1 : ∀ x : Int, IsU (x % 18446744073709551616) := fun x => ⟨by omega, by omega⟩
      have ub2 : IsU (s * s / 18446744073709551616) := ⟨by omega, by omega⟩
      rw [sspr_den]
      simp only [sspr_sem, sspr_sp, sspr_den, mul_sem, times_sem, wsub_sem, ssize_sem, Tree.den, LE.den, Cv.list, placeA, List.getElem?_cons_zero, List.getElem?_cons_succ, IE.den, BE.den, At.den, CA.den, Env.get, Cv.int, Cv.bool, List.cons_append, List.nil_append, List.map_cons, List.map_nil, bindRes, bindEq, Fits, SV.den, denL, place, placeL, eq_t, eq_f, lt_t, lt_f, le_t, le_f, beq_iff_eq, beq_eq_false_iff_ne, ne_eq, reduceCtorEq, b_dec, decide_eq_true_eq, decide_eq_false_iff_not, Bool.not_eq_false', Bool.or_eq_true, Bool.or_eq_false_iff, Bool.and_eq_false_iff, true_iff, false_iff, Bool.false_eq_true, Bool.not_eq_true', Bool.and_eq_true, Bool.not_true, Bool.not_false, List.cons.injEq, Cv.i.injEq, Cv.b.injEq, and_true, true_and, agg_inj, tup_inj, Value.int.injEq, Value.bool.injEq]
      simp only [w1, u0, u1, u2, j_h, j_l, j_s, val0, abs_sq, e1, e2, ub1, ub2, forall_eq, eq_self, if_true, if_false, true_and, and_true, false_and, and_false, true_or, or_true, false_or, or_false, true_iff, iff_true, false_iff, iff_false, not_true_eq_false, not_false_eq_true, true_implies, false_implies, implies_true, forall_const, decide_true, decide_false, reduceCtorEq]


def sright_sp : SpecSh := { args := [(.agg [(.int .i64 (.z 0)), (.int .i64 (.z 0)), (.int .u64 (.z 0)), (.int .u64 (.z 0)), (.int .i64 (.z 0)), (.int .i64 (.z 0))])], res := (.bool .f), sh := [.b] }
set_option maxRecDepth 100000 in
def sright_tree : Tree :=
.ite (.and (.cmp .eq (.v 0) (.z 0)) (.and (.cmp .eq (.v 1) (.z 0)) (.and (.cmp .eq (.v 2) (.z 0)) (.and (.cmp .eq (.v 3) (.z 0)) (.and (.cmp .eq (.v 4) (.z 0)) (.cmp .eq (.v 5) (.z 0))))))) (.ret (.bool .t)) <|
.ite (.cmp .lt (.v 0) (.z 1)) (.ret (.bool .f)) <|
.ite (.cmp .lt (.z 1000000000) (.v 0)) (.ret (.bool .f)) <|
.ite (.cmp .lt (.v 5) (.v 4)) (.ret (.bool .f)) <|
.ite (.cmp .le (.z (-1000000)) (.v 4)) (.ite (.not (.cmp .le (.v 4) (.z 1000000))) (.ret (.bool .f)) <|
.ite (.cmp .le (.z (-1000000)) (.v 5)) (.ite (.not (.cmp .le (.v 5) (.z 1000000))) (.ret (.bool .f)) <|
.lett (.mul (.v 0) (.v 4)) <|
.ite (.cmp .lt (.v 1) (.v 6)) (.ret (.bool .f)) <|
.lett (.mul (.v 0) (.v 5)) <|
.ite (.cmp .lt (.v 7) (.v 1)) (.ret (.bool .f)) <|
.call 47 [.i (some (0, 18446744073709551615)), .i (some (0, 18446744073709551615))] [.i (.v 0), .i (.z 1000000000000)] <|
.call 51 [.b] [.i (.v 8), .i (.v 9), .i (.v 2), .i (.v 3)] <|
.ite (.v 10) (.ret (.bool .f)) <|
.call 53 [.i (some (0, 18446744073709551615)), .i (some (0, 18446744073709551615)), .b] [.i (.v 0), .i (.v 1), .i (.v 2), .i (.v 3), .i (.v 4), .i (.v 5)] <|
.ret (.bool (.not (.v 13)))) <|
.ret (.bool .f)) <|
.ret (.bool .f)
noncomputable def sright_cx : Ctx := { tys := tys, fns := fns, mets := mets, sps := [(47, mul_sp), (51, less_sp), (53, sspr_sp)], anns := [], trys := [] }
def sright_ivs : List (Option (Int × Int)) := [some ((-9223372036854775808), 9223372036854775807), some ((-9223372036854775808), 9223372036854775807), some (0, 18446744073709551615), some (0, 18446744073709551615), some ((-9223372036854775808), 9223372036854775807), some ((-9223372036854775808), 9223372036854775807)]
set_option maxRecDepth 100000 in
theorem sright_walk : runFn sright_cx 3000 34 Tryz.f34 sright_sp.args sright_ivs = sright_tree := by kernel_rfl
noncomputable def sright_M : Nat → SpecSem
  | 47 => mul_sem
  | 51 => less_sem
  | 53 => sspr_sem
  | _ => noSem
theorem sright_M47 : sright_M 47 = mul_sem := rfl
theorem sright_M51 : sright_M 51 = less_sem := rfl
theorem sright_M53 : sright_M 53 = sspr_sem := rfl
theorem sright_cxok : CxOK Tryz.prog sright_cx sright_M := ⟨tysOK, fnsOK, spCons mul_ok <| spCons less_ok <| spCons sspr_ok <| fun _ _ h => spNil h, mixedOK, fun _ _ h => trNil h, fun _ _ h => atNil h, metsOK⟩
set_option maxRecDepth 100000 in
set_option maxHeartbeats 8000000 in
theorem sright_den (R RP : Value → Prop) (F : Ex → St → Js → Env → Prop) (J : Js) (x0 : Int) (x1 : Int) (x2 : Int) (x3 : Int) (x4 : Int) (x5 : Int) : Tree.den sright_M R RP F sright_tree J [(.i x0), (.i x1), (.i x2), (.i x3), (.i x4), (.i x5)] = (
  (((Cmp.den .eq x0 (0 : Int)) && ((Cmp.den .eq x1 (0 : Int)) && ((Cmp.den .eq x2 (0 : Int)) && ((Cmp.den .eq x3 (0 : Int)) && ((Cmp.den .eq x4 (0 : Int)) && (Cmp.den .eq x5 (0 : Int))))))) = true → R (Value.bool true)) ∧ (((Cmp.den .eq x0 (0 : Int)) && ((Cmp.den .eq x1 (0 : Int)) && ((Cmp.den .eq x2 (0 : Int)) && ((Cmp.den .eq x3 (0 : Int)) && ((Cmp.den .eq x4 (0 : Int)) && (Cmp.den .eq x5 (0 : Int))))))) = false → ((Cmp.den .lt x0 (1 : Int)) = true → R (Value.bool false)) ∧ ((Cmp.den .lt x0 (1 : Int)) = false → ((Cmp.den .lt (1000000000 : Int) x0) = true → R (Value.bool false)) ∧ ((Cmp.den .lt (1000000000 : Int) x0) = false → ((Cmp.den .lt x5 x4) = true → R (Value.bool false)) ∧ ((Cmp.den .lt x5 x4) = false → ((Cmp.den .le (-1000000 : Int) x4) = true → ((!(Cmp.den .le x4 (1000000 : Int))) = true → R (Value.bool false)) ∧ ((!(Cmp.den .le x4 (1000000 : Int))) = false → ((Cmp.den .le (-1000000 : Int) x5) = true → ((!(Cmp.den .le x5 (1000000 : Int))) = true → R (Value.bool false)) ∧ ((!(Cmp.den .le x5 (1000000 : Int))) = false → ∀ x6 : Int, x6 = (x0 * x4) →
((Cmp.den .lt x1 x6) = true → R (Value.bool false)) ∧ ((Cmp.den .lt x1 x6) = false → ∀ x7 : Int, x7 = (x0 * x5) →
((Cmp.den .lt x7 x1) = true → R (Value.bool false)) ∧ ((Cmp.den .lt x7 x1) = false → (mul_sem.pre [(.i x0), (.i (1000000000000 : Int))]) ∧ (
∀ x8 : Int, x8 = (Cv.int (Env.get (mul_sem.out [(.i x0), (.i (1000000000000 : Int))]) 0)) → (0 : Int) ≤ x8 → x8 ≤ (18446744073709551615 : Int) →
∀ x9 : Int, x9 = (Cv.int (Env.get (mul_sem.out [(.i x0), (.i (1000000000000 : Int))]) 1)) → (0 : Int) ≤ x9 → x9 ≤ (18446744073709551615 : Int) →
(less_sem.pre [(.i x8), (.i x9), (.i x2), (.i x3)]) ∧ (
((Cv.bool (Env.get (less_sem.out [(.i x8), (.i x9), (.i x2), (.i x3)]) 0)) = true → R (Value.bool false)) ∧ ((Cv.bool (Env.get (less_sem.out [(.i x8), (.i x9), (.i x2), (.i x3)]) 0)) = false → (sspr_sem.pre [(.i x0), (.i x1), (.i x2), (.i x3), (.i x4), (.i x5)]) ∧ (
∀ x11 : Int, x11 = (Cv.int (Env.get (sspr_sem.out [(.i x0), (.i x1), (.i x2), (.i x3), (.i x4), (.i x5)]) 0)) → (0 : Int) ≤ x11 → x11 ≤ (18446744073709551615 : Int) →
∀ x12 : Int, x12 = (Cv.int (Env.get (sspr_sem.out [(.i x0), (.i x1), (.i x2), (.i x3), (.i x4), (.i x5)]) 1)) → (0 : Int) ≤ x12 → x12 ≤ (18446744073709551615 : Int) →
R (Value.bool (!(Cv.bool (Env.get (sspr_sem.out [(.i x0), (.i x1), (.i x2), (.i x3), (.i x4), (.i x5)]) 2)))))))))))) ∧ ((Cmp.den .le (-1000000 : Int) x5) = false → R (Value.bool false)))) ∧ ((Cmp.den .le (-1000000 : Int) x4) = false → R (Value.bool false))))))) := by kernel_rfl

def sright_sem : SpecSem := { pre := fun cs => match cs with | [.i n, .i s, .i h, .i l, .i mn, .i mx] => IsI n ∧ IsI s ∧ IsU h ∧ IsU l ∧ IsI mn ∧ IsI mx | _ => False, out := fun cs => match cs with | [.i n, .i s, .i h, .i l, .i mn, .i mx] => [.b (decide (stOK n s h l mn mx))] | _ => [] }
set_option maxRecDepth 10000 in
set_option maxHeartbeats 16000000 in
theorem sright_ok : SpecOK Tryz.prog 34 sright_sp sright_sem := by
  refine spec_of_tree sright_cxok Tryz.func34 (by kernel_rfl) (by kernel_rfl) sright_walk rfl ?_
  intro cs hpre
  match cs, hpre with
  | [.i n, .i s, .i h, .i l, .i mn, .i mx], ⟨j_n, j_s, j_h, j_l, j_mn, j_mx⟩ =>
    have h_n := j_n
    unfold IsI at h_n
    have h_s := j_s
    unfold IsI at h_s
    have h_h := j_h
    unfold IsU at h_h
    have h_l := j_l
    unfold IsU at h_l
    have h_mn := j_mn
    unfold IsI at h_mn
    have h_mx := j_mx
    unfold IsI at h_mx
    refine ⟨rfl, IvsB.ok (by simp only [sright_ivs, IvsB, Cv.int, and_true] <;> omega), ?_, ?_⟩
    · simp only [sright_sem, sright_sp, Fits]
    · rw [sright_den]
      simp only [sright_sem, sright_sp, sright_den, mul_sem, less_sem, sspr_sem, Tree.den, LE.den, Cv.list, placeA, List.getElem?_cons_zero, List.getElem?_cons_succ, IE.den, BE.den, At.den, CA.den, Env.get, Cv.int, Cv.bool, List.cons_append, List.nil_append, List.map_cons, List.map_nil, bindRes, bindEq, Fits, SV.den, denL, place, placeL, eq_t, eq_f, lt_t, lt_f, le_t, le_f, beq_iff_eq, beq_eq_false_iff_ne, ne_eq, reduceCtorEq, b_dec, decide_eq_true_eq, decide_eq_false_iff_not, Bool.not_eq_false', Bool.or_eq_true, Bool.or_eq_false_iff, Bool.and_eq_false_iff, true_iff, false_iff, Bool.false_eq_true, Bool.not_eq_true', Bool.and_eq_true, Bool.not_true, Bool.not_false, List.cons.injEq, Cv.i.injEq, Cv.b.injEq, and_true, true_and, agg_inj, tup_inj, Value.int.injEq, Value.bool.injEq]
      have p1 := st_lo (n := n) (m := mn)
      have p2 := st_hi (n := n) (m := mx)
      have v0 : 0 ≤ val h l := by unfold val; omega
      have hz : val h l = 0 → h = 0 ∧ l = 0 := by unfold val; omega
      have vn := vq (n * 1000000000000)
      simp only [stOK, IsU, IsI]
      generalize n * mn = A at *
      generalize n * mx = B at *
      generalize n * val h l = C at *
      generalize s * s = D at *
      generalize val h l = Q at *
      refine ⟨fun k => Or.inl k, fun k => ⟨fun k1 => by omega, fun k1 => ⟨fun k2 => by omega, fun k2 => ⟨fun k3 => by omega, fun k3 => ⟨fun k4 => ⟨fun k5 => by omega, fun k5 => ⟨fun k6 => ⟨fun k7 => by omega, fun k7 => ?_⟩, fun k6 => by omega⟩⟩, fun k4 => by omega⟩⟩⟩⟩⟩
      intro x6 e6
      refine ⟨fun k8 => by omega, fun k8 => ?_⟩
      intro x7 e7
      refine ⟨fun k9 => by omega, fun k9 => ⟨by omega, ?_⟩⟩
      intro x8 e8 _ _ x9 e9 _ _
      rw [← e8, ← e9] at vn
      rw [vn]
      refine ⟨by omega, fun k10 => by omega, fun k10 => ⟨by omega, ?_⟩⟩
      intros
      omega
/-- one sample's stats, and two rows' -/
def sone_sp : SpecSh := { args := [(.int .i64 (.z 0))], res := (.agg [(.int .i64 (.z 0)), (.int .i64 (.z 0)), (.int .u64 (.z 0)), (.int .u64 (.z 0)), (.int .i64 (.z 0)), (.int .i64 (.z 0))]), sh := [.i (some ((-9223372036854775808), 9223372036854775807)), .i (some ((-9223372036854775808), 9223372036854775807)), .i (some (0, 18446744073709551615)), .i (some (0, 18446744073709551615)), .i (some ((-9223372036854775808), 9223372036854775807)), .i (some ((-9223372036854775808), 9223372036854775807))] }
set_option maxRecDepth 100000 in
def sone_tree : Tree :=
.call 50 [.i (some (0, 18446744073709551615))] [.i (.v 0)] <|
.call 50 [.i (some (0, 18446744073709551615))] [.i (.v 0)] <|
.call 47 [.i (some (0, 18446744073709551615)), .i (some (0, 18446744073709551615))] [.i (.v 1), .i (.v 2)] <|
.ret (.agg [(.int .i64 (.z 1)), (.int .i64 (.v 0)), (.int .u64 (.v 3)), (.int .u64 (.v 4)), (.int .i64 (.v 0)), (.int .i64 (.v 0))])
noncomputable def sone_cx : Ctx := { tys := tys, fns := fns, mets := mets, sps := [(47, mul_sp), (50, ssize_sp)], anns := [], trys := [] }
def sone_ivs : List (Option (Int × Int)) := [some ((-9223372036854775808), 9223372036854775807)]
set_option maxRecDepth 100000 in
theorem sone_walk : runFn sone_cx 3000 32 Tryz.f32 sone_sp.args sone_ivs = sone_tree := by kernel_rfl
noncomputable def sone_M : Nat → SpecSem
  | 47 => mul_sem
  | 50 => ssize_sem
  | _ => noSem
theorem sone_M47 : sone_M 47 = mul_sem := rfl
theorem sone_M50 : sone_M 50 = ssize_sem := rfl
theorem sone_cxok : CxOK Tryz.prog sone_cx sone_M := ⟨tysOK, fnsOK, spCons mul_ok <| spCons ssize_ok <| fun _ _ h => spNil h, mixedOK, fun _ _ h => trNil h, fun _ _ h => atNil h, metsOK⟩
set_option maxRecDepth 100000 in
set_option maxHeartbeats 8000000 in
theorem sone_den (R RP : Value → Prop) (F : Ex → St → Js → Env → Prop) (J : Js) (x0 : Int) : Tree.den sone_M R RP F sone_tree J [(.i x0)] = (
  (ssize_sem.pre [(.i x0)]) ∧ (
∀ x1 : Int, x1 = (Cv.int (Env.get (ssize_sem.out [(.i x0)]) 0)) → (0 : Int) ≤ x1 → x1 ≤ (18446744073709551615 : Int) →
(ssize_sem.pre [(.i x0)]) ∧ (
∀ x2 : Int, x2 = (Cv.int (Env.get (ssize_sem.out [(.i x0)]) 0)) → (0 : Int) ≤ x2 → x2 ≤ (18446744073709551615 : Int) →
(mul_sem.pre [(.i x1), (.i x2)]) ∧ (
∀ x3 : Int, x3 = (Cv.int (Env.get (mul_sem.out [(.i x1), (.i x2)]) 0)) → (0 : Int) ≤ x3 → x3 ≤ (18446744073709551615 : Int) →
∀ x4 : Int, x4 = (Cv.int (Env.get (mul_sem.out [(.i x1), (.i x2)]) 1)) → (0 : Int) ≤ x4 → x4 ≤ (18446744073709551615 : Int) →
R (Value.agg [(Value.int .i64 (1 : Int)), (Value.int .i64 x0), (Value.int .u64 x3), (Value.int .u64 x4), (Value.int .i64 x0), (Value.int .i64 x0)].toArray))))) := by kernel_rfl

def sone_sem : SpecSem := { pre := fun cs => match cs with | [.i x] => IsI x ∧ (-1000000 ≤ x ∧ x ≤ 1000000) | _ => False, out := fun cs => match cs with | [.i x] => [.i 1, .i x, .i 0, .i (x * x), .i x, .i x] | _ => [] }
set_option maxRecDepth 10000 in
set_option maxHeartbeats 16000000 in
theorem sone_ok : SpecOK Tryz.prog 32 sone_sp sone_sem := by
  refine spec_of_tree sone_cxok Tryz.func32 (by kernel_rfl) (by kernel_rfl) sone_walk rfl ?_
  intro cs hpre
  match cs, hpre with
  | [.i x], ⟨j_x, hx⟩ =>
    have h_x := j_x
    unfold IsI at h_x
    refine ⟨rfl, IvsB.ok (by simp only [sone_ivs, IvsB, Cv.int, and_true] <;> omega), ?_, ?_⟩
    · have hs := sq_le15 (s := x) (by omega)
      have hb : x * x ≤ 1000000000000 := by
        have h1 : 0 ≤ absZ x ∧ absZ x ≤ 1000000 := by unfold absZ; split <;> omega
        rw [← abs_sq]
        exact Int.mul_le_mul h1.2 h1.2 h1.1 (by omega)
      simp only [sone_sem, sone_sp, Fits, and_true]
      omega
    · have hs := sq_le15 (s := x) (by omega)
      have hb : x * x ≤ 1000000000000 := by
        have h1 : 0 ≤ absZ x ∧ absZ x ≤ 1000000 := by unfold absZ; split <;> omega
        rw [← abs_sq]
        exact Int.mul_le_mul h1.2 h1.2 h1.1 (by omega)
      have u2 : IsU (absZ x) := by unfold absZ IsU; split <;> omega
      have e1 : x * x / 18446744073709551616 = 0 := by omega
      have e2 : x * x % 18446744073709551616 = x * x := by omega
      rw [sone_den]
      simp only [sone_sem, sone_sp, sone_den, mul_sem, ssize_sem, Tree.den, LE.den, Cv.list, placeA, List.getElem?_cons_zero, List.getElem?_cons_succ, IE.den, BE.den, At.den, CA.den, Env.get, Cv.int, Cv.bool, List.cons_append, List.nil_append, List.map_cons, List.map_nil, bindRes, bindEq, Fits, SV.den, denL, place, placeL, eq_t, eq_f, lt_t, lt_f, le_t, le_f, beq_iff_eq, beq_eq_false_iff_ne, ne_eq, reduceCtorEq, b_dec, decide_eq_true_eq, decide_eq_false_iff_not, Bool.not_eq_false', Bool.or_eq_true, Bool.or_eq_false_iff, Bool.and_eq_false_iff, true_iff, false_iff, Bool.false_eq_true, Bool.not_eq_true', Bool.and_eq_true, Bool.not_true, Bool.not_false, List.cons.injEq, Cv.i.injEq, Cv.b.injEq, and_true, true_and, agg_inj, tup_inj, Value.int.injEq, Value.bool.injEq]
      simp only [j_x, u2, abs_sq, e1, e2, forall_eq, eq_self, if_true, if_false, true_and, and_true, false_and, and_false, true_or, or_true, false_or, or_false, true_iff, iff_true, false_iff, iff_false, not_true_eq_false, not_false_eq_true, true_implies, false_implies, implies_true, forall_const, decide_true, decide_false, reduceCtorEq]
def sjoin_sp : SpecSh := { args := [(.agg [(.int .i64 (.z 0)), (.int .i64 (.z 0)), (.int .u64 (.z 0)), (.int .u64 (.z 0)), (.int .i64 (.z 0)), (.int .i64 (.z 0))]), (.agg [(.int .i64 (.z 0)), (.int .i64 (.z 0)), (.int .u64 (.z 0)), (.int .u64 (.z 0)), (.int .i64 (.z 0)), (.int .i64 (.z 0))])], res := (.agg [(.int .i64 (.z 0)), (.int .i64 (.z 0)), (.int .u64 (.z 0)), (.int .u64 (.z 0)), (.int .i64 (.z 0)), (.int .i64 (.z 0))]), sh := [.i (some ((-9223372036854775808), 9223372036854775807)), .i (some ((-9223372036854775808), 9223372036854775807)), .i (some (0, 18446744073709551615)), .i (some (0, 18446744073709551615)), .i (some ((-9223372036854775808), 9223372036854775807)), .i (some ((-9223372036854775808), 9223372036854775807))] }
set_option maxRecDepth 100000 in
def sjoin_tree : Tree :=
.ite (.cmp .eq (.v 0) (.z 0)) (.ret (.agg [(.int .i64 (.v 6)), (.int .i64 (.v 7)), (.int .u64 (.v 8)), (.int .u64 (.v 9)), (.int .i64 (.v 10)), (.int .i64 (.v 11))])) <|
.ite (.cmp .eq (.v 6) (.z 0)) (.ret (.agg [(.int .i64 (.v 0)), (.int .i64 (.v 1)), (.int .u64 (.v 2)), (.int .u64 (.v 3)), (.int .i64 (.v 4)), (.int .i64 (.v 5))])) <|
.call 48 [.i (some (0, 18446744073709551615)), .i (some (0, 18446744073709551615)), .b] [.i (.v 2), .i (.v 3), .i (.v 8), .i (.v 9)] <|
.lett (.addw .i64 (.v 0) (.v 6)) <|
.lett (.addw .i64 (.v 1) (.v 7)) <|
.lett (.ite (.cmp .lt (.v 10) (.v 4)) (.v 10) (.v 4)) <|
.lett (.ite (.cmp .lt (.v 5) (.v 11)) (.v 11) (.v 5)) <|
.ret (.agg [(.int .i64 (.v 15)), (.int .i64 (.v 16)), (.int .u64 (.v 12)), (.int .u64 (.v 13)), (.int .i64 (.v 17)), (.int .i64 (.v 18))])
noncomputable def sjoin_cx : Ctx := { tys := tys, fns := fns, mets := mets, sps := [(48, wadd_sp)], anns := [], trys := [] }
def sjoin_ivs : List (Option (Int × Int)) := [some ((-9223372036854775808), 9223372036854775807), some ((-9223372036854775808), 9223372036854775807), some (0, 18446744073709551615), some (0, 18446744073709551615), some ((-9223372036854775808), 9223372036854775807), some ((-9223372036854775808), 9223372036854775807), some ((-9223372036854775808), 9223372036854775807), some ((-9223372036854775808), 9223372036854775807), some (0, 18446744073709551615), some (0, 18446744073709551615), some ((-9223372036854775808), 9223372036854775807), some ((-9223372036854775808), 9223372036854775807)]
set_option maxRecDepth 100000 in
theorem sjoin_walk : runFn sjoin_cx 3000 31 Tryz.f31 sjoin_sp.args sjoin_ivs = sjoin_tree := by kernel_rfl
noncomputable def sjoin_M : Nat → SpecSem
  | 48 => wadd_sem
  | _ => noSem
theorem sjoin_M48 : sjoin_M 48 = wadd_sem := rfl
theorem sjoin_cxok : CxOK Tryz.prog sjoin_cx sjoin_M := ⟨tysOK, fnsOK, spCons wadd_ok <| fun _ _ h => spNil h, mixedOK, fun _ _ h => trNil h, fun _ _ h => atNil h, metsOK⟩
set_option maxRecDepth 100000 in
set_option maxHeartbeats 8000000 in
theorem sjoin_den (R RP : Value → Prop) (F : Ex → St → Js → Env → Prop) (J : Js) (x0 : Int) (x1 : Int) (x2 : Int) (x3 : Int) (x4 : Int) (x5 : Int) (x6 : Int) (x7 : Int) (x8 : Int) (x9 : Int) (x10 : Int) (x11 : Int) : Tree.den sjoin_M R RP F sjoin_tree J [(.i x0), (.i x1), (.i x2), (.i x3), (.i x4), (.i x5), (.i x6), (.i x7), (.i x8), (.i x9), (.i x10), (.i x11)] = (
  ((Cmp.den .eq x0 (0 : Int)) = true → R (Value.agg [(Value.int .i64 x6), (Value.int .i64 x7), (Value.int .u64 x8), (Value.int .u64 x9), (Value.int .i64 x10), (Value.int .i64 x11)].toArray)) ∧ ((Cmp.den .eq x0 (0 : Int)) = false → ((Cmp.den .eq x6 (0 : Int)) = true → R (Value.agg [(Value.int .i64 x0), (Value.int .i64 x1), (Value.int .u64 x2), (Value.int .u64 x3), (Value.int .i64 x4), (Value.int .i64 x5)].toArray)) ∧ ((Cmp.den .eq x6 (0 : Int)) = false → (wadd_sem.pre [(.i x2), (.i x3), (.i x8), (.i x9)]) ∧ (
∀ x12 : Int, x12 = (Cv.int (Env.get (wadd_sem.out [(.i x2), (.i x3), (.i x8), (.i x9)]) 0)) → (0 : Int) ≤ x12 → x12 ≤ (18446744073709551615 : Int) →
∀ x13 : Int, x13 = (Cv.int (Env.get (wadd_sem.out [(.i x2), (.i x3), (.i x8), (.i x9)]) 1)) → (0 : Int) ≤ x13 → x13 ≤ (18446744073709551615 : Int) →
∀ x15 : Int, x15 = (IntKind.i64.wrap (x0 + x6)) →
∀ x16 : Int, x16 = (IntKind.i64.wrap (x1 + x7)) →
∀ x17 : Int, x17 = (if (Cmp.den .lt x10 x4) = true then x10 else x4) →
∀ x18 : Int, x18 = (if (Cmp.den .lt x5 x11) = true then x11 else x5) →
R (Value.agg [(Value.int .i64 x15), (Value.int .i64 x16), (Value.int .u64 x12), (Value.int .u64 x13), (Value.int .i64 x17), (Value.int .i64 x18)].toArray))))) := by kernel_rfl

def sjoin_sem : SpecSem := { pre := fun cs => match cs with | [.i n, .i s, .i h, .i l, .i mn, .i mx, .i n2, .i s2, .i h2, .i l2, .i mn2, .i mx2] => IsI n ∧ IsI s ∧ IsU h ∧ IsU l ∧ IsI mn ∧ IsI mx ∧ IsI n2 ∧ IsI s2 ∧ IsU h2 ∧ IsU l2 ∧ IsI mn2 ∧ IsI mx2 ∧ ((-1000000000000000 ≤ n ∧ n ≤ 1000000000000000) ∧ (-1000000000000000 ≤ s ∧ s ≤ 1000000000000000) ∧ (-1000000000000000 ≤ n2 ∧ n2 ≤ 1000000000000000) ∧ (-1000000000000000 ≤ s2 ∧ s2 ≤ 1000000000000000)) | _ => False, out := fun cs => match cs with | [.i n, .i s, .i h, .i l, .i mn, .i mx, .i n2, .i s2, .i h2, .i l2, .i mn2, .i mx2] => [.i (if n = 0 then n2 else if n2 = 0 then n else n + n2), .i (if n = 0 then s2 else if n2 = 0 then s else s + s2), .i (if n = 0 then h2 else if n2 = 0 then h else (val h l + val h2 l2) / 18446744073709551616 % 18446744073709551616), .i (if n = 0 then l2 else if n2 = 0 then l else (val h l + val h2 l2) % 18446744073709551616), .i (if n = 0 then mn2 else if n2 = 0 then mn else if mn2 < mn then mn2 else mn), .i (if n = 0 then mx2 else if n2 = 0 then mx else if mx < mx2 then mx2 else mx)] | _ => [] }
set_option maxRecDepth 10000 in
set_option maxHeartbeats 16000000 in
theorem sjoin_ok : SpecOK Tryz.prog 31 sjoin_sp sjoin_sem := by
  refine spec_of_tree sjoin_cxok Tryz.func31 (by kernel_rfl) (by kernel_rfl) sjoin_walk rfl ?_
  intro cs hpre
  match cs, hpre with
  | [.i n, .i s, .i h, .i l, .i mn, .i mx, .i n2, .i s2, .i h2, .i l2, .i mn2, .i mx2], ⟨j_n, j_s, j_h, j_l, j_mn, j_mx, j_n2, j_s2, j_h2, j_l2, j_mn2, j_mx2, hx⟩ =>
    have h_n := j_n
    unfold IsI at h_n
    have h_s := j_s
    unfold IsI at h_s
    have h_h := j_h
    unfold IsU at h_h
    have h_l := j_l
    unfold IsU at h_l
    have h_mn := j_mn
    unfold IsI at h_mn
    have h_mx := j_mx
    unfold IsI at h_mx
    have h_n2 := j_n2
    unfold IsI at h_n2
    have h_s2 := j_s2
    unfold IsI at h_s2
    have h_h2 := j_h2
    unfold IsU at h_h2
    have h_l2 := j_l2
    unfold IsU at h_l2
    have h_mn2 := j_mn2
    unfold IsI at h_mn2
    have h_mx2 := j_mx2
    unfold IsI at h_mx2
    refine ⟨rfl, IvsB.ok (by simp only [sjoin_ivs, IvsB, Cv.int, and_true] <;> omega), ?_, ?_⟩
    · simp only [sjoin_sem, sjoin_sp, Fits, and_true]
      by_cases k1 : n = 0
      · simp only [k1, if_true]; omega
      · by_cases k2 : n2 = 0
        · simp only [k1, k2, if_true, if_false]; omega
        · simp only [k1, k2, if_false]
          (repeat' refine And.intro ?_ ?_) <;> (try split) <;> omega
    · rw [sjoin_den]
      simp only [sjoin_sem, sjoin_sp, sjoin_den, wadd_sem, Tree.den, LE.den, Cv.list, placeA, List.getElem?_cons_zero, List.getElem?_cons_succ, IE.den, BE.den, At.den, CA.den, Env.get, Cv.int, Cv.bool, List.cons_append, List.nil_append, List.map_cons, List.map_nil, bindRes, bindEq, Fits, SV.den, denL, place, placeL, eq_t, eq_f, lt_t, lt_f, le_t, le_f, beq_iff_eq, beq_eq_false_iff_ne, ne_eq, reduceCtorEq, b_dec, decide_eq_true_eq, decide_eq_false_iff_not, Bool.not_eq_false', Bool.or_eq_true, Bool.or_eq_false_iff, Bool.and_eq_false_iff, true_iff, false_iff, Bool.false_eq_true, Bool.not_eq_true', Bool.and_eq_true, Bool.not_true, Bool.not_false, List.cons.injEq, Cv.i.injEq, Cv.b.injEq, and_true, true_and, agg_inj, tup_inj, Value.int.injEq, Value.bool.injEq]
      have w1 : IntKind.i64.wrap (n + n2) = n + n2 := w64 (by omega) (by omega)
      have w2 : IntKind.i64.wrap (s + s2) = s + s2 := w64 (by omega) (by omega)
      by_cases k1 : n = 0
      · simp only [k1, eq_self, if_true, if_false, true_and, and_true, false_and, and_false, true_or, or_true, false_or, or_false, true_iff, iff_true, false_iff, iff_false, not_true_eq_false, not_false_eq_true, true_implies, false_implies, implies_true, forall_const, decide_true, decide_false, reduceCtorEq]
      · by_cases k2 : n2 = 0
        · simp only [k1, k2, eq_self, if_true, if_false, true_and, and_true, false_and, and_false, true_or, or_true, false_or, or_false, true_iff, iff_true, false_iff, iff_false, not_true_eq_false, not_false_eq_true, true_implies, false_implies, implies_true, forall_const, decide_true, decide_false, reduceCtorEq]
        · simp only [k1, k2, w1, w2, j_h, j_l, j_h2, j_l2, forall_eq, eq_self, if_true, if_false, true_and, and_true, false_and, and_false, true_or, or_true, false_or, or_false, true_iff, iff_true, false_iff, iff_false, not_true_eq_false, not_false_eq_true, true_implies, false_implies, implies_true, forall_const, decide_true, decide_false, reduceCtorEq]



def sspread_sp : SpecSh := { args := [(.agg [(.int .i64 (.z 0)), (.int .i64 (.z 0)), (.int .u64 (.z 0)), (.int .u64 (.z 0)), (.int .i64 (.z 0)), (.int .i64 (.z 0))])], res := (.tup [(.agg [(.int .u64 (.z 0)), (.int .u64 (.z 0))]), (.int .i64 (.z 0))]), sh := [.i (some (0, 18446744073709551615)), .i (some (0, 18446744073709551615)), .i (some ((-9223372036854775808), 9223372036854775807))] }
set_option maxRecDepth 100000 in
def sspread_tree : Tree :=
.call 34 [.b] [.i (.v 0), .i (.v 1), .i (.v 2), .i (.v 3), .i (.v 4), .i (.v 5)] <|
.ite (.not (.v 6)) (.ret (.tup [(.agg [(.int .u64 (.z 0)), (.int .u64 (.z 0))]), (.int .i64 (.z 1))])) <|
.ite (.cmp .eq (.v 0) (.z 0)) (.ret (.tup [(.agg [(.int .u64 (.z 0)), (.int .u64 (.z 0))]), (.int .i64 (.z 6))])) <|
.call 53 [.i (some (0, 18446744073709551615)), .i (some (0, 18446744073709551615)), .b] [.i (.v 0), .i (.v 1), .i (.v 2), .i (.v 3), .i (.v 4), .i (.v 5)] <|
.ret (.tup [(.agg [(.int .u64 (.v 7)), (.int .u64 (.v 8))]), (.int .i64 (.z 0))])
noncomputable def sspread_cx : Ctx := { tys := tys, fns := fns, mets := mets, sps := [(34, sright_sp), (53, sspr_sp)], anns := [], trys := [] }
def sspread_ivs : List (Option (Int × Int)) := [some ((-9223372036854775808), 9223372036854775807), some ((-9223372036854775808), 9223372036854775807), some (0, 18446744073709551615), some (0, 18446744073709551615), some ((-9223372036854775808), 9223372036854775807), some ((-9223372036854775808), 9223372036854775807)]
set_option maxRecDepth 100000 in
theorem sspread_walk : runFn sspread_cx 3000 57 Tryz.f57 sspread_sp.args sspread_ivs = sspread_tree := by kernel_rfl
noncomputable def sspread_M : Nat → SpecSem
  | 34 => sright_sem
  | 53 => sspr_sem
  | _ => noSem
theorem sspread_M34 : sspread_M 34 = sright_sem := rfl
theorem sspread_M53 : sspread_M 53 = sspr_sem := rfl
theorem sspread_cxok : CxOK Tryz.prog sspread_cx sspread_M := ⟨tysOK, fnsOK, spCons sright_ok <| spCons sspr_ok <| fun _ _ h => spNil h, mixedOK, fun _ _ h => trNil h, fun _ _ h => atNil h, metsOK⟩
set_option maxRecDepth 100000 in
set_option maxHeartbeats 8000000 in
theorem sspread_den (R RP : Value → Prop) (F : Ex → St → Js → Env → Prop) (J : Js) (x0 : Int) (x1 : Int) (x2 : Int) (x3 : Int) (x4 : Int) (x5 : Int) : Tree.den sspread_M R RP F sspread_tree J [(.i x0), (.i x1), (.i x2), (.i x3), (.i x4), (.i x5)] = (
  (sright_sem.pre [(.i x0), (.i x1), (.i x2), (.i x3), (.i x4), (.i x5)]) ∧ (
((!(Cv.bool (Env.get (sright_sem.out [(.i x0), (.i x1), (.i x2), (.i x3), (.i x4), (.i x5)]) 0))) = true → R (Value.tuple [(Value.agg [(Value.int .u64 (0 : Int)), (Value.int .u64 (0 : Int))].toArray), (Value.int .i64 (1 : Int))].toArray)) ∧ ((!(Cv.bool (Env.get (sright_sem.out [(.i x0), (.i x1), (.i x2), (.i x3), (.i x4), (.i x5)]) 0))) = false → ((Cmp.den .eq x0 (0 : Int)) = true → R (Value.tuple [(Value.agg [(Value.int .u64 (0 : Int)), (Value.int .u64 (0 : Int))].toArray), (Value.int .i64 (6 : Int))].toArray)) ∧ ((Cmp.den .eq x0 (0 : Int)) = false → (sspr_sem.pre [(.i x0), (.i x1), (.i x2), (.i x3), (.i x4), (.i x5)]) ∧ (
∀ x7 : Int, x7 = (Cv.int (Env.get (sspr_sem.out [(.i x0), (.i x1), (.i x2), (.i x3), (.i x4), (.i x5)]) 0)) → (0 : Int) ≤ x7 → x7 ≤ (18446744073709551615 : Int) →
∀ x8 : Int, x8 = (Cv.int (Env.get (sspr_sem.out [(.i x0), (.i x1), (.i x2), (.i x3), (.i x4), (.i x5)]) 1)) → (0 : Int) ≤ x8 → x8 ≤ (18446744073709551615 : Int) →
R (Value.tuple [(Value.agg [(Value.int .u64 x7), (Value.int .u64 x8)].toArray), (Value.int .i64 (0 : Int))].toArray)))))) := by kernel_rfl

def sspread_sem : SpecSem := { pre := fun cs => match cs with | [.i n, .i s, .i h, .i l, .i mn, .i mx] => IsI n ∧ IsI s ∧ IsU h ∧ IsU l ∧ IsI mn ∧ IsI mx | _ => False, out := fun cs => match cs with | [.i n, .i s, .i h, .i l, .i mn, .i mx] => [.i (if stOK n s h l mn mx then (n * val h l - s * s) / 18446744073709551616 else 0), .i (if stOK n s h l mn mx then (n * val h l - s * s) % 18446744073709551616 else 0), .i (if stOK n s h l mn mx then (if n = 0 then 6 else 0) else 1)] | _ => [] }
set_option maxRecDepth 10000 in
set_option maxHeartbeats 16000000 in
theorem sspread_ok : SpecOK Tryz.prog 57 sspread_sp sspread_sem := by
  refine spec_of_tree sspread_cxok Tryz.func57 (by kernel_rfl) (by kernel_rfl) sspread_walk rfl ?_
  intro cs hpre
  match cs, hpre with
  | [.i n, .i s, .i h, .i l, .i mn, .i mx], ⟨j_n, j_s, j_h, j_l, j_mn, j_mx⟩ =>
    have h_n := j_n
    unfold IsI at h_n
    have h_s := j_s
    unfold IsI at h_s
    have h_h := j_h
    unfold IsU at h_h
    have h_l := j_l
    unfold IsU at h_l
    have h_mn := j_mn
    unfold IsI at h_mn
    have h_mx := j_mx
    unfold IsI at h_mx
    refine ⟨rfl, IvsB.ok (by simp only [sspread_ivs, IvsB, Cv.int, and_true] <;> omega), ?_, ?_⟩
    · simp only [sspread_sem, sspread_sp, Fits, and_true]
      by_cases c1 : stOK n s h l mn mx
      · obtain ⟨a1, a2, a3, a4, a5, a6⟩ := st_rng j_h j_l c1
        have q1 := nq_le30 a1 a3
        have q2 := sq_le15 a2
        simp only [c1, if_true, if_false, true_and, and_true, false_and, and_false, true_or, or_true, false_or, or_false, true_iff, iff_true, false_iff, iff_false, not_true_eq_false, not_false_eq_true, true_implies, false_implies, implies_true, forall_const, decide_true, decide_false, reduceCtorEq]
        refine ⟨by omega, by omega, by split <;> omega⟩
      · simp only [c1, if_true, if_false, true_and, and_true, false_and, and_false, true_or, or_true, false_or, or_false, true_iff, iff_true, false_iff, iff_false, not_true_eq_false, not_false_eq_true, true_implies, false_implies, implies_true, forall_const, decide_true, decide_false, reduceCtorEq]; omega
    · rw [sspread_den]
      simp only [sspread_sem, sspread_sp, sspread_den, sright_sem, sspr_sem, Tree.den, LE.den, Cv.list, placeA, List.getElem?_cons_zero, List.getElem?_cons_succ, IE.den, BE.den, At.den, CA.den, Env.get, Cv.int, Cv.bool, List.cons_append, List.nil_append, List.map_cons, List.map_nil, bindRes, bindEq, Fits, SV.den, denL, place, placeL, eq_t, eq_f, lt_t, lt_f, le_t, le_f, beq_iff_eq, beq_eq_false_iff_ne, ne_eq, reduceCtorEq, b_dec, decide_eq_true_eq, decide_eq_false_iff_not, Bool.not_eq_false', Bool.or_eq_true, Bool.or_eq_false_iff, Bool.and_eq_false_iff, true_iff, false_iff, Bool.false_eq_true, Bool.not_eq_true', Bool.and_eq_true, Bool.not_true, Bool.not_false, List.cons.injEq, Cv.i.injEq, Cv.b.injEq, and_true, true_and, agg_inj, tup_inj, Value.int.injEq, Value.bool.injEq]
      by_cases c1 : stOK n s h l mn mx
      · obtain ⟨a1, a2, a3, a4, a5, a6⟩ := st_rng j_h j_l c1
        have q1 := nq_le30 a1 a3
        have q2 := sq_le15 a2
        have e1 : (n * val h l - s * s) / 18446744073709551616 % 18446744073709551616 = (n * val h l - s * s) / 18446744073709551616 := by omega
        by_cases k1 : n = 0
        · have y : n * val h l - s * s = 0 := by rw [k1, Int.zero_mul] at a4 ⊢; omega
          subst k1
          simp only [c1, y, j_n, j_s, j_h, j_l, j_mn, j_mx, forall_eq, eq_self, f00, if_true, if_false, true_and, and_true, false_and, and_false, true_or, or_true, false_or, or_false, true_iff, iff_true, false_iff, iff_false, not_true_eq_false, not_false_eq_true, true_implies, false_implies, implies_true, forall_const, decide_true, decide_false, reduceCtorEq]
          omega
        · simp only [c1, k1, e1, a1, a2, a3, j_n, j_s, j_h, j_l, j_mn, j_mx, forall_eq, eq_self, f00, if_true, if_false, true_and, and_true, false_and, and_false, true_or, or_true, false_or, or_false, true_iff, iff_true, false_iff, iff_false, not_true_eq_false, not_false_eq_true, true_implies, false_implies, implies_true, forall_const, decide_true, decide_false, reduceCtorEq]
      · simp only [c1, j_n, j_s, j_h, j_l, j_mn, j_mx, forall_eq, eq_self, f00, if_true, if_false, true_and, and_true, false_and, and_false, true_or, or_true, false_or, or_false, true_iff, iff_true, false_iff, iff_false, not_true_eq_false, not_false_eq_true, true_implies, false_implies, implies_true, forall_const, decide_true, decide_false, reduceCtorEq]
def sof_sp : SpecSh := { args := [(.lst 0)], res := (.tup [(.agg [(.int .i64 (.z 0)), (.int .i64 (.z 0)), (.int .u64 (.z 0)), (.int .u64 (.z 0)), (.int .i64 (.z 0)), (.int .i64 (.z 0))]), (.int .i64 (.z 0))]), sh := [.i (some ((-9223372036854775808), 9223372036854775807)), .i (some ((-9223372036854775808), 9223372036854775807)), .i (some (0, 18446744073709551615)), .i (some (0, 18446744073709551615)), .i (some ((-9223372036854775808), 9223372036854775807)), .i (some ((-9223372036854775808), 9223372036854775807)), .i (some ((-9223372036854775808), 9223372036854775807))] }
set_option maxRecDepth 100000 in
def sof_tree : Tree :=
.lett (.len 0) <|
.loop [.i (some (0, 100000)), .i (some (0, 100000)), .i (some ((-100000000000), 100000000000)), .i (some (0, 0)), .i (some (0, 100000000000000000)), .i (some ((-1000000), 1000000)), .i (some ((-1000000), 1000000))] [.i (.z 0), .i (.z 0), .i (.z 0), .i (.z 0), .i (.z 0), .i (.z 0), .i (.z 0)] <|
.ite (.cmp .lt (.v 2) (.v 1)) (.lett (.nth 0 (.v 2)) <|
.ite (.cmp .le (.z (-1000000)) (.v 9)) (.ite (.not (.cmp .le (.v 9) (.z 1000000))) (.ret (.tup [(.agg [(.int .i64 (.z 0)), (.int .i64 (.z 0)), (.int .u64 (.z 0)), (.int .u64 (.z 0)), (.int .i64 (.z 0)), (.int .i64 (.z 0))]), (.int .i64 (.z 3))])) <|
.call 32 [.i (some ((-9223372036854775808), 9223372036854775807)), .i (some ((-9223372036854775808), 9223372036854775807)), .i (some (0, 18446744073709551615)), .i (some (0, 18446744073709551615)), .i (some ((-9223372036854775808), 9223372036854775807)), .i (some ((-9223372036854775808), 9223372036854775807))] [.i (.v 9)] <|
.call 31 [.i (some ((-9223372036854775808), 9223372036854775807)), .i (some ((-9223372036854775808), 9223372036854775807)), .i (some (0, 18446744073709551615)), .i (some (0, 18446744073709551615)), .i (some ((-9223372036854775808), 9223372036854775807)), .i (some ((-9223372036854775808), 9223372036854775807))] [.i (.v 3), .i (.v 4), .i (.v 5), .i (.v 6), .i (.v 7), .i (.v 8), .i (.v 10), .i (.v 11), .i (.v 12), .i (.v 13), .i (.v 14), .i (.v 15)] <|
.lett (.add (.v 2) (.z 1)) <|
.again 0 [.i (.v 22), .i (.v 16), .i (.v 17), .i (.v 18), .i (.v 19), .i (.v 20), .i (.v 21)]) <|
.ret (.tup [(.agg [(.int .i64 (.z 0)), (.int .i64 (.z 0)), (.int .u64 (.z 0)), (.int .u64 (.z 0)), (.int .i64 (.z 0)), (.int .i64 (.z 0))]), (.int .i64 (.z 3))])) <|
.ret (.tup [(.agg [(.int .i64 (.v 3)), (.int .i64 (.v 4)), (.int .u64 (.v 5)), (.int .u64 (.v 6)), (.int .i64 (.v 7)), (.int .i64 (.v 8))]), (.int .i64 (.z 0))])
noncomputable def sof_cx : Ctx := { tys := tys, fns := fns, mets := mets, sps := [(32, sone_sp), (31, sjoin_sp)], anns := [((19, 3), { slots := [9], cells := [(2, 0), (2, 1), (2, 2), (2, 3), (2, 4), (2, 5)], ivs := [some (0, 100000), some (0, 100000), some ((-100000000000), 100000000000), some (0, 0), some (0, 100000000000000000), some ((-1000000), 1000000), some ((-1000000), 1000000)] })], trys := [] }
def sof_ivs : List (Option (Int × Int)) := [none]
set_option maxRecDepth 100000 in
theorem sof_walk : runFn sof_cx 3000 19 Tryz.f19 sof_sp.args sof_ivs = sof_tree := by kernel_rfl
noncomputable def sof_M : Nat → SpecSem
  | 32 => sone_sem
  | 31 => sjoin_sem
  | _ => noSem
theorem sof_M32 : sof_M 32 = sone_sem := rfl
theorem sof_M31 : sof_M 31 = sjoin_sem := rfl
theorem sof_cxok : CxOK Tryz.prog sof_cx sof_M := ⟨tysOK, fnsOK, spCons sone_ok <| spCons sjoin_ok <| fun _ _ h => spNil h, mixedOK, fun _ _ h => trNil h, fun _ _ h => atNil h, metsOK⟩
set_option maxRecDepth 100000 in
set_option maxHeartbeats 8000000 in
theorem sof_den (R RP : Value → Prop) (F : Ex → St → Js → Env → Prop) (x0 : List Int) : Tree.den sof_M R RP F sof_tree [] [(.l x0)] = (
  ∀ x1 : Int, x1 = ((List.length x0 : Int)) →
∃ (I0 : List Cv → Prop) (mu0 : List Cv → Nat), Fits [.i (some ((0), (100000))), .i (some ((0), (100000))), .i (some ((-100000000000), (100000000000))), .i (some ((0), (0))), .i (some ((0), (100000000000000000))), .i (some ((-1000000), (1000000))), .i (some ((-1000000), (1000000)))] [(.i (0 : Int)), (.i (0 : Int)), (.i (0 : Int)), (.i (0 : Int)), (.i (0 : Int)), (.i (0 : Int)), (.i (0 : Int))] ∧ I0 [(.i (0 : Int)), (.i (0 : Int)), (.i (0 : Int)), (.i (0 : Int)), (.i (0 : Int)), (.i (0 : Int)), (.i (0 : Int))] ∧ (
∀ x2 : Int, (0 : Int) ≤ x2 → x2 ≤ (100000 : Int) → ∀ x3 : Int, (0 : Int) ≤ x3 → x3 ≤ (100000 : Int) → ∀ x4 : Int, (-100000000000 : Int) ≤ x4 → x4 ≤ (100000000000 : Int) → ∀ x5 : Int, (0 : Int) ≤ x5 → x5 ≤ (0 : Int) → ∀ x6 : Int, (0 : Int) ≤ x6 → x6 ≤ (100000000000000000 : Int) → ∀ x7 : Int, (-1000000 : Int) ≤ x7 → x7 ≤ (1000000 : Int) → ∀ x8 : Int, (-1000000 : Int) ≤ x8 → x8 ≤ (1000000 : Int) → I0 [.i x2, .i x3, .i x4, .i x5, .i x6, .i x7, .i x8] →
((Cmp.den .lt x2 x1) = true → ∀ x9 : Int, x9 = (List.getD x0 (Int.toNat x2) 0) →
((Cmp.den .le (-1000000 : Int) x9) = true → ((!(Cmp.den .le x9 (1000000 : Int))) = true → R (Value.tuple [(Value.agg [(Value.int .i64 (0 : Int)), (Value.int .i64 (0 : Int)), (Value.int .u64 (0 : Int)), (Value.int .u64 (0 : Int)), (Value.int .i64 (0 : Int)), (Value.int .i64 (0 : Int))].toArray), (Value.int .i64 (3 : Int))].toArray)) ∧ ((!(Cmp.den .le x9 (1000000 : Int))) = false → (sone_sem.pre [(.i x9)]) ∧ (
∀ x10 : Int, x10 = (Cv.int (Env.get (sone_sem.out [(.i x9)]) 0)) → (-9223372036854775808 : Int) ≤ x10 → x10 ≤ (9223372036854775807 : Int) →
∀ x11 : Int, x11 = (Cv.int (Env.get (sone_sem.out [(.i x9)]) 1)) → (-9223372036854775808 : Int) ≤ x11 → x11 ≤ (9223372036854775807 : Int) →
∀ x12 : Int, x12 = (Cv.int (Env.get (sone_sem.out [(.i x9)]) 2)) → (0 : Int) ≤ x12 → x12 ≤ (18446744073709551615 : Int) →
∀ x13 : Int, x13 = (Cv.int (Env.get (sone_sem.out [(.i x9)]) 3)) → (0 : Int) ≤ x13 → x13 ≤ (18446744073709551615 : Int) →
∀ x14 : Int, x14 = (Cv.int (Env.get (sone_sem.out [(.i x9)]) 4)) → (-9223372036854775808 : Int) ≤ x14 → x14 ≤ (9223372036854775807 : Int) →
∀ x15 : Int, x15 = (Cv.int (Env.get (sone_sem.out [(.i x9)]) 5)) → (-9223372036854775808 : Int) ≤ x15 → x15 ≤ (9223372036854775807 : Int) →
(sjoin_sem.pre [(.i x3), (.i x4), (.i x5), (.i x6), (.i x7), (.i x8), (.i x10), (.i x11), (.i x12), (.i x13), (.i x14), (.i x15)]) ∧ (
∀ x16 : Int, x16 = (Cv.int (Env.get (sjoin_sem.out [(.i x3), (.i x4), (.i x5), (.i x6), (.i x7), (.i x8), (.i x10), (.i x11), (.i x12), (.i x13), (.i x14), (.i x15)]) 0)) → (-9223372036854775808 : Int) ≤ x16 → x16 ≤ (9223372036854775807 : Int) →
∀ x17 : Int, x17 = (Cv.int (Env.get (sjoin_sem.out [(.i x3), (.i x4), (.i x5), (.i x6), (.i x7), (.i x8), (.i x10), (.i x11), (.i x12), (.i x13), (.i x14), (.i x15)]) 1)) → (-9223372036854775808 : Int) ≤ x17 → x17 ≤ (9223372036854775807 : Int) →
∀ x18 : Int, x18 = (Cv.int (Env.get (sjoin_sem.out [(.i x3), (.i x4), (.i x5), (.i x6), (.i x7), (.i x8), (.i x10), (.i x11), (.i x12), (.i x13), (.i x14), (.i x15)]) 2)) → (0 : Int) ≤ x18 → x18 ≤ (18446744073709551615 : Int) →
∀ x19 : Int, x19 = (Cv.int (Env.get (sjoin_sem.out [(.i x3), (.i x4), (.i x5), (.i x6), (.i x7), (.i x8), (.i x10), (.i x11), (.i x12), (.i x13), (.i x14), (.i x15)]) 3)) → (0 : Int) ≤ x19 → x19 ≤ (18446744073709551615 : Int) →
∀ x20 : Int, x20 = (Cv.int (Env.get (sjoin_sem.out [(.i x3), (.i x4), (.i x5), (.i x6), (.i x7), (.i x8), (.i x10), (.i x11), (.i x12), (.i x13), (.i x14), (.i x15)]) 4)) → (-9223372036854775808 : Int) ≤ x20 → x20 ≤ (9223372036854775807 : Int) →
∀ x21 : Int, x21 = (Cv.int (Env.get (sjoin_sem.out [(.i x3), (.i x4), (.i x5), (.i x6), (.i x7), (.i x8), (.i x10), (.i x11), (.i x12), (.i x13), (.i x14), (.i x15)]) 5)) → (-9223372036854775808 : Int) ≤ x21 → x21 ≤ (9223372036854775807 : Int) →
∀ x22 : Int, x22 = (x2 + (1 : Int)) →
Fits [.i (some ((0), (100000))), .i (some ((0), (100000))), .i (some ((-100000000000), (100000000000))), .i (some ((0), (0))), .i (some ((0), (100000000000000000))), .i (some ((-1000000), (1000000))), .i (some ((-1000000), (1000000)))] [(.i x22), (.i x16), (.i x17), (.i x18), (.i x19), (.i x20), (.i x21)] ∧ I0 [(.i x22), (.i x16), (.i x17), (.i x18), (.i x19), (.i x20), (.i x21)] ∧ mu0 [(.i x22), (.i x16), (.i x17), (.i x18), (.i x19), (.i x20), (.i x21)] < mu0 [.i x2, .i x3, .i x4, .i x5, .i x6, .i x7, .i x8])))) ∧ ((Cmp.den .le (-1000000 : Int) x9) = false → R (Value.tuple [(Value.agg [(Value.int .i64 (0 : Int)), (Value.int .i64 (0 : Int)), (Value.int .u64 (0 : Int)), (Value.int .u64 (0 : Int)), (Value.int .i64 (0 : Int)), (Value.int .i64 (0 : Int))].toArray), (Value.int .i64 (3 : Int))].toArray))) ∧ ((Cmp.den .lt x2 x1) = false → R (Value.tuple [(Value.agg [(Value.int .i64 x3), (Value.int .i64 x4), (Value.int .u64 x5), (Value.int .u64 x6), (Value.int .i64 x7), (Value.int .i64 x8)].toArray), (Value.int .i64 (0 : Int))].toArray)))) := by kernel_rfl

def sof_sem : SpecSem := { pre := fun cs => match cs with | [.l xs] => InI xs ∧ ((xs.length : Int) ≤ 100000) | _ => False, out := fun cs => match cs with | [.l xs] => [.i (if inS xs then (xs.length : Int) else 0), .i (if inS xs then sumL xs else 0), .i 0, .i (if inS xs then sqL xs else 0), .i (if inS xs then minS xs else 0), .i (if inS xs then maxS xs else 0), .i (if inS xs then 0 else 3)] | _ => [] }
set_option maxRecDepth 10000 in
set_option maxHeartbeats 16000000 in
theorem sof_ok : SpecOK Tryz.prog 19 sof_sp sof_sem := by
  refine spec_of_tree sof_cxok Tryz.func19 (by kernel_rfl) (by kernel_rfl) sof_walk rfl ?_
  intro cs hpre
  match cs, hpre with
  | [.l xs], ⟨j_xs, hx⟩ =>
    refine ⟨rfl, IvsB.ok (by simp only [sof_ivs, IvsB, Cv.int, and_true, j_xs, true_and] <;> omega), ?_, ?_⟩
    · simp only [sof_sem, sof_sp, Fits, and_true]
      by_cases c1 : inS xs
      · have := sts_rng c1 hx
        simp only [c1, if_true, if_false, true_and, and_true, false_and, and_false, true_or, or_true, false_or, or_false, true_iff, iff_true, false_iff, iff_false, not_true_eq_false, not_false_eq_true, true_implies, false_implies, implies_true, forall_const, decide_true, decide_false, reduceCtorEq]; omega
      · simp only [c1, if_true, if_false, true_and, and_true, false_and, and_false, true_or, or_true, false_or, or_false, true_iff, iff_true, false_iff, iff_false, not_true_eq_false, not_false_eq_true, true_implies, false_implies, implies_true, forall_const, decide_true, decide_false, reduceCtorEq]; omega
    · rw [sof_den]
      simp only [sof_sem, sof_sp, sof_den, sone_sem, sjoin_sem, Tree.den, LE.den, Cv.list, placeA, List.getElem?_cons_zero, List.getElem?_cons_succ, IE.den, BE.den, At.den, CA.den, Env.get, Cv.int, Cv.bool, List.cons_append, List.nil_append, List.map_cons, List.map_nil, bindRes, bindEq, Fits, SV.den, denL, place, placeL, eq_t, eq_f, lt_t, lt_f, le_t, le_f, beq_iff_eq, beq_eq_false_iff_ne, ne_eq, reduceCtorEq, b_dec, decide_eq_true_eq, decide_eq_false_iff_not, Bool.not_eq_false', Bool.or_eq_true, Bool.or_eq_false_iff, Bool.and_eq_false_iff, true_iff, false_iff, Bool.false_eq_true, Bool.not_eq_true', Bool.and_eq_true, Bool.not_true, Bool.not_false, List.cons.injEq, Cv.i.injEq, Cv.b.injEq, and_true, true_and, agg_inj, tup_inj, Value.int.injEq, Value.bool.injEq]
      intro x1 e1
      refine ⟨fun vs => match vs with | [.i i, .i n, .i s, .i h, .i l, .i a, .i b] => (n = i ∧ s = sumL (xs.take i.toNat) ∧ l = sqL (xs.take i.toNat) ∧ a = minS (xs.take i.toNat) ∧ b = maxS (xs.take i.toNat)) ∧ inS (xs.take i.toNat) ∧ i ≤ (xs.length : Int) | _ => False, fun vs => match vs with | .i i :: _ => ((xs.length : Int) - i).toNat | _ => 0, by omega, ⟨⟨rfl, rfl, rfl, rfl, rfl⟩, inS_nil, by omega⟩, ?_⟩
      intro x2 l2 g2 x3 l3 g3 x4 l4 g4 x5 l5 g5 x6 l6 g6 x7 l7 g7 x8 l8 g8 hI
      obtain ⟨⟨i1, i2, i3, i4, i5⟩, hin, hle⟩ : (x3 = x2 ∧ x4 = sumL (xs.take x2.toNat) ∧ x6 = sqL (xs.take x2.toNat) ∧ x7 = minS (xs.take x2.toNat) ∧ x8 = maxS (xs.take x2.toNat)) ∧ inS (xs.take x2.toNat) ∧ x2 ≤ (xs.length : Int) := hI
      have z5 : x5 = 0 := by omega
      subst e1 z5
      refine ⟨fun hlt => ?_, fun hge => ?_⟩
      · intro x9 e9
        obtain ⟨n1, n2, n3, n4, n5⟩ := sts_next l2 hlt e9
        have hm := getD_mem l2 hlt
        rw [← e9] at hm
        by_cases k1 : -1000000 ≤ x9 ∧ x9 ≤ 1000000
        · have hin2 : inS (xs.take (x2 + 1).toNat) := by rw [take_snoc l2 hlt, ← e9]; exact inS_snoc hin k1
          have rg := sts_rng hin2 (by omega)
          rw [← i2] at n1
          rw [← i3] at n2
          rw [← i4] at n3
          rw [← i5] at n4
          have sq1 := sq_nonneg x9
          have f1 : (1000000 < x9) = False := eq_false (by omega)
          have f2 : (x9 < -1000000) = False := eq_false (by omega)
          subst i1
          have k5 : IsI x3 := ⟨by omega, by omega⟩
          have k6 : IsI x4 := ⟨by omega, by omega⟩
          have k7 : IsU x6 := ⟨by omega, by omega⟩
          have k8 : IsI x7 := ⟨by omega, by omega⟩
          have k9 : IsI x8 := ⟨by omega, by omega⟩
          have k10 : IsI x9 := ⟨by omega, by omega⟩
          have k11 : IsU (x9 * x9) := ⟨by omega, by omega⟩
          have k12 : IsU 0 := ⟨by omega, by omega⟩
          have k13 : IsI 1 := ⟨by omega, by omega⟩
          have y1 : -1000000000000000 ≤ x3 ∧ x3 ≤ 1000000000000000 := by omega
          have y2 : -1000000000000000 ≤ x4 ∧ x4 ≤ 1000000000000000 := by omega
          have y3 : -1000000000000000 ≤ (1 : Int) ∧ (1 : Int) ≤ 1000000000000000 := by omega
          have y4 : -1000000000000000 ≤ x9 ∧ x9 ≤ 1000000000000000 := by omega
          have q1 : (x6 + x9 * x9) / 18446744073709551616 % 18446744073709551616 = 0 := by omega
          have q2 : (x6 + x9 * x9) % 18446744073709551616 = x6 + x9 * x9 := by omega
          have w1 : IntKind.i64.wrap (x3 + 1) = x3 + 1 := w64 (by omega) (by omega)
          have f3 : ((1 : Int) = 0) = False := by simp
          simp only [k1, f1, f2, f3, k5, k6, k7, k8, k9, k10, k11, k12, k13, y1, y2, y3, y4, val0, q1, q2, w1, forall_eq, eq_self, f00, if_true, if_false, true_and, and_true, false_and, and_false, true_or, or_true, false_or, or_false, true_iff, iff_true, false_iff, iff_false, not_true_eq_false, not_false_eq_true, true_implies, false_implies, implies_true, forall_const, decide_true, decide_false, reduceCtorEq]
          have iz : x3 = 0 → x4 = 0 ∧ x6 = 0 := by
            intro z
            rw [i2, i3, z]
            exact ⟨rfl, rfl⟩
          rw [n1, n2, n3, n4] at rg
          by_cases z : x3 = 0
          · obtain ⟨z4, z6⟩ := iz z
            simp only [z, if_true, if_false, true_and, and_true, false_and, and_false, true_or, or_true, false_or, or_false, true_iff, iff_true, false_iff, iff_false, not_true_eq_false, not_false_eq_true, true_implies, false_implies, implies_true, forall_const, decide_true, decide_false, reduceCtorEq] at n3 n4 rg ⊢
            rw [z] at n1 n2 n5 hin2 hlt
            rw [z4] at n1 rg
            rw [z6] at n2 rg
            intros
            exact ⟨by omega, ⟨⟨rfl, by have q := n1; rw [Int.zero_add x9] at q; exact q.symm, by have q := n2; rw [Int.zero_add (x9 * x9)] at q; exact q.symm, n3.symm, n4.symm⟩, hin2, by omega⟩, by omega⟩
          · simp only [z, if_true, if_false, true_and, and_true, false_and, and_false, true_or, or_true, false_or, or_false, true_iff, iff_true, false_iff, iff_false, not_true_eq_false, not_false_eq_true, true_implies, false_implies, implies_true, forall_const, decide_true, decide_false, reduceCtorEq] at n3 n4 rg ⊢
            generalize (if x9 < x7 then x9 else x7) = M at *
            generalize (if x8 < x9 then x9 else x8) = K at *
            intros
            exact ⟨by omega, ⟨⟨n1.symm, n2.symm, n3.symm, n4.symm⟩, hin2, by omega⟩, by omega⟩
        · have c1 : ¬ inS xs := fun h => k1 (h x9 hm)
          simp only [c1, eq_self, if_true, if_false, true_and, and_true, false_and, and_false, true_or, or_true, false_or, or_false, true_iff, iff_true, false_iff, iff_false, not_true_eq_false, not_false_eq_true, true_implies, false_implies, implies_true, forall_const, decide_true, decide_false, reduceCtorEq]
          omega
      · have ht : xs.take x2.toNat = xs := List.take_of_length_le (by omega)
        rw [ht] at i2 i3 i4 i5 hin
        have z3 : x3 = (xs.length : Int) := by omega
        subst i2 i3 i4 i5 z3
        simp only [hin, eq_self, if_true, if_false, true_and, and_true, false_and, and_false, true_or, or_true, false_or, or_false, true_iff, iff_true, false_iff, iff_false, not_true_eq_false, not_false_eq_true, true_implies, false_implies, implies_true, forall_const, decide_true, decide_false, reduceCtorEq]
end Go.Proofs.YtglpelnaeipenaaGreat.X
