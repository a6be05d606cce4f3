/-
  datumref09 by contract: Nearest, Kind, Rows.
-/
import Derived.Test.YtdhhkoghfggkfaaSxFctRef
namespace Go.Proofs.Ytdhhkoghfggkfaa.X
open Go Go.SX
set_option linter.unusedVariables false
set_option linter.unusedSimpArgs false




def rap_sp : SpecSh := { args := [(.int .i64 (.z 0)), (.int .i64 (.z 0))], res := (.int .u64 (.z 0)), sh := [.i (some (0, 18446744073709551615))] }
set_option maxRecDepth 100000 in
def rap_tree : Tree :=
.ite (.cmp .le (.v 0) (.v 1)) (.lett (.subw .u64 (.v 1) (.v 0)) <|
.ret (.int .u64 (.v 2))) <|
.lett (.wrap .u64 (.v 1)) <|
.lett (.subw .u64 (.v 0) (.v 2)) <|
.ret (.int .u64 (.v 3))
noncomputable def rap_cx : Ctx := { tys := tys, fns := fns, sps := [], anns := [], trys := [] }
def rap_ivs : List (Option (Int × Int)) := [some (0, 32670), some ((-9223372036854775808), 9223372036854775807)]
set_option maxRecDepth 100000 in
theorem rap_walk : runFn rap_cx 3000 19 Try.f19 rap_sp.args rap_ivs = rap_tree := by kernel_rfl
noncomputable def rap_M : Nat → SpecSem
  | _ => noSem
theorem rap_cxok : CxOK Try.prog rap_cx rap_M := ⟨tysOK, fnsOK, fun _ _ h => spNil h, mixedOK, fun _ _ h => trNil h, fun _ _ h => atNil h⟩
set_option maxRecDepth 100000 in
set_option maxHeartbeats 8000000 in
theorem rap_den (R RP : Value → Prop) (F : Ex → St → Js → Env → Prop) (J : Js) (x0 : Int) (x1 : Int) : Tree.den rap_M R RP F rap_tree J [(.i x0), (.i x1)] = (
  ((Cmp.den .le x0 x1) = true → ∀ x2 : Int, x2 = (IntKind.u64.wrap (x1 - x0)) →
R (Value.int .u64 x2)) ∧ ((Cmp.den .le x0 x1) = false → ∀ x2 : Int, x2 = (IntKind.u64.wrap x1) →
∀ x3 : Int, x3 = (IntKind.u64.wrap (x0 - x2)) →
R (Value.int .u64 x3))) := by kernel_rfl

def rap_sem : SpecSem := { pre := fun cs => match cs with | [.i a, .i v] => IsI a ∧ IsI v ∧ (0 ≤ a ∧ a ≤ 32670) | _ => False, out := fun cs => match cs with | [.i a, .i v] => [.i (dist a v)] | _ => [] }
set_option maxRecDepth 10000 in
set_option maxHeartbeats 16000000 in
theorem rap_ok : SpecOK Try.prog 19 rap_sp rap_sem := by
  refine spec_of_tree rap_cxok Try.func19 (by kernel_rfl) (by kernel_rfl) rap_walk rfl ?_
  intro cs hpre
  match cs, hpre with
  | [.i a, .i v], ⟨j_a, j_v, hx⟩ =>
    have h_a := j_a
    unfold IsI at h_a
    have h_v := j_v
    unfold IsI at h_v
    refine ⟨rfl, IvsB.ok (by simp only [rap_ivs, IvsB, Cv.int, and_true] <;> omega), ?_, ?_⟩
    · simp only [rap_sem, rap_sp, Fits, and_true]; unfold dist; split <;> omega
    · rw [rap_den]
      simp only [rap_sem, rap_sp, rap_den, Tree.den, LE.den, Cv.list, placeA, List.getElem?_cons_zero, List.getElem?_cons_succ, IE.den, BE.den, At.den, CA.den, Env.get, Cv.int, Cv.bool, List.cons_append, List.nil_append, List.map_cons, List.map_nil, bindRes, bindEq, Fits, SV.den, denL, place, placeL, eq_t, eq_f, lt_t, lt_f, le_t, le_f, beq_iff_eq, beq_eq_false_iff_ne, ne_eq, reduceCtorEq, b_dec, decide_eq_true_eq, decide_eq_false_iff_not, Bool.not_eq_false', Bool.or_eq_true, Bool.or_eq_false_iff, Bool.and_eq_false_iff, true_iff, false_iff, Bool.false_eq_true, Bool.not_eq_true', Bool.and_eq_true, Bool.not_true, Bool.not_false, List.cons.injEq, Cv.i.injEq, Cv.b.injEq, and_true, true_and, agg_inj, tup_inj, Value.int.injEq, Value.bool.injEq, IntKind.wrap, IntKind.bits, IntKind.signed, Bool.false_eq_true, if_false, Int.reducePow, Nat.reduceSub, forall_eq, if_true, if_false, true_and, and_true, false_and, and_false, true_or, or_true, false_or, or_false, true_iff, iff_true, false_iff, iff_false, not_true_eq_false, not_false_eq_true, true_implies, false_implies, implies_true, forall_const, decide_true, decide_false, reduceCtorEq]
      unfold dist
      refine ⟨fun h => ?_, fun h => ?_⟩
      · have hq : ¬ v < a := by omega
        rw [if_neg hq]; omega
      · have hq : v < a := by omega
        rw [if_pos hq]; omega
def rkind_sp : SpecSh := { args := [(.int .i64 (.z 0))], res := (.bool .f), sh := [.b] }
set_option maxRecDepth 100000 in
def rkind_tree : Tree :=
.ite (.cmp .le (.z 0) (.v 0)) (.ret (.bool (.cmp .le (.v 0) (.z 6)))) <|
.ret (.bool .f)
noncomputable def rkind_cx : Ctx := { tys := tys, fns := fns, sps := [], anns := [], trys := [] }
def rkind_ivs : List (Option (Int × Int)) := [some ((-9223372036854775808), 9223372036854775807)]
set_option maxRecDepth 100000 in
theorem rkind_walk : runFn rkind_cx 3000 12 Try.f12 rkind_sp.args rkind_ivs = rkind_tree := by kernel_rfl
noncomputable def rkind_M : Nat → SpecSem
  | _ => noSem
theorem rkind_cxok : CxOK Try.prog rkind_cx rkind_M := ⟨tysOK, fnsOK, fun _ _ h => spNil h, mixedOK, fun _ _ h => trNil h, fun _ _ h => atNil h⟩
set_option maxRecDepth 100000 in
set_option maxHeartbeats 8000000 in
theorem rkind_den (R RP : Value → Prop) (F : Ex → St → Js → Env → Prop) (J : Js) (x0 : Int) : Tree.den rkind_M R RP F rkind_tree J [(.i x0)] = (
  ((Cmp.den .le (0 : Int) x0) = true → R (Value.bool (Cmp.den .le x0 (6 : Int)))) ∧ ((Cmp.den .le (0 : Int) x0) = false → R (Value.bool false))) := by kernel_rfl

def rkind_sem : SpecSem := { pre := fun cs => match cs with | [.i k] => IsI k | _ => False, out := fun cs => match cs with | [.i k] => [.b (decide (0 ≤ k ∧ k ≤ 6))] | _ => [] }
set_option maxRecDepth 10000 in
set_option maxHeartbeats 16000000 in
theorem rkind_ok : SpecOK Try.prog 12 rkind_sp rkind_sem := by
  refine spec_of_tree rkind_cxok Try.func12 (by kernel_rfl) (by kernel_rfl) rkind_walk rfl ?_
  intro cs hpre
  match cs, hpre with
  | [.i k], j_k =>
    have j_k : IsI k := j_k
    have h_k := j_k
    unfold IsI at h_k
    refine ⟨rfl, IvsB.ok (by simp only [rkind_ivs, IvsB, Cv.int, and_true] <;> omega), ?_, ?_⟩
    · simp only [rkind_sem, rkind_sp, Fits]
    · rw [rkind_den]
      simp only [rkind_sem, rkind_sp, rkind_den, Tree.den, LE.den, Cv.list, placeA, List.getElem?_cons_zero, List.getElem?_cons_succ, IE.den, BE.den, At.den, CA.den, Env.get, Cv.int, Cv.bool, List.cons_append, List.nil_append, List.map_cons, List.map_nil, bindRes, bindEq, Fits, SV.den, denL, place, placeL, eq_t, eq_f, lt_t, lt_f, le_t, le_f, beq_iff_eq, beq_eq_false_iff_ne, ne_eq, reduceCtorEq, b_dec, decide_eq_true_eq, decide_eq_false_iff_not, Bool.not_eq_false', Bool.or_eq_true, Bool.or_eq_false_iff, Bool.and_eq_false_iff, true_iff, false_iff, Bool.false_eq_true, Bool.not_eq_true', Bool.and_eq_true, Bool.not_true, Bool.not_false, List.cons.injEq, Cv.i.injEq, Cv.b.injEq, and_true, true_and, agg_inj, tup_inj, Value.int.injEq, Value.bool.injEq]
      constructor <;> intro h <;> omega
def rrows_sp : SpecSh := { args := [(.int .i64 (.z 0))], res := (.bool .f), sh := [.b] }
set_option maxRecDepth 100000 in
def rrows_tree : Tree :=
.ite (.cmp .le (.z 2) (.v 0)) (.ret (.bool (.cmp .le (.v 0) (.z 10)))) <|
.ret (.bool .f)
noncomputable def rrows_cx : Ctx := { tys := tys, fns := fns, sps := [], anns := [], trys := [] }
def rrows_ivs : List (Option (Int × Int)) := [some ((-9223372036854775808), 9223372036854775807)]
set_option maxRecDepth 100000 in
theorem rrows_walk : runFn rrows_cx 3000 10 Try.f10 rrows_sp.args rrows_ivs = rrows_tree := by kernel_rfl
noncomputable def rrows_M : Nat → SpecSem
  | _ => noSem
theorem rrows_cxok : CxOK Try.prog rrows_cx rrows_M := ⟨tysOK, fnsOK, fun _ _ h => spNil h, mixedOK, fun _ _ h => trNil h, fun _ _ h => atNil h⟩
set_option maxRecDepth 100000 in
set_option maxHeartbeats 8000000 in
theorem rrows_den (R RP : Value → Prop) (F : Ex → St → Js → Env → Prop) (J : Js) (x0 : Int) : Tree.den rrows_M R RP F rrows_tree J [(.i x0)] = (
  ((Cmp.den .le (2 : Int) x0) = true → R (Value.bool (Cmp.den .le x0 (10 : Int)))) ∧ ((Cmp.den .le (2 : Int) x0) = false → R (Value.bool false))) := by kernel_rfl

def rrows_sem : SpecSem := { pre := fun cs => match cs with | [.i n] => IsI n | _ => False, out := fun cs => match cs with | [.i n] => [.b (decide (2 ≤ n ∧ n ≤ 10))] | _ => [] }
set_option maxRecDepth 10000 in
set_option maxHeartbeats 16000000 in
theorem rrows_ok : SpecOK Try.prog 10 rrows_sp rrows_sem := by
  refine spec_of_tree rrows_cxok Try.func10 (by kernel_rfl) (by kernel_rfl) rrows_walk rfl ?_
  intro cs hpre
  match cs, hpre with
  | [.i n], j_n =>
    have j_n : IsI n := j_n
    have h_n := j_n
    unfold IsI at h_n
    refine ⟨rfl, IvsB.ok (by simp only [rrows_ivs, IvsB, Cv.int, and_true] <;> omega), ?_, ?_⟩
    · simp only [rrows_sem, rrows_sp, Fits]
    · rw [rrows_den]
      simp only [rrows_sem, rrows_sp, rrows_den, Tree.den, LE.den, Cv.list, placeA, List.getElem?_cons_zero, List.getElem?_cons_succ, IE.den, BE.den, At.den, CA.den, Env.get, Cv.int, Cv.bool, List.cons_append, List.nil_append, List.map_cons, List.map_nil, bindRes, bindEq, Fits, SV.den, denL, place, placeL, eq_t, eq_f, lt_t, lt_f, le_t, le_f, beq_iff_eq, beq_eq_false_iff_ne, ne_eq, reduceCtorEq, b_dec, decide_eq_true_eq, decide_eq_false_iff_not, Bool.not_eq_false', Bool.or_eq_true, Bool.or_eq_false_iff, Bool.and_eq_false_iff, true_iff, false_iff, Bool.false_eq_true, Bool.not_eq_true', Bool.and_eq_true, Bool.not_true, Bool.not_false, List.cons.injEq, Cv.i.injEq, Cv.b.injEq, and_true, true_and, agg_inj, tup_inj, Value.int.injEq, Value.bool.injEq]
      constructor <;> intro h <;> omega
def rnea_sp : SpecSh := { args := [(.int .i64 (.z 0)), (.int .i64 (.z 0))], res := (.int .i64 (.z 0)), sh := [.i (some ((-9223372036854775808), 9223372036854775807))] }
set_option maxRecDepth 100000 in
def rnea_tree : Tree :=
.loop [.i (some (3, 11)), .i (some (2, 10))] [.i (.z 3), .i (.z 2)] <|
.ite (.cmp .le (.v 2) (.z 10)) (.call 11 [.i (some (0, 32670))] [.i (.v 0), .i (.v 2)] <|
.call 19 [.i (some (0, 18446744073709551615))] [.i (.v 4), .i (.v 1)] <|
.call 11 [.i (some (0, 32670))] [.i (.v 0), .i (.v 3)] <|
.call 19 [.i (some (0, 18446744073709551615))] [.i (.v 6), .i (.v 1)] <|
.lett (.ite (.cmp .lt (.v 5) (.v 7)) (.v 2) (.v 3)) <|
.lett (.add (.v 2) (.z 1)) <|
.again 0 [.i (.v 9), .i (.v 8)]) <|
.ret (.int .i64 (.v 3))
noncomputable def rnea_cx : Ctx := { tys := tys, fns := fns, sps := [(11, rfac_sp), (19, rap_sp)], anns := [((13, 3), { slots := [6, 5], cells := [], ivs := [some (3, 11), some (2, 10)] })], trys := [] }
def rnea_ivs : List (Option (Int × Int)) := [some (0, 6), some ((-9223372036854775808), 9223372036854775807)]
set_option maxRecDepth 100000 in
theorem rnea_walk : runFn rnea_cx 3000 13 Try.f13 rnea_sp.args rnea_ivs = rnea_tree := by kernel_rfl
noncomputable def rnea_M : Nat → SpecSem
  | 11 => rfac_sem
  | 19 => rap_sem
  | _ => noSem
theorem rnea_M11 : rnea_M 11 = rfac_sem := rfl
theorem rnea_M19 : rnea_M 19 = rap_sem := rfl
theorem rnea_cxok : CxOK Try.prog rnea_cx rnea_M := ⟨tysOK, fnsOK, spCons rfac_ok <| spCons rap_ok <| fun _ _ h => spNil h, mixedOK, fun _ _ h => trNil h, fun _ _ h => atNil h⟩
set_option maxRecDepth 100000 in
set_option maxHeartbeats 8000000 in
theorem rnea_den (R RP : Value → Prop) (F : Ex → St → Js → Env → Prop) (x0 : Int) (x1 : Int) : Tree.den rnea_M R RP F rnea_tree [] [(.i x0), (.i x1)] = (
  ∃ (I0 : List Cv → Prop) (mu0 : List Cv → Nat), Fits [.i (some ((3), (11))), .i (some ((2), (10)))] [(.i (3 : Int)), (.i (2 : Int))] ∧ I0 [(.i (3 : Int)), (.i (2 : Int))] ∧ (
∀ x2 : Int, (3 : Int) ≤ x2 → x2 ≤ (11 : Int) → ∀ x3 : Int, (2 : Int) ≤ x3 → x3 ≤ (10 : Int) → I0 [.i x2, .i x3] →
((Cmp.den .le x2 (10 : Int)) = true → (rfac_sem.pre [(.i x0), (.i x2)]) ∧ (
∀ x4 : Int, x4 = (Cv.int (Env.get (rfac_sem.out [(.i x0), (.i x2)]) 0)) → (0 : Int) ≤ x4 → x4 ≤ (32670 : Int) →
(rap_sem.pre [(.i x4), (.i x1)]) ∧ (
∀ x5 : Int, x5 = (Cv.int (Env.get (rap_sem.out [(.i x4), (.i x1)]) 0)) → (0 : Int) ≤ x5 → x5 ≤ (18446744073709551615 : Int) →
(rfac_sem.pre [(.i x0), (.i x3)]) ∧ (
∀ x6 : Int, x6 = (Cv.int (Env.get (rfac_sem.out [(.i x0), (.i x3)]) 0)) → (0 : Int) ≤ x6 → x6 ≤ (32670 : Int) →
(rap_sem.pre [(.i x6), (.i x1)]) ∧ (
∀ x7 : Int, x7 = (Cv.int (Env.get (rap_sem.out [(.i x6), (.i x1)]) 0)) → (0 : Int) ≤ x7 → x7 ≤ (18446744073709551615 : Int) →
∀ x8 : Int, x8 = (if (Cmp.den .lt x5 x7) = true then x2 else x3) →
∀ x9 : Int, x9 = (x2 + (1 : Int)) →
Fits [.i (some ((3), (11))), .i (some ((2), (10)))] [(.i x9), (.i x8)] ∧ I0 [(.i x9), (.i x8)] ∧ mu0 [(.i x9), (.i x8)] < mu0 [.i x2, .i x3]))))) ∧ ((Cmp.den .le x2 (10 : Int)) = false → R (Value.int .i64 x3)))) := by kernel_rfl

def rnea_sem : SpecSem := { pre := fun cs => match cs with | [.i k, .i v] => IsI k ∧ IsI v ∧ (0 ≤ k ∧ k ≤ 6) | _ => False, out := fun cs => match cs with | [.i k, .i v] => [.i (nearR k v 8)] | _ => [] }
set_option maxRecDepth 10000 in
set_option maxHeartbeats 16000000 in
theorem rnea_ok : SpecOK Try.prog 13 rnea_sp rnea_sem := by
  refine spec_of_tree rnea_cxok Try.func13 (by kernel_rfl) (by kernel_rfl) rnea_walk rfl ?_
  intro cs hpre
  match cs, hpre with
  | [.i k, .i v], ⟨j_k, j_v, hx⟩ =>
    have h_k := j_k
    unfold IsI at h_k
    have h_v := j_v
    unfold IsI at h_v
    refine ⟨rfl, IvsB.ok (by simp only [rnea_ivs, IvsB, Cv.int, and_true] <;> omega), ?_, ?_⟩
    · have h1 := nearR_rng k v 8
      simp only [rnea_sem, rnea_sp, Fits, and_true]; omega
    · rw [rnea_den]
      have hk := hx
      have I2 : ∀ a : Int, 0 ≤ a → a ≤ 32670 → IsI a := fun a h g => ⟨by omega, by omega⟩
      have I3 : ∀ a : Int, 2 ≤ a → a ≤ 11 → IsI a := fun a h g => ⟨by omega, by omega⟩
      refine ⟨fun cs => match cs with | [.i n, .i b] => b = nearR k v (n - 3).toNat | _ => False, fun cs => match cs with | [.i n, .i b] => (11 - n).toNat | _ => 0, ⟨by omega, by omega, by omega, by omega, trivial⟩, rfl, fun x7 g7 g7' x8 g8 g8' hI => ⟨fun c => ?_, fun c => ?_⟩⟩
      · have hI : x8 = nearR k v (x7 - 3).toNat := hI
        simp only [le_t] at c
        refine ⟨⟨j_k, I3 _ (by omega) (by omega), hk, by omega, by omega⟩, fun x9 e9 a9 b9 => ⟨⟨I2 _ a9 b9, j_v, a9, b9⟩, fun x10 e10 _ _ => ⟨⟨j_k, I3 _ (by omega) (by omega), hk, by omega, by omega⟩, fun x11 e11 a11 b11 => ⟨⟨I2 _ a11 b11, j_v, a11, b11⟩, fun x12 e12 _ _ x13 e13 x14 e14 => ?_⟩⟩⟩⟩
        have e9 : x9 = ftab k x7 := e9
        have e10 : x10 = dist x9 v := e10
        have e11 : x11 = ftab k x8 := e11
        have e12 : x12 = dist x11 v := e12
        obtain ⟨m, rfl⟩ : ∃ m : Nat, x7 = m + 3 := ⟨(x7 - 3).toNat, by omega⟩
        have t1 : ((m : Int) + 3 - 3).toNat = m := by omega
        have t2 : ((m : Int) + 3 + 1 - 3).toNat = m + 1 := by omega
        rw [t1] at hI
        have e13' : x13 = nearR k v (m + 1) := by rw [e13]; simp only [lt_t, nearR, e10, e12, e9, e11, hI]
        have r := nearR_rng k v (m + 1)
        refine ⟨⟨by omega, by omega, by omega, by omega, trivial⟩, ?_, ?_⟩
        · show x13 = nearR k v (x14 - 3).toNat
          rw [e14, t2]; exact e13'
        · show (11 - x14).toNat < (11 - ((m : Int) + 3)).toNat
          omega
      · simp only [le_f] at c
        obtain rfl : x7 = 11 := by omega
        have hI : x8 = nearR k v 8 := hI
        show _ = Value.int .i64 (nearR k v 8)
        rw [hI]
end Go.Proofs.Ytdhhkoghfggkfaa.X
