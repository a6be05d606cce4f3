/-
  datumref15: Row, Take, by contract; BaseTakes holds of every input: its contract.
-/
import Derived.Test.YtglpelnaeipenaaSxBsTk2
import Derived.Test.YtglpelnaeipenaaSxBsRef
import Derived.Test.YtglpelnaeipenaaSxStatRefOf
namespace Go.Proofs.Ytglpelnaeipenaa.X
open Go Go.SX
set_option linter.unusedVariables false
set_option linter.unusedSimpArgs false







def rbrow_sp : SpecSh := { args := [(.agg [(.int .i64 (.z 0)), (.int .i64 (.z 0)), (.int .i64 (.z 0)), (.int .i64 (.z 0)), (.int .i64 (.z 0))]), (.lst 0)], res := (.bool .f), sh := [.b] }
set_option maxRecDepth 100000 in
def rbrow_tree : Tree :=
.lett (.len 5) <|
.ite (.cmp .eq (.v 6) (.v 0)) (.call 26 [.b] [.l (.v 5)] <|
.ret (.bool (.v 7))) <|
.ret (.bool .f)
noncomputable def rbrow_cx : Ctx := { tys := tys, fns := fns, mets := mets, sps := [(26, r11in_sp)], anns := [], trys := [] }
def rbrow_ivs : List (Option (Int × Int)) := [some ((-9223372036854775808), 9223372036854775807), some ((-9223372036854775808), 9223372036854775807), some ((-9223372036854775808), 9223372036854775807), some ((-9223372036854775808), 9223372036854775807), some ((-9223372036854775808), 9223372036854775807), none]
set_option maxRecDepth 100000 in
theorem rbrow_walk : runFn rbrow_cx 3000 13 Try.f13 rbrow_sp.args rbrow_ivs = rbrow_tree := by kernel_rfl
noncomputable def rbrow_M : Nat → SpecSem
  | 26 => r11in_sem
  | _ => noSem
theorem rbrow_M26 : rbrow_M 26 = r11in_sem := rfl
theorem rbrow_cxok : CxOK Try.prog rbrow_cx rbrow_M := ⟨tysOK, fnsOK, spCons r11in_ok <| fun _ _ h => spNil h, mixedOK, fun _ _ h => trNil h, fun _ _ h => atNil h, metsOK⟩

def rbrow_sem : SpecSem := { pre := fun cs => match cs with | [.i z, .i m, .i s, .i r, .i a, .l xs] => IsI z ∧ IsI m ∧ IsI s ∧ IsI r ∧ IsI a ∧ InI xs ∧ ((xs.length : Int) ≤ 100000) | _ => False, out := fun cs => match cs with | [.i z, .i m, .i s, .i r, .i a, .l xs] => [.b (decide ((xs.length : Int) = z ∧ inS xs))] | _ => [] }
set_option maxRecDepth 10000 in
set_option maxHeartbeats 16000000 in
theorem rbrow_ok : SpecOK Try.prog 13 rbrow_sp rbrow_sem := by
  refine spec_of_tree rbrow_cxok Try.func13 (by kernel_rfl) (by kernel_rfl) rbrow_walk rfl ?_
  intro cs hpre
  match cs, hpre with
  | [.i z, .i m, .i s, .i r, .i a, .l xs], ⟨j_z, j_m, j_s, j_r, j_a, j_xs, hx⟩ =>
    have h_z := j_z
    unfold IsI at h_z
    have h_m := j_m
    unfold IsI at h_m
    have h_s := j_s
    unfold IsI at h_s
    have h_r := j_r
    unfold IsI at h_r
    have h_a := j_a
    unfold IsI at h_a
    refine ⟨rfl, IvsB.ok (by simp only [rbrow_ivs, IvsB, Cv.int, and_true, j_xs, true_and] <;> omega), ?_, ?_⟩
    · simp only [rbrow_sem, rbrow_sp, Fits]
    · have h1 : InI xs := j_xs
      simp only [rbrow_sem, rbrow_sp, r11in_sem, rbrow_tree, rbrow_M26, r11in_sem, Tree.den, LE.den, Cv.list, placeA, List.getElem?_cons_zero, List.getElem?_cons_succ, IE.den, BE.den, At.den, CA.den, Env.get, Cv.int, Cv.bool, List.cons_append, List.nil_append, List.map_cons, List.map_nil, bindRes, bindEq, Fits, SV.den, denL, place, placeL, eq_t, eq_f, lt_t, lt_f, le_t, le_f, beq_iff_eq, beq_eq_false_iff_ne, ne_eq, reduceCtorEq, b_dec, decide_eq_true_eq, decide_eq_false_iff_not, Bool.not_eq_false', Bool.or_eq_true, Bool.or_eq_false_iff, Bool.and_eq_false_iff, true_iff, false_iff, Bool.false_eq_true, Bool.not_eq_true', Bool.and_eq_true, Bool.not_true, Bool.not_false, List.cons.injEq, Cv.i.injEq, Cv.b.injEq, and_true, true_and, agg_inj, tup_inj, Value.int.injEq, Value.bool.injEq, h1, hx, forall_eq, if_true, if_false, true_and, and_true, false_and, and_false, true_or, or_true, false_or, or_false, true_iff, iff_true, false_iff, iff_false, not_true_eq_false, not_false_eq_true, true_implies, false_implies, implies_true, forall_const, decide_true, decide_false, reduceCtorEq]
      by_cases k : (xs.length : Int) = z
      · simp only [k, eq_self, if_true, if_false, true_and, and_true, false_and, and_false, true_or, or_true, false_or, or_false, true_iff, iff_true, false_iff, iff_false, not_true_eq_false, not_false_eq_true, true_implies, false_implies, implies_true, forall_const, decide_true, decide_false, reduceCtorEq]
      · simp only [k, if_true, if_false, true_and, and_true, false_and, and_false, true_or, or_true, false_or, or_false, true_iff, iff_true, false_iff, iff_false, not_true_eq_false, not_false_eq_true, true_implies, false_implies, implies_true, forall_const, decide_true, decide_false, reduceCtorEq]
theorem mm_one {xs : List Int} (h : (xs.length : Int) = 1) : maxS xs = minS xs := by
  match xs, h with
  | [x], _ => rfl
  | [], h => simp at h
  | _ :: _ :: _, h => simp at h; omega
def rbtake_sp : SpecSh := { args := [(.agg [(.int .i64 (.z 0)), (.int .i64 (.z 0)), (.int .i64 (.z 0)), (.int .i64 (.z 0)), (.int .i64 (.z 0))]), (.lst 0)], res := (.agg [(.int .i64 (.z 0)), (.int .i64 (.z 0)), (.int .i64 (.z 0)), (.int .i64 (.z 0)), (.int .i64 (.z 0))]), sh := [.i (some ((-9223372036854775808), 9223372036854775807)), .i (some ((-9223372036854775808), 9223372036854775807)), .i (some ((-9223372036854775808), 9223372036854775807)), .i (some ((-9223372036854775808), 9223372036854775807)), .i (some ((-9223372036854775808), 9223372036854775807))] }
set_option maxRecDepth 100000 in
def rbtake_tree : Tree :=
.call 27 [.i (some ((-9223372036854775808), 9223372036854775807)), .i (some ((-9223372036854775808), 9223372036854775807)), .i (some (0, 18446744073709551615)), .i (some (0, 18446744073709551615)), .i (some ((-9223372036854775808), 9223372036854775807)), .i (some ((-9223372036854775808), 9223372036854775807))] [.l (.v 5)] <|
.lett (.subw .i64 (.v 11) (.v 10)) <|
.ite (.cmp .eq (.v 0) (.z 1)) (.ite (.cmp .lt (.z 0) (.v 1)) (.lett (.len 5) <|
.ite (.cmp .lt (.z 0) (.v 13)) (.lett (.nth 5 (.z 0)) <|
.lett (.subw .i64 (.v 4) (.v 14)) <|
.lett (.nth 5 (.z 0)) <|
.lett (.subw .i64 (.v 16) (.v 4)) <|
.lett (.ite (.cmp .lt (.v 15) (.v 17)) (.v 17) (.v 15)) <|
.lett (.addw .i64 (.v 1) (.z 1)) <|
.lett (.addw .i64 (.v 2) (.v 7)) <|
.lett (.addw .i64 (.v 3) (.v 18)) <|
.lett (.sub (.v 13) (.z 1)) <|
.ite (.cmp .lt (.v 22) (.v 13)) (.lett (.nth 5 (.v 22)) <|
.ret (.agg [(.int .i64 (.v 0)), (.int .i64 (.v 19)), (.int .i64 (.v 20)), (.int .i64 (.v 21)), (.int .i64 (.v 23))])) <|
.bad 35) <|
.bad 35) <|
.lett (.add (.v 1) (.z 1)) <|
.lett (.addw .i64 (.v 2) (.v 7)) <|
.lett (.addw .i64 (.v 3) (.v 12)) <|
.lett (.len 5) <|
.lett (.sub (.v 16) (.z 1)) <|
.ite (.cmp .le (.z 0) (.v 17)) (.ite (.cmp .lt (.v 17) (.v 16)) (.lett (.nth 5 (.v 17)) <|
.ret (.agg [(.int .i64 (.v 0)), (.int .i64 (.v 13)), (.int .i64 (.v 14)), (.int .i64 (.v 15)), (.int .i64 (.v 18))])) <|
.bad 35) <|
.bad 35) <|
.lett (.addw .i64 (.v 1) (.z 1)) <|
.lett (.addw .i64 (.v 2) (.v 7)) <|
.lett (.addw .i64 (.v 3) (.v 12)) <|
.lett (.len 5) <|
.lett (.sub (.v 16) (.z 1)) <|
.ite (.cmp .le (.z 0) (.v 17)) (.ite (.cmp .lt (.v 17) (.v 16)) (.lett (.nth 5 (.v 17)) <|
.ret (.agg [(.int .i64 (.v 0)), (.int .i64 (.v 13)), (.int .i64 (.v 14)), (.int .i64 (.v 15)), (.int .i64 (.v 18))])) <|
.bad 35) <|
.bad 35
noncomputable def rbtake_cx : Ctx := { tys := tys, fns := fns, mets := mets, sps := [(27, r11of_sp)], anns := [], trys := [] }
def rbtake_ivs : List (Option (Int × Int)) := [some ((-9223372036854775808), 9223372036854775807), some ((-9223372036854775808), 9223372036854775807), some ((-9223372036854775808), 9223372036854775807), some ((-9223372036854775808), 9223372036854775807), some ((-9223372036854775808), 9223372036854775807), none]
set_option maxRecDepth 100000 in
theorem rbtake_walk : runFn rbtake_cx 3000 14 Try.f14 rbtake_sp.args rbtake_ivs = rbtake_tree := by kernel_rfl
noncomputable def rbtake_M : Nat → SpecSem
  | 27 => r11of_sem
  | _ => noSem
theorem rbtake_M27 : rbtake_M 27 = r11of_sem := rfl
theorem rbtake_cxok : CxOK Try.prog rbtake_cx rbtake_M := ⟨tysOK, fnsOK, spCons r11of_ok <| fun _ _ h => spNil h, mixedOK, fun _ _ h => trNil h, fun _ _ h => atNil h, metsOK⟩
set_option maxRecDepth 100000 in
set_option maxHeartbeats 8000000 in
theorem rbtake_den (R RP : Value → Prop) (F : Ex → St → Js → Env → Prop) (J : Js) (x0 : Int) (x1 : Int) (x2 : Int) (x3 : Int) (x4 : Int) (x5 : List Int) : Tree.den rbtake_M R RP F rbtake_tree J [(.i x0), (.i x1), (.i x2), (.i x3), (.i x4), (.l x5)] = (
  (r11of_sem.pre [(.l (x5))]) ∧ (
∀ x6 : Int, x6 = (Cv.int (Env.get (r11of_sem.out [(.l (x5))]) 0)) → (-9223372036854775808 : Int) ≤ x6 → x6 ≤ (9223372036854775807 : Int) →
∀ x7 : Int, x7 = (Cv.int (Env.get (r11of_sem.out [(.l (x5))]) 1)) → (-9223372036854775808 : Int) ≤ x7 → x7 ≤ (9223372036854775807 : Int) →
∀ x8 : Int, x8 = (Cv.int (Env.get (r11of_sem.out [(.l (x5))]) 2)) → (0 : Int) ≤ x8 → x8 ≤ (18446744073709551615 : Int) →
∀ x9 : Int, x9 = (Cv.int (Env.get (r11of_sem.out [(.l (x5))]) 3)) → (0 : Int) ≤ x9 → x9 ≤ (18446744073709551615 : Int) →
∀ x10 : Int, x10 = (Cv.int (Env.get (r11of_sem.out [(.l (x5))]) 4)) → (-9223372036854775808 : Int) ≤ x10 → x10 ≤ (9223372036854775807 : Int) →
∀ x11 : Int, x11 = (Cv.int (Env.get (r11of_sem.out [(.l (x5))]) 5)) → (-9223372036854775808 : Int) ≤ x11 → x11 ≤ (9223372036854775807 : Int) →
∀ x12 : Int, x12 = (IntKind.i64.wrap (x11 - x10)) →
((Cmp.den .eq x0 (1 : Int)) = true → ((Cmp.den .lt (0 : Int) x1) = true → ∀ x13 : Int, x13 = ((List.length x5 : Int)) →
((Cmp.den .lt (0 : Int) x13) = true → ∀ x14 : Int, x14 = (List.getD x5 (Int.toNat (0 : Int)) 0) →
∀ x15 : Int, x15 = (IntKind.i64.wrap (x4 - x14)) →
∀ x16 : Int, x16 = (List.getD x5 (Int.toNat (0 : Int)) 0) →
∀ x17 : Int, x17 = (IntKind.i64.wrap (x16 - x4)) →
∀ x18 : Int, x18 = (if (Cmp.den .lt x15 x17) = true then x17 else x15) →
∀ x19 : Int, x19 = (IntKind.i64.wrap (x1 + (1 : Int))) →
∀ x20 : Int, x20 = (IntKind.i64.wrap (x2 + x7)) →
∀ x21 : Int, x21 = (IntKind.i64.wrap (x3 + x18)) →
∀ x22 : Int, x22 = (x13 - (1 : Int)) →
((Cmp.den .lt x22 x13) = true → ∀ x23 : Int, x23 = (List.getD x5 (Int.toNat x22) 0) →
R (Value.agg [(Value.int .i64 x0), (Value.int .i64 x19), (Value.int .i64 x20), (Value.int .i64 x21), (Value.int .i64 x23)].toArray)) ∧ ((Cmp.den .lt x22 x13) = false → False)) ∧ ((Cmp.den .lt (0 : Int) x13) = false → False)) ∧ ((Cmp.den .lt (0 : Int) x1) = false → ∀ x13 : Int, x13 = (x1 + (1 : Int)) →
∀ x14 : Int, x14 = (IntKind.i64.wrap (x2 + x7)) →
∀ x15 : Int, x15 = (IntKind.i64.wrap (x3 + x12)) →
∀ x16 : Int, x16 = ((List.length x5 : Int)) →
∀ x17 : Int, x17 = (x16 - (1 : Int)) →
((Cmp.den .le (0 : Int) x17) = true → ((Cmp.den .lt x17 x16) = true → ∀ x18 : Int, x18 = (List.getD x5 (Int.toNat x17) 0) →
R (Value.agg [(Value.int .i64 x0), (Value.int .i64 x13), (Value.int .i64 x14), (Value.int .i64 x15), (Value.int .i64 x18)].toArray)) ∧ ((Cmp.den .lt x17 x16) = false → False)) ∧ ((Cmp.den .le (0 : Int) x17) = false → False))) ∧ ((Cmp.den .eq x0 (1 : Int)) = false → ∀ x13 : Int, x13 = (IntKind.i64.wrap (x1 + (1 : Int))) →
∀ x14 : Int, x14 = (IntKind.i64.wrap (x2 + x7)) →
∀ x15 : Int, x15 = (IntKind.i64.wrap (x3 + x12)) →
∀ x16 : Int, x16 = ((List.length x5 : Int)) →
∀ x17 : Int, x17 = (x16 - (1 : Int)) →
((Cmp.den .le (0 : Int) x17) = true → ((Cmp.den .lt x17 x16) = true → ∀ x18 : Int, x18 = (List.getD x5 (Int.toNat x17) 0) →
R (Value.agg [(Value.int .i64 x0), (Value.int .i64 x13), (Value.int .i64 x14), (Value.int .i64 x15), (Value.int .i64 x18)].toArray)) ∧ ((Cmp.den .lt x17 x16) = false → False)) ∧ ((Cmp.den .le (0 : Int) x17) = false → False)))) := by kernel_rfl

def rbtake_sem : SpecSem := { pre := fun cs => match cs with | [.i z, .i m, .i s, .i r, .i a, .l xs] => IsI z ∧ IsI m ∧ IsI s ∧ IsI r ∧ IsI a ∧ InI xs ∧ (BsOK z m s r a ∧ (xs.length : Int) = z ∧ inS xs ∧ m < 25) | _ => False, out := fun cs => match cs with | [.i z, .i m, .i s, .i r, .i a, .l xs] => [.i z, .i (m + 1), .i (s + sumL xs), .i (r + tkR z m a xs), .i (lastS xs)] | _ => [] }
set_option maxRecDepth 10000 in
set_option maxHeartbeats 16000000 in
theorem rbtake_ok : SpecOK Try.prog 14 rbtake_sp rbtake_sem := by
  refine spec_of_tree rbtake_cxok Try.func14 (by kernel_rfl) (by kernel_rfl) rbtake_walk rfl ?_
  intro cs hpre
  match cs, hpre with
  | [.i z, .i m, .i s, .i r, .i a, .l xs], ⟨j_z, j_m, j_s, j_r, j_a, j_xs, hx⟩ =>
    have h_z := j_z
    unfold IsI at h_z
    have h_m := j_m
    unfold IsI at h_m
    have h_s := j_s
    unfold IsI at h_s
    have h_r := j_r
    unfold IsI at h_r
    have h_a := j_a
    unfold IsI at h_a
    refine ⟨rfl, IvsB.ok (by simp only [rbtake_ivs, IvsB, Cv.int, and_true, j_xs, true_and] <;> omega), ?_, ?_⟩
    · obtain ⟨c1, c2, c3, c4⟩ := hx
      have hb := bs_bd c1
      obtain ⟨q1, q2, q3, q4, q5, q6⟩ := c1
      have hr := tkR_rng (z := z) (m := m) c3 (by omega) (by omega) q3
      have hs := (sts_rng c3 (by omega)).1
      have hl := c3 _ (getD_mem (i := (xs.length : Int) - 1) (by omega) (by omega))
      rw [show ((xs.length : Int) - 1).toNat = xs.length - 1 by omega] at hl
      change -1000000 ≤ lastS xs ∧ lastS xs ≤ 1000000 at hl
      simp only [rbtake_sem, rbtake_sp, Fits, and_true]
      omega
    · rw [rbtake_den]
      obtain ⟨c1, c2, c3, c4⟩ := hx
      have hb := bs_bd c1
      obtain ⟨q1, q2, q3, q4, q5, q6⟩ := c1
      have hr := tkR_rng (z := z) (m := m) c3 (by omega) (by omega) q3
      have hs := sts_rng c3 (by omega)
      have h0 := c3 _ (getD_mem (i := 0) (by omega) (by omega))
      rw [show Int.toNat 0 = 0 from rfl] at h0
      have hI : InI xs := j_xs
      have hl : (xs.length : Int) ≤ 100000 := by omega
      have t0 : Int.toNat 0 = 0 := rfl
      have la : xs.getD ((xs.length : Int) - 1).toNat 0 = lastS xs := by rw [show ((xs.length : Int) - 1).toNat = xs.length - 1 by omega]; rfl
      have w1 : IntKind.i64.wrap (maxS xs - minS xs) = maxS xs - minS xs := w64 (by omega) (by omega)
      have w2 : IntKind.i64.wrap (m + 1) = m + 1 := w64 (by omega) (by omega)
      have w3 : IntKind.i64.wrap (s + sumL xs) = s + sumL xs := w64 (by omega) (by omega)
      have w4 : IntKind.i64.wrap (a - xs.getD 0 0) = a - xs.getD 0 0 := w64 (by omega) (by omega)
      have w5 : IntKind.i64.wrap (xs.getD 0 0 - a) = xs.getD 0 0 - a := w64 (by omega) (by omega)
      have w6 : IntKind.i64.wrap (r + tkR z m a xs) = r + tkR z m a xs := w64 (by omega) (by omega)
      have p1 : (0 < (xs.length : Int)) = True := eq_true (by omega)
      have p2 : ((xs.length : Int) ≤ 0) = False := eq_false (by omega)
      have p3 : (0 ≤ (xs.length : Int) - 1) = True := eq_true (by omega)
      have p4 : ((xs.length : Int) - 1 < 0) = False := eq_false (by omega)
      have p5 : ((xs.length : Int) - 1 < (xs.length : Int)) = True := eq_true (by omega)
      have p6 : ((xs.length : Int) ≤ (xs.length : Int) - 1) = False := eq_false (by omega)
      by_cases c5 : z = 1
      · by_cases c6 : 0 < m
        · have ht : (if a - xs.getD 0 0 < xs.getD 0 0 - a then xs.getD 0 0 - a else a - xs.getD 0 0) = tkR z m a xs := by
            unfold tkR apart; rw [if_pos c5, if_neg (show ¬ m = 0 by omega)]; (repeat' split) <;> omega
          have p7 : (m ≤ 0) = False := eq_false (by omega)
          simp only [rbtake_sem, rbtake_sp, r11of_sem, rbtake_den, r11of_sem, Tree.den, LE.den, Cv.list, placeA, List.getElem?_cons_zero, List.getElem?_cons_succ, IE.den, BE.den, At.den, CA.den, Env.get, Cv.int, Cv.bool, List.cons_append, List.nil_append, List.map_cons, List.map_nil, bindRes, bindEq, Fits, SV.den, denL, place, placeL, eq_t, eq_f, lt_t, lt_f, le_t, le_f, beq_iff_eq, beq_eq_false_iff_ne, ne_eq, reduceCtorEq, b_dec, decide_eq_true_eq, decide_eq_false_iff_not, Bool.not_eq_false', Bool.or_eq_true, Bool.or_eq_false_iff, Bool.and_eq_false_iff, true_iff, false_iff, Bool.false_eq_true, Bool.not_eq_true', Bool.and_eq_true, Bool.not_true, Bool.not_false, List.cons.injEq, Cv.i.injEq, Cv.b.injEq, and_true, true_and, agg_inj, tup_inj, Value.int.injEq, Value.bool.injEq, hI, hl, c3, c5, c6, t0, la, w1, w2, w3, w4, w5, ht, w6, p1, p2, p3, p4, p5, p6, p7, forall_eq, eq_self, if_true, if_false, true_and, and_true, false_and, and_false, true_or, or_true, false_or, or_false, true_iff, iff_true, false_iff, iff_false, not_true_eq_false, not_false_eq_true, true_implies, false_implies, implies_true, forall_const, decide_true, decide_false, reduceCtorEq]
          rw [← c5, w6]
          simp only [eq_self, if_true, if_false, true_and, and_true, false_and, and_false, true_or, or_true, false_or, or_false, true_iff, iff_true, false_iff, iff_false, not_true_eq_false, not_false_eq_true, true_implies, false_implies, implies_true, forall_const, decide_true, decide_false, reduceCtorEq]
        · have p7 : (m ≤ 0) = True := eq_true (by omega)
          have ht : maxS xs - minS xs = tkR z m a xs := by
            unfold tkR; rw [if_pos c5, if_pos (show m = 0 by omega), mm_one (by omega)]; omega
          have p8 : (0 < m) = False := eq_false c6
          rw [ht] at w1
          simp only [rbtake_sem, rbtake_sp, r11of_sem, rbtake_den, r11of_sem, Tree.den, LE.den, Cv.list, placeA, List.getElem?_cons_zero, List.getElem?_cons_succ, IE.den, BE.den, At.den, CA.den, Env.get, Cv.int, Cv.bool, List.cons_append, List.nil_append, List.map_cons, List.map_nil, bindRes, bindEq, Fits, SV.den, denL, place, placeL, eq_t, eq_f, lt_t, lt_f, le_t, le_f, beq_iff_eq, beq_eq_false_iff_ne, ne_eq, reduceCtorEq, b_dec, decide_eq_true_eq, decide_eq_false_iff_not, Bool.not_eq_false', Bool.or_eq_true, Bool.or_eq_false_iff, Bool.and_eq_false_iff, true_iff, false_iff, Bool.false_eq_true, Bool.not_eq_true', Bool.and_eq_true, Bool.not_true, Bool.not_false, List.cons.injEq, Cv.i.injEq, Cv.b.injEq, and_true, true_and, agg_inj, tup_inj, Value.int.injEq, Value.bool.injEq, hI, hl, c3, c5, t0, la, ht, w1, w2, w3, w4, w5, w6, p1, p2, p3, p4, p5, p6, p7, p8, forall_eq, eq_self, if_true, if_false, true_and, and_true, false_and, and_false, true_or, or_true, false_or, or_false, true_iff, iff_true, false_iff, iff_false, not_true_eq_false, not_false_eq_true, true_implies, false_implies, implies_true, forall_const, decide_true, decide_false, reduceCtorEq]
          rw [← c5, w1, w6]
          simp only [eq_self, if_true, if_false, true_and, and_true, false_and, and_false, true_or, or_true, false_or, or_false, true_iff, iff_true, false_iff, iff_false, not_true_eq_false, not_false_eq_true, true_implies, false_implies, implies_true, forall_const, decide_true, decide_false, reduceCtorEq]
      · have ht : maxS xs - minS xs = tkR z m a xs := by unfold tkR; rw [if_neg c5]
        rw [ht] at w1
        simp only [rbtake_sem, rbtake_sp, r11of_sem, rbtake_den, r11of_sem, Tree.den, LE.den, Cv.list, placeA, List.getElem?_cons_zero, List.getElem?_cons_succ, IE.den, BE.den, At.den, CA.den, Env.get, Cv.int, Cv.bool, List.cons_append, List.nil_append, List.map_cons, List.map_nil, bindRes, bindEq, Fits, SV.den, denL, place, placeL, eq_t, eq_f, lt_t, lt_f, le_t, le_f, beq_iff_eq, beq_eq_false_iff_ne, ne_eq, reduceCtorEq, b_dec, decide_eq_true_eq, decide_eq_false_iff_not, Bool.not_eq_false', Bool.or_eq_true, Bool.or_eq_false_iff, Bool.and_eq_false_iff, true_iff, false_iff, Bool.false_eq_true, Bool.not_eq_true', Bool.and_eq_true, Bool.not_true, Bool.not_false, List.cons.injEq, Cv.i.injEq, Cv.b.injEq, and_true, true_and, agg_inj, tup_inj, Value.int.injEq, Value.bool.injEq, hI, hl, c3, c5, t0, la, ht, w1, w2, w3, w4, w5, w6, p1, p2, p3, p4, p5, p6, forall_eq, eq_self, if_true, if_false, true_and, and_true, false_and, and_false, true_or, or_true, false_or, or_false, true_iff, iff_true, false_iff, iff_false, not_true_eq_false, not_false_eq_true, true_implies, false_implies, implies_true, forall_const, decide_true, decide_false, reduceCtorEq]
def lbtk_sp : SpecSh := { args := [(.int .i64 (.z 0)), (.agg [(.int .i64 (.z 0)), (.int .i64 (.z 0)), (.int .i64 (.z 0)), (.int .i64 (.z 0)), (.int .i64 (.z 0))]), (.lst 0)], res := (.bool .f), sh := [.b] }
set_option maxRecDepth 100000 in
def lbtk_tree : Tree :=
.lett (.len 6) <|
.lett (.ite (.cmp .lt (.z 12) (.v 7)) (.z 12) (.v 7)) <|
.ite (.cmp .le (.v 8) (.v 7)) (.letl (.sub 6 (.z 0) (.v 8)) <|
.call 8 [.i (some ((-9223372036854775808), 9223372036854775807)), .i (some ((-9223372036854775808), 9223372036854775807)), .i (some ((-9223372036854775808), 9223372036854775807)), .i (some ((-9223372036854775808), 9223372036854775807)), .i (some ((-9223372036854775808), 9223372036854775807)), .i (some ((-9223372036854775808), 9223372036854775807))] [.i (.v 0)] <|
.call 9 [.i (some ((-9223372036854775808), 9223372036854775807)), .i (some ((-9223372036854775808), 9223372036854775807)), .i (some ((-9223372036854775808), 9223372036854775807)), .i (some ((-9223372036854775808), 9223372036854775807)), .i (some ((-9223372036854775808), 9223372036854775807)), .i (some ((-9223372036854775808), 9223372036854775807))] [.i (.v 1), .i (.v 2), .i (.v 3), .i (.v 4), .i (.v 5), .l (.v 9)] <|
.call 10 [.b] [.i (.v 1), .i (.v 2), .i (.v 3), .i (.v 4), .i (.v 5)] <|
.call 11 [.b] [.i (.v 1), .i (.v 2), .i (.v 3), .i (.v 4), .i (.v 5)] <|
.ite (.not (.eqv (.v 22) (.v 23))) (.ret (.bool .f)) <|
.call 12 [.b] [] <|
.ite (.not (.v 24)) (.ret (.bool .f)) <|
.ite (.cmp .lt (.v 0) (.z 1)) (.ite (.not (.cmp .eq (.v 15) (.z 1))) (.ret (.bool .f)) <|
.ite (.not (.and (.cmp .eq (.v 10) (.z 0)) (.and (.cmp .eq (.v 11) (.z 0)) (.and (.cmp .eq (.v 12) (.z 0)) (.and (.cmp .eq (.v 13) (.z 0)) (.cmp .eq (.v 14) (.z 0))))))) (.ret (.bool .f)) <|
.call 11 [.b] [.i (.v 1), .i (.v 2), .i (.v 3), .i (.v 4), .i (.v 5)] <|
.ite (.not (.v 25)) (.ite (.cmp .eq (.v 21) (.z 1)) (.ret (.bool (.and (.cmp .eq (.v 16) (.z 0)) (.and (.cmp .eq (.v 17) (.z 0)) (.and (.cmp .eq (.v 18) (.z 0)) (.and (.cmp .eq (.v 19) (.z 0)) (.cmp .eq (.v 20) (.z 0)))))))) <|
.ret (.bool .f)) <|
.call 13 [.b] [.i (.v 1), .i (.v 2), .i (.v 3), .i (.v 4), .i (.v 5), .l (.v 9)] <|
.ite (.not (.v 26)) (.ite (.cmp .eq (.v 21) (.z 1)) (.ret (.bool (.and (.cmp .eq (.v 16) (.z 0)) (.and (.cmp .eq (.v 17) (.z 0)) (.and (.cmp .eq (.v 18) (.z 0)) (.and (.cmp .eq (.v 19) (.z 0)) (.cmp .eq (.v 20) (.z 0)))))))) <|
.ret (.bool .f)) <|
.ite (.cmp .eq (.v 2) (.z 25)) (.ite (.cmp .eq (.v 21) (.z 11)) (.ret (.bool (.and (.cmp .eq (.v 16) (.z 0)) (.and (.cmp .eq (.v 17) (.z 0)) (.and (.cmp .eq (.v 18) (.z 0)) (.and (.cmp .eq (.v 19) (.z 0)) (.cmp .eq (.v 20) (.z 0)))))))) <|
.ret (.bool .f)) <|
.ite (.cmp .eq (.v 21) (.z 0)) (.call 14 [.i (some ((-9223372036854775808), 9223372036854775807)), .i (some ((-9223372036854775808), 9223372036854775807)), .i (some ((-9223372036854775808), 9223372036854775807)), .i (some ((-9223372036854775808), 9223372036854775807)), .i (some ((-9223372036854775808), 9223372036854775807))] [.i (.v 1), .i (.v 2), .i (.v 3), .i (.v 4), .i (.v 5), .l (.v 9)] <|
.ret (.bool (.and (.cmp .eq (.v 16) (.v 27)) (.and (.cmp .eq (.v 17) (.v 28)) (.and (.cmp .eq (.v 18) (.v 29)) (.and (.cmp .eq (.v 19) (.v 30)) (.cmp .eq (.v 20) (.v 31)))))))) <|
.ret (.bool .f)) <|
.ite (.cmp .lt (.z 10) (.v 0)) (.ite (.not (.cmp .eq (.v 15) (.z 1))) (.ret (.bool .f)) <|
.ite (.not (.and (.cmp .eq (.v 10) (.z 0)) (.and (.cmp .eq (.v 11) (.z 0)) (.and (.cmp .eq (.v 12) (.z 0)) (.and (.cmp .eq (.v 13) (.z 0)) (.cmp .eq (.v 14) (.z 0))))))) (.ret (.bool .f)) <|
.call 11 [.b] [.i (.v 1), .i (.v 2), .i (.v 3), .i (.v 4), .i (.v 5)] <|
.ite (.not (.v 25)) (.ite (.cmp .eq (.v 21) (.z 1)) (.ret (.bool (.and (.cmp .eq (.v 16) (.z 0)) (.and (.cmp .eq (.v 17) (.z 0)) (.and (.cmp .eq (.v 18) (.z 0)) (.and (.cmp .eq (.v 19) (.z 0)) (.cmp .eq (.v 20) (.z 0)))))))) <|
.ret (.bool .f)) <|
.call 13 [.b] [.i (.v 1), .i (.v 2), .i (.v 3), .i (.v 4), .i (.v 5), .l (.v 9)] <|
.ite (.not (.v 26)) (.ite (.cmp .eq (.v 21) (.z 1)) (.ret (.bool (.and (.cmp .eq (.v 16) (.z 0)) (.and (.cmp .eq (.v 17) (.z 0)) (.and (.cmp .eq (.v 18) (.z 0)) (.and (.cmp .eq (.v 19) (.z 0)) (.cmp .eq (.v 20) (.z 0)))))))) <|
.ret (.bool .f)) <|
.ite (.cmp .eq (.v 2) (.z 25)) (.ite (.cmp .eq (.v 21) (.z 11)) (.ret (.bool (.and (.cmp .eq (.v 16) (.z 0)) (.and (.cmp .eq (.v 17) (.z 0)) (.and (.cmp .eq (.v 18) (.z 0)) (.and (.cmp .eq (.v 19) (.z 0)) (.cmp .eq (.v 20) (.z 0)))))))) <|
.ret (.bool .f)) <|
.ite (.cmp .eq (.v 21) (.z 0)) (.call 14 [.i (some ((-9223372036854775808), 9223372036854775807)), .i (some ((-9223372036854775808), 9223372036854775807)), .i (some ((-9223372036854775808), 9223372036854775807)), .i (some ((-9223372036854775808), 9223372036854775807)), .i (some ((-9223372036854775808), 9223372036854775807))] [.i (.v 1), .i (.v 2), .i (.v 3), .i (.v 4), .i (.v 5), .l (.v 9)] <|
.ret (.bool (.and (.cmp .eq (.v 16) (.v 27)) (.and (.cmp .eq (.v 17) (.v 28)) (.and (.cmp .eq (.v 18) (.v 29)) (.and (.cmp .eq (.v 19) (.v 30)) (.cmp .eq (.v 20) (.v 31)))))))) <|
.ret (.bool .f)) <|
.ite (.not (.cmp .eq (.v 15) (.z 0))) (.ret (.bool .f)) <|
.ite (.not (.and (.cmp .eq (.v 10) (.v 0)) (.and (.cmp .eq (.v 11) (.z 0)) (.and (.cmp .eq (.v 12) (.z 0)) (.and (.cmp .eq (.v 13) (.z 0)) (.cmp .eq (.v 14) (.z 0))))))) (.ret (.bool .f)) <|
.call 11 [.b] [.i (.v 1), .i (.v 2), .i (.v 3), .i (.v 4), .i (.v 5)] <|
.ite (.not (.v 25)) (.ite (.cmp .eq (.v 21) (.z 1)) (.ret (.bool (.and (.cmp .eq (.v 16) (.z 0)) (.and (.cmp .eq (.v 17) (.z 0)) (.and (.cmp .eq (.v 18) (.z 0)) (.and (.cmp .eq (.v 19) (.z 0)) (.cmp .eq (.v 20) (.z 0)))))))) <|
.ret (.bool .f)) <|
.call 13 [.b] [.i (.v 1), .i (.v 2), .i (.v 3), .i (.v 4), .i (.v 5), .l (.v 9)] <|
.ite (.not (.v 26)) (.ite (.cmp .eq (.v 21) (.z 1)) (.ret (.bool (.and (.cmp .eq (.v 16) (.z 0)) (.and (.cmp .eq (.v 17) (.z 0)) (.and (.cmp .eq (.v 18) (.z 0)) (.and (.cmp .eq (.v 19) (.z 0)) (.cmp .eq (.v 20) (.z 0)))))))) <|
.ret (.bool .f)) <|
.ite (.cmp .eq (.v 2) (.z 25)) (.ite (.cmp .eq (.v 21) (.z 11)) (.ret (.bool (.and (.cmp .eq (.v 16) (.z 0)) (.and (.cmp .eq (.v 17) (.z 0)) (.and (.cmp .eq (.v 18) (.z 0)) (.and (.cmp .eq (.v 19) (.z 0)) (.cmp .eq (.v 20) (.z 0)))))))) <|
.ret (.bool .f)) <|
.ite (.cmp .eq (.v 21) (.z 0)) (.call 14 [.i (some ((-9223372036854775808), 9223372036854775807)), .i (some ((-9223372036854775808), 9223372036854775807)), .i (some ((-9223372036854775808), 9223372036854775807)), .i (some ((-9223372036854775808), 9223372036854775807)), .i (some ((-9223372036854775808), 9223372036854775807))] [.i (.v 1), .i (.v 2), .i (.v 3), .i (.v 4), .i (.v 5), .l (.v 9)] <|
.ret (.bool (.and (.cmp .eq (.v 16) (.v 27)) (.and (.cmp .eq (.v 17) (.v 28)) (.and (.cmp .eq (.v 18) (.v 29)) (.and (.cmp .eq (.v 19) (.v 30)) (.cmp .eq (.v 20) (.v 31)))))))) <|
.ret (.bool .f)) <|
.bad 120
noncomputable def lbtk_cx : Ctx := { tys := tys, fns := fns, mets := mets, sps := [(10, bright_sp), (8, bnew_sp), (9, btake_sp), (12, bal_sp), (11, rbright_sp), (13, rbrow_sp), (14, rbtake_sp)], anns := [], trys := [] }
def lbtk_ivs : List (Option (Int × Int)) := [some ((-9223372036854775808), 9223372036854775807), some ((-9223372036854775808), 9223372036854775807), some ((-9223372036854775808), 9223372036854775807), some ((-9223372036854775808), 9223372036854775807), some ((-9223372036854775808), 9223372036854775807), some ((-9223372036854775808), 9223372036854775807), none]
set_option maxRecDepth 100000 in
theorem lbtk_walk : runFn lbtk_cx 3000 3 Try.f3 lbtk_sp.args lbtk_ivs = lbtk_tree := by kernel_rfl
noncomputable def lbtk_M : Nat → SpecSem
  | 10 => bright_sem
  | 8 => bnew_sem
  | 9 => btake_sem
  | 12 => bal_sem
  | 11 => rbright_sem
  | 13 => rbrow_sem
  | 14 => rbtake_sem
  | _ => noSem
theorem lbtk_M10 : lbtk_M 10 = bright_sem := rfl
theorem lbtk_M8 : lbtk_M 8 = bnew_sem := rfl
theorem lbtk_M9 : lbtk_M 9 = btake_sem := rfl
theorem lbtk_M12 : lbtk_M 12 = bal_sem := rfl
theorem lbtk_M11 : lbtk_M 11 = rbright_sem := rfl
theorem lbtk_M13 : lbtk_M 13 = rbrow_sem := rfl
theorem lbtk_M14 : lbtk_M 14 = rbtake_sem := rfl
theorem lbtk_cxok : CxOK Try.prog lbtk_cx lbtk_M := ⟨tysOK, fnsOK, spCons bright_ok <| spCons bnew_ok <| spCons btake_ok <| spCons bal_ok <| spCons rbright_ok <| spCons rbrow_ok <| spCons rbtake_ok <| fun _ _ h => spNil h, mixedOK, fun _ _ h => trNil h, fun _ _ h => atNil h, metsOK⟩
set_option maxRecDepth 100000 in
set_option maxHeartbeats 8000000 in
theorem lbtk_den (R RP : Value → Prop) (F : Ex → St → Js → Env → Prop) (J : Js) (x0 : Int) (x1 : Int) (x2 : Int) (x3 : Int) (x4 : Int) (x5 : Int) (x6 : List Int) : Tree.den lbtk_M R RP F lbtk_tree J [(.i x0), (.i x1), (.i x2), (.i x3), (.i x4), (.i x5), (.l x6)] = (
  ∀ x7 : Int, x7 = ((List.length x6 : Int)) →
∀ x8 : Int, x8 = (if (Cmp.den .lt (12 : Int) x7) = true then (12 : Int) else x7) →
((Cmp.den .le x8 x7) = true → ∀ x9 : List Int, x9 = (List.take (Int.toNat x8 - Int.toNat (0 : Int)) (List.drop (Int.toNat (0 : Int)) x6)) →
(bnew_sem.pre [(.i x0)]) ∧ (
∀ x10 : Int, x10 = (Cv.int (Env.get (bnew_sem.out [(.i x0)]) 0)) → (-9223372036854775808 : Int) ≤ x10 → x10 ≤ (9223372036854775807 : Int) →
∀ x11 : Int, x11 = (Cv.int (Env.get (bnew_sem.out [(.i x0)]) 1)) → (-9223372036854775808 : Int) ≤ x11 → x11 ≤ (9223372036854775807 : Int) →
∀ x12 : Int, x12 = (Cv.int (Env.get (bnew_sem.out [(.i x0)]) 2)) → (-9223372036854775808 : Int) ≤ x12 → x12 ≤ (9223372036854775807 : Int) →
∀ x13 : Int, x13 = (Cv.int (Env.get (bnew_sem.out [(.i x0)]) 3)) → (-9223372036854775808 : Int) ≤ x13 → x13 ≤ (9223372036854775807 : Int) →
∀ x14 : Int, x14 = (Cv.int (Env.get (bnew_sem.out [(.i x0)]) 4)) → (-9223372036854775808 : Int) ≤ x14 → x14 ≤ (9223372036854775807 : Int) →
∀ x15 : Int, x15 = (Cv.int (Env.get (bnew_sem.out [(.i x0)]) 5)) → (-9223372036854775808 : Int) ≤ x15 → x15 ≤ (9223372036854775807 : Int) →
(btake_sem.pre [(.i x1), (.i x2), (.i x3), (.i x4), (.i x5), (.l (x9))]) ∧ (
∀ x16 : Int, x16 = (Cv.int (Env.get (btake_sem.out [(.i x1), (.i x2), (.i x3), (.i x4), (.i x5), (.l (x9))]) 0)) → (-9223372036854775808 : Int) ≤ x16 → x16 ≤ (9223372036854775807 : Int) →
∀ x17 : Int, x17 = (Cv.int (Env.get (btake_sem.out [(.i x1), (.i x2), (.i x3), (.i x4), (.i x5), (.l (x9))]) 1)) → (-9223372036854775808 : Int) ≤ x17 → x17 ≤ (9223372036854775807 : Int) →
∀ x18 : Int, x18 = (Cv.int (Env.get (btake_sem.out [(.i x1), (.i x2), (.i x3), (.i x4), (.i x5), (.l (x9))]) 2)) → (-9223372036854775808 : Int) ≤ x18 → x18 ≤ (9223372036854775807 : Int) →
∀ x19 : Int, x19 = (Cv.int (Env.get (btake_sem.out [(.i x1), (.i x2), (.i x3), (.i x4), (.i x5), (.l (x9))]) 3)) → (-9223372036854775808 : Int) ≤ x19 → x19 ≤ (9223372036854775807 : Int) →
∀ x20 : Int, x20 = (Cv.int (Env.get (btake_sem.out [(.i x1), (.i x2), (.i x3), (.i x4), (.i x5), (.l (x9))]) 4)) → (-9223372036854775808 : Int) ≤ x20 → x20 ≤ (9223372036854775807 : Int) →
∀ x21 : Int, x21 = (Cv.int (Env.get (btake_sem.out [(.i x1), (.i x2), (.i x3), (.i x4), (.i x5), (.l (x9))]) 5)) → (-9223372036854775808 : Int) ≤ x21 → x21 ≤ (9223372036854775807 : Int) →
(bright_sem.pre [(.i x1), (.i x2), (.i x3), (.i x4), (.i x5)]) ∧ (
(rbright_sem.pre [(.i x1), (.i x2), (.i x3), (.i x4), (.i x5)]) ∧ (
((!((Cv.bool (Env.get (bright_sem.out [(.i x1), (.i x2), (.i x3), (.i x4), (.i x5)]) 0)) == (Cv.bool (Env.get (rbright_sem.out [(.i x1), (.i x2), (.i x3), (.i x4), (.i x5)]) 0)))) = true → R (Value.bool false)) ∧ ((!((Cv.bool (Env.get (bright_sem.out [(.i x1), (.i x2), (.i x3), (.i x4), (.i x5)]) 0)) == (Cv.bool (Env.get (rbright_sem.out [(.i x1), (.i x2), (.i x3), (.i x4), (.i x5)]) 0)))) = false → (bal_sem.pre []) ∧ (
((!(Cv.bool (Env.get (bal_sem.out []) 0))) = true → R (Value.bool false)) ∧ ((!(Cv.bool (Env.get (bal_sem.out []) 0))) = false → ((Cmp.den .lt x0 (1 : Int)) = true → ((!(Cmp.den .eq x15 (1 : Int))) = true → R (Value.bool false)) ∧ ((!(Cmp.den .eq x15 (1 : Int))) = false → ((!((Cmp.den .eq x10 (0 : Int)) && ((Cmp.den .eq x11 (0 : Int)) && ((Cmp.den .eq x12 (0 : Int)) && ((Cmp.den .eq x13 (0 : Int)) && (Cmp.den .eq x14 (0 : Int))))))) = true → R (Value.bool false)) ∧ ((!((Cmp.den .eq x10 (0 : Int)) && ((Cmp.den .eq x11 (0 : Int)) && ((Cmp.den .eq x12 (0 : Int)) && ((Cmp.den .eq x13 (0 : Int)) && (Cmp.den .eq x14 (0 : Int))))))) = false → (rbright_sem.pre [(.i x1), (.i x2), (.i x3), (.i x4), (.i x5)]) ∧ (
((!(Cv.bool (Env.get (rbright_sem.out [(.i x1), (.i x2), (.i x3), (.i x4), (.i x5)]) 0))) = true → ((Cmp.den .eq x21 (1 : Int)) = true → R (Value.bool ((Cmp.den .eq x16 (0 : Int)) && ((Cmp.den .eq x17 (0 : Int)) && ((Cmp.den .eq x18 (0 : Int)) && ((Cmp.den .eq x19 (0 : Int)) && (Cmp.den .eq x20 (0 : Int)))))))) ∧ ((Cmp.den .eq x21 (1 : Int)) = false → R (Value.bool false))) ∧ ((!(Cv.bool (Env.get (rbright_sem.out [(.i x1), (.i x2), (.i x3), (.i x4), (.i x5)]) 0))) = false → (rbrow_sem.pre [(.i x1), (.i x2), (.i x3), (.i x4), (.i x5), (.l (x9))]) ∧ (
((!(Cv.bool (Env.get (rbrow_sem.out [(.i x1), (.i x2), (.i x3), (.i x4), (.i x5), (.l (x9))]) 0))) = true → ((Cmp.den .eq x21 (1 : Int)) = true → R (Value.bool ((Cmp.den .eq x16 (0 : Int)) && ((Cmp.den .eq x17 (0 : Int)) && ((Cmp.den .eq x18 (0 : Int)) && ((Cmp.den .eq x19 (0 : Int)) && (Cmp.den .eq x20 (0 : Int)))))))) ∧ ((Cmp.den .eq x21 (1 : Int)) = false → R (Value.bool false))) ∧ ((!(Cv.bool (Env.get (rbrow_sem.out [(.i x1), (.i x2), (.i x3), (.i x4), (.i x5), (.l (x9))]) 0))) = false → ((Cmp.den .eq x2 (25 : Int)) = true → ((Cmp.den .eq x21 (11 : Int)) = true → R (Value.bool ((Cmp.den .eq x16 (0 : Int)) && ((Cmp.den .eq x17 (0 : Int)) && ((Cmp.den .eq x18 (0 : Int)) && ((Cmp.den .eq x19 (0 : Int)) && (Cmp.den .eq x20 (0 : Int)))))))) ∧ ((Cmp.den .eq x21 (11 : Int)) = false → R (Value.bool false))) ∧ ((Cmp.den .eq x2 (25 : Int)) = false → ((Cmp.den .eq x21 (0 : Int)) = true → (rbtake_sem.pre [(.i x1), (.i x2), (.i x3), (.i x4), (.i x5), (.l (x9))]) ∧ (
∀ x27 : Int, x27 = (Cv.int (Env.get (rbtake_sem.out [(.i x1), (.i x2), (.i x3), (.i x4), (.i x5), (.l (x9))]) 0)) → (-9223372036854775808 : Int) ≤ x27 → x27 ≤ (9223372036854775807 : Int) →
∀ x28 : Int, x28 = (Cv.int (Env.get (rbtake_sem.out [(.i x1), (.i x2), (.i x3), (.i x4), (.i x5), (.l (x9))]) 1)) → (-9223372036854775808 : Int) ≤ x28 → x28 ≤ (9223372036854775807 : Int) →
∀ x29 : Int, x29 = (Cv.int (Env.get (rbtake_sem.out [(.i x1), (.i x2), (.i x3), (.i x4), (.i x5), (.l (x9))]) 2)) → (-9223372036854775808 : Int) ≤ x29 → x29 ≤ (9223372036854775807 : Int) →
∀ x30 : Int, x30 = (Cv.int (Env.get (rbtake_sem.out [(.i x1), (.i x2), (.i x3), (.i x4), (.i x5), (.l (x9))]) 3)) → (-9223372036854775808 : Int) ≤ x30 → x30 ≤ (9223372036854775807 : Int) →
∀ x31 : Int, x31 = (Cv.int (Env.get (rbtake_sem.out [(.i x1), (.i x2), (.i x3), (.i x4), (.i x5), (.l (x9))]) 4)) → (-9223372036854775808 : Int) ≤ x31 → x31 ≤ (9223372036854775807 : Int) →
R (Value.bool ((Cmp.den .eq x16 x27) && ((Cmp.den .eq x17 x28) && ((Cmp.den .eq x18 x29) && ((Cmp.den .eq x19 x30) && (Cmp.den .eq x20 x31)))))))) ∧ ((Cmp.den .eq x21 (0 : Int)) = false → R (Value.bool false)))))))))) ∧ ((Cmp.den .lt x0 (1 : Int)) = false → ((Cmp.den .lt (10 : Int) x0) = true → ((!(Cmp.den .eq x15 (1 : Int))) = true → R (Value.bool false)) ∧ ((!(Cmp.den .eq x15 (1 : Int))) = false → ((!((Cmp.den .eq x10 (0 : Int)) && ((Cmp.den .eq x11 (0 : Int)) && ((Cmp.den .eq x12 (0 : Int)) && ((Cmp.den .eq x13 (0 : Int)) && (Cmp.den .eq x14 (0 : Int))))))) = true → R (Value.bool false)) ∧ ((!((Cmp.den .eq x10 (0 : Int)) && ((Cmp.den .eq x11 (0 : Int)) && ((Cmp.den .eq x12 (0 : Int)) && ((Cmp.den .eq x13 (0 : Int)) && (Cmp.den .eq x14 (0 : Int))))))) = false → (rbright_sem.pre [(.i x1), (.i x2), (.i x3), (.i x4), (.i x5)]) ∧ (
((!(Cv.bool (Env.get (rbright_sem.out [(.i x1), (.i x2), (.i x3), (.i x4), (.i x5)]) 0))) = true → ((Cmp.den .eq x21 (1 : Int)) = true → R (Value.bool ((Cmp.den .eq x16 (0 : Int)) && ((Cmp.den .eq x17 (0 : Int)) && ((Cmp.den .eq x18 (0 : Int)) && ((Cmp.den .eq x19 (0 : Int)) && (Cmp.den .eq x20 (0 : Int)))))))) ∧ ((Cmp.den .eq x21 (1 : Int)) = false → R (Value.bool false))) ∧ ((!(Cv.bool (Env.get (rbright_sem.out [(.i x1), (.i x2), (.i x3), (.i x4), (.i x5)]) 0))) = false → (rbrow_sem.pre [(.i x1), (.i x2), (.i x3), (.i x4), (.i x5), (.l (x9))]) ∧ (
((!(Cv.bool (Env.get (rbrow_sem.out [(.i x1), (.i x2), (.i x3), (.i x4), (.i x5), (.l (x9))]) 0))) = true → ((Cmp.den .eq x21 (1 : Int)) = true → R (Value.bool ((Cmp.den .eq x16 (0 : Int)) && ((Cmp.den .eq x17 (0 : Int)) && ((Cmp.den .eq x18 (0 : Int)) && ((Cmp.den .eq x19 (0 : Int)) && (Cmp.den .eq x20 (0 : Int)))))))) ∧ ((Cmp.den .eq x21 (1 : Int)) = false → R (Value.bool false))) ∧ ((!(Cv.bool (Env.get (rbrow_sem.out [(.i x1), (.i x2), (.i x3), (.i x4), (.i x5), (.l (x9))]) 0))) = false → ((Cmp.den .eq x2 (25 : Int)) = true → ((Cmp.den .eq x21 (11 : Int)) = true → R (Value.bool ((Cmp.den .eq x16 (0 : Int)) && ((Cmp.den .eq x17 (0 : Int)) && ((Cmp.den .eq x18 (0 : Int)) && ((Cmp.den .eq x19 (0 : Int)) && (Cmp.den .eq x20 (0 : Int)))))))) ∧ ((Cmp.den .eq x21 (11 : Int)) = false → R (Value.bool false))) ∧ ((Cmp.den .eq x2 (25 : Int)) = false → ((Cmp.den .eq x21 (0 : Int)) = true → (rbtake_sem.pre [(.i x1), (.i x2), (.i x3), (.i x4), (.i x5), (.l (x9))]) ∧ (
∀ x27 : Int, x27 = (Cv.int (Env.get (rbtake_sem.out [(.i x1), (.i x2), (.i x3), (.i x4), (.i x5), (.l (x9))]) 0)) → (-9223372036854775808 : Int) ≤ x27 → x27 ≤ (9223372036854775807 : Int) →
∀ x28 : Int, x28 = (Cv.int (Env.get (rbtake_sem.out [(.i x1), (.i x2), (.i x3), (.i x4), (.i x5), (.l (x9))]) 1)) → (-9223372036854775808 : Int) ≤ x28 → x28 ≤ (9223372036854775807 : Int) →
∀ x29 : Int, x29 = (Cv.int (Env.get (rbtake_sem.out [(.i x1), (.i x2), (.i x3), (.i x4), (.i x5), (.l (x9))]) 2)) → (-9223372036854775808 : Int) ≤ x29 → x29 ≤ (9223372036854775807 : Int) →
∀ x30 : Int, x30 = (Cv.int (Env.get (rbtake_sem.out [(.i x1), (.i x2), (.i x3), (.i x4), (.i x5), (.l (x9))]) 3)) → (-9223372036854775808 : Int) ≤ x30 → x30 ≤ (9223372036854775807 : Int) →
∀ x31 : Int, x31 = (Cv.int (Env.get (rbtake_sem.out [(.i x1), (.i x2), (.i x3), (.i x4), (.i x5), (.l (x9))]) 4)) → (-9223372036854775808 : Int) ≤ x31 → x31 ≤ (9223372036854775807 : Int) →
R (Value.bool ((Cmp.den .eq x16 x27) && ((Cmp.den .eq x17 x28) && ((Cmp.den .eq x18 x29) && ((Cmp.den .eq x19 x30) && (Cmp.den .eq x20 x31)))))))) ∧ ((Cmp.den .eq x21 (0 : Int)) = false → R (Value.bool false)))))))))) ∧ ((Cmp.den .lt (10 : Int) x0) = false → ((!(Cmp.den .eq x15 (0 : Int))) = true → R (Value.bool false)) ∧ ((!(Cmp.den .eq x15 (0 : Int))) = false → ((!((Cmp.den .eq x10 x0) && ((Cmp.den .eq x11 (0 : Int)) && ((Cmp.den .eq x12 (0 : Int)) && ((Cmp.den .eq x13 (0 : Int)) && (Cmp.den .eq x14 (0 : Int))))))) = true → R (Value.bool false)) ∧ ((!((Cmp.den .eq x10 x0) && ((Cmp.den .eq x11 (0 : Int)) && ((Cmp.den .eq x12 (0 : Int)) && ((Cmp.den .eq x13 (0 : Int)) && (Cmp.den .eq x14 (0 : Int))))))) = false → (rbright_sem.pre [(.i x1), (.i x2), (.i x3), (.i x4), (.i x5)]) ∧ (
((!(Cv.bool (Env.get (rbright_sem.out [(.i x1), (.i x2), (.i x3), (.i x4), (.i x5)]) 0))) = true → ((Cmp.den .eq x21 (1 : Int)) = true → R (Value.bool ((Cmp.den .eq x16 (0 : Int)) && ((Cmp.den .eq x17 (0 : Int)) && ((Cmp.den .eq x18 (0 : Int)) && ((Cmp.den .eq x19 (0 : Int)) && (Cmp.den .eq x20 (0 : Int)))))))) ∧ ((Cmp.den .eq x21 (1 : Int)) = false → R (Value.bool false))) ∧ ((!(Cv.bool (Env.get (rbright_sem.out [(.i x1), (.i x2), (.i x3), (.i x4), (.i x5)]) 0))) = false → (rbrow_sem.pre [(.i x1), (.i x2), (.i x3), (.i x4), (.i x5), (.l (x9))]) ∧ (
((!(Cv.bool (Env.get (rbrow_sem.out [(.i x1), (.i x2), (.i x3), (.i x4), (.i x5), (.l (x9))]) 0))) = true → ((Cmp.den .eq x21 (1 : Int)) = true → R (Value.bool ((Cmp.den .eq x16 (0 : Int)) && ((Cmp.den .eq x17 (0 : Int)) && ((Cmp.den .eq x18 (0 : Int)) && ((Cmp.den .eq x19 (0 : Int)) && (Cmp.den .eq x20 (0 : Int)))))))) ∧ ((Cmp.den .eq x21 (1 : Int)) = false → R (Value.bool false))) ∧ ((!(Cv.bool (Env.get (rbrow_sem.out [(.i x1), (.i x2), (.i x3), (.i x4), (.i x5), (.l (x9))]) 0))) = false → ((Cmp.den .eq x2 (25 : Int)) = true → ((Cmp.den .eq x21 (11 : Int)) = true → R (Value.bool ((Cmp.den .eq x16 (0 : Int)) && ((Cmp.den .eq x17 (0 : Int)) && ((Cmp.den .eq x18 (0 : Int)) && ((Cmp.den .eq x19 (0 : Int)) && (Cmp.den .eq x20 (0 : Int)))))))) ∧ ((Cmp.den .eq x21 (11 : Int)) = false → R (Value.bool false))) ∧ ((Cmp.den .eq x2 (25 : Int)) = false → ((Cmp.den .eq x21 (0 : Int)) = true → (rbtake_sem.pre [(.i x1), (.i x2), (.i x3), (.i x4), (.i x5), (.l (x9))]) ∧ (
∀ x27 : Int, x27 = (Cv.int (Env.get (rbtake_sem.out [(.i x1), (.i x2), (.i x3), (.i x4), (.i x5), (.l (x9))]) 0)) → (-9223372036854775808 : Int) ≤ x27 → x27 ≤ (9223372036854775807 : Int) →
∀ x28 : Int, x28 = (Cv.int (Env.get (rbtake_sem.out [(.i x1), (.i x2), (.i x3), (.i x4), (.i x5), (.l (x9))]) 1)) → (-9223372036854775808 : Int) ≤ x28 → x28 ≤ (9223372036854775807 : Int) →
∀ x29 : Int, x29 = (Cv.int (Env.get (rbtake_sem.out [(.i x1), (.i x2), (.i x3), (.i x4), (.i x5), (.l (x9))]) 2)) → (-9223372036854775808 : Int) ≤ x29 → x29 ≤ (9223372036854775807 : Int) →
∀ x30 : Int, x30 = (Cv.int (Env.get (rbtake_sem.out [(.i x1), (.i x2), (.i x3), (.i x4), (.i x5), (.l (x9))]) 3)) → (-9223372036854775808 : Int) ≤ x30 → x30 ≤ (9223372036854775807 : Int) →
∀ x31 : Int, x31 = (Cv.int (Env.get (rbtake_sem.out [(.i x1), (.i x2), (.i x3), (.i x4), (.i x5), (.l (x9))]) 4)) → (-9223372036854775808 : Int) ≤ x31 → x31 ≤ (9223372036854775807 : Int) →
R (Value.bool ((Cmp.den .eq x16 x27) && ((Cmp.den .eq x17 x28) && ((Cmp.den .eq x18 x29) && ((Cmp.den .eq x19 x30) && (Cmp.den .eq x20 x31)))))))) ∧ ((Cmp.den .eq x21 (0 : Int)) = false → R (Value.bool false))))))))))))))))))) ∧ ((Cmp.den .le x8 x7) = false → False)) := by kernel_rfl

def lbtk_sem : SpecSem := { pre := fun cs => match cs with | [.i sz, .i z, .i m, .i s, .i r, .i a, .l l] => IsI sz ∧ IsI z ∧ IsI m ∧ IsI s ∧ IsI r ∧ IsI a ∧ InI l | _ => False, out := fun cs => match cs with | [.i sz, .i z, .i m, .i s, .i r, .i a, .l l] => [.b true] | _ => [] }
set_option maxRecDepth 10000 in
set_option maxHeartbeats 16000000 in
theorem lbtk_ok : SpecOK Try.prog 3 lbtk_sp lbtk_sem := by
  refine spec_of_tree lbtk_cxok Try.func3 (by kernel_rfl) (by kernel_rfl) lbtk_walk rfl ?_
  intro cs hpre
  match cs, hpre with
  | [.i sz, .i z, .i m, .i s, .i r, .i a, .l l], ⟨j_sz, j_z, j_m, j_s, j_r, j_a, j_l⟩ =>
    have h_sz := j_sz
    unfold IsI at h_sz
    have h_z := j_z
    unfold IsI at h_z
    have h_m := j_m
    unfold IsI at h_m
    have h_s := j_s
    unfold IsI at h_s
    have h_r := j_r
    unfold IsI at h_r
    have h_a := j_a
    unfold IsI at h_a
    refine ⟨rfl, IvsB.ok (by simp only [lbtk_ivs, IvsB, Cv.int, and_true, j_l, true_and] <;> omega), ?_, ?_⟩
    · simp only [lbtk_sem, lbtk_sp, Fits]
    · rw [lbtk_den]
      simp only [lbtk_sem, lbtk_sp, bright_sem, bnew_sem, btake_sem, bal_sem, rbright_sem, rbrow_sem, rbtake_sem, lbtk_den, bright_sem, bnew_sem, btake_sem, bal_sem, rbright_sem, rbrow_sem, rbtake_sem, Tree.den, LE.den, Cv.list, placeA, List.getElem?_cons_zero, List.getElem?_cons_succ, IE.den, BE.den, At.den, CA.den, Env.get, Cv.int, Cv.bool, List.cons_append, List.nil_append, List.map_cons, List.map_nil, bindRes, bindEq, Fits, SV.den, denL, place, placeL, eq_t, eq_f, lt_t, lt_f, le_t, le_f, beq_iff_eq, beq_eq_false_iff_ne, ne_eq, reduceCtorEq, b_dec, decide_eq_true_eq, decide_eq_false_iff_not, Bool.not_eq_false', Bool.or_eq_true, Bool.or_eq_false_iff, Bool.and_eq_false_iff, true_iff, false_iff, Bool.false_eq_true, Bool.not_eq_true', Bool.and_eq_true, Bool.not_true, Bool.not_false, List.cons.injEq, Cv.i.injEq, Cv.b.injEq, and_true, true_and, agg_inj, tup_inj, Value.int.injEq, Value.bool.injEq, j_sz, j_z, j_m, j_s, j_r, j_a, forall_eq, eq_self, if_true, if_false, true_and, and_true, false_and, and_false, true_or, or_true, false_or, or_false, true_iff, iff_true, false_iff, iff_false, not_true_eq_false, not_false_eq_true, true_implies, false_implies, implies_true, forall_const, decide_true, decide_false, reduceCtorEq]
      have hl : ((List.take ((if 12 < (l.length : Int) then 12 else (l.length : Int)).toNat - Int.toNat 0) (List.drop (Int.toNat 0) l)).length : Int) ≤ 12 := by
        have := List.length_take (i := (if 12 < (l.length : Int) then 12 else (l.length : Int)).toNat - Int.toNat 0) (l := List.drop (Int.toNat 0) l)
        split at this <;> split <;> omega
      have hI : InI (List.take ((if 12 < (l.length : Int) then 12 else (l.length : Int)).toNat - Int.toNat 0) (List.drop (Int.toNat 0) l)) := fun x h => j_l x (List.mem_of_mem_drop (List.mem_of_mem_take h))
      generalize List.take ((if 12 < (l.length : Int) then 12 else (l.length : Int)).toNat - Int.toNat 0) (List.drop (Int.toNat 0) l) = L at *
      have hL : (L.length : Int) ≤ 100000 := by omega
      have n1 : (1 ≤ sz) = ¬ (sz < 1) := propext ⟨fun h => by omega, fun h => by omega⟩
      have n2 : (sz ≤ 10) = ¬ (10 < sz) := propext ⟨fun h => by omega, fun h => by omega⟩
      have g1 : ((1 : Int) = 0) = False := by simp
      have g2 : ((11 : Int) = 0) = False := by simp
      have g3 : ((0 : Int) = 1) = False := by simp
      have g4 : ((0 : Int) = 11) = False := by simp
      have g5 : ((11 : Int) = 1) = False := by simp
      have g6 : ((1 : Int) = 11) = False := by simp
      have hm : (if 12 < (l.length : Int) then 12 else (l.length : Int)) ≤ (l.length : Int) := by split <;> omega
      have hm0 : 0 ≤ (if 12 < (l.length : Int) then 12 else (l.length : Int)) := by split <;> omega
      generalize (if 12 < (l.length : Int) then 12 else (l.length : Int)) = M at *
      have hm1 : ((l.length : Int) < M) = False := eq_false (by omega)
      have hm2 : (M < 0) = False := eq_false (by omega)
      rcases Decidable.em (BsOK z m s r a) with c1 | c1
      · have c4 : (m < 25) = ¬ (m = 25) := propext ⟨fun h => by omega, fun h => by have := c1.2.1; omega⟩
        rcases Classical.propComplete ((L.length : Int) = z ∧ inS L) with c2 | c2 <;> rcases Classical.propComplete (m = 25) with c3 | c3 <;> rcases Decidable.em (sz < 1) with c5 | c5 <;> rcases Decidable.em (10 < sz) with c6 | c6
        all_goals simp only [tkE, n1, n2, g1, g2, g3, g4, g5, g6, hm, hm0, hm1, hm2, hL, hI, c1, c2, c3, c4, c5, c6, forall_eq, eq_self, if_true, if_false, true_and, and_true, false_and, and_false, true_or, or_true, false_or, or_false, true_iff, iff_true, false_iff, iff_false, not_true_eq_false, not_false_eq_true, true_implies, false_implies, implies_true, forall_const, decide_true, decide_false, reduceCtorEq]
        all_goals (clear n1 n2 c1; (repeat' (first | intro _ | refine And.intro ?_ ?_ | exact trivial)) <;> omega)
      · rcases Decidable.em (sz < 1) with c5 | c5 <;> rcases Decidable.em (10 < sz) with c6 | c6
        all_goals simp only [tkE, n1, n2, g1, g2, g3, g4, g5, g6, hm, hm0, hm1, hm2, hL, hI, c1, c5, c6, forall_eq, eq_self, if_true, if_false, true_and, and_true, false_and, and_false, true_or, or_true, false_or, or_false, true_iff, iff_true, false_iff, iff_false, not_true_eq_false, not_false_eq_true, true_implies, false_implies, implies_true, forall_const, decide_true, decide_false, reduceCtorEq]
        all_goals (clear n1 n2 c1; (repeat' (first | intro _ | refine And.intro ?_ ?_ | exact trivial)) <;> omega)
end Go.Proofs.Ytglpelnaeipenaa.X
