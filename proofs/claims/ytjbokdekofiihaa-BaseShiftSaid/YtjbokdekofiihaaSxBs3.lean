/-
  base: Wide, New, by contract.
-/
import Derived.Test.YtjbokdekofiihaaSxBs2
namespace Go.Proofs.Ytjbokdekofiihaa.X
open Go Go.SX
set_option linter.unusedVariables false
set_option linter.unusedSimpArgs false



def bnew_sp : SpecSh := { args := [(.int .i64 (.z 0))], res := (.tup [(.agg [(.int .i64 (.z 0)), (.int .i64 (.z 0)), (.int .i64 (.z 0)), (.int .i64 (.z 0)), (.int .i64 (.z 0))]), (.int .i64 (.z 0))]), sh := [.i (some ((-9223372036854775808), 9223372036854775807)), .i (some ((-9223372036854775808), 9223372036854775807)), .i (some ((-9223372036854775808), 9223372036854775807)), .i (some ((-9223372036854775808), 9223372036854775807)), .i (some ((-9223372036854775808), 9223372036854775807)), .i (some ((-9223372036854775808), 9223372036854775807))] }
set_option maxRecDepth 100000 in
def bnew_tree : Tree :=
.ite (.cmp .lt (.v 0) (.z 1)) (.ret (.tup [(.agg [(.int .i64 (.z 0)), (.int .i64 (.z 0)), (.int .i64 (.z 0)), (.int .i64 (.z 0)), (.int .i64 (.z 0))]), (.int .i64 (.z 1))])) <|
.ite (.cmp .lt (.z 10) (.v 0)) (.ret (.tup [(.agg [(.int .i64 (.z 0)), (.int .i64 (.z 0)), (.int .i64 (.z 0)), (.int .i64 (.z 0)), (.int .i64 (.z 0))]), (.int .i64 (.z 1))])) <|
.ret (.tup [(.agg [(.int .i64 (.v 0)), (.int .i64 (.z 0)), (.int .i64 (.z 0)), (.int .i64 (.z 0)), (.int .i64 (.z 0))]), (.int .i64 (.z 0))])
noncomputable def bnew_cx : Ctx := { tys := tys, fns := fns, mets := mets, sps := [], anns := [], trys := [] }
def bnew_ivs : List (Option (Int × Int)) := [some ((-9223372036854775808), 9223372036854775807)]
set_option maxRecDepth 100000 in
theorem bnew_walk : runFn bnew_cx 3000 11 Try.f11 bnew_sp.args bnew_ivs = bnew_tree := by kernel_rfl
noncomputable def bnew_M : Nat → SpecSem
  | _ => noSem
theorem bnew_cxok : CxOK Try.prog bnew_cx bnew_M := ⟨tysOK, fnsOK, fun _ _ h => spNil h, mixedOK, fun _ _ h => trNil h, fun _ _ h => atNil h, metsOK⟩

def bnew_sem : SpecSem := { pre := fun cs => match cs with | [.i z] => IsI z | _ => False, out := fun cs => match cs with | [.i z] => [.i (if 1 ≤ z ∧ z ≤ 10 then z else 0), .i 0, .i 0, .i 0, .i 0, .i (if 1 ≤ z ∧ z ≤ 10 then 0 else 1)] | _ => [] }
set_option maxRecDepth 10000 in
set_option maxHeartbeats 16000000 in
theorem bnew_ok : SpecOK Try.prog 11 bnew_sp bnew_sem := by
  refine spec_of_tree bnew_cxok Try.func11 (by kernel_rfl) (by kernel_rfl) bnew_walk rfl ?_
  intro cs hpre
  match cs, hpre with
  | [.i z], j_z =>
    have j_z : IsI z := j_z
    have h_z := j_z
    unfold IsI at h_z
    refine ⟨rfl, IvsB.ok (by simp only [bnew_ivs, IvsB, Cv.int, and_true] <;> omega), ?_, ?_⟩
    · simp only [bnew_sem, bnew_sp, Fits, and_true]
      split <;> omega
    · simp only [bnew_sem, bnew_sp, bnew_tree, Tree.den, LE.den, Cv.list, placeA, List.getElem?_cons_zero, List.getElem?_cons_succ, IE.den, BE.den, At.den, CA.den, Env.get, Cv.int, Cv.bool, List.cons_append, List.nil_append, List.map_cons, List.map_nil, bindRes, bindEq, Fits, SV.den, denL, place, placeL, eq_t, eq_f, lt_t, lt_f, le_t, le_f, beq_iff_eq, beq_eq_false_iff_ne, ne_eq, reduceCtorEq, b_dec, decide_eq_true_eq, decide_eq_false_iff_not, Bool.not_eq_false', Bool.or_eq_true, Bool.or_eq_false_iff, Bool.and_eq_false_iff, true_iff, false_iff, Bool.false_eq_true, Bool.not_eq_true', Bool.and_eq_true, Bool.not_true, Bool.not_false, List.cons.injEq, Cv.i.injEq, Cv.b.injEq, and_true, true_and, agg_inj, tup_inj, Value.int.injEq, Value.bool.injEq]
      by_cases h : 1 ≤ z ∧ z ≤ 10
      · simp only [if_pos h]
        (repeat' (first | intro _ | refine And.intro ?_ ?_ | exact trivial)) <;> omega
      · simp only [if_neg h]
        (repeat' (first | intro _ | refine And.intro ?_ ?_ | exact trivial)) <;> omega
def bwE (z m s r a x : Int) : Int := if BsOK z m s r a ∧ 0 ≤ x ∧ x ≤ 2000000 then if m < 2 then 12 else 0 else 1
def bwV (z m r x : Int) : Int := if ftab 2 (bwK z) * r < x * bwM z m * 10000 then 1 else if x * bwM z m * 10000 < ftab 1 (bwK z) * r then -1 else 0
theorem bwE_rng (z m s r a x : Int) : 0 ≤ bwE z m s r a x ∧ bwE z m s r a x ≤ 12 := by unfold bwE; (repeat' split) <;> omega
theorem bwV_rng (z m r x : Int) : -1 ≤ bwV z m r x ∧ bwV z m r x ≤ 1 := by unfold bwV; (repeat' split) <;> omega
def bwide_sp : SpecSh := { args := [(.agg [(.int .i64 (.z 0)), (.int .i64 (.z 0)), (.int .i64 (.z 0)), (.int .i64 (.z 0)), (.int .i64 (.z 0))]), (.int .i64 (.z 0))], res := (.tup [(.int .i64 (.z 0)), (.int .i64 (.z 0))]), sh := [.i (some ((-9223372036854775808), 9223372036854775807)), .i (some ((-9223372036854775808), 9223372036854775807))] }
set_option maxRecDepth 100000 in
def bwide_tree : Tree :=
.call 13 [.b] [.i (.v 0), .i (.v 1), .i (.v 2), .i (.v 3), .i (.v 4)] <|
.ite (.not (.v 6)) (.ret (.tup [(.int .i64 (.z 0)), (.int .i64 (.z 1))])) <|
.ite (.cmp .lt (.v 5) (.z 0)) (.ret (.tup [(.int .i64 (.z 0)), (.int .i64 (.z 1))])) <|
.ite (.cmp .lt (.z 2000000) (.v 5)) (.ret (.tup [(.int .i64 (.z 0)), (.int .i64 (.z 1))])) <|
.ite (.cmp .lt (.v 1) (.z 2)) (.ret (.tup [(.int .i64 (.z 0)), (.int .i64 (.z 12))])) <|
.ite (.cmp .eq (.v 0) (.z 1)) (.lett (.sub (.v 1) (.z 1)) <|
.call 16 [.i (some (0, 32670)), .i (some (0, 3))] [.i (.z 1), .i (.z 2)] <|
.call 16 [.i (some (0, 32670)), .i (some (0, 3))] [.i (.z 2), .i (.z 2)] <|
.lett (.mulw .i64 (.v 5) (.v 7)) <|
.lett (.mulw .i64 (.v 12) (.z 10000)) <|
.lett (.mulw .i64 (.v 10) (.v 3)) <|
.ite (.cmp .lt (.v 14) (.v 13)) (.ret (.tup [(.int .i64 (.z 1)), (.int .i64 (.z 0))])) <|
.lett (.mulw .i64 (.v 8) (.v 3)) <|
.ite (.cmp .lt (.v 13) (.v 15)) (.ret (.tup [(.int .i64 (.z (-1))), (.int .i64 (.z 0))])) <|
.ret (.tup [(.int .i64 (.z 0)), (.int .i64 (.z 0))])) <|
.call 16 [.i (some (0, 32670)), .i (some (0, 3))] [.i (.z 1), .i (.v 0)] <|
.call 16 [.i (some (0, 32670)), .i (some (0, 3))] [.i (.z 2), .i (.v 0)] <|
.lett (.mulw .i64 (.v 5) (.v 1)) <|
.lett (.mulw .i64 (.v 11) (.z 10000)) <|
.lett (.mulw .i64 (.v 9) (.v 3)) <|
.ite (.cmp .lt (.v 13) (.v 12)) (.ret (.tup [(.int .i64 (.z 1)), (.int .i64 (.z 0))])) <|
.lett (.mulw .i64 (.v 7) (.v 3)) <|
.ite (.cmp .lt (.v 12) (.v 14)) (.ret (.tup [(.int .i64 (.z (-1))), (.int .i64 (.z 0))])) <|
.ret (.tup [(.int .i64 (.z 0)), (.int .i64 (.z 0))])
noncomputable def bwide_cx : Ctx := { tys := tys, fns := fns, mets := mets, sps := [(13, bright_sp), (16, ffac_sp)], anns := [], trys := [] }
def bwide_ivs : List (Option (Int × Int)) := [some ((-9223372036854775808), 9223372036854775807), some ((-9223372036854775808), 9223372036854775807), some ((-9223372036854775808), 9223372036854775807), some ((-9223372036854775808), 9223372036854775807), some ((-9223372036854775808), 9223372036854775807), some ((-9223372036854775808), 9223372036854775807)]
set_option maxRecDepth 100000 in
theorem bwide_walk : runFn bwide_cx 3000 10 Try.f10 bwide_sp.args bwide_ivs = bwide_tree := by kernel_rfl
noncomputable def bwide_M : Nat → SpecSem
  | 13 => bright_sem
  | 16 => ffac_sem
  | _ => noSem
theorem bwide_M13 : bwide_M 13 = bright_sem := rfl
theorem bwide_M16 : bwide_M 16 = ffac_sem := rfl
theorem bwide_cxok : CxOK Try.prog bwide_cx bwide_M := ⟨tysOK, fnsOK, spCons bright_ok <| spCons ffac_ok <| fun _ _ h => spNil h, mixedOK, fun _ _ h => trNil h, fun _ _ h => atNil h, metsOK⟩
set_option maxRecDepth 100000 in
set_option maxHeartbeats 8000000 in
theorem bwide_den (R RP : Value → Prop) (F : Ex → St → Js → Env → Prop) (J : Js) (x0 : Int) (x1 : Int) (x2 : Int) (x3 : Int) (x4 : Int) (x5 : Int) : Tree.den bwide_M R RP F bwide_tree J [(.i x0), (.i x1), (.i x2), (.i x3), (.i x4), (.i x5)] = (
  (bright_sem.pre [(.i x0), (.i x1), (.i x2), (.i x3), (.i x4)]) ∧ (
((!(Cv.bool (Env.get (bright_sem.out [(.i x0), (.i x1), (.i x2), (.i x3), (.i x4)]) 0))) = true → R (Value.tuple [(Value.int .i64 (0 : Int)), (Value.int .i64 (1 : Int))].toArray)) ∧ ((!(Cv.bool (Env.get (bright_sem.out [(.i x0), (.i x1), (.i x2), (.i x3), (.i x4)]) 0))) = false → ((Cmp.den .lt x5 (0 : Int)) = true → R (Value.tuple [(Value.int .i64 (0 : Int)), (Value.int .i64 (1 : Int))].toArray)) ∧ ((Cmp.den .lt x5 (0 : Int)) = false → ((Cmp.den .lt (2000000 : Int) x5) = true → R (Value.tuple [(Value.int .i64 (0 : Int)), (Value.int .i64 (1 : Int))].toArray)) ∧ ((Cmp.den .lt (2000000 : Int) x5) = false → ((Cmp.den .lt x1 (2 : Int)) = true → R (Value.tuple [(Value.int .i64 (0 : Int)), (Value.int .i64 (12 : Int))].toArray)) ∧ ((Cmp.den .lt x1 (2 : Int)) = false → ((Cmp.den .eq x0 (1 : Int)) = true → ∀ x7 : Int, x7 = (x1 - (1 : Int)) →
(ffac_sem.pre [(.i (1 : Int)), (.i (2 : Int))]) ∧ (
∀ x8 : Int, x8 = (Cv.int (Env.get (ffac_sem.out [(.i (1 : Int)), (.i (2 : Int))]) 0)) → (0 : Int) ≤ x8 → x8 ≤ (32670 : Int) →
∀ x9 : Int, x9 = (Cv.int (Env.get (ffac_sem.out [(.i (1 : Int)), (.i (2 : Int))]) 1)) → (0 : Int) ≤ x9 → x9 ≤ (3 : Int) →
(ffac_sem.pre [(.i (2 : Int)), (.i (2 : Int))]) ∧ (
∀ x10 : Int, x10 = (Cv.int (Env.get (ffac_sem.out [(.i (2 : Int)), (.i (2 : Int))]) 0)) → (0 : Int) ≤ x10 → x10 ≤ (32670 : Int) →
∀ x11 : Int, x11 = (Cv.int (Env.get (ffac_sem.out [(.i (2 : Int)), (.i (2 : Int))]) 1)) → (0 : Int) ≤ x11 → x11 ≤ (3 : Int) →
∀ x12 : Int, x12 = (IntKind.i64.wrap (x5 * x7)) →
∀ x13 : Int, x13 = (IntKind.i64.wrap (x12 * (10000 : Int))) →
∀ x14 : Int, x14 = (IntKind.i64.wrap (x10 * x3)) →
((Cmp.den .lt x14 x13) = true → R (Value.tuple [(Value.int .i64 (1 : Int)), (Value.int .i64 (0 : Int))].toArray)) ∧ ((Cmp.den .lt x14 x13) = false → ∀ x15 : Int, x15 = (IntKind.i64.wrap (x8 * x3)) →
((Cmp.den .lt x13 x15) = true → R (Value.tuple [(Value.int .i64 (-1 : Int)), (Value.int .i64 (0 : Int))].toArray)) ∧ ((Cmp.den .lt x13 x15) = false → R (Value.tuple [(Value.int .i64 (0 : Int)), (Value.int .i64 (0 : Int))].toArray)))))) ∧ ((Cmp.den .eq x0 (1 : Int)) = false → (ffac_sem.pre [(.i (1 : Int)), (.i x0)]) ∧ (
∀ x7 : Int, x7 = (Cv.int (Env.get (ffac_sem.out [(.i (1 : Int)), (.i x0)]) 0)) → (0 : Int) ≤ x7 → x7 ≤ (32670 : Int) →
∀ x8 : Int, x8 = (Cv.int (Env.get (ffac_sem.out [(.i (1 : Int)), (.i x0)]) 1)) → (0 : Int) ≤ x8 → x8 ≤ (3 : Int) →
(ffac_sem.pre [(.i (2 : Int)), (.i x0)]) ∧ (
∀ x9 : Int, x9 = (Cv.int (Env.get (ffac_sem.out [(.i (2 : Int)), (.i x0)]) 0)) → (0 : Int) ≤ x9 → x9 ≤ (32670 : Int) →
∀ x10 : Int, x10 = (Cv.int (Env.get (ffac_sem.out [(.i (2 : Int)), (.i x0)]) 1)) → (0 : Int) ≤ x10 → x10 ≤ (3 : Int) →
∀ x11 : Int, x11 = (IntKind.i64.wrap (x5 * x1)) →
∀ x12 : Int, x12 = (IntKind.i64.wrap (x11 * (10000 : Int))) →
∀ x13 : Int, x13 = (IntKind.i64.wrap (x9 * x3)) →
((Cmp.den .lt x13 x12) = true → R (Value.tuple [(Value.int .i64 (1 : Int)), (Value.int .i64 (0 : Int))].toArray)) ∧ ((Cmp.den .lt x13 x12) = false → ∀ x14 : Int, x14 = (IntKind.i64.wrap (x7 * x3)) →
((Cmp.den .lt x12 x14) = true → R (Value.tuple [(Value.int .i64 (-1 : Int)), (Value.int .i64 (0 : Int))].toArray)) ∧ ((Cmp.den .lt x12 x14) = false → R (Value.tuple [(Value.int .i64 (0 : Int)), (Value.int .i64 (0 : Int))].toArray)))))))))))) := by kernel_rfl

def bwide_sem : SpecSem := { pre := fun cs => match cs with | [.i z, .i m, .i s, .i r, .i a, .i x] => IsI z ∧ IsI m ∧ IsI s ∧ IsI r ∧ IsI a ∧ IsI x | _ => False, out := fun cs => match cs with | [.i z, .i m, .i s, .i r, .i a, .i x] => [.i (if bwE z m s r a x = 0 then bwV z m r x else 0), .i (bwE z m s r a x)] | _ => [] }
set_option maxRecDepth 10000 in
set_option maxHeartbeats 16000000 in
theorem bwide_ok : SpecOK Try.prog 10 bwide_sp bwide_sem := by
  refine spec_of_tree bwide_cxok Try.func10 (by kernel_rfl) (by kernel_rfl) bwide_walk rfl ?_
  intro cs hpre
  match cs, hpre with
  | [.i z, .i m, .i s, .i r, .i a, .i x], ⟨j_z, j_m, j_s, j_r, j_a, j_x⟩ =>
    have h_z := j_z
    unfold IsI at h_z
    have h_m := j_m
    unfold IsI at h_m
    have h_s := j_s
    unfold IsI at h_s
    have h_r := j_r
    unfold IsI at h_r
    have h_a := j_a
    unfold IsI at h_a
    have h_x := j_x
    unfold IsI at h_x
    refine ⟨rfl, IvsB.ok (by simp only [bwide_ivs, IvsB, Cv.int, and_true] <;> omega), ?_, ?_⟩
    · simp only [bwide_sem, bwide_sp, Fits, and_true]
      have he := bwE_rng z m s r a x
      have hv := bwV_rng z m r x
      split <;> omega
    · rw [bwide_den]
      have g1 : ((1 : Int) = 0) = False := by simp
      have g12 : ((12 : Int) = 0) = False := by simp
      have k1 : IsI 1 := ⟨by omega, by omega⟩
      have k2 : IsI 2 := ⟨by omega, by omega⟩
      have v1 : facV 1 2 = ftab 1 2 := by decide
      have v2 : facV 2 2 = ftab 2 2 := by decide
      by_cases c1 : BsOK z m s r a
      · have hb := bs_bd c1
        have hq := c1
        obtain ⟨q1, q2, q3, q4, q5, q6⟩ := hq
        by_cases c2 : 0 ≤ x ∧ x ≤ 2000000
        · have a1 : (x < 0) = False := eq_false (by omega)
          have a2 : (2000000 < x) = False := eq_false (by omega)
          have a3 : (0 ≤ x) = True := eq_true (by omega)
          have a4 : (x ≤ 2000000) = True := eq_true (by omega)
          by_cases c3 : m < 2
          · have he : bwE z m s r a x = 12 := by unfold bwE; rw [if_pos ⟨c1, c2⟩, if_pos c3]
            have c4 : (2 ≤ m) = False := eq_false (by omega)
            simp only [bwide_sem, bwide_sp, bright_sem, ffac_sem, bwide_den, bright_sem, ffac_sem, Tree.den, LE.den, Cv.list, placeA, List.getElem?_cons_zero, List.getElem?_cons_succ, IE.den, BE.den, At.den, CA.den, Env.get, Cv.int, Cv.bool, List.cons_append, List.nil_append, List.map_cons, List.map_nil, bindRes, bindEq, Fits, SV.den, denL, place, placeL, eq_t, eq_f, lt_t, lt_f, le_t, le_f, beq_iff_eq, beq_eq_false_iff_ne, ne_eq, reduceCtorEq, b_dec, decide_eq_true_eq, decide_eq_false_iff_not, Bool.not_eq_false', Bool.or_eq_true, Bool.or_eq_false_iff, Bool.and_eq_false_iff, true_iff, false_iff, Bool.false_eq_true, Bool.not_eq_true', Bool.and_eq_true, Bool.not_true, Bool.not_false, List.cons.injEq, Cv.i.injEq, Cv.b.injEq, and_true, true_and, agg_inj, tup_inj, Value.int.injEq, Value.bool.injEq, j_z, j_m, j_s, j_r, j_a, c1, he, g12, c3, c4, a1, a2, a3, a4, forall_eq, eq_self, if_true, if_false, true_and, and_true, false_and, and_false, true_or, or_true, false_or, or_false, true_iff, iff_true, false_iff, iff_false, not_true_eq_false, not_false_eq_true, true_implies, false_implies, implies_true, forall_const, decide_true, decide_false, reduceCtorEq]
          · have he : bwE z m s r a x = 0 := by unfold bwE; rw [if_pos ⟨c1, c2⟩, if_neg c3]
            have c4 : (2 ≤ m) = True := eq_true (by omega)
            have t1 := ftab_rng 1 (bwK z)
            have t2 := ftab_rng 2 (bwK z)
            have m1 : 0 ≤ bwM z m ∧ bwM z m ≤ 25 := by unfold bwM; split <;> omega
            have e1 := mbd 2000000 25 (a := x) (b := bwM z m) (by omega) (by omega)
            have e2 := mbd 32670 50000000 (a := ftab 1 (bwK z)) (b := r) (by omega) (by omega)
            have e3 := mbd 32670 50000000 (a := ftab 2 (bwK z)) (b := r) (by omega) (by omega)
            have w1 : IntKind.i64.wrap (x * bwM z m) = x * bwM z m := w64 (by omega) (by omega)
            have w2 : IntKind.i64.wrap (x * bwM z m * 10000) = x * bwM z m * 10000 := w64 (by omega) (by omega)
            have w3 : IntKind.i64.wrap (ftab 1 (bwK z) * r) = ftab 1 (bwK z) * r := w64 (by omega) (by omega)
            have w4 : IntKind.i64.wrap (ftab 2 (bwK z) * r) = ftab 2 (bwK z) * r := w64 (by omega) (by omega)
            have hv : bwV z m r x = if ftab 2 (bwK z) * r < x * bwM z m * 10000 then 1 else if x * bwM z m * 10000 < ftab 1 (bwK z) * r then -1 else 0 := rfl
            by_cases c5 : z = 1
            · have d1 : bwM z m = m - 1 := by unfold bwM; rw [if_pos c5]
              have d2 : bwK z = 2 := by unfold bwK; rw [if_pos c5]
              have o1 : (z = 1) = True := eq_true c5
              rw [d1] at w1 w2 hv
              rw [d2] at w3 w4 hv
              simp only [bwide_sem, bwide_sp, bright_sem, ffac_sem, bwide_den, bright_sem, ffac_sem, Tree.den, LE.den, Cv.list, placeA, List.getElem?_cons_zero, List.getElem?_cons_succ, IE.den, BE.den, At.den, CA.den, Env.get, Cv.int, Cv.bool, List.cons_append, List.nil_append, List.map_cons, List.map_nil, bindRes, bindEq, Fits, SV.den, denL, place, placeL, eq_t, eq_f, lt_t, lt_f, le_t, le_f, beq_iff_eq, beq_eq_false_iff_ne, ne_eq, reduceCtorEq, b_dec, decide_eq_true_eq, decide_eq_false_iff_not, Bool.not_eq_false', Bool.or_eq_true, Bool.or_eq_false_iff, Bool.and_eq_false_iff, true_iff, false_iff, Bool.false_eq_true, Bool.not_eq_true', Bool.and_eq_true, Bool.not_true, Bool.not_false, List.cons.injEq, Cv.i.injEq, Cv.b.injEq, and_true, true_and, agg_inj, tup_inj, Value.int.injEq, Value.bool.injEq, j_z, j_m, j_s, j_r, j_a, c1, he, c3, c4, a1, a2, a3, a4, o1, k1, k2, v1, v2, w1, w2, w3, w4, forall_eq, eq_self, if_true, if_false, true_and, and_true, false_and, and_false, true_or, or_true, false_or, or_false, true_iff, iff_true, false_iff, iff_false, not_true_eq_false, not_false_eq_true, true_implies, false_implies, implies_true, forall_const, decide_true, decide_false, reduceCtorEq]
              rw [hv]
              clear e1 e2 e3 w1 w2 w3 w4 t1 t2 hv c1
              generalize ftab 2 2 * r = A
              generalize ftab 1 2 * r = B
              generalize x * (m - 1) * 10000 = C
              (repeat' (first | intro _ | refine And.intro ?_ ?_ | exact trivial)) <;> omega
            · have d1 : bwM z m = m := by unfold bwM; rw [if_neg c5]
              have d2 : bwK z = z := by unfold bwK; rw [if_neg c5]
              have o1 : (z = 1) = False := eq_false c5
              have z2 : 2 ≤ z ∧ z ≤ 10 := by omega
              have iz : IsI z := j_z
              have v3 : facV 1 z = ftab 1 z := by unfold facV; rw [if_pos (by omega), if_pos z2]
              have v4 : facV 2 z = ftab 2 z := by unfold facV; rw [if_pos (by omega), if_pos z2]
              rw [d1] at w1 w2 hv
              rw [d2] at w3 w4 hv
              simp only [bwide_sem, bwide_sp, bright_sem, ffac_sem, bwide_den, bright_sem, ffac_sem, Tree.den, LE.den, Cv.list, placeA, List.getElem?_cons_zero, List.getElem?_cons_succ, IE.den, BE.den, At.den, CA.den, Env.get, Cv.int, Cv.bool, List.cons_append, List.nil_append, List.map_cons, List.map_nil, bindRes, bindEq, Fits, SV.den, denL, place, placeL, eq_t, eq_f, lt_t, lt_f, le_t, le_f, beq_iff_eq, beq_eq_false_iff_ne, ne_eq, reduceCtorEq, b_dec, decide_eq_true_eq, decide_eq_false_iff_not, Bool.not_eq_false', Bool.or_eq_true, Bool.or_eq_false_iff, Bool.and_eq_false_iff, true_iff, false_iff, Bool.false_eq_true, Bool.not_eq_true', Bool.and_eq_true, Bool.not_true, Bool.not_false, List.cons.injEq, Cv.i.injEq, Cv.b.injEq, and_true, true_and, agg_inj, tup_inj, Value.int.injEq, Value.bool.injEq, j_z, j_m, j_s, j_r, j_a, c1, he, c3, c4, a1, a2, a3, a4, o1, k1, k2, v3, v4, w1, w2, w3, w4, forall_eq, eq_self, if_true, if_false, true_and, and_true, false_and, and_false, true_or, or_true, false_or, or_false, true_iff, iff_true, false_iff, iff_false, not_true_eq_false, not_false_eq_true, true_implies, false_implies, implies_true, forall_const, decide_true, decide_false, reduceCtorEq]
              rw [hv]
              clear e1 e2 e3 w1 w2 w3 w4 t1 t2 hv c1 v1 v2 v3 v4
              generalize ftab 2 z * r = A
              generalize ftab 1 z * r = B
              generalize x * m * 10000 = C
              (repeat' (first | intro _ | refine And.intro ?_ ?_ | exact trivial)) <;> omega
        · have he : bwE z m s r a x = 1 := by unfold bwE; rw [if_neg (fun h => c2 h.2)]
          rcases Decidable.em (x < 0) with c3 | c3
          · have c4 : (0 ≤ x) = False := eq_false (by omega)
            simp only [bwide_sem, bwide_sp, bright_sem, ffac_sem, bwide_den, bright_sem, ffac_sem, Tree.den, LE.den, Cv.list, placeA, List.getElem?_cons_zero, List.getElem?_cons_succ, IE.den, BE.den, At.den, CA.den, Env.get, Cv.int, Cv.bool, List.cons_append, List.nil_append, List.map_cons, List.map_nil, bindRes, bindEq, Fits, SV.den, denL, place, placeL, eq_t, eq_f, lt_t, lt_f, le_t, le_f, beq_iff_eq, beq_eq_false_iff_ne, ne_eq, reduceCtorEq, b_dec, decide_eq_true_eq, decide_eq_false_iff_not, Bool.not_eq_false', Bool.or_eq_true, Bool.or_eq_false_iff, Bool.and_eq_false_iff, true_iff, false_iff, Bool.false_eq_true, Bool.not_eq_true', Bool.and_eq_true, Bool.not_true, Bool.not_false, List.cons.injEq, Cv.i.injEq, Cv.b.injEq, and_true, true_and, agg_inj, tup_inj, Value.int.injEq, Value.bool.injEq, j_z, j_m, j_s, j_r, j_a, c1, he, g1, c3, c4, forall_eq, eq_self, if_true, if_false, true_and, and_true, false_and, and_false, true_or, or_true, false_or, or_false, true_iff, iff_true, false_iff, iff_false, not_true_eq_false, not_false_eq_true, true_implies, false_implies, implies_true, forall_const, decide_true, decide_false, reduceCtorEq]
          · have c4 : (2000000 < x) = True := eq_true (by omega)
            have c5 : (x ≤ 2000000) = False := eq_false (by omega)
            simp only [bwide_sem, bwide_sp, bright_sem, ffac_sem, bwide_den, bright_sem, ffac_sem, Tree.den, LE.den, Cv.list, placeA, List.getElem?_cons_zero, List.getElem?_cons_succ, IE.den, BE.den, At.den, CA.den, Env.get, Cv.int, Cv.bool, List.cons_append, List.nil_append, List.map_cons, List.map_nil, bindRes, bindEq, Fits, SV.den, denL, place, placeL, eq_t, eq_f, lt_t, lt_f, le_t, le_f, beq_iff_eq, beq_eq_false_iff_ne, ne_eq, reduceCtorEq, b_dec, decide_eq_true_eq, decide_eq_false_iff_not, Bool.not_eq_false', Bool.or_eq_true, Bool.or_eq_false_iff, Bool.and_eq_false_iff, true_iff, false_iff, Bool.false_eq_true, Bool.not_eq_true', Bool.and_eq_true, Bool.not_true, Bool.not_false, List.cons.injEq, Cv.i.injEq, Cv.b.injEq, and_true, true_and, agg_inj, tup_inj, Value.int.injEq, Value.bool.injEq, j_z, j_m, j_s, j_r, j_a, c1, he, g1, c3, c4, c5, forall_eq, eq_self, if_true, if_false, true_and, and_true, false_and, and_false, true_or, or_true, false_or, or_false, true_iff, iff_true, false_iff, iff_false, not_true_eq_false, not_false_eq_true, true_implies, false_implies, implies_true, forall_const, decide_true, decide_false, reduceCtorEq]
      · have he : bwE z m s r a x = 1 := by unfold bwE; rw [if_neg (fun h => c1 h.1)]
        simp only [bwide_sem, bwide_sp, bright_sem, ffac_sem, bwide_den, bright_sem, ffac_sem, Tree.den, LE.den, Cv.list, placeA, List.getElem?_cons_zero, List.getElem?_cons_succ, IE.den, BE.den, At.den, CA.den, Env.get, Cv.int, Cv.bool, List.cons_append, List.nil_append, List.map_cons, List.map_nil, bindRes, bindEq, Fits, SV.den, denL, place, placeL, eq_t, eq_f, lt_t, lt_f, le_t, le_f, beq_iff_eq, beq_eq_false_iff_ne, ne_eq, reduceCtorEq, b_dec, decide_eq_true_eq, decide_eq_false_iff_not, Bool.not_eq_false', Bool.or_eq_true, Bool.or_eq_false_iff, Bool.and_eq_false_iff, true_iff, false_iff, Bool.false_eq_true, Bool.not_eq_true', Bool.and_eq_true, Bool.not_true, Bool.not_false, List.cons.injEq, Cv.i.injEq, Cv.b.injEq, and_true, true_and, agg_inj, tup_inj, Value.int.injEq, Value.bool.injEq, j_z, j_m, j_s, j_r, j_a, c1, he, g1, forall_eq, eq_self, if_true, if_false, true_and, and_true, false_and, and_false, true_or, or_true, false_or, or_false, true_iff, iff_true, false_iff, iff_false, not_true_eq_false, not_false_eq_true, true_implies, false_implies, implies_true, forall_const, decide_true, decide_false, reduceCtorEq]
end Go.Proofs.Ytjbokdekofiihaa.X
