/-
  base: Point, by contract.
-/
import Derived.Test.YtjbokdekofiihaaSxBs
import Derived.Test.YtjbokdekofiihaaSxFct
namespace Go.Proofs.Ytjbokdekofiihaa.X
open Go Go.SX
set_option linter.unusedVariables false
set_option linter.unusedSimpArgs false




theorem mnn {a b : Int} (h1 : 0 ≤ a) (h2 : 0 ≤ b) : 0 ≤ a * b := Int.mul_nonneg h1 h2
def bpE (z m s r a x : Int) : Int := if BsOK z m s r a ∧ -(z * 1000000) ≤ x ∧ x ≤ z * 1000000 then if m < 2 then 12 else 0 else 1
def bpC (z m s : Int) : Int := if z = 1 then 11280 * (m - 1) * s else 30000 * s
def bpN (z m : Int) : Int := if z = 1 then 11280 * (m - 1) * m else 30000 * m * z
def bpD (z m s x : Int) : Int := if z = 1 then 11280 * (m - 1) * (x * m - s) else 30000 * (x * m - s)
def bpV (z m r : Int) : Int := if z = 1 then 10000 * m * r else ftab 0 z * r * z
theorem bpE_rng (z m s r a x : Int) : 0 ≤ bpE z m s r a x ∧ bpE z m s r a x ≤ 12 := by unfold bpE; (repeat' split) <;> omega
theorem bp_rng {z m s r a x : Int} (h : BsOK z m s r a) (hx : -(z * 1000000) ≤ x ∧ x ≤ z * 1000000) : (-100000000000000000 ≤ bpC z m s ∧ bpC z m s ≤ 100000000000000000) ∧ (-100000000000000000 ≤ bpN z m ∧ bpN z m ≤ 100000000000000000) ∧ (-1000000000000000000 ≤ bpD z m s x ∧ bpD z m s x ≤ 1000000000000000000) ∧ (0 ≤ bpV z m r ∧ bpV z m r ≤ 100000000000000000) := by
  obtain ⟨b1, b2, b3⟩ := bs_bd h
  obtain ⟨h1, h2, h3, h4, h5, h6⟩ := h
  have t := ftab_rng 0 z
  have e1 := mbd 10000000 25 (a := x) (b := m) (by omega) (by omega)
  have e2 := mbd 1000000 500000000 (a := 11280 * (m - 1)) (b := x * m - s) (by omega) (by omega)
  have e3 := mbd 1000000 250000000 (a := 11280 * (m - 1)) (b := s) (by omega) (by omega)
  have e4 := mbd 1000000 25 (a := 11280 * (m - 1)) (b := m) (by omega) (by omega)
  have e5 := mbd 1000000 10 (a := 30000 * m) (b := z) (by omega) (by omega)
  have e6 := mbd 250000 50000000 (a := 10000 * m) (b := r) (by omega) (by omega)
  have e7 := mbd 32670 50000000 (a := ftab 0 z) (b := r) (by omega) (by omega)
  have e8 := mbd 1633500000000 10 (a := ftab 0 z * r) (b := z) (by omega) (by omega)
  have n1 := mnn (a := 10000 * m) (b := r) (by omega) (by omega)
  have n2 := mnn (a := ftab 0 z) (b := r) (by omega) (by omega)
  have n3 := mnn (a := ftab 0 z * r) (b := z) n2 (by omega)
  unfold bpC bpN bpD bpV
  by_cases hz : z = 1
  · simp only [if_pos hz]; omega
  · simp only [if_neg hz]; omega
def bpoint_sp : SpecSh := { args := [(.agg [(.int .i64 (.z 0)), (.int .i64 (.z 0)), (.int .i64 (.z 0)), (.int .i64 (.z 0)), (.int .i64 (.z 0))]), (.int .i64 (.z 0))], res := (.tup [(.agg [(.int .i64 (.z 0)), (.int .i64 (.z 0)), (.int .i64 (.z 0)), (.int .u64 (.z 0)), (.int .u64 (.z 0))]), (.int .i64 (.z 0))]), sh := [.i (some ((-9223372036854775808), 9223372036854775807)), .i (some ((-9223372036854775808), 9223372036854775807)), .i (some ((-9223372036854775808), 9223372036854775807)), .i (some (0, 18446744073709551615)), .i (some (0, 18446744073709551615)), .i (some ((-9223372036854775808), 9223372036854775807))] }
set_option maxRecDepth 100000 in
def bpoint_tree : Tree :=
.call 13 [.b] [.i (.v 0), .i (.v 1), .i (.v 2), .i (.v 3), .i (.v 4)] <|
.ite (.not (.v 6)) (.ret (.tup [(.agg [(.int .i64 (.z 0)), (.int .i64 (.z 0)), (.int .i64 (.z 0)), (.int .u64 (.z 0)), (.int .u64 (.z 0))]), (.int .i64 (.z 1))])) <|
.lett (.subw .i64 (.z 0) (.v 0)) <|
.lett (.mulw .i64 (.v 7) (.z 1000000)) <|
.ite (.cmp .lt (.v 5) (.v 8)) (.ret (.tup [(.agg [(.int .i64 (.z 0)), (.int .i64 (.z 0)), (.int .i64 (.z 0)), (.int .u64 (.z 0)), (.int .u64 (.z 0))]), (.int .i64 (.z 1))])) <|
.lett (.mulw .i64 (.v 0) (.z 1000000)) <|
.ite (.cmp .lt (.v 9) (.v 5)) (.ret (.tup [(.agg [(.int .i64 (.z 0)), (.int .i64 (.z 0)), (.int .i64 (.z 0)), (.int .u64 (.z 0)), (.int .u64 (.z 0))]), (.int .i64 (.z 1))])) <|
.ite (.cmp .lt (.v 1) (.z 2)) (.ret (.tup [(.agg [(.int .i64 (.z 0)), (.int .i64 (.z 0)), (.int .i64 (.z 0)), (.int .u64 (.z 0)), (.int .u64 (.z 0))]), (.int .i64 (.z 12))])) <|
.ite (.cmp .eq (.v 0) (.z 1)) (.call 16 [.i (some (0, 32670)), .i (some (0, 3))] [.i (.z 3), .i (.z 2)] <|
.lett (.sub (.v 1) (.z 1)) <|
.lett (.mulw .i64 (.v 10) (.v 12)) <|
.lett (.mulw .i64 (.v 13) (.v 1)) <|
.lett (.mulw .i64 (.z 10000) (.v 1)) <|
.lett (.mulw .i64 (.v 15) (.v 3)) <|
.lett (.mulw .i64 (.v 13) (.v 2)) <|
.lett (.mulw .i64 (.v 5) (.v 1)) <|
.lett (.subw .i64 (.v 18) (.v 2)) <|
.lett (.mulw .i64 (.v 13) (.v 19)) <|
.lett (.wrap .u64 (.v 16)) <|
.lett (.wrap .u64 (.v 16)) <|
.call 15 [.i (some (0, 18446744073709551615)), .i (some (0, 18446744073709551615))] [.i (.v 21), .i (.v 22)] <|
.ret (.tup [(.agg [(.int .i64 (.v 17)), (.int .i64 (.v 14)), (.int .i64 (.v 20)), (.int .u64 (.v 23)), (.int .u64 (.v 24))]), (.int .i64 (.z 0))])) <|
.call 16 [.i (some (0, 32670)), .i (some (0, 3))] [.i (.z 0), .i (.v 0)] <|
.lett (.mulw .i64 (.z 30000) (.v 1)) <|
.lett (.mulw .i64 (.v 12) (.v 0)) <|
.lett (.mulw .i64 (.v 10) (.v 3)) <|
.lett (.mulw .i64 (.v 14) (.v 0)) <|
.lett (.mulw .i64 (.z 30000) (.v 2)) <|
.lett (.mulw .i64 (.v 5) (.v 1)) <|
.lett (.subw .i64 (.v 17) (.v 2)) <|
.lett (.mulw .i64 (.z 30000) (.v 18)) <|
.lett (.wrap .u64 (.v 15)) <|
.lett (.wrap .u64 (.v 15)) <|
.call 15 [.i (some (0, 18446744073709551615)), .i (some (0, 18446744073709551615))] [.i (.v 20), .i (.v 21)] <|
.ret (.tup [(.agg [(.int .i64 (.v 16)), (.int .i64 (.v 13)), (.int .i64 (.v 19)), (.int .u64 (.v 22)), (.int .u64 (.v 23))]), (.int .i64 (.z 0))])
noncomputable def bpoint_cx : Ctx := { tys := tys, fns := fns, mets := mets, sps := [(13, bright_sp), (16, ffac_sp), (15, mul_sp)], anns := [], trys := [] }
def bpoint_ivs : List (Option (Int × Int)) := [some ((-9223372036854775808), 9223372036854775807), some ((-9223372036854775808), 9223372036854775807), some ((-9223372036854775808), 9223372036854775807), some ((-9223372036854775808), 9223372036854775807), some ((-9223372036854775808), 9223372036854775807), some ((-9223372036854775808), 9223372036854775807)]
set_option maxRecDepth 100000 in
theorem bpoint_walk : runFn bpoint_cx 3000 9 Try.f9 bpoint_sp.args bpoint_ivs = bpoint_tree := by kernel_rfl
noncomputable def bpoint_M : Nat → SpecSem
  | 13 => bright_sem
  | 16 => ffac_sem
  | 15 => mul_sem
  | _ => noSem
theorem bpoint_M13 : bpoint_M 13 = bright_sem := rfl
theorem bpoint_M16 : bpoint_M 16 = ffac_sem := rfl
theorem bpoint_M15 : bpoint_M 15 = mul_sem := rfl
theorem bpoint_cxok : CxOK Try.prog bpoint_cx bpoint_M := ⟨tysOK, fnsOK, spCons bright_ok <| spCons ffac_ok <| spCons mul_ok <| fun _ _ h => spNil h, mixedOK, fun _ _ h => trNil h, fun _ _ h => atNil h, metsOK⟩
set_option maxRecDepth 100000 in
set_option maxHeartbeats 8000000 in
theorem bpoint_den (R RP : Value → Prop) (F : Ex → St → Js → Env → Prop) (J : Js) (x0 : Int) (x1 : Int) (x2 : Int) (x3 : Int) (x4 : Int) (x5 : Int) : Tree.den bpoint_M R RP F bpoint_tree J [(.i x0), (.i x1), (.i x2), (.i x3), (.i x4), (.i x5)] = (
  (bright_sem.pre [(.i x0), (.i x1), (.i x2), (.i x3), (.i x4)]) ∧ (
((!(Cv.bool (Env.get (bright_sem.out [(.i x0), (.i x1), (.i x2), (.i x3), (.i x4)]) 0))) = true → R (Value.tuple [(Value.agg [(Value.int .i64 (0 : Int)), (Value.int .i64 (0 : Int)), (Value.int .i64 (0 : Int)), (Value.int .u64 (0 : Int)), (Value.int .u64 (0 : Int))].toArray), (Value.int .i64 (1 : Int))].toArray)) ∧ ((!(Cv.bool (Env.get (bright_sem.out [(.i x0), (.i x1), (.i x2), (.i x3), (.i x4)]) 0))) = false → ∀ x7 : Int, x7 = (IntKind.i64.wrap ((0 : Int) - x0)) →
∀ x8 : Int, x8 = (IntKind.i64.wrap (x7 * (1000000 : Int))) →
((Cmp.den .lt x5 x8) = true → R (Value.tuple [(Value.agg [(Value.int .i64 (0 : Int)), (Value.int .i64 (0 : Int)), (Value.int .i64 (0 : Int)), (Value.int .u64 (0 : Int)), (Value.int .u64 (0 : Int))].toArray), (Value.int .i64 (1 : Int))].toArray)) ∧ ((Cmp.den .lt x5 x8) = false → ∀ x9 : Int, x9 = (IntKind.i64.wrap (x0 * (1000000 : Int))) →
((Cmp.den .lt x9 x5) = true → R (Value.tuple [(Value.agg [(Value.int .i64 (0 : Int)), (Value.int .i64 (0 : Int)), (Value.int .i64 (0 : Int)), (Value.int .u64 (0 : Int)), (Value.int .u64 (0 : Int))].toArray), (Value.int .i64 (1 : Int))].toArray)) ∧ ((Cmp.den .lt x9 x5) = false → ((Cmp.den .lt x1 (2 : Int)) = true → R (Value.tuple [(Value.agg [(Value.int .i64 (0 : Int)), (Value.int .i64 (0 : Int)), (Value.int .i64 (0 : Int)), (Value.int .u64 (0 : Int)), (Value.int .u64 (0 : Int))].toArray), (Value.int .i64 (12 : Int))].toArray)) ∧ ((Cmp.den .lt x1 (2 : Int)) = false → ((Cmp.den .eq x0 (1 : Int)) = true → (ffac_sem.pre [(.i (3 : Int)), (.i (2 : Int))]) ∧ (
∀ x10 : Int, x10 = (Cv.int (Env.get (ffac_sem.out [(.i (3 : Int)), (.i (2 : Int))]) 0)) → (0 : Int) ≤ x10 → x10 ≤ (32670 : Int) →
∀ x11 : Int, x11 = (Cv.int (Env.get (ffac_sem.out [(.i (3 : Int)), (.i (2 : Int))]) 1)) → (0 : Int) ≤ x11 → x11 ≤ (3 : Int) →
∀ x12 : Int, x12 = (x1 - (1 : Int)) →
∀ x13 : Int, x13 = (IntKind.i64.wrap (x10 * x12)) →
∀ x14 : Int, x14 = (IntKind.i64.wrap (x13 * x1)) →
∀ x15 : Int, x15 = (IntKind.i64.wrap ((10000 : Int) * x1)) →
∀ x16 : Int, x16 = (IntKind.i64.wrap (x15 * x3)) →
∀ x17 : Int, x17 = (IntKind.i64.wrap (x13 * x2)) →
∀ x18 : Int, x18 = (IntKind.i64.wrap (x5 * x1)) →
∀ x19 : Int, x19 = (IntKind.i64.wrap (x18 - x2)) →
∀ x20 : Int, x20 = (IntKind.i64.wrap (x13 * x19)) →
∀ x21 : Int, x21 = (IntKind.u64.wrap x16) →
∀ x22 : Int, x22 = (IntKind.u64.wrap x16) →
(mul_sem.pre [(.i x21), (.i x22)]) ∧ (
∀ x23 : Int, x23 = (Cv.int (Env.get (mul_sem.out [(.i x21), (.i x22)]) 0)) → (0 : Int) ≤ x23 → x23 ≤ (18446744073709551615 : Int) →
∀ x24 : Int, x24 = (Cv.int (Env.get (mul_sem.out [(.i x21), (.i x22)]) 1)) → (0 : Int) ≤ x24 → x24 ≤ (18446744073709551615 : Int) →
R (Value.tuple [(Value.agg [(Value.int .i64 x17), (Value.int .i64 x14), (Value.int .i64 x20), (Value.int .u64 x23), (Value.int .u64 x24)].toArray), (Value.int .i64 (0 : Int))].toArray)))) ∧ ((Cmp.den .eq x0 (1 : Int)) = false → (ffac_sem.pre [(.i (0 : Int)), (.i x0)]) ∧ (
∀ x10 : Int, x10 = (Cv.int (Env.get (ffac_sem.out [(.i (0 : Int)), (.i x0)]) 0)) → (0 : Int) ≤ x10 → x10 ≤ (32670 : Int) →
∀ x11 : Int, x11 = (Cv.int (Env.get (ffac_sem.out [(.i (0 : Int)), (.i x0)]) 1)) → (0 : Int) ≤ x11 → x11 ≤ (3 : Int) →
∀ x12 : Int, x12 = (IntKind.i64.wrap ((30000 : Int) * x1)) →
∀ x13 : Int, x13 = (IntKind.i64.wrap (x12 * x0)) →
∀ x14 : Int, x14 = (IntKind.i64.wrap (x10 * x3)) →
∀ x15 : Int, x15 = (IntKind.i64.wrap (x14 * x0)) →
∀ x16 : Int, x16 = (IntKind.i64.wrap ((30000 : Int) * x2)) →
∀ x17 : Int, x17 = (IntKind.i64.wrap (x5 * x1)) →
∀ x18 : Int, x18 = (IntKind.i64.wrap (x17 - x2)) →
∀ x19 : Int, x19 = (IntKind.i64.wrap ((30000 : Int) * x18)) →
∀ x20 : Int, x20 = (IntKind.u64.wrap x15) →
∀ x21 : Int, x21 = (IntKind.u64.wrap x15) →
(mul_sem.pre [(.i x20), (.i x21)]) ∧ (
∀ x22 : Int, x22 = (Cv.int (Env.get (mul_sem.out [(.i x20), (.i x21)]) 0)) → (0 : Int) ≤ x22 → x22 ≤ (18446744073709551615 : Int) →
∀ x23 : Int, x23 = (Cv.int (Env.get (mul_sem.out [(.i x20), (.i x21)]) 1)) → (0 : Int) ≤ x23 → x23 ≤ (18446744073709551615 : Int) →
R (Value.tuple [(Value.agg [(Value.int .i64 x16), (Value.int .i64 x13), (Value.int .i64 x19), (Value.int .u64 x22), (Value.int .u64 x23)].toArray), (Value.int .i64 (0 : Int))].toArray)))))))))) := by kernel_rfl

def bpoint_sem : SpecSem := { pre := fun cs => match cs with | [.i z, .i m, .i s, .i r, .i a, .i x] => IsI z ∧ IsI m ∧ IsI s ∧ IsI r ∧ IsI a ∧ IsI x | _ => False, out := fun cs => match cs with | [.i z, .i m, .i s, .i r, .i a, .i x] => [.i (if bpE z m s r a x = 0 then bpC z m s else 0), .i (if bpE z m s r a x = 0 then bpN z m else 0), .i (if bpE z m s r a x = 0 then bpD z m s x else 0), .i (if bpE z m s r a x = 0 then bpV z m r * bpV z m r / 18446744073709551616 else 0), .i (if bpE z m s r a x = 0 then bpV z m r * bpV z m r % 18446744073709551616 else 0), .i (bpE z m s r a x)] | _ => [] }
set_option maxRecDepth 10000 in
set_option maxHeartbeats 16000000 in
theorem bpoint_ok : SpecOK Try.prog 9 bpoint_sp bpoint_sem := by
  refine spec_of_tree bpoint_cxok Try.func9 (by kernel_rfl) (by kernel_rfl) bpoint_walk rfl ?_
  intro cs hpre
  match cs, hpre with
  | [.i z, .i m, .i s, .i r, .i a, .i x], ⟨j_z, j_m, j_s, j_r, j_a, j_x⟩ =>
    have h_z := j_z
    unfold IsI at h_z
    have h_m := j_m
    unfold IsI at h_m
    have h_s := j_s
    unfold IsI at h_s
    have h_r := j_r
    unfold IsI at h_r
    have h_a := j_a
    unfold IsI at h_a
    have h_x := j_x
    unfold IsI at h_x
    refine ⟨rfl, IvsB.ok (by simp only [bpoint_ivs, IvsB, Cv.int, and_true] <;> omega), ?_, ?_⟩
    · simp only [bpoint_sem, bpoint_sp, Fits, and_true]
      have he := bpE_rng z m s r a x
      by_cases h : bpE z m s r a x = 0
      · have hc : BsOK z m s r a ∧ -(z * 1000000) ≤ x ∧ x ≤ z * 1000000 := by
          by_cases g : BsOK z m s r a ∧ -(z * 1000000) ≤ x ∧ x ≤ z * 1000000
          · exact g
          · unfold bpE at h; rw [if_neg g] at h; omega
        have hb := bp_rng hc.1 hc.2
        have hv := mul_hi (x := bpV z m r) (y := bpV z m r) ⟨by omega, by omega⟩ ⟨by omega, by omega⟩
        simp only [if_pos h]
        omega
      · simp only [if_neg h]; omega
    · rw [bpoint_den]
      have g1 : ((1 : Int) = 0) = False := by simp
      have g12 : ((12 : Int) = 0) = False := by simp
      have k3 : IsI 3 := ⟨by omega, by omega⟩
      have k2 : IsI 2 := ⟨by omega, by omega⟩
      have k0 : IsI 0 := ⟨by omega, by omega⟩
      have v1 : facV 3 2 = 11280 := by decide
      have v2 : facE 3 2 = 0 := by decide
      by_cases c1 : BsOK z m s r a
      · have hb := bs_bd c1
        have hq := c1
        obtain ⟨q1, q2, q3, q4, q5, q6⟩ := hq
        have w0 : IntKind.i64.wrap (0 - z) = 0 - z := w64 (by omega) (by omega)
        have w1 : IntKind.i64.wrap ((0 - z) * 1000000) = (0 - z) * 1000000 := w64 (by omega) (by omega)
        have w2 : IntKind.i64.wrap (z * 1000000) = z * 1000000 := w64 (by omega) (by omega)
        by_cases c2 : -(z * 1000000) ≤ x ∧ x ≤ z * 1000000
        · have a1 : (x < (0 - z) * 1000000) = False := eq_false (by omega)
          have a2 : (z * 1000000 < x) = False := eq_false (by omega)
          have a3 : ((0 - z) * 1000000 ≤ x) = True := eq_true (by omega)
          have a4 : (x ≤ z * 1000000) = True := eq_true (by omega)
          by_cases c3 : m < 2
          · have he : bpE z m s r a x = 12 := by unfold bpE; rw [if_pos ⟨c1, c2⟩, if_pos c3]
            have c4 : (2 ≤ m) = False := eq_false (by omega)
            simp only [bpoint_sem, bpoint_sp, bright_sem, ffac_sem, mul_sem, bpoint_den, bright_sem, ffac_sem, mul_sem, Tree.den, LE.den, Cv.list, placeA, List.getElem?_cons_zero, List.getElem?_cons_succ, IE.den, BE.den, At.den, CA.den, Env.get, Cv.int, Cv.bool, List.cons_append, List.nil_append, List.map_cons, List.map_nil, bindRes, bindEq, Fits, SV.den, denL, place, placeL, eq_t, eq_f, lt_t, lt_f, le_t, le_f, beq_iff_eq, beq_eq_false_iff_ne, ne_eq, reduceCtorEq, b_dec, decide_eq_true_eq, decide_eq_false_iff_not, Bool.not_eq_false', Bool.or_eq_true, Bool.or_eq_false_iff, Bool.and_eq_false_iff, true_iff, false_iff, Bool.false_eq_true, Bool.not_eq_true', Bool.and_eq_true, Bool.not_true, Bool.not_false, List.cons.injEq, Cv.i.injEq, Cv.b.injEq, and_true, true_and, agg_inj, tup_inj, Value.int.injEq, Value.bool.injEq, j_z, j_m, j_s, j_r, j_a, c1, he, g12, c3, c4, w0, w1, w2, a1, a2, a3, a4, forall_eq, eq_self, if_true, if_false, true_and, and_true, false_and, and_false, true_or, or_true, false_or, or_false, true_iff, iff_true, false_iff, iff_false, not_true_eq_false, not_false_eq_true, true_implies, false_implies, implies_true, forall_const, decide_true, decide_false, reduceCtorEq]
          · have he : bpE z m s r a x = 0 := by unfold bpE; rw [if_pos ⟨c1, c2⟩, if_neg c3]
            have c4 : (2 ≤ m) = True := eq_true (by omega)
            have hr := bp_rng c1 c2
            have t := ftab_rng 0 z
            have e1 := mbd 10000000 25 (a := x) (b := m) (by omega) (by omega)
            have w3 : IntKind.i64.wrap (x * m) = x * m := w64 (by omega) (by omega)
            have w4 : IntKind.i64.wrap (x * m - s) = x * m - s := w64 (by omega) (by omega)
            have hu : IsU (bpV z m r) := ⟨by omega, by omega⟩
            have hm := mul_hi hu hu
            have hw : IntKind.u64.wrap (bpV z m r) = bpV z m r := wu64 (by omega) (by omega)
            by_cases c5 : z = 1
            · have d1 : bpC z m s = 11280 * (m - 1) * s := by unfold bpC; rw [if_pos c5]
              have d2 : bpN z m = 11280 * (m - 1) * m := by unfold bpN; rw [if_pos c5]
              have d3 : bpD z m s x = 11280 * (m - 1) * (x * m - s) := by unfold bpD; rw [if_pos c5]
              have d4 : bpV z m r = 10000 * m * r := by unfold bpV; rw [if_pos c5]
              have w5 : IntKind.i64.wrap (11280 * (m - 1)) = 11280 * (m - 1) := w64 (by omega) (by omega)
              have w6 : IntKind.i64.wrap (11280 * (m - 1) * s) = bpC z m s := by rw [d1]; exact w64 (by omega) (by omega)
              have w7 : IntKind.i64.wrap (11280 * (m - 1) * m) = bpN z m := by rw [d2]; exact w64 (by omega) (by omega)
              have w8 : IntKind.i64.wrap (11280 * (m - 1) * (x * m - s)) = bpD z m s x := by rw [d3]; exact w64 (by omega) (by omega)
              have w9 : IntKind.i64.wrap (10000 * m) = 10000 * m := w64 (by omega) (by omega)
              have w10 : IntKind.i64.wrap (10000 * m * r) = bpV z m r := by rw [d4]; exact w64 (by omega) (by omega)
              have o1 : (z = 1) = True := eq_true c5
              clear d1 d2 d3 d4 e1
              simp only [bpoint_sem, bpoint_sp, bright_sem, ffac_sem, mul_sem, bpoint_den, bright_sem, ffac_sem, mul_sem, Tree.den, LE.den, Cv.list, placeA, List.getElem?_cons_zero, List.getElem?_cons_succ, IE.den, BE.den, At.den, CA.den, Env.get, Cv.int, Cv.bool, List.cons_append, List.nil_append, List.map_cons, List.map_nil, bindRes, bindEq, Fits, SV.den, denL, place, placeL, eq_t, eq_f, lt_t, lt_f, le_t, le_f, beq_iff_eq, beq_eq_false_iff_ne, ne_eq, reduceCtorEq, b_dec, decide_eq_true_eq, decide_eq_false_iff_not, Bool.not_eq_false', Bool.or_eq_true, Bool.or_eq_false_iff, Bool.and_eq_false_iff, true_iff, false_iff, Bool.false_eq_true, Bool.not_eq_true', Bool.and_eq_true, Bool.not_true, Bool.not_false, List.cons.injEq, Cv.i.injEq, Cv.b.injEq, and_true, true_and, agg_inj, tup_inj, Value.int.injEq, Value.bool.injEq, j_z, j_m, j_s, j_r, j_a, c1, he, c3, c4, w0, w1, w2, w3, w4, w5, w6, w7, w8, w9, w10, hw, hu, a1, a2, a3, a4, o1, k0, k2, k3, v1, v2, forall_eq, eq_self, if_true, if_false, true_and, and_true, false_and, and_false, true_or, or_true, false_or, or_false, true_iff, iff_true, false_iff, iff_false, not_true_eq_false, not_false_eq_true, true_implies, false_implies, implies_true, forall_const, decide_true, decide_false, reduceCtorEq]
            · have z2 : 2 ≤ z ∧ z ≤ 10 := by omega
              have v3 : facV 0 z = ftab 0 z := by unfold facV; rw [if_pos (by omega), if_pos z2]
              have v4 : facE 0 z = 0 := by unfold facE; rw [if_pos (by omega), if_pos z2]
              have d1 : bpC z m s = 30000 * s := by unfold bpC; rw [if_neg c5]
              have d2 : bpN z m = 30000 * m * z := by unfold bpN; rw [if_neg c5]
              have d3 : bpD z m s x = 30000 * (x * m - s) := by unfold bpD; rw [if_neg c5]
              have d4 : bpV z m r = ftab 0 z * r * z := by unfold bpV; rw [if_neg c5]
              have e2 := mbd 32670 50000000 (a := ftab 0 z) (b := r) (by omega) (by omega)
              have w5 : IntKind.i64.wrap (30000 * m) = 30000 * m := w64 (by omega) (by omega)
              have w6 : IntKind.i64.wrap (30000 * s) = bpC z m s := by rw [d1]; exact w64 (by omega) (by omega)
              have w7 : IntKind.i64.wrap (30000 * m * z) = bpN z m := by rw [d2]; exact w64 (by omega) (by omega)
              have w8 : IntKind.i64.wrap (30000 * (x * m - s)) = bpD z m s x := by rw [d3]; exact w64 (by omega) (by omega)
              have w9 : IntKind.i64.wrap (ftab 0 z * r) = ftab 0 z * r := w64 (by omega) (by omega)
              have w10 : IntKind.i64.wrap (ftab 0 z * r * z) = bpV z m r := by rw [d4]; exact w64 (by omega) (by omega)
              have o1 : (z = 1) = False := eq_false c5
              clear d1 d2 d3 d4 e1
              simp only [bpoint_sem, bpoint_sp, bright_sem, ffac_sem, mul_sem, bpoint_den, bright_sem, ffac_sem, mul_sem, Tree.den, LE.den, Cv.list, placeA, List.getElem?_cons_zero, List.getElem?_cons_succ, IE.den, BE.den, At.den, CA.den, Env.get, Cv.int, Cv.bool, List.cons_append, List.nil_append, List.map_cons, List.map_nil, bindRes, bindEq, Fits, SV.den, denL, place, placeL, eq_t, eq_f, lt_t, lt_f, le_t, le_f, beq_iff_eq, beq_eq_false_iff_ne, ne_eq, reduceCtorEq, b_dec, decide_eq_true_eq, decide_eq_false_iff_not, Bool.not_eq_false', Bool.or_eq_true, Bool.or_eq_false_iff, Bool.and_eq_false_iff, true_iff, false_iff, Bool.false_eq_true, Bool.not_eq_true', Bool.and_eq_true, Bool.not_true, Bool.not_false, List.cons.injEq, Cv.i.injEq, Cv.b.injEq, and_true, true_and, agg_inj, tup_inj, Value.int.injEq, Value.bool.injEq, j_z, j_m, j_s, j_r, j_a, c1, he, c3, c4, w0, w1, w2, w3, w4, w5, w6, w7, w8, w9, w10, hw, hu, a1, a2, a3, a4, o1, k0, k2, k3, v3, v4, forall_eq, eq_self, if_true, if_false, true_and, and_true, false_and, and_false, true_or, or_true, false_or, or_false, true_iff, iff_true, false_iff, iff_false, not_true_eq_false, not_false_eq_true, true_implies, false_implies, implies_true, forall_const, decide_true, decide_false, reduceCtorEq]
        · have he : bpE z m s r a x = 1 := by unfold bpE; rw [if_neg (fun h => c2 h.2)]
          rcases Decidable.em (x < (0 - z) * 1000000) with c3 | c3
          · have c4 : ((0 - z) * 1000000 ≤ x) = False := eq_false (by omega)
            simp only [bpoint_sem, bpoint_sp, bright_sem, ffac_sem, mul_sem, bpoint_den, bright_sem, ffac_sem, mul_sem, Tree.den, LE.den, Cv.list, placeA, List.getElem?_cons_zero, List.getElem?_cons_succ, IE.den, BE.den, At.den, CA.den, Env.get, Cv.int, Cv.bool, List.cons_append, List.nil_append, List.map_cons, List.map_nil, bindRes, bindEq, Fits, SV.den, denL, place, placeL, eq_t, eq_f, lt_t, lt_f, le_t, le_f, beq_iff_eq, beq_eq_false_iff_ne, ne_eq, reduceCtorEq, b_dec, decide_eq_true_eq, decide_eq_false_iff_not, Bool.not_eq_false', Bool.or_eq_true, Bool.or_eq_false_iff, Bool.and_eq_false_iff, true_iff, false_iff, Bool.false_eq_true, Bool.not_eq_true', Bool.and_eq_true, Bool.not_true, Bool.not_false, List.cons.injEq, Cv.i.injEq, Cv.b.injEq, and_true, true_and, agg_inj, tup_inj, Value.int.injEq, Value.bool.injEq, j_z, j_m, j_s, j_r, j_a, c1, he, g1, w0, w1, w2, c3, c4, forall_eq, eq_self, if_true, if_false, true_and, and_true, false_and, and_false, true_or, or_true, false_or, or_false, true_iff, iff_true, false_iff, iff_false, not_true_eq_false, not_false_eq_true, true_implies, false_implies, implies_true, forall_const, decide_true, decide_false, reduceCtorEq]
          · have c4 : (z * 1000000 < x) = True := eq_true (by omega)
            have c5 : (x ≤ z * 1000000) = False := eq_false (by omega)
            simp only [bpoint_sem, bpoint_sp, bright_sem, ffac_sem, mul_sem, bpoint_den, bright_sem, ffac_sem, mul_sem, Tree.den, LE.den, Cv.list, placeA, List.getElem?_cons_zero, List.getElem?_cons_succ, IE.den, BE.den, At.den, CA.den, Env.get, Cv.int, Cv.bool, List.cons_append, List.nil_append, List.map_cons, List.map_nil, bindRes, bindEq, Fits, SV.den, denL, place, placeL, eq_t, eq_f, lt_t, lt_f, le_t, le_f, beq_iff_eq, beq_eq_false_iff_ne, ne_eq, reduceCtorEq, b_dec, decide_eq_true_eq, decide_eq_false_iff_not, Bool.not_eq_false', Bool.or_eq_true, Bool.or_eq_false_iff, Bool.and_eq_false_iff, true_iff, false_iff, Bool.false_eq_true, Bool.not_eq_true', Bool.and_eq_true, Bool.not_true, Bool.not_false, List.cons.injEq, Cv.i.injEq, Cv.b.injEq, and_true, true_and, agg_inj, tup_inj, Value.int.injEq, Value.bool.injEq, j_z, j_m, j_s, j_r, j_a, c1, he, g1, w0, w1, w2, c3, c4, c5, forall_eq, eq_self, if_true, if_false, true_and, and_true, false_and, and_false, true_or, or_true, false_or, or_false, true_iff, iff_true, false_iff, iff_false, not_true_eq_false, not_false_eq_true, true_implies, false_implies, implies_true, forall_const, decide_true, decide_false, reduceCtorEq]
      · have he : bpE z m s r a x = 1 := by unfold bpE; rw [if_neg (fun h => c1 h.1)]
        simp only [bpoint_sem, bpoint_sp, bright_sem, ffac_sem, mul_sem, bpoint_den, bright_sem, ffac_sem, mul_sem, Tree.den, LE.den, Cv.list, placeA, List.getElem?_cons_zero, List.getElem?_cons_succ, IE.den, BE.den, At.den, CA.den, Env.get, Cv.int, Cv.bool, List.cons_append, List.nil_append, List.map_cons, List.map_nil, bindRes, bindEq, Fits, SV.den, denL, place, placeL, eq_t, eq_f, lt_t, lt_f, le_t, le_f, beq_iff_eq, beq_eq_false_iff_ne, ne_eq, reduceCtorEq, b_dec, decide_eq_true_eq, decide_eq_false_iff_not, Bool.not_eq_false', Bool.or_eq_true, Bool.or_eq_false_iff, Bool.and_eq_false_iff, true_iff, false_iff, Bool.false_eq_true, Bool.not_eq_true', Bool.and_eq_true, Bool.not_true, Bool.not_false, List.cons.injEq, Cv.i.injEq, Cv.b.injEq, and_true, true_and, agg_inj, tup_inj, Value.int.injEq, Value.bool.injEq, j_z, j_m, j_s, j_r, j_a, c1, he, g1, forall_eq, eq_self, if_true, if_false, true_and, and_true, false_and, and_false, true_or, or_true, false_or, or_false, true_iff, iff_true, false_iff, iff_false, not_true_eq_false, not_false_eq_true, true_implies, false_implies, implies_true, forall_const, decide_true, decide_false, reduceCtorEq]
end Go.Proofs.Ytjbokdekofiihaa.X
