/-
  ZoneHolds holds of every input: its contract.
-/
import Derived.Test.YtehoiibnemjkaaaDoorSxZoneE
namespace Go.Proofs.YtehoiibnemjkaaaDoor.X
open Go Go.SX
set_option linter.unusedVariables false
set_option linter.unusedSimpArgs false
theorem mid3 {a b c x9 x10 x11 x12 x13 x14 : Int} (e9 : x9 = if b < a then b else a) (e10 : x10 = if c < x9 then c else x9) (e11 : x11 = if a < b then b else a) (e12 : x12 = if x11 < c then c else x11) (e13 : x13 = if c < x11 then c else x11) (e14 : x14 = if x9 < x13 then x13 else x9) (ha : IsI a) (hb : IsI b) (hc : IsI c) :
    (x10 ≤ x14 ∧ x14 ≤ x12) ∧ IsI x10 ∧ IsI x12 ∧ IsI x14 := by
  unfold IsI at *
  split at e9 <;> split at e11 <;> split at e10 <;> split at e12 <;> split at e13 <;> split at e14 <;> omega
theorem sort3 {u1 u0 v1 v0 w1 w0 x16 x17 x18 x19 x21 x22 x23 x24 x26 x27 x28 x29 : Int} (hu1 : IsU u1) (hu0 : IsU u0) (hv1 : IsU v1) (hv0 : IsU v0) (hw1 : IsU w1) (hw0 : IsU w0)
    (e16 : x16 = if val v1 v0 < val u1 u0 then v1 else u1) (e17 : x17 = if val v1 v0 < val u1 u0 then v0 else u0) (e18 : x18 = if val v1 v0 < val u1 u0 then u1 else v1) (e19 : x19 = if val v1 v0 < val u1 u0 then u0 else v0)
    (e21 : x21 = if val w1 w0 < val x18 x19 then w1 else x18) (e22 : x22 = if val w1 w0 < val x18 x19 then w0 else x19) (e23 : x23 = if val w1 w0 < val x18 x19 then x18 else w1) (e24 : x24 = if val w1 w0 < val x18 x19 then x19 else w0)
    (e26 : x26 = if val x21 x22 < val x16 x17 then x21 else x16) (e27 : x27 = if val x21 x22 < val x16 x17 then x22 else x17) (e28 : x28 = if val x21 x22 < val x16 x17 then x16 else x21) (e29 : x29 = if val x21 x22 < val x16 x17 then x17 else x22) :
    (val x26 x27 ≤ val x28 x29 ∧ val x28 x29 ≤ val x23 x24) ∧ (IsU x26 ∧ IsU x27 ∧ IsU x28 ∧ IsU x29 ∧ IsU x23 ∧ IsU x24) := by
  by_cases c1 : val v1 v0 < val u1 u0
  · simp only [if_pos c1] at e16 e17 e18 e19
    subst e16 e17 e18 e19
    by_cases c2 : val w1 w0 < val x18 x19
    · simp only [if_pos c2] at e21 e22 e23 e24
      subst e21 e22 e23 e24
      by_cases c3 : val x21 x22 < val x16 x17
      · simp only [if_pos c3] at e26 e27 e28 e29
        subst e26 e27 e28 e29
        exact ⟨⟨by omega, by omega⟩, by assumption, by assumption, by assumption, by assumption, by assumption, by assumption⟩
      · simp only [if_neg c3] at e26 e27 e28 e29
        subst e26 e27 e28 e29
        exact ⟨⟨by omega, by omega⟩, by assumption, by assumption, by assumption, by assumption, by assumption, by assumption⟩
    · simp only [if_neg c2] at e21 e22 e23 e24
      subst e21 e22 e23 e24
      by_cases c3 : val x21 x22 < val x16 x17
      · simp only [if_pos c3] at e26 e27 e28 e29
        subst e26 e27 e28 e29
        exact ⟨⟨by omega, by omega⟩, by assumption, by assumption, by assumption, by assumption, by assumption, by assumption⟩
      · simp only [if_neg c3] at e26 e27 e28 e29
        subst e26 e27 e28 e29
        exact ⟨⟨by omega, by omega⟩, by assumption, by assumption, by assumption, by assumption, by assumption, by assumption⟩
  · simp only [if_neg c1] at e16 e17 e18 e19
    subst e16 e17 e18 e19
    by_cases c2 : val w1 w0 < val x18 x19
    · simp only [if_pos c2] at e21 e22 e23 e24
      subst e21 e22 e23 e24
      by_cases c3 : val x21 x22 < val x16 x17
      · simp only [if_pos c3] at e26 e27 e28 e29
        subst e26 e27 e28 e29
        exact ⟨⟨by omega, by omega⟩, by assumption, by assumption, by assumption, by assumption, by assumption, by assumption⟩
      · simp only [if_neg c3] at e26 e27 e28 e29
        subst e26 e27 e28 e29
        exact ⟨⟨by omega, by omega⟩, by assumption, by assumption, by assumption, by assumption, by assumption, by assumption⟩
    · simp only [if_neg c2] at e21 e22 e23 e24
      subst e21 e22 e23 e24
      by_cases c3 : val x21 x22 < val x16 x17
      · simp only [if_pos c3] at e26 e27 e28 e29
        subst e26 e27 e28 e29
        exact ⟨⟨by omega, by omega⟩, by assumption, by assumption, by assumption, by assumption, by assumption, by assumption⟩
      · simp only [if_neg c3] at e26 e27 e28 e29
        subst e26 e27 e28 e29
        exact ⟨⟨by omega, by omega⟩, by assumption, by assumption, by assumption, by assumption, by assumption, by assumption⟩
theorem mask_one {k : Int} (h0 : -4 ≤ k) (h1 : k ≤ 4) : (1 ≤ maskZ k k ∧ maskZ k k ≤ 511) ∧ tzN (maskZ k k) - 4 = k ∧ lenN (maskZ k k) - 5 = k := by
  have h : k = -4 ∨ k = -3 ∨ k = -2 ∨ k = -1 ∨ k = 0 ∨ k = 1 ∨ k = 2 ∨ k = 3 ∨ k = 4 := by omega
  rcases h with rfl | rfl | rfl | rfl | rfl | rfl | rfl | rfl | rfl <;> decide +kernel
theorem hull_one (x v : Int) : hullLo x v v = clsZ x v ∧ hullHi x v v = clsZ x v := by
  unfold hullLo hullHi
  constructor <;> split <;> rfl







def lzh_sp : SpecSh := { args := [(.int .i64 (.z 0)), (.int .i64 (.z 0)), (.int .i64 (.z 0)), (.agg [(.int .u64 (.z 0)), (.int .u64 (.z 0))]), (.agg [(.int .u64 (.z 0)), (.int .u64 (.z 0))]), (.agg [(.int .u64 (.z 0)), (.int .u64 (.z 0))])], res := (.bool .f), sh := [.b] }
set_option maxRecDepth 100000 in
def lzh_tree : Tree :=
.lett (.ite (.cmp .lt (.v 1) (.v 0)) (.v 1) (.v 0)) <|
.lett (.ite (.cmp .lt (.v 2) (.v 9)) (.v 2) (.v 9)) <|
.lett (.ite (.cmp .lt (.v 0) (.v 1)) (.v 1) (.v 0)) <|
.lett (.ite (.cmp .lt (.v 11) (.v 2)) (.v 2) (.v 11)) <|
.lett (.ite (.cmp .lt (.v 2) (.v 11)) (.v 2) (.v 11)) <|
.lett (.ite (.cmp .lt (.v 9) (.v 13)) (.v 13) (.v 9)) <|
.call 14 [.b] [.i (.v 5), .i (.v 6), .i (.v 3), .i (.v 4)] <|
.lett (.ite (.v 15) (.v 5) (.v 3)) <|
.lett (.ite (.v 15) (.v 6) (.v 4)) <|
.lett (.ite (.v 15) (.v 3) (.v 5)) <|
.lett (.ite (.v 15) (.v 4) (.v 6)) <|
.call 14 [.b] [.i (.v 7), .i (.v 8), .i (.v 18), .i (.v 19)] <|
.lett (.ite (.v 20) (.v 7) (.v 18)) <|
.lett (.ite (.v 20) (.v 8) (.v 19)) <|
.lett (.ite (.v 20) (.v 18) (.v 7)) <|
.lett (.ite (.v 20) (.v 19) (.v 8)) <|
.call 14 [.b] [.i (.v 21), .i (.v 22), .i (.v 16), .i (.v 17)] <|
.lett (.ite (.v 25) (.v 21) (.v 16)) <|
.lett (.ite (.v 25) (.v 22) (.v 17)) <|
.lett (.ite (.v 25) (.v 16) (.v 21)) <|
.lett (.ite (.v 25) (.v 17) (.v 22)) <|
.call 15 [.i (some (0, 511)), .i (some (0, 1))] [.i (.v 10), .i (.v 12), .i (.v 26), .i (.v 27), .i (.v 23), .i (.v 24)] <|
.call 5 [.i (some ((-4), 4)), .i (some (0, 1))] [.i (.v 14), .i (.v 28), .i (.v 29)] <|
.ite (.not (.cmp .eq (.v 31) (.z 0))) (.call 9 [.b] [] <|
.ite (.v 34) (.ret (.bool (.cmp .eq (.v 30) (.z 0)))) <|
.ret (.bool .f)) <|
.call 15 [.i (some (0, 511)), .i (some (0, 1))] [.i (.v 14), .i (.v 14), .i (.v 28), .i (.v 29), .i (.v 28), .i (.v 29)] <|
.call 6 [.i (some ((-9223372036854775808), 9223372036854775807)), .i (some ((-9223372036854775808), 9223372036854775807)), .i (some ((-9223372036854775808), 9223372036854775807))] [.i (.v 34)] <|
.call 9 [.b] [] <|
.ite (.v 39) (.ite (.cmp .eq (.v 33) (.z 0)) (.call 7 [.b] [.i (.v 30), .i (.v 32)] <|
.ite (.v 40) (.ite (.cmp .eq (.v 35) (.z 0)) (.ite (.cmp .eq (.v 38) (.z 0)) (.ite (.cmp .eq (.v 36) (.v 32)) (.ret (.bool (.cmp .eq (.v 37) (.v 32)))) <|
.ret (.bool .f)) <|
.ret (.bool .f)) <|
.ret (.bool .f)) <|
.ret (.bool .f)) <|
.ret (.bool .f)) <|
.ret (.bool .f)
noncomputable def lzh_cx : Ctx := { tys := tys, fns := fns, mets := mets, sps := [(14, less_sp), (5, zClass_sp), (15, zhull_sp), (7, zhas_sp), (6, zends_sp), (9, zal_sp)], anns := [], trys := [] }
def lzh_ivs : List (Option (Int × Int)) := [some ((-9223372036854775808), 9223372036854775807), some ((-9223372036854775808), 9223372036854775807), some ((-9223372036854775808), 9223372036854775807), some (0, 18446744073709551615), some (0, 18446744073709551615), some (0, 18446744073709551615), some (0, 18446744073709551615), some (0, 18446744073709551615), some (0, 18446744073709551615)]
set_option maxRecDepth 100000 in
theorem lzh_walk : runFn lzh_cx 3000 4 Tryd.f4 lzh_sp.args lzh_ivs = lzh_tree := by kernel_rfl
noncomputable def lzh_M : Nat → SpecSem
  | 14 => less_sem
  | 5 => zClass_sem
  | 15 => zhull_sem
  | 7 => zhas_sem
  | 6 => zends_sem
  | 9 => zal_sem
  | _ => noSem
theorem lzh_M14 : lzh_M 14 = less_sem := rfl
theorem lzh_M5 : lzh_M 5 = zClass_sem := rfl
theorem lzh_M15 : lzh_M 15 = zhull_sem := rfl
theorem lzh_M7 : lzh_M 7 = zhas_sem := rfl
theorem lzh_M6 : lzh_M 6 = zends_sem := rfl
theorem lzh_M9 : lzh_M 9 = zal_sem := rfl
theorem lzh_cxok : CxOK Tryd.prog lzh_cx lzh_M tzG := ⟨tysOK, fnsOK, spCons less_ok <| spCons zClass_ok <| spCons zhull_ok <| spCons zhas_ok <| spCons zends_ok <| spCons zal_ok <| fun _ _ h => spNil h, mixedOK, fun _ _ h => trNil h, fun _ _ h => atNil h, metsOK⟩
set_option maxRecDepth 100000 in
set_option maxHeartbeats 8000000 in
theorem lzh_den (R RP : Value → Prop) (F : Ex → St → Js → Env → Prop) (J : Js) (x0 : Int) (x1 : Int) (x2 : Int) (x3 : Int) (x4 : Int) (x5 : Int) (x6 : Int) (x7 : Int) (x8 : Int) : Tree.den lzh_M R RP F lzh_tree J [(.i x0), (.i x1), (.i x2), (.i x3), (.i x4), (.i x5), (.i x6), (.i x7), (.i x8)] = (
  ∀ x9 : Int, x9 = (if (Cmp.den .lt x1 x0) = true then x1 else x0) →
∀ x10 : Int, x10 = (if (Cmp.den .lt x2 x9) = true then x2 else x9) →
∀ x11 : Int, x11 = (if (Cmp.den .lt x0 x1) = true then x1 else x0) →
∀ x12 : Int, x12 = (if (Cmp.den .lt x11 x2) = true then x2 else x11) →
∀ x13 : Int, x13 = (if (Cmp.den .lt x2 x11) = true then x2 else x11) →
∀ x14 : Int, x14 = (if (Cmp.den .lt x9 x13) = true then x13 else x9) →
(less_sem.pre [(.i x5), (.i x6), (.i x3), (.i x4)]) ∧ (
∀ x16 : Int, x16 = (if (Cv.bool (Env.get (less_sem.out [(.i x5), (.i x6), (.i x3), (.i x4)]) 0)) = true then x5 else x3) →
∀ x17 : Int, x17 = (if (Cv.bool (Env.get (less_sem.out [(.i x5), (.i x6), (.i x3), (.i x4)]) 0)) = true then x6 else x4) →
∀ x18 : Int, x18 = (if (Cv.bool (Env.get (less_sem.out [(.i x5), (.i x6), (.i x3), (.i x4)]) 0)) = true then x3 else x5) →
∀ x19 : Int, x19 = (if (Cv.bool (Env.get (less_sem.out [(.i x5), (.i x6), (.i x3), (.i x4)]) 0)) = true then x4 else x6) →
(less_sem.pre [(.i x7), (.i x8), (.i x18), (.i x19)]) ∧ (
∀ x21 : Int, x21 = (if (Cv.bool (Env.get (less_sem.out [(.i x7), (.i x8), (.i x18), (.i x19)]) 0)) = true then x7 else x18) →
∀ x22 : Int, x22 = (if (Cv.bool (Env.get (less_sem.out [(.i x7), (.i x8), (.i x18), (.i x19)]) 0)) = true then x8 else x19) →
∀ x23 : Int, x23 = (if (Cv.bool (Env.get (less_sem.out [(.i x7), (.i x8), (.i x18), (.i x19)]) 0)) = true then x18 else x7) →
∀ x24 : Int, x24 = (if (Cv.bool (Env.get (less_sem.out [(.i x7), (.i x8), (.i x18), (.i x19)]) 0)) = true then x19 else x8) →
(less_sem.pre [(.i x21), (.i x22), (.i x16), (.i x17)]) ∧ (
∀ x26 : Int, x26 = (if (Cv.bool (Env.get (less_sem.out [(.i x21), (.i x22), (.i x16), (.i x17)]) 0)) = true then x21 else x16) →
∀ x27 : Int, x27 = (if (Cv.bool (Env.get (less_sem.out [(.i x21), (.i x22), (.i x16), (.i x17)]) 0)) = true then x22 else x17) →
∀ x28 : Int, x28 = (if (Cv.bool (Env.get (less_sem.out [(.i x21), (.i x22), (.i x16), (.i x17)]) 0)) = true then x16 else x21) →
∀ x29 : Int, x29 = (if (Cv.bool (Env.get (less_sem.out [(.i x21), (.i x22), (.i x16), (.i x17)]) 0)) = true then x17 else x22) →
(zhull_sem.pre [(.i x10), (.i x12), (.i x26), (.i x27), (.i x23), (.i x24)]) ∧ (
∀ x30 : Int, x30 = (Cv.int (Env.get (zhull_sem.out [(.i x10), (.i x12), (.i x26), (.i x27), (.i x23), (.i x24)]) 0)) → (0 : Int) ≤ x30 → x30 ≤ (511 : Int) →
∀ x31 : Int, x31 = (Cv.int (Env.get (zhull_sem.out [(.i x10), (.i x12), (.i x26), (.i x27), (.i x23), (.i x24)]) 1)) → (0 : Int) ≤ x31 → x31 ≤ (1 : Int) →
(zClass_sem.pre [(.i x14), (.i x28), (.i x29)]) ∧ (
∀ x32 : Int, x32 = (Cv.int (Env.get (zClass_sem.out [(.i x14), (.i x28), (.i x29)]) 0)) → (-4 : Int) ≤ x32 → x32 ≤ (4 : Int) →
∀ x33 : Int, x33 = (Cv.int (Env.get (zClass_sem.out [(.i x14), (.i x28), (.i x29)]) 1)) → (0 : Int) ≤ x33 → x33 ≤ (1 : Int) →
((!(Cmp.den .eq x31 (0 : Int))) = true → (zal_sem.pre []) ∧ (
((Cv.bool (Env.get (zal_sem.out []) 0)) = true → R (Value.bool (Cmp.den .eq x30 (0 : Int)))) ∧ ((Cv.bool (Env.get (zal_sem.out []) 0)) = false → R (Value.bool false)))) ∧ ((!(Cmp.den .eq x31 (0 : Int))) = false → (zhull_sem.pre [(.i x14), (.i x14), (.i x28), (.i x29), (.i x28), (.i x29)]) ∧ (
∀ x34 : Int, x34 = (Cv.int (Env.get (zhull_sem.out [(.i x14), (.i x14), (.i x28), (.i x29), (.i x28), (.i x29)]) 0)) → (0 : Int) ≤ x34 → x34 ≤ (511 : Int) →
∀ x35 : Int, x35 = (Cv.int (Env.get (zhull_sem.out [(.i x14), (.i x14), (.i x28), (.i x29), (.i x28), (.i x29)]) 1)) → (0 : Int) ≤ x35 → x35 ≤ (1 : Int) →
(zends_sem.pre [(.i x34)]) ∧ (
∀ x36 : Int, x36 = (Cv.int (Env.get (zends_sem.out [(.i x34)]) 0)) → (-9223372036854775808 : Int) ≤ x36 → x36 ≤ (9223372036854775807 : Int) →
∀ x37 : Int, x37 = (Cv.int (Env.get (zends_sem.out [(.i x34)]) 1)) → (-9223372036854775808 : Int) ≤ x37 → x37 ≤ (9223372036854775807 : Int) →
∀ x38 : Int, x38 = (Cv.int (Env.get (zends_sem.out [(.i x34)]) 2)) → (-9223372036854775808 : Int) ≤ x38 → x38 ≤ (9223372036854775807 : Int) →
(zal_sem.pre []) ∧ (
((Cv.bool (Env.get (zal_sem.out []) 0)) = true → ((Cmp.den .eq x33 (0 : Int)) = true → (zhas_sem.pre [(.i x30), (.i x32)]) ∧ (
((Cv.bool (Env.get (zhas_sem.out [(.i x30), (.i x32)]) 0)) = true → ((Cmp.den .eq x35 (0 : Int)) = true → ((Cmp.den .eq x38 (0 : Int)) = true → ((Cmp.den .eq x36 x32) = true → R (Value.bool (Cmp.den .eq x37 x32))) ∧ ((Cmp.den .eq x36 x32) = false → R (Value.bool false))) ∧ ((Cmp.den .eq x38 (0 : Int)) = false → R (Value.bool false))) ∧ ((Cmp.den .eq x35 (0 : Int)) = false → R (Value.bool false))) ∧ ((Cv.bool (Env.get (zhas_sem.out [(.i x30), (.i x32)]) 0)) = false → R (Value.bool false)))) ∧ ((Cmp.den .eq x33 (0 : Int)) = false → R (Value.bool false))) ∧ ((Cv.bool (Env.get (zal_sem.out []) 0)) = false → R (Value.bool false)))))))))))) := by kernel_rfl

def lzh_sem : SpecSem := { pre := fun cs => match cs with | [.i a, .i b, .i c, .i u1, .i u0, .i v1, .i v0, .i w1, .i w0] => IsI a ∧ IsI b ∧ IsI c ∧ IsU u1 ∧ IsU u0 ∧ IsU v1 ∧ IsU v0 ∧ IsU w1 ∧ IsU w0 | _ => False, out := fun cs => match cs with | [.i a, .i b, .i c, .i u1, .i u0, .i v1, .i v0, .i w1, .i w0] => [.b true] | _ => [], g := tzG }
set_option maxRecDepth 10000 in
set_option maxHeartbeats 16000000 in
theorem lzh_ok : SpecOK Tryd.prog 4 lzh_sp lzh_sem := by
  refine spec_of_tree lzh_cxok Tryd.func4 (by kernel_rfl) (by kernel_rfl) lzh_walk rfl ?_
  intro cs hpre
  match cs, hpre with
  | [.i a, .i b, .i c, .i u1, .i u0, .i v1, .i v0, .i w1, .i w0], ⟨j_a, j_b, j_c, j_u1, j_u0, j_v1, j_v0, j_w1, j_w0⟩ =>
    have h_a := j_a
    unfold IsI at h_a
    have h_b := j_b
    unfold IsI at h_b
    have h_c := j_c
    unfold IsI at h_c
    have h_u1 := j_u1
    unfold IsU at h_u1
    have h_u0 := j_u0
    unfold IsU at h_u0
    have h_v1 := j_v1
    unfold IsU at h_v1
    have h_v0 := j_v0
    unfold IsU at h_v0
    have h_w1 := j_w1
    unfold IsU at h_w1
    have h_w0 := j_w0
    unfold IsU at h_w0
    refine ⟨rfl, IvsB.ok (by simp only [lzh_ivs, IvsB, Cv.int, and_true] <;> omega), ?_, ?_⟩
    · simp only [lzh_sem, lzh_sp, Fits]
    · rw [lzh_den]
      simp only [lzh_sem, lzh_sp, less_sem, zClass_sem, zhull_sem, zhas_sem, zends_sem, zal_sem, lzh_den, less_sem, zClass_sem, zhull_sem, zhas_sem, zends_sem, zal_sem, Tree.den, LE.den, Cv.list, placeA, List.getElem?_cons_zero, List.getElem?_cons_succ, IE.den, BE.den, At.den, CA.den, Env.get, Cv.int, Cv.bool, List.cons_append, List.nil_append, List.map_cons, List.map_nil, bindRes, bindEq, Fits, SV.den, denL, place, placeL, eq_t, eq_f, lt_t, lt_f, le_t, le_f, beq_iff_eq, beq_eq_false_iff_ne, ne_eq, reduceCtorEq, b_dec, decide_eq_true_eq, decide_eq_false_iff_not, Bool.not_eq_false', Bool.or_eq_true, Bool.or_eq_false_iff, Bool.and_eq_false_iff, true_iff, false_iff, Bool.false_eq_true, Bool.not_eq_true', Bool.and_eq_true, Bool.not_true, Bool.not_false, List.cons.injEq, Cv.i.injEq, Cv.b.injEq, and_true, true_and, agg_inj, tup_inj, Value.int.injEq, Value.bool.injEq]
      intro x9 e9 x10 e10 x11 e11 x12 e12 x13 e13 x14 e14
      obtain ⟨hX, i10, i12, i14⟩ := mid3 e9 e10 e11 e12 e13 e14 j_a j_b j_c
      clear e9 e10 e11 e12 e13 e14
      refine ⟨⟨j_v1, j_v0, j_u1, j_u0⟩, ?_⟩
      intro x16 e16 x17 e17 x18 e18 x19 e19
      have i16 : IsU x16 := by rw [e16]; split <;> assumption
      have i17 : IsU x17 := by rw [e17]; split <;> assumption
      have i18 : IsU x18 := by rw [e18]; split <;> assumption
      have i19 : IsU x19 := by rw [e19]; split <;> assumption
      refine ⟨⟨j_w1, j_w0, i18, i19⟩, ?_⟩
      intro x21 e21 x22 e22 x23 e23 x24 e24
      have i21 : IsU x21 := by rw [e21]; split <;> assumption
      have i22 : IsU x22 := by rw [e22]; split <;> assumption
      refine ⟨⟨i21, i22, i16, i17⟩, ?_⟩
      intro x26 e26 x27 e27 x28 e28 x29 e29
      obtain ⟨hV, i26, i27, i28, i29, i23, i24⟩ := sort3 j_u1 j_u0 j_v1 j_v0 j_w1 j_w0 e16 e17 e18 e19 e21 e22 e23 e24 e26 e27 e28 e29
      clear e16 e17 e18 e19 e21 e22 e23 e24 e26 e27 e28 e29
      refine ⟨⟨i10, i12, i26, i27, i23, i24⟩, ?_⟩
      have g1 : ((1 : Int) = 0) = False := by simp
      by_cases hW : x23 < 1152921504606846976
      · have h28 : x28 < 1152921504606846976 := by
          have := hV.2
          unfold val at this
          unfold IsU at i29 i24
          omega
        have hk : hOK x10 x12 x26 x27 x23 x24 := ⟨by omega, by omega, hW⟩
        have hk1 : hOK x14 x14 x28 x29 x28 x29 := ⟨Int.le_refl _, by omega, h28⟩
        obtain ⟨m1, m2⟩ := hull_has hX.1 hX.2 hV.1 hV.2
        have cr := clsZ_rng x14 (val x28 x29)
        have hr := hull_rng x10 x12 (val x26 x27) (val x23 x24)
        have hr1 := hr.1.1
        have hr2 := hr.2.2
        have hh := mask_has hr1 m1 m2 hr2
        obtain ⟨o1, o2⟩ := hull_one x14 (val x28 x29)
        obtain ⟨p1, p2, p3⟩ := mask_one cr.1 cr.2
        have mr := maskZ_rng hr1 hr2
        have im : IsI (maskZ (hullLo x10 (val x26 x27) (val x23 x24)) (hullHi x12 (val x26 x27) (val x23 x24))) := ⟨by omega, by omega⟩
        have ic : IsI (clsZ x14 (val x28 x29)) := ⟨by omega, by omega⟩
        have io : IsI (maskZ (clsZ x14 (val x28 x29)) (clsZ x14 (val x28 x29))) := ⟨by omega, by omega⟩
        simp only [hk, hk1, h28, o1, o2, p1.1, p1.2, p2, p3, hh, im, ic, io, i14, i28, i29, forall_eq, eq_self, if_true, if_false, true_and, and_true, false_and, and_false, true_or, or_true, false_or, or_false, true_iff, iff_true, false_iff, iff_false, not_true_eq_false, not_false_eq_true, true_implies, false_implies, implies_true, forall_const, decide_true, decide_false, reduceCtorEq]
      · have hk : ¬ hOK x10 x12 x26 x27 x23 x24 := fun h => hW h.2.2
        simp only [hk, g1, i14, i28, i29, forall_eq, eq_self, if_true, if_false, true_and, and_true, false_and, and_false, true_or, or_true, false_or, or_false, true_iff, iff_true, false_iff, iff_false, not_true_eq_false, not_false_eq_true, true_implies, false_implies, implies_true, forall_const, decide_true, decide_false, reduceCtorEq]
end Go.Proofs.YtehoiibnemjkaaaDoor.X
