/-
  LimitMasks tells true, for every input.
-/
import Derived.Test.YtlhmhcjpdpakkaaSxLimitMask
import Derived.Test.YtlhmhcjpdpakkaaSxLimitLaw
import Derived.Test.YtlhmhcjpdpakkaaSxLimitNum
import Derived.Test.YtlhmhcjpdpakkaaSxZoneHas
namespace Go.Proofs.Ytlhmhcjpdpakkaa.X
open Go Go.SX Go.RowKit
set_option linter.unusedVariables false
set_option linter.unusedSimpArgs false




theorem mk_has {D E v s x : Int} (h1 : E - upD D s ≤ x) (h2 : x ≤ E + upD D s) : hasP (mkZ D E v s) (clsZ x v) := by
  obtain ⟨⟨r1, r2⟩, _⟩ := hull_rng (E - upD D s) (E + upD D s) v v
  obtain ⟨_, ⟨r3, r4⟩⟩ := hull_rng (E - upD D s) (E + upD D s) v v
  obtain ⟨q1, q2⟩ := hull_has (u := v) (w := v) h1 h2 (Int.le_refl v) (Int.le_refl v)
  exact mask_has r1 q1 q2 r4
def llmk_sp : SpecSh := { args := [(.int .i64 (.z 0)), (.int .i64 (.z 0)), (.int .i64 (.z 0)), (.agg [(.int .u64 (.z 0)), (.int .u64 (.z 0))]), (.int .i64 (.z 0)), (.int .i64 (.z 0))], res := (.bool .f), sh := [.b] }
set_option maxRecDepth 100000 in
def llmk_tree : Tree :=
.lett (.rem (.v 0) (.z 100000000000000)) <|
.lett (.rem (.v 1) (.z 100000000000000)) <|
.lett (.add (.v 8) (.z 100000000000000)) <|
.lett (.mod (.v 9) (.z 100000000000000)) <|
.lett (.add (.z 1) (.v 10)) <|
.lett (.rem (.v 2) (.z 100000000000000)) <|
.lett (.div (.v 3) (.z 67108864)) <|
.lett (.rem (.v 5) (.z 1000)) <|
.lett (.add (.v 14) (.z 1000)) <|
.lett (.mod (.v 15) (.z 1000)) <|
.lett (.add (.z 1) (.v 16)) <|
.call 73 [.i (some (0, 511)), .i (some (0, 3))] [.i (.v 7), .i (.v 11), .i (.v 12), .i (.v 13), .i (.v 4), .i (.v 17)] <|
.call 85 [.i (some ((-4), 4)), .i (some (0, 1))] [.i (.v 12), .i (.v 13), .i (.v 4)] <|
.lett (.div (.v 11) (.v 17)) <|
.lett (.add (.v 22) (.z 1)) <|
.lett (.rem (.v 6) (.v 23)) <|
.lett (.add (.v 12) (.v 24)) <|
.call 85 [.i (some ((-4), 4)), .i (some (0, 1))] [.i (.v 25), .i (.v 13), .i (.v 4)] <|
.call 57 [.b] [] <|
.ite (.v 28) (.ite (.cmp .eq (.v 19) (.z 0)) (.ite (.cmp .eq (.v 21) (.z 0)) (.ite (.cmp .eq (.v 27) (.z 0)) (.call 86 [.b] [.i (.v 18), .i (.v 20)] <|
.ite (.v 29) (.call 86 [.b] [.i (.v 18), .i (.v 26)] <|
.ret (.bool (.v 30))) <|
.ret (.bool .f)) <|
.ret (.bool .f)) <|
.ret (.bool .f)) <|
.ret (.bool .f)) <|
.ret (.bool .f)
noncomputable def llmk_cx : Ctx := { tys := tys, fns := fns, sps := [(73, lmask_sp), (57, lal_sp), (85, zClass_sp), (86, zhas_sp)], anns := [], trys := [] }
def llmk_ivs : List (Option (Int × Int)) := [some ((-9223372036854775808), 9223372036854775807), some ((-9223372036854775808), 9223372036854775807), some ((-9223372036854775808), 9223372036854775807), some (0, 18446744073709551615), some (0, 18446744073709551615), some ((-9223372036854775808), 9223372036854775807), some ((-9223372036854775808), 9223372036854775807)]
set_option maxRecDepth 100000 in
theorem llmk_walk : runFn llmk_cx 3000 21 Try.f21 llmk_sp.args llmk_ivs = llmk_tree := by kernel_rfl
noncomputable def llmk_M : Nat → SpecSem
  | 73 => lmask_sem
  | 57 => lal_sem
  | 85 => zClass_sem
  | 86 => zhas_sem
  | _ => noSem
theorem llmk_M73 : llmk_M 73 = lmask_sem := rfl
theorem llmk_M57 : llmk_M 57 = lal_sem := rfl
theorem llmk_M85 : llmk_M 85 = zClass_sem := rfl
theorem llmk_M86 : llmk_M 86 = zhas_sem := rfl
theorem llmk_cxok : CxOK Try.prog llmk_cx llmk_M := ⟨tysOK, fnsOK, spCons lmask_ok <| spCons lal_ok <| spCons zClass_ok <| spCons zhas_ok <| fun _ _ h => spNil h, mixedOK, fun _ _ h => trNil h⟩
set_option maxRecDepth 100000 in
set_option maxHeartbeats 8000000 in
theorem llmk_den (R RP : Value → Prop) (F : Ex → St → Js → Env → Prop) (J : Js) (x0 : Int) (x1 : Int) (x2 : Int) (x3 : Int) (x4 : Int) (x5 : Int) (x6 : Int) : Tree.den llmk_M R RP F llmk_tree J [(.i x0), (.i x1), (.i x2), (.i x3), (.i x4), (.i x5), (.i x6)] = (
  ∀ x7 : Int, x7 = (Int.tmod x0 (100000000000000 : Int)) →
∀ x8 : Int, x8 = (Int.tmod x1 (100000000000000 : Int)) →
∀ x9 : Int, x9 = (x8 + (100000000000000 : Int)) →
∀ x10 : Int, x10 = (x9 % (100000000000000 : Int)) →
∀ x11 : Int, x11 = ((1 : Int) + x10) →
∀ x12 : Int, x12 = (Int.tmod x2 (100000000000000 : Int)) →
∀ x13 : Int, x13 = (x3 / (67108864 : Int)) →
∀ x14 : Int, x14 = (Int.tmod x5 (1000 : Int)) →
∀ x15 : Int, x15 = (x14 + (1000 : Int)) →
∀ x16 : Int, x16 = (x15 % (1000 : Int)) →
∀ x17 : Int, x17 = ((1 : Int) + x16) →
(lmask_sem.pre [(.i x7), (.i x11), (.i x12), (.i x13), (.i x4), (.i x17)]) ∧ (
∀ x18 : Int, x18 = (Cv.int (Env.get (lmask_sem.out [(.i x7), (.i x11), (.i x12), (.i x13), (.i x4), (.i x17)]) 0)) → (0 : Int) ≤ x18 → x18 ≤ (511 : Int) →
∀ x19 : Int, x19 = (Cv.int (Env.get (lmask_sem.out [(.i x7), (.i x11), (.i x12), (.i x13), (.i x4), (.i x17)]) 1)) → (0 : Int) ≤ x19 → x19 ≤ (3 : Int) →
(zClass_sem.pre [(.i x12), (.i x13), (.i x4)]) ∧ (
∀ x20 : Int, x20 = (Cv.int (Env.get (zClass_sem.out [(.i x12), (.i x13), (.i x4)]) 0)) → (-4 : Int) ≤ x20 → x20 ≤ (4 : Int) →
∀ x21 : Int, x21 = (Cv.int (Env.get (zClass_sem.out [(.i x12), (.i x13), (.i x4)]) 1)) → (0 : Int) ≤ x21 → x21 ≤ (1 : Int) →
∀ x22 : Int, x22 = (x11 / x17) →
∀ x23 : Int, x23 = (x22 + (1 : Int)) →
∀ x24 : Int, x24 = (Int.tmod x6 x23) →
∀ x25 : Int, x25 = (x12 + x24) →
(zClass_sem.pre [(.i x25), (.i x13), (.i x4)]) ∧ (
∀ x26 : Int, x26 = (Cv.int (Env.get (zClass_sem.out [(.i x25), (.i x13), (.i x4)]) 0)) → (-4 : Int) ≤ x26 → x26 ≤ (4 : Int) →
∀ x27 : Int, x27 = (Cv.int (Env.get (zClass_sem.out [(.i x25), (.i x13), (.i x4)]) 1)) → (0 : Int) ≤ x27 → x27 ≤ (1 : Int) →
(lal_sem.pre []) ∧ (
((Cv.bool (Env.get (lal_sem.out []) 0)) = true → ((Cmp.den .eq x19 (0 : Int)) = true → ((Cmp.den .eq x21 (0 : Int)) = true → ((Cmp.den .eq x27 (0 : Int)) = true → (zhas_sem.pre [(.i x18), (.i x20)]) ∧ (
((Cv.bool (Env.get (zhas_sem.out [(.i x18), (.i x20)]) 0)) = true → (zhas_sem.pre [(.i x18), (.i x26)]) ∧ (
R (Value.bool (Cv.bool (Env.get (zhas_sem.out [(.i x18), (.i x26)]) 0))))) ∧ ((Cv.bool (Env.get (zhas_sem.out [(.i x18), (.i x20)]) 0)) = false → R (Value.bool false)))) ∧ ((Cmp.den .eq x27 (0 : Int)) = false → R (Value.bool false))) ∧ ((Cmp.den .eq x21 (0 : Int)) = false → R (Value.bool false))) ∧ ((Cmp.den .eq x19 (0 : Int)) = false → R (Value.bool false))) ∧ ((Cv.bool (Env.get (lal_sem.out []) 0)) = false → R (Value.bool false))))))) := by kernel_rfl

def llmk_sem : SpecSem := { pre := fun cs => match cs with | [.i c, .i d, .i e, .i h, .i l, .i s, .i n] => IsI c ∧ IsI d ∧ IsI e ∧ IsU h ∧ IsU l ∧ IsI s ∧ IsI n | _ => False, out := fun cs => match cs with | [.i c, .i d, .i e, .i h, .i l, .i s, .i n] => [.b true] | _ => [] }
set_option maxRecDepth 10000 in
set_option maxHeartbeats 16000000 in
theorem llmk_ok : SpecOK Try.prog 21 llmk_sp llmk_sem := by
  refine spec_of_tree llmk_cxok Try.func21 (by kernel_rfl) (by kernel_rfl) llmk_walk rfl ?_
  intro cs hpre
  match cs, hpre with
  | [.i c, .i d, .i e, .i h, .i l, .i s, .i n], ⟨j_c, j_d, j_e, j_h, j_l, j_s, j_n⟩ =>
    have h_c := j_c
    unfold IsI at h_c
    have h_d := j_d
    unfold IsI at h_d
    have h_e := j_e
    unfold IsI at h_e
    have h_h := j_h
    unfold IsU at h_h
    have h_l := j_l
    unfold IsU at h_l
    have h_s := j_s
    unfold IsI at h_s
    have h_n := j_n
    unfold IsI at h_n
    refine ⟨rfl, IvsB.ok (by simp only [llmk_ivs, IvsB, Cv.int, and_true] <;> omega), ?_, ?_⟩
    · simp only [llmk_sem, llmk_sp, Fits]
    · rw [llmk_den]
      simp only [llmk_sem, llmk_sp, llmk_den, lmask_sem, lal_sem, zClass_sem, zhas_sem, Tree.den, LE.den, Cv.list, placeA, List.getElem?_cons_zero, List.getElem?_cons_succ, IE.den, BE.den, At.den, CA.den, Env.get, Cv.int, Cv.bool, List.cons_append, List.nil_append, List.map_cons, List.map_nil, bindRes, bindEq, Fits, SV.den, denL, place, placeL, eq_t, eq_f, lt_t, lt_f, le_t, le_f, beq_iff_eq, beq_eq_false_iff_ne, ne_eq, reduceCtorEq, b_dec, decide_eq_true_eq, decide_eq_false_iff_not, Bool.not_eq_false', Bool.or_eq_true, Bool.or_eq_false_iff, Bool.and_eq_false_iff, true_iff, false_iff, Bool.false_eq_true, Bool.not_eq_true', Bool.and_eq_true, Bool.not_true, Bool.not_false, List.cons.injEq, Cv.i.injEq, Cv.b.injEq, and_true, true_and, agg_inj, tup_inj, Value.int.injEq, Value.bool.injEq]
      intro x7 e7 x8 e8 x9 e9 x10 e10 x11 e11 x12 e12 x13 e13 x14 e14 x15 e15 x16 e16 x17 e17
      have t7 := tm_rng (x := c) (m := 100000000000000) (by omega)
      have t8 := tm_rng (x := d) (m := 100000000000000) (by omega)
      have t12 := tm_rng (x := e) (m := 100000000000000) (by omega)
      have t14 := tm_rng (x := s) (m := 1000) (by omega)
      rw [← e7] at t7
      rw [← e8] at t8
      rw [← e12] at t12
      rw [← e14] at t14
      have z13 : 0 ≤ x13 ∧ x13 < 274877906944 := by clear t7 t8 t12 t14 e7 e8 e9 e10 e11 e12 e14 e15 e16 e17; omega
      have z11 : 1 ≤ x11 ∧ x11 ≤ 100000000000000 := by clear t7 t12 t14 e7 e12 e13 e14 e15 e16 e17; omega
      have z17 : 1 ≤ x17 ∧ x17 ≤ 1000 := by clear t7 t8 t12 e7 e8 e9 e10 e11 e12 e13; omega
      have hr : drOK x7 x11 x12 x13 x17 := ⟨⟨z11, by omega, by omega, z13.2⟩, z17⟩
      clear e7 e8 e9 e10 e11 e12 e13 e14 e15 e16 e17 t8 t14
      have hp : ptOK x7 x11 x12 x13 := hr.1
      have j7 : IsI x7 := ⟨by omega, by omega⟩
      have j11 : IsI x11 := ⟨by omega, by omega⟩
      have j12 : IsI x12 := ⟨by omega, by omega⟩
      have j13 : IsU x13 := ⟨by omega, by omega⟩
      have j17 : IsI x17 := ⟨by omega, by omega⟩
      have k13 : x13 < 1152921504606846976 := by omega
      have hg := up_rng z11.1 z17.1
      have hq : 0 ≤ x11 / x17 ∧ x11 / x17 ≤ upD x11 x17 := by
        have h1 := up_dn0 (x := x11) z17.1
        rw [dn_pos z17.1] at h1
        exact ⟨Int.ediv_nonneg (by omega) (by omega), h1.1⟩
      have hn := tm_rng (x := n) (m := x11 / x17 + 1) (by omega)
      have H1 := mk_has (D := x11) (E := x12) (v := val x13 l) (s := x17) (x := x12) (by omega) (by omega)
      have H2 := mk_has (D := x11) (E := x12) (v := val x13 l) (s := x17) (x := x12 + Int.tmod n (x11 / x17 + 1)) (by omega) (by omega)
      have j25 : IsI (x12 + Int.tmod n (x11 / x17 + 1)) := ⟨by omega, by omega⟩
      have jm : IsI (mkZ x11 x12 (val x13 l) x17) := by have := mkZ_rng x11 x12 (val x13 l) x17; exact ⟨by omega, by omega⟩
      have jc : ∀ x y : Int, IsI (clsZ x y) := fun x y => by have := clsZ_rng x y; exact ⟨by omega, by omega⟩
      simp only [hr, hp, z17, k13, H1, H2, jm, jc, j7, j11, j12, j13, j17, j25, j_l, forall_eq, eq_self, f00, if_true, if_false, true_and, and_true, false_and, and_false, true_or, or_true, false_or, or_false, true_iff, iff_true, false_iff, iff_false, not_true_eq_false, not_false_eq_true, true_implies, false_implies, implies_true, forall_const, decide_true, decide_false, reduceCtorEq]
end Go.Proofs.Ytlhmhcjpdpakkaa.X
