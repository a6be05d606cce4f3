/-
  The contracts of tally.Point and of the document's answer for it; TallyPoints holds of every input: its contract.
-/
import Derived.Test.YtlakihbodohggaaSxTally
namespace Go.Proofs.Ytlakihbodohggaa.X
open Go Go.SX Go.RowKit
set_option linter.unusedVariables false
set_option linter.unusedSimpArgs false





theorem w64 {x : Int} (h0 : -9223372036854775808 ≤ x) (h1 : x ≤ 9223372036854775807) : IntKind.i64.wrap x = x := wrap_id h0 h1
theorem wu64 {x : Int} (h0 : 0 ≤ x) (h1 : x ≤ 18446744073709551615) : IntKind.u64.wrap x = x := wrap_id h0 h1

def pDen (k s m : Int) : Int := if k = 2 then m * s * s else m * s
def pCen (k s u : Int) : Int := if 4 ≤ k then u else u * s
def pDev (k s m u d : Int) : Int := if 4 ≤ k then d * m - u else d * (m * s) - u * s
def pVar (k s m u : Int) : Int := if 4 ≤ k then u * m else u * (m * s - u) * s

theorem mulBnd {a b A B : Int} (h1 : 0 ≤ a) (h2 : a ≤ A) (h3 : 0 ≤ b) (h4 : b ≤ B) : 0 ≤ a * b ∧ a * b ≤ A * B :=
  ⟨Int.mul_nonneg h1 h3, Int.mul_le_mul h2 h4 h3 (by omega)⟩
/-- all that a point is reckoned by is in range -/
theorem pt_rng {k s m u d : Int} (h : TMay k s m u d) : (0 ≤ m * s ∧ m * s ≤ 25000) ∧ (0 ≤ m * s * s ∧ m * s * s ≤ 25000000) ∧ (0 ≤ u * s ∧ u * s ≤ 25000000000) ∧ (0 ≤ d * (m * s) ∧ d * (m * s) ≤ 25000000000) ∧
    (0 ≤ d * m ∧ d * m ≤ 25000000) ∧ (0 ≤ u * m ∧ u * m ≤ 625000000) ∧ (k < 4 → (0 ≤ m * s - u ∧ m * s - u ≤ 25000) ∧ (0 ≤ u * (m * s - u) ∧ u * (m * s - u) ≤ 625000000000) ∧ (0 ≤ u * (m * s - u) * s ∧ u * (m * s - u) * s ≤ 625000000000000)) := by
  have hg := tmay_rng h
  obtain ⟨g0, g1, g2, g3, g4, g5, g6, g7, g8, g9, g10⟩ := hg
  have b1 := mulBnd g3 g4 (show 0 ≤ s by omega) g2
  have b2 := mulBnd b1.1 b1.2 (show 0 ≤ s by omega) g2
  have b3 := mulBnd g5 g6 (show 0 ≤ s by omega) g2
  have b4 := mulBnd g7 g8 b1.1 b1.2
  have b5 := mulBnd g7 g8 g3 g4
  have b6 := mulBnd g5 g6 g3 g4
  refine ⟨by omega, by omega, by omega, by omega, by omega, by omega, fun hk => ?_⟩
  have hu : u ≤ m * s := by
    have h4 := h.1.2.2.2.2
    rw [most_lo (by omega)] at h4
    exact h4
  have b7 : 0 ≤ m * s - u ∧ m * s - u ≤ 25000 := by omega
  have b8 := mulBnd g5 g6 b7.1 b7.2
  have b9 := mulBnd b8.1 b8.2 (show 0 ≤ s by omega) g2
  exact ⟨b7, by omega, by omega⟩

def rpoint_sp : SpecSh := { args := [(.agg [(.int .i64 (.z 0)), (.int .i64 (.z 0)), (.int .i64 (.z 0)), (.int .i64 (.z 0))]), (.int .i64 (.z 0))], res := (.agg [(.int .i64 (.z 0)), (.int .i64 (.z 0)), (.int .i64 (.z 0)), (.int .u64 (.z 0)), (.int .u64 (.z 0))]), sh := [.i (some ((-9223372036854775808), 9223372036854775807)), .i (some ((-9223372036854775808), 9223372036854775807)), .i (some ((-9223372036854775808), 9223372036854775807)), .i (some (0, 18446744073709551615)), .i (some (0, 18446744073709551615))] }
set_option maxRecDepth 100000 in
def rpoint_tree : Tree :=
.lett (.mulw .i64 (.v 2) (.v 1)) <|
.ite (.cmp .le (.z 4) (.v 0)) (.lett (.mulw .i64 (.v 4) (.v 2)) <|
.lett (.subw .i64 (.v 6) (.v 3)) <|
.lett (.mulw .i64 (.v 3) (.v 2)) <|
.lett (.wrap .u64 (.v 8)) <|
.ret (.agg [(.int .i64 (.v 3)), (.int .i64 (.v 5)), (.int .i64 (.v 7)), (.int .u64 (.z 0)), (.int .u64 (.v 9))])) <|
.lett (.mulw .i64 (.v 3) (.v 1)) <|
.lett (.mulw .i64 (.v 4) (.v 5)) <|
.lett (.subw .i64 (.v 7) (.v 6)) <|
.lett (.subw .i64 (.v 5) (.v 3)) <|
.lett (.mulw .i64 (.v 3) (.v 9)) <|
.lett (.mulw .i64 (.v 10) (.v 1)) <|
.lett (.wrap .u64 (.v 11)) <|
.ite (.cmp .eq (.v 0) (.z 2)) (.lett (.mulw .i64 (.v 5) (.v 1)) <|
.ret (.agg [(.int .i64 (.v 6)), (.int .i64 (.v 13)), (.int .i64 (.v 8)), (.int .u64 (.z 0)), (.int .u64 (.v 12))])) <|
.ret (.agg [(.int .i64 (.v 6)), (.int .i64 (.v 5)), (.int .i64 (.v 8)), (.int .u64 (.z 0)), (.int .u64 (.v 12))])
noncomputable def rpoint_cx : Ctx := { tys := tys, fns := fns, sps := [], anns := [], trys := [] }
def rpoint_ivs : List (Option (Int × Int)) := [some ((-9223372036854775808), 9223372036854775807), some ((-9223372036854775808), 9223372036854775807), some ((-9223372036854775808), 9223372036854775807), some ((-9223372036854775808), 9223372036854775807), some ((-9223372036854775808), 9223372036854775807)]
set_option maxRecDepth 100000 in
theorem rpoint_walk : runFn rpoint_cx 3000 19 Try.f19 rpoint_sp.args rpoint_ivs = rpoint_tree := by kernel_rfl
noncomputable def rpoint_M : Nat → SpecSem
  | _ => noSem
theorem rpoint_cxok : CxOK Try.prog rpoint_cx rpoint_M := ⟨tysOK, fnsOK, fun _ _ h => spNil h, mixedOK, fun _ _ h => trNil h⟩

def rpoint_sem : SpecSem := { pre := fun cs => match cs with | [.i k, .i s, .i m, .i u, .i d] => IsI k ∧ IsI s ∧ IsI m ∧ IsI u ∧ IsI d ∧ TMay k s m u d | _ => False, out := fun cs => match cs with | [.i k, .i s, .i m, .i u, .i d] => [.i (pCen k s u), .i (pDen k s m), .i (pDev k s m u d), .i 0, .i (pVar k s m u)] | _ => [] }
theorem pt_fits {k s m u d : Int} (h : TMay k s m u d) : IsI (pCen k s u) ∧ IsI (pDen k s m) ∧ IsI (pDev k s m u d) ∧ IsU (pVar k s m u) ∧ 0 ≤ pVar k s m u ∧ pVar k s m u ≤ 625000000000000 := by
  obtain ⟨r1, r2, r3, r4, r5, r6, r7⟩ := pt_rng h
  obtain ⟨g0, g1, g2, g3, g4, g5, g6, g7, g8, g9, g10⟩ := tmay_rng h
  unfold pCen pDen pDev pVar IsI IsU
  by_cases hk : 4 ≤ k
  · simp only [if_pos hk, if_neg (show ¬ k = 2 by omega)]; omega
  · have := r7 (by omega)
    simp only [if_neg hk]
    by_cases hk2 : k = 2
    · simp only [if_pos hk2]; omega
    · simp only [if_neg hk2]; omega
theorem rpoint_ok : SpecOK Try.prog 19 rpoint_sp rpoint_sem := by
  refine spec_of_tree rpoint_cxok Try.func19 (by kernel_rfl) (by kernel_rfl) rpoint_walk rfl ?_
  intro cs hpre
  match cs, hpre with
  | [.i k, .i s, .i m, .i u, .i d], ⟨⟨h1, h2⟩, ⟨h3, h4⟩, ⟨h5, h6⟩, ⟨h7, h8⟩, ⟨h9, h10⟩, hM⟩ =>
    have hf := pt_fits hM
    refine ⟨rfl, IvsB.ok (by simp only [rpoint_ivs, IvsB, Cv.int, and_true]; omega), ?_, ?_⟩
    · simp only [rpoint_sem, rpoint_sp, Fits, and_true]; unfold IsI IsU at hf; omega
    · obtain ⟨r1, r2, r3, r4, r5, r6, r7⟩ := pt_rng hM
      obtain ⟨g0, g1, g2, g3, g4, g5, g6, g7, g8, g9, g10⟩ := tmay_rng hM
      simp only [rpoint_sem, rpoint_sp, rpoint_tree, Tree.den, List.getElem?_cons_zero, List.getElem?_cons_succ, IE.den, BE.den, At.den, CA.den, Env.get, Cv.int, Cv.bool, List.cons_append, List.nil_append, List.map_cons, List.map_nil, bindRes, bindEq, Fits, SV.den, denL, place, placeL, eq_t, eq_f, lt_t, lt_f, le_t, le_f, beq_iff_eq, beq_eq_false_iff_ne, ne_eq, reduceCtorEq, b_dec, decide_eq_true_eq, decide_eq_false_iff_not, Bool.not_eq_false', Bool.or_eq_true, Bool.or_eq_false_iff, Bool.and_eq_false_iff, true_iff, false_iff, Bool.false_eq_true, Bool.not_eq_true', Bool.and_eq_true, Bool.not_true, Bool.not_false, List.cons.injEq, Cv.i.injEq, Cv.b.injEq, and_true, true_and, agg_inj, tup_inj, Value.int.injEq, Value.bool.injEq]
      intro a ha
      rw [w64 (by omega) (by omega)] at ha
      subst ha
      unfold pCen pDen pDev pVar
      refine ⟨fun hk => ?_, fun hk => ?_⟩
      · intro a ha b hb c hc e he
        rw [w64 (by omega) (by omega)] at ha; subst ha
        rw [w64 (by omega) (by omega)] at hb; subst hb
        rw [w64 (by omega) (by omega)] at hc; subst hc
        rw [wu64 (by omega) (by omega)] at he; subst he
        simp only [if_pos hk, if_neg (show ¬ k = 2 by omega), if_true, if_false, true_and, and_true, false_and, and_false, true_or, or_true, false_or, or_false, true_iff, iff_true, false_iff, iff_false, not_true_eq_false, not_false_eq_true, true_implies, false_implies, implies_true, forall_const, decide_true, decide_false, reduceCtorEq]
      · have q := r7 (by omega)
        intro a ha b hb c hc e he f hf' g hg i hi
        rw [w64 (by omega) (by omega)] at ha; subst ha
        rw [w64 (by omega) (by omega)] at hb; subst hb
        rw [w64 (by omega) (by omega)] at hc; subst hc
        rw [w64 (by omega) (by omega)] at he; subst he
        rw [w64 (by omega) (by omega)] at hf'; subst hf'
        rw [w64 (by omega) (by omega)] at hg; subst hg
        rw [wu64 (by omega) (by omega)] at hi; subst hi
        refine ⟨fun hk2 => ?_, fun hk2 => ?_⟩
        · intro j hj
          rw [w64 (by omega) (by omega)] at hj; subst hj
          simp only [if_neg (show ¬ 4 ≤ k by omega), if_pos hk2, if_true, if_false, true_and, and_true, false_and, and_false, true_or, or_true, false_or, or_false, true_iff, iff_true, false_iff, iff_false, not_true_eq_false, not_false_eq_true, true_implies, false_implies, implies_true, forall_const, decide_true, decide_false, reduceCtorEq]
        · simp only [if_neg (show ¬ 4 ≤ k by omega), if_neg hk2, if_true, if_false, true_and, and_true, false_and, and_false, true_or, or_true, false_or, or_false, true_iff, iff_true, false_iff, iff_false, not_true_eq_false, not_false_eq_true, true_implies, false_implies, implies_true, forall_const, decide_true, decide_false, reduceCtorEq]

theorem lo64 {x : Int} (h0 : 0 ≤ x) (h1 : x ≤ 9223372036854775807) : x / 18446744073709551616 = 0 ∧ x % 18446744073709551616 = x :=
  ⟨Int.ediv_eq_zero_of_lt h0 (by omega), Int.emod_eq_of_lt h0 (by omega)⟩
def tpoint_sp : SpecSh := { args := [(.agg [(.int .i64 (.z 0)), (.int .i64 (.z 0)), (.int .i64 (.z 0)), (.int .i64 (.z 0))]), (.int .i64 (.z 0))], res := (.tup [(.agg [(.int .i64 (.z 0)), (.int .i64 (.z 0)), (.int .i64 (.z 0)), (.int .u64 (.z 0)), (.int .u64 (.z 0))]), (.int .i64 (.z 0))]), sh := [.i (some ((-9223372036854775808), 9223372036854775807)), .i (some ((-9223372036854775808), 9223372036854775807)), .i (some ((-9223372036854775808), 9223372036854775807)), .i (some (0, 18446744073709551615)), .i (some (0, 18446744073709551615)), .i (some ((-9223372036854775808), 9223372036854775807))] }
set_option maxRecDepth 100000 in
def tpoint_tree : Tree :=
.call 12 [.b] [.i (.v 0), .i (.v 1), .i (.v 2), .i (.v 3)] <|
.ite (.v 5) (.ite (.cmp .le (.z 0) (.v 4)) (.ite (.cmp .eq (.v 0) (.z 2)) (.ite (.not (.cmp .le (.v 4) (.v 1))) (.ret (.tup [(.agg [(.int .i64 (.z 0)), (.int .i64 (.z 0)), (.int .i64 (.z 0)), (.int .u64 (.z 0)), (.int .u64 (.z 0))]), (.int .i64 (.z 1))])) <|
.ite (.cmp .eq (.v 2) (.z 0)) (.ret (.tup [(.agg [(.int .i64 (.z 0)), (.int .i64 (.z 0)), (.int .i64 (.z 0)), (.int .u64 (.z 0)), (.int .u64 (.z 0))]), (.int .i64 (.z 12))])) <|
.lett (.mulw .i64 (.v 2) (.v 1)) <|
.lett (.subw .i64 (.v 6) (.v 3)) <|
.lett (.mulw .i64 (.v 3) (.v 7)) <|
.lett (.wrap .u64 (.v 8)) <|
.call 25 [.i (some (0, 18446744073709551615)), .i (some (0, 18446744073709551615))] [.i (.v 9), .i (.v 1)] <|
.lett (.mulw .i64 (.v 3) (.v 1)) <|
.lett (.mulw .i64 (.v 4) (.v 6)) <|
.lett (.subw .i64 (.v 13) (.v 12)) <|
.lett (.mulw .i64 (.v 6) (.v 1)) <|
.ret (.tup [(.agg [(.int .i64 (.v 12)), (.int .i64 (.v 15)), (.int .i64 (.v 14)), (.int .u64 (.v 10)), (.int .u64 (.v 11))]), (.int .i64 (.z 0))])) <|
.ite (.cmp .eq (.v 0) (.z 3)) (.ite (.not (.cmp .le (.v 4) (.v 1))) (.ret (.tup [(.agg [(.int .i64 (.z 0)), (.int .i64 (.z 0)), (.int .i64 (.z 0)), (.int .u64 (.z 0)), (.int .u64 (.z 0))]), (.int .i64 (.z 1))])) <|
.ite (.cmp .eq (.v 2) (.z 0)) (.ret (.tup [(.agg [(.int .i64 (.z 0)), (.int .i64 (.z 0)), (.int .i64 (.z 0)), (.int .u64 (.z 0)), (.int .u64 (.z 0))]), (.int .i64 (.z 12))])) <|
.lett (.mulw .i64 (.v 2) (.v 1)) <|
.lett (.subw .i64 (.v 6) (.v 3)) <|
.lett (.mulw .i64 (.v 3) (.v 7)) <|
.lett (.wrap .u64 (.v 8)) <|
.call 25 [.i (some (0, 18446744073709551615)), .i (some (0, 18446744073709551615))] [.i (.v 9), .i (.v 1)] <|
.lett (.mulw .i64 (.v 3) (.v 1)) <|
.lett (.mulw .i64 (.v 4) (.v 6)) <|
.lett (.subw .i64 (.v 13) (.v 12)) <|
.lett (.mul (.v 6) (.z 1)) <|
.ret (.tup [(.agg [(.int .i64 (.v 12)), (.int .i64 (.v 15)), (.int .i64 (.v 14)), (.int .u64 (.v 10)), (.int .u64 (.v 11))]), (.int .i64 (.z 0))])) <|
.ite (.cmp .eq (.v 0) (.z 4)) (.ite (.not (.cmp .le (.v 4) (.z 1000000))) (.ret (.tup [(.agg [(.int .i64 (.z 0)), (.int .i64 (.z 0)), (.int .i64 (.z 0)), (.int .u64 (.z 0)), (.int .u64 (.z 0))]), (.int .i64 (.z 1))])) <|
.ite (.cmp .eq (.v 2) (.z 0)) (.ret (.tup [(.agg [(.int .i64 (.z 0)), (.int .i64 (.z 0)), (.int .i64 (.z 0)), (.int .u64 (.z 0)), (.int .u64 (.z 0))]), (.int .i64 (.z 12))])) <|
.lett (.mulw .i64 (.v 2) (.v 1)) <|
.lett (.mulw .i64 (.v 4) (.v 2)) <|
.lett (.subw .i64 (.v 7) (.v 3)) <|
.lett (.wrap .u64 (.v 3)) <|
.lett (.wrap .u64 (.v 2)) <|
.call 25 [.i (some (0, 18446744073709551615)), .i (some (0, 18446744073709551615))] [.i (.v 9), .i (.v 10)] <|
.ret (.tup [(.agg [(.int .i64 (.v 3)), (.int .i64 (.v 6)), (.int .i64 (.v 8)), (.int .u64 (.v 11)), (.int .u64 (.v 12))]), (.int .i64 (.z 0))])) <|
.ite (.cmp .eq (.v 0) (.z 5)) (.ite (.not (.cmp .le (.v 4) (.z 1000000))) (.ret (.tup [(.agg [(.int .i64 (.z 0)), (.int .i64 (.z 0)), (.int .i64 (.z 0)), (.int .u64 (.z 0)), (.int .u64 (.z 0))]), (.int .i64 (.z 1))])) <|
.ite (.cmp .eq (.v 2) (.z 0)) (.ret (.tup [(.agg [(.int .i64 (.z 0)), (.int .i64 (.z 0)), (.int .i64 (.z 0)), (.int .u64 (.z 0)), (.int .u64 (.z 0))]), (.int .i64 (.z 12))])) <|
.lett (.mulw .i64 (.v 2) (.v 1)) <|
.lett (.mulw .i64 (.v 4) (.v 2)) <|
.lett (.subw .i64 (.v 7) (.v 3)) <|
.lett (.wrap .u64 (.v 3)) <|
.lett (.wrap .u64 (.v 2)) <|
.call 25 [.i (some (0, 18446744073709551615)), .i (some (0, 18446744073709551615))] [.i (.v 9), .i (.v 10)] <|
.ret (.tup [(.agg [(.int .i64 (.v 3)), (.int .i64 (.v 6)), (.int .i64 (.v 8)), (.int .u64 (.v 11)), (.int .u64 (.v 12))]), (.int .i64 (.z 0))])) <|
.bad 27) <|
.ret (.tup [(.agg [(.int .i64 (.z 0)), (.int .i64 (.z 0)), (.int .i64 (.z 0)), (.int .u64 (.z 0)), (.int .u64 (.z 0))]), (.int .i64 (.z 1))])) <|
.ret (.tup [(.agg [(.int .i64 (.z 0)), (.int .i64 (.z 0)), (.int .i64 (.z 0)), (.int .u64 (.z 0)), (.int .u64 (.z 0))]), (.int .i64 (.z 1))])
noncomputable def tpoint_cx : Ctx := { tys := tys, fns := fns, sps := [(25, mul_sp), (12, tright_sp)], anns := [], trys := [] }
def tpoint_ivs : List (Option (Int × Int)) := [some ((-9223372036854775808), 9223372036854775807), some ((-9223372036854775808), 9223372036854775807), some ((-9223372036854775808), 9223372036854775807), some ((-9223372036854775808), 9223372036854775807), some ((-9223372036854775808), 9223372036854775807)]
set_option maxRecDepth 100000 in
theorem tpoint_walk : runFn tpoint_cx 3000 18 Try.f18 tpoint_sp.args tpoint_ivs = tpoint_tree := by kernel_rfl
noncomputable def tpoint_M : Nat → SpecSem
  | 25 => mul_sem
  | 12 => tright_sem
  | _ => noSem
theorem tpoint_M25 : tpoint_M 25 = mul_sem := rfl
theorem tpoint_M12 : tpoint_M 12 = tright_sem := rfl
theorem tpoint_cxok : CxOK Try.prog tpoint_cx tpoint_M := ⟨tysOK, fnsOK, spCons mul_ok <| spCons tright_ok <| fun _ _ h => spNil h, mixedOK, fun _ _ h => trNil h⟩

def tpoint_sem : SpecSem := { pre := fun cs => match cs with | [.i k, .i s, .i m, .i u, .i d] => IsI k ∧ IsI s ∧ IsI m ∧ IsI u ∧ IsI d | _ => False, out := fun cs => match cs with | [.i k, .i s, .i m, .i u, .i d] => [.i (if TMay k s m u d ∧ m ≠ 0 then pCen k s u else 0), .i (if TMay k s m u d ∧ m ≠ 0 then pDen k s m else 0), .i (if TMay k s m u d ∧ m ≠ 0 then pDev k s m u d else 0), .i 0, .i (if TMay k s m u d ∧ m ≠ 0 then pVar k s m u else 0), .i (if TMay k s m u d then (if m = 0 then 12 else 0) else 1)] | _ => [] }
theorem tpoint_ok : SpecOK Try.prog 18 tpoint_sp tpoint_sem := by
  refine spec_of_tree tpoint_cxok Try.func18 (by kernel_rfl) (by kernel_rfl) tpoint_walk rfl ?_
  intro cs hpre
  match cs, hpre with
  | [.i k, .i s, .i m, .i u, .i d], ⟨⟨h1, h2⟩, ⟨h3, h4⟩, ⟨h5, h6⟩, ⟨h7, h8⟩, ⟨h9, h10⟩⟩ =>
    refine ⟨rfl, IvsB.ok (by simp only [tpoint_ivs, IvsB, Cv.int, and_true]; omega), ?_, ?_⟩
    · simp only [tpoint_sem, tpoint_sp, Fits, and_true]
      by_cases hs : TMay k s m u d
      · have hf := pt_fits hs
        unfold IsI IsU at hf
        by_cases hm : m = 0
        · simp only [hs, hm, ne_eq, if_true, if_false, true_and, and_true, false_and, and_false, true_or, or_true, false_or, or_false, true_iff, iff_true, false_iff, iff_false, not_true_eq_false, not_false_eq_true, true_implies, false_implies, implies_true, forall_const, decide_true, decide_false, reduceCtorEq]; omega
        · simp only [hs, hm, ne_eq, if_true, if_false, true_and, and_true, false_and, and_false, true_or, or_true, false_or, or_false, true_iff, iff_true, false_iff, iff_false, not_true_eq_false, not_false_eq_true, true_implies, false_implies, implies_true, forall_const, decide_true, decide_false, reduceCtorEq]; omega
      · simp only [hs, if_true, if_false, true_and, and_true, false_and, and_false, true_or, or_true, false_or, or_false, true_iff, iff_true, false_iff, iff_false, not_true_eq_false, not_false_eq_true, true_implies, false_implies, implies_true, forall_const, decide_true, decide_false, reduceCtorEq]; omega
    · simp only [tpoint_sem, tpoint_sp, IsI, IsU, tpoint_tree, tpoint_M25, mul_sem, tpoint_M12, tright_sem, Tree.den, List.getElem?_cons_zero, List.getElem?_cons_succ, IE.den, BE.den, At.den, CA.den, Env.get, Cv.int, Cv.bool, List.cons_append, List.nil_append, List.map_cons, List.map_nil, bindRes, bindEq, Fits, SV.den, denL, place, placeL, eq_t, eq_f, lt_t, lt_f, le_t, le_f, beq_iff_eq, beq_eq_false_iff_ne, ne_eq, reduceCtorEq, b_dec, decide_eq_true_eq, decide_eq_false_iff_not, Bool.not_eq_false', Bool.or_eq_true, Bool.or_eq_false_iff, Bool.and_eq_false_iff, true_iff, false_iff, Bool.false_eq_true, Bool.not_eq_true', Bool.and_eq_true, Bool.not_true, Bool.not_false, List.cons.injEq, Cv.i.injEq, Cv.b.injEq, and_true, true_and, agg_inj, tup_inj, Value.int.injEq, Value.bool.injEq]
      refine ⟨by omega, fun hr => ⟨fun hd => ?_, fun hd => ?_⟩, fun hr => ?_⟩
      rotate_left
      · have hs : ¬ TMay k s m u d := fun h => by (have := h.2.1; omega)
        simp only [hs, if_true, if_false, true_and, and_true, false_and, and_false, true_or, or_true, false_or, or_false, true_iff, iff_true, false_iff, iff_false, not_true_eq_false, not_false_eq_true, true_implies, false_implies, implies_true, forall_const, decide_true, decide_false, reduceCtorEq]
      · have hs : ¬ TMay k s m u d := fun h => hr h.1
        simp only [hs, if_true, if_false, true_and, and_true, false_and, and_false, true_or, or_true, false_or, or_false, true_iff, iff_true, false_iff, iff_false, not_true_eq_false, not_false_eq_true, true_implies, false_implies, implies_true, forall_const, decide_true, decide_false, reduceCtorEq]
      have hkk := hr.1
      unfold TSizes at hkk
      refine ⟨fun hk => ?_, fun hk2 => ?_⟩
      · have hmo := most_lo (k := k) (s := s) (by omega)
        refine ⟨fun hsd => ?_, fun hds => ⟨fun hm => ?_, fun hm => ?_⟩⟩
        · have hs : ¬ TMay k s m u d := fun h => by (have := h.2.2; omega)
          simp only [hs, if_true, if_false, true_and, and_true, false_and, and_false, true_or, or_true, false_or, or_false, true_iff, iff_true, false_iff, iff_false, not_true_eq_false, not_false_eq_true, true_implies, false_implies, implies_true, forall_const, decide_true, decide_false, reduceCtorEq]
        · subst hm
          have hs : TMay k s 0 u d := ⟨hr, hd, by omega⟩
          simp only [hs, if_true, if_false, true_and, and_true, false_and, and_false, true_or, or_true, false_or, or_false, true_iff, iff_true, false_iff, iff_false, not_true_eq_false, not_false_eq_true, true_implies, false_implies, implies_true, forall_const, decide_true, decide_false, reduceCtorEq]
        · have hs : TMay k s m u d := ⟨hr, hd, by omega⟩
          obtain ⟨r1, r2, r3, r4, r5, r6, r7⟩ := pt_rng hs
          obtain ⟨g0, g1, g2, g3, g4, g5, g6, g7, g8, g9, g10⟩ := tmay_rng hs
          simp only [hs, hm, if_true, if_false, true_and, and_true, false_and, and_false, true_or, or_true, false_or, or_false, true_iff, iff_true, false_iff, iff_false, not_true_eq_false, not_false_eq_true, true_implies, false_implies, implies_true, forall_const, decide_true, decide_false, reduceCtorEq]
          unfold pCen pDen pDev pVar
          have q := r7 (by omega)
          simp only [if_neg (show ¬ 4 ≤ k by omega)]
          have l := lo64 (x := u * (m * s - u) * s) (by omega) (by omega)
          intro a ha b hb c hc e he
          rw [w64 (by omega) (by omega)] at ha; subst ha
          rw [w64 (by omega) (by omega)] at hb; subst hb
          rw [w64 (by omega) (by omega)] at hc; subst hc
          rw [wu64 (by omega) (by omega)] at he; subst he
          refine ⟨by omega, ?_⟩
          intro a ha _ _ b hb _ _ c hc e he f hf g hg
          rw [l.1] at ha; subst ha
          rw [l.2] at hb; subst hb
          rw [w64 (by omega) (by omega)] at hc; subst hc
          rw [w64 (by omega) (by omega)] at he; subst he
          rw [w64 (by omega) (by omega)] at hf; subst hf
          rw [w64 (by omega) (by omega)] at hg; subst hg
          simp only [if_pos hk, if_true, if_false, true_and, and_true, false_and, and_false, true_or, or_true, false_or, or_false, true_iff, iff_true, false_iff, iff_false, not_true_eq_false, not_false_eq_true, true_implies, false_implies, implies_true, forall_const, decide_true, decide_false, reduceCtorEq]
      refine ⟨fun hk => ?_, fun hk3 => ?_⟩
      · have hmo := most_lo (k := k) (s := s) (by omega)
        refine ⟨fun hsd => ?_, fun hds => ⟨fun hm => ?_, fun hm => ?_⟩⟩
        · have hs : ¬ TMay k s m u d := fun h => by (have := h.2.2; omega)
          simp only [hs, if_true, if_false, true_and, and_true, false_and, and_false, true_or, or_true, false_or, or_false, true_iff, iff_true, false_iff, iff_false, not_true_eq_false, not_false_eq_true, true_implies, false_implies, implies_true, forall_const, decide_true, decide_false, reduceCtorEq]
        · subst hm
          have hs : TMay k s 0 u d := ⟨hr, hd, by omega⟩
          simp only [hs, if_true, if_false, true_and, and_true, false_and, and_false, true_or, or_true, false_or, or_false, true_iff, iff_true, false_iff, iff_false, not_true_eq_false, not_false_eq_true, true_implies, false_implies, implies_true, forall_const, decide_true, decide_false, reduceCtorEq]
        · have hs : TMay k s m u d := ⟨hr, hd, by omega⟩
          obtain ⟨r1, r2, r3, r4, r5, r6, r7⟩ := pt_rng hs
          obtain ⟨g0, g1, g2, g3, g4, g5, g6, g7, g8, g9, g10⟩ := tmay_rng hs
          simp only [hs, hm, if_true, if_false, true_and, and_true, false_and, and_false, true_or, or_true, false_or, or_false, true_iff, iff_true, false_iff, iff_false, not_true_eq_false, not_false_eq_true, true_implies, false_implies, implies_true, forall_const, decide_true, decide_false, reduceCtorEq]
          unfold pCen pDen pDev pVar
          have q := r7 (by omega)
          simp only [if_neg (show ¬ 4 ≤ k by omega)]
          have l := lo64 (x := u * (m * s - u) * s) (by omega) (by omega)
          intro a ha b hb c hc e he
          rw [w64 (by omega) (by omega)] at ha; subst ha
          rw [w64 (by omega) (by omega)] at hb; subst hb
          rw [w64 (by omega) (by omega)] at hc; subst hc
          rw [wu64 (by omega) (by omega)] at he; subst he
          refine ⟨by omega, ?_⟩
          intro a ha _ _ b hb _ _ c hc e he f hf g hg
          rw [l.1] at ha; subst ha
          rw [l.2] at hb; subst hb
          rw [w64 (by omega) (by omega)] at hc; subst hc
          rw [w64 (by omega) (by omega)] at he; subst he
          rw [w64 (by omega) (by omega)] at hf; subst hf
          rw [Int.mul_one] at hg; subst hg
          simp only [if_neg (show ¬ k = 2 by omega), if_true, if_false, true_and, and_true, false_and, and_false, true_or, or_true, false_or, or_false, true_iff, iff_true, false_iff, iff_false, not_true_eq_false, not_false_eq_true, true_implies, false_implies, implies_true, forall_const, decide_true, decide_false, reduceCtorEq]
      refine ⟨fun hk => ?_, fun hk4 => ?_⟩
      · have hmo := most_hi (k := k) (s := s) (by omega)
        refine ⟨fun hsd => ?_, fun hds => ⟨fun hm => ?_, fun hm => ?_⟩⟩
        · have hs : ¬ TMay k s m u d := fun h => by (have := h.2.2; omega)
          simp only [hs, if_true, if_false, true_and, and_true, false_and, and_false, true_or, or_true, false_or, or_false, true_iff, iff_true, false_iff, iff_false, not_true_eq_false, not_false_eq_true, true_implies, false_implies, implies_true, forall_const, decide_true, decide_false, reduceCtorEq]
        · subst hm
          have hs : TMay k s 0 u d := ⟨hr, hd, by omega⟩
          simp only [hs, if_true, if_false, true_and, and_true, false_and, and_false, true_or, or_true, false_or, or_false, true_iff, iff_true, false_iff, iff_false, not_true_eq_false, not_false_eq_true, true_implies, false_implies, implies_true, forall_const, decide_true, decide_false, reduceCtorEq]
        · have hs : TMay k s m u d := ⟨hr, hd, by omega⟩
          obtain ⟨r1, r2, r3, r4, r5, r6, r7⟩ := pt_rng hs
          obtain ⟨g0, g1, g2, g3, g4, g5, g6, g7, g8, g9, g10⟩ := tmay_rng hs
          simp only [hs, hm, if_true, if_false, true_and, and_true, false_and, and_false, true_or, or_true, false_or, or_false, true_iff, iff_true, false_iff, iff_false, not_true_eq_false, not_false_eq_true, true_implies, false_implies, implies_true, forall_const, decide_true, decide_false, reduceCtorEq]
          unfold pCen pDen pDev pVar
          simp only [if_pos (show 4 ≤ k by omega), if_neg (show ¬ k = 2 by omega)]
          have l := lo64 (x := u * m) (by omega) (by omega)
          intro a ha b hb c hc e he f hf
          rw [w64 (by omega) (by omega)] at ha; subst ha
          rw [w64 (by omega) (by omega)] at hb; subst hb
          rw [w64 (by omega) (by omega)] at hc; subst hc
          rw [wu64 (by omega) (by omega)] at he; subst he
          rw [wu64 (by omega) (by omega)] at hf; subst hf
          refine ⟨by omega, ?_⟩
          intro a ha _ _ b hb _ _
          rw [l.1] at ha; subst ha
          rw [l.2] at hb; subst hb
          simp only [if_true, if_false, true_and, and_true, false_and, and_false, true_or, or_true, false_or, or_false, true_iff, iff_true, false_iff, iff_false, not_true_eq_false, not_false_eq_true, true_implies, false_implies, implies_true, forall_const, decide_true, decide_false, reduceCtorEq]
      refine ⟨fun hk => ?_, fun hk5 => ?_⟩
      · have hmo := most_hi (k := k) (s := s) (by omega)
        refine ⟨fun hsd => ?_, fun hds => ⟨fun hm => ?_, fun hm => ?_⟩⟩
        · have hs : ¬ TMay k s m u d := fun h => by (have := h.2.2; omega)
          simp only [hs, if_true, if_false, true_and, and_true, false_and, and_false, true_or, or_true, false_or, or_false, true_iff, iff_true, false_iff, iff_false, not_true_eq_false, not_false_eq_true, true_implies, false_implies, implies_true, forall_const, decide_true, decide_false, reduceCtorEq]
        · subst hm
          have hs : TMay k s 0 u d := ⟨hr, hd, by omega⟩
          simp only [hs, if_true, if_false, true_and, and_true, false_and, and_false, true_or, or_true, false_or, or_false, true_iff, iff_true, false_iff, iff_false, not_true_eq_false, not_false_eq_true, true_implies, false_implies, implies_true, forall_const, decide_true, decide_false, reduceCtorEq]
        · have hs : TMay k s m u d := ⟨hr, hd, by omega⟩
          obtain ⟨r1, r2, r3, r4, r5, r6, r7⟩ := pt_rng hs
          obtain ⟨g0, g1, g2, g3, g4, g5, g6, g7, g8, g9, g10⟩ := tmay_rng hs
          simp only [hs, hm, if_true, if_false, true_and, and_true, false_and, and_false, true_or, or_true, false_or, or_false, true_iff, iff_true, false_iff, iff_false, not_true_eq_false, not_false_eq_true, true_implies, false_implies, implies_true, forall_const, decide_true, decide_false, reduceCtorEq]
          unfold pCen pDen pDev pVar
          simp only [if_pos (show 4 ≤ k by omega), if_neg (show ¬ k = 2 by omega)]
          have l := lo64 (x := u * m) (by omega) (by omega)
          intro a ha b hb c hc e he f hf
          rw [w64 (by omega) (by omega)] at ha; subst ha
          rw [w64 (by omega) (by omega)] at hb; subst hb
          rw [w64 (by omega) (by omega)] at hc; subst hc
          rw [wu64 (by omega) (by omega)] at he; subst he
          rw [wu64 (by omega) (by omega)] at hf; subst hf
          refine ⟨by omega, ?_⟩
          intro a ha _ _ b hb _ _
          rw [l.1] at ha; subst ha
          rw [l.2] at hb; subst hb
          simp only [if_true, if_false, true_and, and_true, false_and, and_false, true_or, or_true, false_or, or_false, true_iff, iff_true, false_iff, iff_false, not_true_eq_false, not_false_eq_true, true_implies, false_implies, implies_true, forall_const, decide_true, decide_false, reduceCtorEq]
      omega

def lpoints_sp : SpecSh := { args := [(.agg [(.int .i64 (.z 0)), (.int .i64 (.z 0)), (.int .i64 (.z 0)), (.int .i64 (.z 0))]), (.int .i64 (.z 0))], res := (.bool .f), sh := [.b] }
set_option maxRecDepth 100000 in
def lpoints_tree : Tree :=
.call 18 [.i (some ((-9223372036854775808), 9223372036854775807)), .i (some ((-9223372036854775808), 9223372036854775807)), .i (some ((-9223372036854775808), 9223372036854775807)), .i (some (0, 18446744073709551615)), .i (some (0, 18446744073709551615)), .i (some ((-9223372036854775808), 9223372036854775807))] [.i (.v 0), .i (.v 1), .i (.v 2), .i (.v 3), .i (.v 4)] <|
.call 13 [.b] [.i (.v 0), .i (.v 1), .i (.v 2), .i (.v 3)] <|
.ite (.not (.v 11)) (.call 14 [.b] [] <|
.ite (.v 12) (.ite (.cmp .eq (.v 10) (.z 1)) (.ret (.bool (.and (.cmp .eq (.v 5) (.z 0)) (.and (.cmp .eq (.v 6) (.z 0)) (.and (.cmp .eq (.v 7) (.z 0)) (.and (.cmp .eq (.v 8) (.z 0)) (.cmp .eq (.v 9) (.z 0)))))))) <|
.ret (.bool .f)) <|
.ret (.bool .f)) <|
.call 16 [.b] [.i (.v 0), .i (.v 1), .i (.v 2), .i (.v 3), .i (.v 4)] <|
.ite (.not (.v 12)) (.call 14 [.b] [] <|
.ite (.v 13) (.ite (.cmp .eq (.v 10) (.z 1)) (.ret (.bool (.and (.cmp .eq (.v 5) (.z 0)) (.and (.cmp .eq (.v 6) (.z 0)) (.and (.cmp .eq (.v 7) (.z 0)) (.and (.cmp .eq (.v 8) (.z 0)) (.cmp .eq (.v 9) (.z 0)))))))) <|
.ret (.bool .f)) <|
.ret (.bool .f)) <|
.ite (.cmp .eq (.v 2) (.z 0)) (.call 14 [.b] [] <|
.ite (.v 13) (.ite (.cmp .eq (.v 10) (.z 12)) (.ret (.bool (.and (.cmp .eq (.v 5) (.z 0)) (.and (.cmp .eq (.v 6) (.z 0)) (.and (.cmp .eq (.v 7) (.z 0)) (.and (.cmp .eq (.v 8) (.z 0)) (.cmp .eq (.v 9) (.z 0)))))))) <|
.ret (.bool .f)) <|
.ret (.bool .f)) <|
.call 14 [.b] [] <|
.ite (.v 13) (.ite (.cmp .eq (.v 10) (.z 0)) (.call 19 [.i (some ((-9223372036854775808), 9223372036854775807)), .i (some ((-9223372036854775808), 9223372036854775807)), .i (some ((-9223372036854775808), 9223372036854775807)), .i (some (0, 18446744073709551615)), .i (some (0, 18446744073709551615))] [.i (.v 0), .i (.v 1), .i (.v 2), .i (.v 3), .i (.v 4)] <|
.ret (.bool (.and (.cmp .eq (.v 5) (.v 14)) (.and (.cmp .eq (.v 6) (.v 15)) (.and (.cmp .eq (.v 7) (.v 16)) (.and (.cmp .eq (.v 8) (.v 17)) (.cmp .eq (.v 9) (.v 18)))))))) <|
.ret (.bool .f)) <|
.ret (.bool .f)
noncomputable def lpoints_cx : Ctx := { tys := tys, fns := fns, sps := [(18, tpoint_sp), (19, rpoint_sp), (13, rright_sp), (16, rcount_sp), (14, talive_sp)], anns := [], trys := [] }
def lpoints_ivs : List (Option (Int × Int)) := [some ((-9223372036854775808), 9223372036854775807), some ((-9223372036854775808), 9223372036854775807), some ((-9223372036854775808), 9223372036854775807), some ((-9223372036854775808), 9223372036854775807), some ((-9223372036854775808), 9223372036854775807)]
set_option maxRecDepth 100000 in
theorem lpoints_walk : runFn lpoints_cx 3000 5 Try.f5 lpoints_sp.args lpoints_ivs = lpoints_tree := by kernel_rfl
noncomputable def lpoints_M : Nat → SpecSem
  | 18 => tpoint_sem
  | 19 => rpoint_sem
  | 13 => rright_sem
  | 16 => rcount_sem
  | 14 => talive_sem
  | _ => noSem
theorem lpoints_M18 : lpoints_M 18 = tpoint_sem := rfl
theorem lpoints_M19 : lpoints_M 19 = rpoint_sem := rfl
theorem lpoints_M13 : lpoints_M 13 = rright_sem := rfl
theorem lpoints_M16 : lpoints_M 16 = rcount_sem := rfl
theorem lpoints_M14 : lpoints_M 14 = talive_sem := rfl
theorem lpoints_cxok : CxOK Try.prog lpoints_cx lpoints_M := ⟨tysOK, fnsOK, spCons tpoint_ok <| spCons rpoint_ok <| spCons rright_ok <| spCons rcount_ok <| spCons talive_ok <| fun _ _ h => spNil h, mixedOK, fun _ _ h => trNil h⟩

def lpoints_sem : SpecSem := { pre := fun cs => match cs with | [.i k, .i s, .i m, .i u, .i d] => IsI k ∧ IsI s ∧ IsI m ∧ IsI u ∧ IsI d | _ => False, out := fun cs => match cs with | [.i k, .i s, .i m, .i u, .i d] => [.b true] | _ => [] }
theorem lpoints_ok : SpecOK Try.prog 5 lpoints_sp lpoints_sem := by
  refine spec_of_tree lpoints_cxok Try.func5 (by kernel_rfl) (by kernel_rfl) lpoints_walk rfl ?_
  intro cs hpre
  match cs, hpre with
  | [.i k, .i s, .i m, .i u, .i d], ⟨⟨h1, h2⟩, ⟨h3, h4⟩, ⟨h5, h6⟩, ⟨h7, h8⟩, ⟨h9, h10⟩⟩ =>
    refine ⟨rfl, IvsB.ok (by simp only [lpoints_ivs, IvsB, Cv.int, and_true]; omega), ?_, ?_⟩
    · simp only [lpoints_sem, lpoints_sp, Fits]
    · simp only [lpoints_sem, lpoints_sp, rright_sem, tright_sem, IsI, lpoints_tree, lpoints_M18, tpoint_sem, lpoints_M19, rpoint_sem, lpoints_M13, rright_sem, lpoints_M16, rcount_sem, lpoints_M14, talive_sem, Tree.den, List.getElem?_cons_zero, List.getElem?_cons_succ, IE.den, BE.den, At.den, CA.den, Env.get, Cv.int, Cv.bool, List.cons_append, List.nil_append, List.map_cons, List.map_nil, bindRes, bindEq, Fits, SV.den, denL, place, placeL, eq_t, eq_f, lt_t, lt_f, le_t, le_f, beq_iff_eq, beq_eq_false_iff_ne, ne_eq, reduceCtorEq, b_dec, decide_eq_true_eq, decide_eq_false_iff_not, Bool.not_eq_false', Bool.or_eq_true, Bool.or_eq_false_iff, Bool.and_eq_false_iff, true_iff, false_iff, Bool.false_eq_true, Bool.not_eq_true', Bool.and_eq_true, Bool.not_true, Bool.not_false, List.cons.injEq, Cv.i.injEq, Cv.b.injEq, and_true, true_and, agg_inj, tup_inj, Value.int.injEq, Value.bool.injEq]
      by_cases hR : TRight k s m u
      · by_cases hC : TCount k s d
        · by_cases hm : m = 0
          · subst hm
            have hs : TMay k s 0 u d := ⟨hR, hC⟩
            simp only [hs, hR, hC, ne_eq, if_true, if_false, true_and, and_true, false_and, and_false, true_or, or_true, false_or, or_false, true_iff, iff_true, false_iff, iff_false, not_true_eq_false, not_false_eq_true, true_implies, false_implies, implies_true, forall_const, decide_true, decide_false, reduceCtorEq, List.cons_append, List.nil_append, Env.get, Cv.int, Cv.bool]
            (repeat' (first | intro _ | refine And.intro ?_ ?_ | exact trivial)) <;> omega
          · have hs : TMay k s m u d := ⟨hR, hC⟩
            simp only [hs, hR, hC, hm, ne_eq, if_true, if_false, true_and, and_true, false_and, and_false, true_or, or_true, false_or, or_false, true_iff, iff_true, false_iff, iff_false, not_true_eq_false, not_false_eq_true, true_implies, false_implies, implies_true, forall_const, decide_true, decide_false, reduceCtorEq, List.cons_append, List.nil_append, Env.get, Cv.int, Cv.bool]
            (repeat' (first | intro _ | refine And.intro ?_ ?_ | exact trivial)) <;> omega
        · simp only [TMay, hR, hC, if_true, if_false, true_and, and_true, false_and, and_false, true_or, or_true, false_or, or_false, true_iff, iff_true, false_iff, iff_false, not_true_eq_false, not_false_eq_true, true_implies, false_implies, implies_true, forall_const, decide_true, decide_false, reduceCtorEq, List.cons_append, List.nil_append, Env.get, Cv.int, Cv.bool]
          (repeat' (first | intro _ | refine And.intro ?_ ?_ | exact trivial)) <;> omega
      · simp only [TMay, hR, if_true, if_false, true_and, and_true, false_and, and_false, true_or, or_true, false_or, or_false, true_iff, iff_true, false_iff, iff_false, not_true_eq_false, not_false_eq_true, true_implies, false_implies, implies_true, forall_const, decide_true, decide_false, reduceCtorEq, List.cons_append, List.nil_append, Env.get, Cv.int, Cv.bool]
        (repeat' (first | intro _ | refine And.intro ?_ ?_ | exact trivial)) <;> omega
end Go.Proofs.Ytlakihbodohggaa.X
