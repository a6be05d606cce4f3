/-
  The laws of layer 3 that speak of no reference: each tells true, for every input in range.
-/
import Derived.Test.YtbmfkdammaodpaaSxRoot
import Derived.Test.YtbmfkdammaodpaaSxTimes
namespace Go.Proofs.Ytbmfkdammaodpaa.X
open Go Go.SX Go.RowKit
set_option linter.unusedVariables false
set_option linter.unusedSimpArgs false








def ralive_sp : SpecSh := { args := [], res := (.bool .f), sh := [.b] }
set_option maxRecDepth 100000 in
def ralive_tree : Tree :=
.call 18 [.i (some (0, 18446744073709551615)), .i (some (0, 18446744073709551615))] [.i (.z 0), .i (.z 8)] <|
.call 16 [.i (some (0, 18446744073709551615))] [.i (.z 0), .i (.z 8)] <|
.ite (.cmp .eq (.v 2) (.z 2)) (.ite (.cmp .eq (.v 1) (.z 3)) (.call 20 [.b] [.i (.z 0), .i (.z 9)] <|
.ret (.bool (.v 3))) <|
.ret (.bool .f)) <|
.ret (.bool .f)
noncomputable def ralive_cx : Ctx := { tys := tys, fns := fns, sps := [(16, wroot_sp), (18, wup_sp), (20, wsquare_sp)], anns := [], trys := [] }
def ralive_ivs : List (Option (Int × Int)) := []
set_option maxRecDepth 100000 in
theorem ralive_walk : runFn ralive_cx 3000 15 Try.f15 ralive_sp.args ralive_ivs = ralive_tree := by kernel_rfl
noncomputable def ralive_M : Nat → SpecSem
  | 16 => wroot_sem
  | 18 => wup_sem
  | 20 => wsquare_sem
  | _ => noSem
theorem ralive_M16 : ralive_M 16 = wroot_sem := rfl
theorem ralive_M18 : ralive_M 18 = wup_sem := rfl
theorem ralive_M20 : ralive_M 20 = wsquare_sem := rfl
theorem ralive_cxok : CxOK Try.prog ralive_cx ralive_M := ⟨tysOK, fnsOK, spCons wroot_ok <| spCons wup_ok <| spCons wsquare_ok <| fun _ _ h => spNil h, mixedOK, fun _ _ h => trNil h⟩

def ralive_sem : SpecSem := { pre := fun cs => match cs with | [] => True | _ => False, out := fun cs => match cs with | [] => [.b true] | _ => [] }
theorem ralive_ok : SpecOK Try.prog 15 ralive_sp ralive_sem := by
  refine spec_of_tree ralive_cxok Try.func15 (by kernel_rfl) (by kernel_rfl) ralive_walk rfl ?_
  intro cs hpre
  match cs, hpre with
  | [], _ =>
    refine ⟨rfl, IvsB.ok (by simp only [ralive_ivs, IvsB, Cv.int, and_true]), ?_, ?_⟩
    · simp only [ralive_sem, ralive_sp, Fits]
    · have e8 : rootZ (val 0 8) = 2 := rootZ_uniq (by omega) (by unfold val; omega) (by unfold val; omega)
      have e9 : rootZ (val 0 9) = 3 := rootZ_uniq (by omega) (by unfold val; omega) (by unfold val; omega)
      simp only [ralive_sem, ralive_sp, IsU, upZ, ralive_tree, ralive_M16, wroot_sem, ralive_M18, wup_sem, ralive_M20, wsquare_sem, Tree.den, List.getElem?_cons_zero, List.getElem?_cons_succ, IE.den, BE.den, At.den, CA.den, Env.get, Cv.int, Cv.bool, List.cons_append, List.nil_append, List.map_cons, List.map_nil, bindRes, bindEq, Fits, SV.den, denL, place, placeL, eq_t, eq_f, lt_t, lt_f, le_t, le_f, beq_iff_eq, beq_eq_false_iff_ne, ne_eq, reduceCtorEq, b_dec, decide_eq_true_eq, decide_eq_false_iff_not, Bool.not_eq_false', Bool.or_eq_true, Bool.or_eq_false_iff, Bool.and_eq_false_iff, true_iff, false_iff, Bool.false_eq_true, Bool.not_eq_true', Bool.and_eq_true, Bool.not_true, Bool.not_false, List.cons.injEq, Cv.i.injEq, Cv.b.injEq, and_true, true_and, agg_inj, tup_inj, Value.int.injEq, Value.bool.injEq]
      simp only [e8, e9]
      unfold val
      (repeat' (first | intro _ | refine And.intro ?_ ?_ | exact trivial)) <;> omega

theorem rootZ_mono {u v : Int} (hu : 0 ≤ u) (h : u ≤ v) : rootZ u ≤ rootZ v := by
  obtain ⟨g0, g1, g2⟩ := rootZ_spec hu
  exact (le_rootZ g0 (by omega)).2 (by omega)
theorem upZ_mono {u v : Int} (hu : 0 ≤ u) (h : u ≤ v) : upZ u ≤ upZ v := by
  have hm := rootZ_mono hu h
  obtain ⟨g0, g1, g2⟩ := rootZ_spec hu
  obtain ⟨k0, k1, k2⟩ := rootZ_spec (v := v) (by omega)
  unfold upZ
  split <;> split <;> first | omega | skip
  rename_i c1 c2
  refine Decidable.byContradiction fun c => ?_
  have e : rootZ u = rootZ v := by omega
  rw [e] at c1 g1
  omega
theorem upZ_rng {v : Int} (hv : 0 ≤ v) (h : v < 340282366920938463463374607431768211456) : 0 ≤ upZ v ∧ upZ v ≤ 18446744073709551616 := by
  have := rootZ_le hv h
  obtain ⟨g0, g1, g2⟩ := rootZ_spec hv
  unfold upZ; split <;> omega
def lfits_sp : SpecSh := { args := [(.agg [(.int .u64 (.z 0)), (.int .u64 (.z 0))])], res := (.bool .f), sh := [.b] }
set_option maxRecDepth 100000 in
def lfits_tree : Tree :=
.call 16 [.i (some (0, 18446744073709551615))] [.i (.v 0), .i (.v 1)] <|
.call 18 [.i (some (0, 18446744073709551615)), .i (some (0, 18446744073709551615))] [.i (.v 0), .i (.v 1)] <|
.call 22 [.i (some (0, 18446744073709551615)), .i (some (0, 18446744073709551615)), .b] [.i (.z 0), .i (.v 2), .i (.z 0), .i (.z 1)] <|
.call 23 [.i (some (0, 18446744073709551615)), .i (some (0, 18446744073709551615)), .b] [.i (.v 5), .i (.v 6), .i (.v 5), .i (.v 6)] <|
.ite (.v 7) (.ret (.bool .f)) <|
.call 25 [.i (some (0, 18446744073709551615)), .i (some (0, 18446744073709551615))] [.i (.v 2), .i (.v 2)] <|
.call 24 [.b] [.i (.v 0), .i (.v 1), .i (.v 11), .i (.v 12)] <|
.ite (.v 13) (.ret (.bool .f)) <|
.ite (.not (.v 10)) (.call 24 [.b] [.i (.v 0), .i (.v 1), .i (.v 8), .i (.v 9)] <|
.ite (.not (.v 14)) (.ret (.bool .f)) <|
.call 15 [.b] [] <|
.ite (.not (.v 15)) (.ret (.bool .f)) <|
.call 20 [.b] [.i (.v 0), .i (.v 1)] <|
.ite (.v 16) (.ite (.and (.cmp .eq (.v 3) (.z 0)) (.cmp .eq (.v 4) (.v 2))) (.call 25 [.i (some (0, 18446744073709551615)), .i (some (0, 18446744073709551615))] [.i (.v 2), .i (.v 2)] <|
.ret (.bool (.and (.cmp .eq (.v 17) (.v 0)) (.cmp .eq (.v 18) (.v 1))))) <|
.ret (.bool .f)) <|
.ite (.and (.cmp .eq (.v 3) (.v 5)) (.cmp .eq (.v 4) (.v 6))) (.call 25 [.i (some (0, 18446744073709551615)), .i (some (0, 18446744073709551615))] [.i (.v 2), .i (.v 2)] <|
.ret (.bool (.not (.and (.cmp .eq (.v 17) (.v 0)) (.cmp .eq (.v 18) (.v 1)))))) <|
.ret (.bool .f)) <|
.call 15 [.b] [] <|
.ite (.not (.v 14)) (.ret (.bool .f)) <|
.call 20 [.b] [.i (.v 0), .i (.v 1)] <|
.ite (.v 15) (.ite (.and (.cmp .eq (.v 3) (.z 0)) (.cmp .eq (.v 4) (.v 2))) (.call 25 [.i (some (0, 18446744073709551615)), .i (some (0, 18446744073709551615))] [.i (.v 2), .i (.v 2)] <|
.ret (.bool (.and (.cmp .eq (.v 16) (.v 0)) (.cmp .eq (.v 17) (.v 1))))) <|
.ret (.bool .f)) <|
.ite (.and (.cmp .eq (.v 3) (.v 5)) (.cmp .eq (.v 4) (.v 6))) (.call 25 [.i (some (0, 18446744073709551615)), .i (some (0, 18446744073709551615))] [.i (.v 2), .i (.v 2)] <|
.ret (.bool (.not (.and (.cmp .eq (.v 16) (.v 0)) (.cmp .eq (.v 17) (.v 1)))))) <|
.ret (.bool .f)
noncomputable def lfits_cx : Ctx := { tys := tys, fns := fns, sps := [(16, wroot_sp), (18, wup_sp), (20, wsquare_sp), (22, wadd_sp), (23, times_sp), (24, less_sp), (25, mul_sp), (15, ralive_sp)], anns := [], trys := [] }
def lfits_ivs : List (Option (Int × Int)) := [some (0, 18446744073709551615), some (0, 18446744073709551615)]
set_option maxRecDepth 100000 in
theorem lfits_walk : runFn lfits_cx 3000 4 Try.f4 lfits_sp.args lfits_ivs = lfits_tree := by kernel_rfl
noncomputable def lfits_M : Nat → SpecSem
  | 16 => wroot_sem
  | 18 => wup_sem
  | 20 => wsquare_sem
  | 22 => wadd_sem
  | 23 => times_sem
  | 24 => less_sem
  | 25 => mul_sem
  | 15 => ralive_sem
  | _ => noSem
theorem lfits_M16 : lfits_M 16 = wroot_sem := rfl
theorem lfits_M18 : lfits_M 18 = wup_sem := rfl
theorem lfits_M20 : lfits_M 20 = wsquare_sem := rfl
theorem lfits_M22 : lfits_M 22 = wadd_sem := rfl
theorem lfits_M23 : lfits_M 23 = times_sem := rfl
theorem lfits_M24 : lfits_M 24 = less_sem := rfl
theorem lfits_M25 : lfits_M 25 = mul_sem := rfl
theorem lfits_M15 : lfits_M 15 = ralive_sem := rfl
theorem lfits_cxok : CxOK Try.prog lfits_cx lfits_M := ⟨tysOK, fnsOK, spCons wroot_ok <| spCons wup_ok <| spCons wsquare_ok <| spCons wadd_ok <| spCons times_ok <| spCons less_ok <| spCons mul_ok <| spCons ralive_ok <| fun _ _ h => spNil h, mixedOK, fun _ _ h => trNil h⟩

def lfits_sem : SpecSem := { pre := fun cs => match cs with | [.i a, .i b] => IsU a ∧ IsU b | _ => False, out := fun cs => match cs with | [.i a, .i b] => [.b true] | _ => [] }
theorem lfits_ok : SpecOK Try.prog 4 lfits_sp lfits_sem := by
  refine spec_of_tree lfits_cxok Try.func4 (by kernel_rfl) (by kernel_rfl) lfits_walk rfl ?_
  intro cs hpre
  match cs, hpre with
  | [.i a, .i b], ⟨⟨h1, h2⟩, ⟨h3, h4⟩⟩ =>
    have hv : 0 ≤ val a b ∧ val a b < 340282366920938463463374607431768211456 := by unfold val; omega
    have r3 := rootZ_le hv.1 hv.2
    obtain ⟨r0, r1, r2⟩ := rootZ_spec hv.1
    refine ⟨rfl, IvsB.ok (by simp only [lfits_ivs, IvsB, Cv.int, and_true]; omega), ?_, ?_⟩
    · simp only [lfits_sem, lfits_sp, Fits]
    · simp only [lfits_sem, lfits_sp, IsU, upZ, lfits_tree, lfits_M16, wroot_sem, lfits_M18, wup_sem, lfits_M20, wsquare_sem, lfits_M22, wadd_sem, lfits_M23, times_sem, lfits_M24, less_sem, lfits_M25, mul_sem, lfits_M15, ralive_sem, Tree.den, List.getElem?_cons_zero, List.getElem?_cons_succ, IE.den, BE.den, At.den, CA.den, Env.get, Cv.int, Cv.bool, List.cons_append, List.nil_append, List.map_cons, List.map_nil, bindRes, bindEq, Fits, SV.den, denL, place, placeL, eq_t, eq_f, lt_t, lt_f, le_t, le_f, beq_iff_eq, beq_eq_false_iff_ne, ne_eq, reduceCtorEq, b_dec, decide_eq_true_eq, decide_eq_false_iff_not, Bool.not_eq_false', Bool.or_eq_true, Bool.or_eq_false_iff, Bool.and_eq_false_iff, true_iff, false_iff, Bool.false_eq_true, Bool.not_eq_true', Bool.and_eq_true, Bool.not_true, Bool.not_false, List.cons.injEq, Cv.i.injEq, Cv.b.injEq, and_true, true_and, agg_inj, tup_inj, Value.int.injEq, Value.bool.injEq]
      generalize rootZ (val a b) = s at *
      have tail : ∀ (q1 q0 : Int), q1 = (if s * s = val a b then s else s + 1) / 18446744073709551616 → q0 = (if s * s = val a b then s else s + 1) % 18446744073709551616 → val q1 q0 = if s * s = val a b then s else s + 1 := by
        intro q1 q0 e1 e0; unfold val at *; omega
      refine ⟨by omega, ?_⟩
      intro x hx _ _
      subst hx
      refine ⟨by omega, ?_⟩
      intro u1 hu1 _ _ u0 hu0 _ _
      have hu := tail u1 u0 hu1 hu0
      refine ⟨by omega, ?_⟩
      intro n1 hn1 _ _ n0 hn0 _ _
      have hn : val n1 n0 = x + 1 := by unfold val at *; omega
      simp only [hn]
      refine ⟨by omega, ?_⟩
      intro t1 ht1 _ _ t0 ht0 _ _
      refine ⟨by unfold val; omega, fun _ => ⟨by omega, ?_⟩⟩
      intro p1 hp1 _ _ p0 hp0 _ _
      have hp : val p1 p0 = x * x := by unfold val; omega
      simp only [hp]
      by_cases hsq : x * x = val a b
      · rw [if_pos hsq] at hu1 hu0 hu
        simp only [hsq, if_true, if_false, true_and, and_true, false_and, and_false, true_or, or_true, false_or, or_false, true_iff, iff_true, false_iff, iff_false, not_true_eq_false, not_false_eq_true, true_implies, false_implies, implies_true, forall_const, decide_true, decide_false, reduceCtorEq]
        unfold val at *
        (repeat' (first | intro _ | refine And.intro ?_ ?_ | exact trivial)) <;> omega
      · rw [if_neg hsq] at hu1 hu0 hu
        simp only [hsq, if_true, if_false, true_and, and_true, false_and, and_false, true_or, or_true, false_or, or_false, true_iff, iff_true, false_iff, iff_false, not_true_eq_false, not_false_eq_true, true_implies, false_implies, implies_true, forall_const, decide_true, decide_false, reduceCtorEq]
        unfold val at *
        (repeat' (first | intro _ | refine And.intro ?_ ?_ | exact trivial)) <;> omega

def lsquares_sp : SpecSh := { args := [(.int .u64 (.z 0)), (.agg [(.int .u64 (.z 0)), (.int .u64 (.z 0))]), (.agg [(.int .u64 (.z 0)), (.int .u64 (.z 0))])], res := (.bool .f), sh := [.b] }
set_option maxRecDepth 100000 in
def lsquares_tree : Tree :=
.call 25 [.i (some (0, 18446744073709551615)), .i (some (0, 18446744073709551615))] [.i (.v 0), .i (.v 0)] <|
.call 16 [.i (some (0, 18446744073709551615))] [.i (.v 5), .i (.v 6)] <|
.ite (.not (.cmp .eq (.v 7) (.v 0))) (.ret (.bool .f)) <|
.call 18 [.i (some (0, 18446744073709551615)), .i (some (0, 18446744073709551615))] [.i (.v 5), .i (.v 6)] <|
.ite (.not (.and (.cmp .eq (.v 8) (.z 0)) (.cmp .eq (.v 9) (.v 0)))) (.ret (.bool .f)) <|
.call 20 [.b] [.i (.v 5), .i (.v 6)] <|
.ite (.not (.v 10)) (.ret (.bool .f)) <|
.call 15 [.b] [] <|
.ite (.not (.v 11)) (.ret (.bool .f)) <|
.ite (.cmp .le (.z 2) (.v 0)) (.call 26 [.i (some (0, 18446744073709551615)), .i (some (0, 18446744073709551615)), .b] [.i (.v 5), .i (.v 6), .i (.z 0), .i (.z 1)] <|
.call 16 [.i (some (0, 18446744073709551615))] [.i (.v 12), .i (.v 13)] <|
.lett (.sub (.v 0) (.z 1)) <|
.ite (.not (.cmp .eq (.v 15) (.v 16))) (.ret (.bool .f)) <|
.call 18 [.i (some (0, 18446744073709551615)), .i (some (0, 18446744073709551615))] [.i (.v 12), .i (.v 13)] <|
.ite (.not (.and (.cmp .eq (.v 17) (.z 0)) (.cmp .eq (.v 18) (.v 0)))) (.ret (.bool .f)) <|
.call 20 [.b] [.i (.v 12), .i (.v 13)] <|
.ite (.v 19) (.ret (.bool .f)) <|
.call 24 [.b] [.i (.v 3), .i (.v 4), .i (.v 1), .i (.v 2)] <|
.lett (.ite (.v 20) (.v 3) (.v 1)) <|
.lett (.ite (.v 20) (.v 4) (.v 2)) <|
.lett (.ite (.v 20) (.v 1) (.v 3)) <|
.lett (.ite (.v 20) (.v 2) (.v 4)) <|
.call 16 [.i (some (0, 18446744073709551615))] [.i (.v 21), .i (.v 22)] <|
.call 16 [.i (some (0, 18446744073709551615))] [.i (.v 23), .i (.v 24)] <|
.ite (.cmp .le (.v 25) (.v 26)) (.call 18 [.i (some (0, 18446744073709551615)), .i (some (0, 18446744073709551615))] [.i (.v 23), .i (.v 24)] <|
.call 18 [.i (some (0, 18446744073709551615)), .i (some (0, 18446744073709551615))] [.i (.v 21), .i (.v 22)] <|
.call 24 [.b] [.i (.v 27), .i (.v 28), .i (.v 29), .i (.v 30)] <|
.ret (.bool (.not (.v 31)))) <|
.ret (.bool .f)) <|
.call 24 [.b] [.i (.v 3), .i (.v 4), .i (.v 1), .i (.v 2)] <|
.lett (.ite (.v 12) (.v 3) (.v 1)) <|
.lett (.ite (.v 12) (.v 4) (.v 2)) <|
.lett (.ite (.v 12) (.v 1) (.v 3)) <|
.lett (.ite (.v 12) (.v 2) (.v 4)) <|
.call 16 [.i (some (0, 18446744073709551615))] [.i (.v 13), .i (.v 14)] <|
.call 16 [.i (some (0, 18446744073709551615))] [.i (.v 15), .i (.v 16)] <|
.ite (.cmp .le (.v 17) (.v 18)) (.call 18 [.i (some (0, 18446744073709551615)), .i (some (0, 18446744073709551615))] [.i (.v 15), .i (.v 16)] <|
.call 18 [.i (some (0, 18446744073709551615)), .i (some (0, 18446744073709551615))] [.i (.v 13), .i (.v 14)] <|
.call 24 [.b] [.i (.v 19), .i (.v 20), .i (.v 21), .i (.v 22)] <|
.ret (.bool (.not (.v 23)))) <|
.ret (.bool .f)
noncomputable def lsquares_cx : Ctx := { tys := tys, fns := fns, sps := [(16, wroot_sp), (18, wup_sp), (20, wsquare_sp), (22, wadd_sp), (26, wsub_sp), (23, times_sp), (24, less_sp), (25, mul_sp), (15, ralive_sp)], anns := [], trys := [] }
def lsquares_ivs : List (Option (Int × Int)) := [some (0, 18446744073709551615), some (0, 18446744073709551615), some (0, 18446744073709551615), some (0, 18446744073709551615), some (0, 18446744073709551615)]
set_option maxRecDepth 100000 in
theorem lsquares_walk : runFn lsquares_cx 3000 5 Try.f5 lsquares_sp.args lsquares_ivs = lsquares_tree := by kernel_rfl
noncomputable def lsquares_M : Nat → SpecSem
  | 16 => wroot_sem
  | 18 => wup_sem
  | 20 => wsquare_sem
  | 22 => wadd_sem
  | 26 => wsub_sem
  | 23 => times_sem
  | 24 => less_sem
  | 25 => mul_sem
  | 15 => ralive_sem
  | _ => noSem
theorem lsquares_M16 : lsquares_M 16 = wroot_sem := rfl
theorem lsquares_M18 : lsquares_M 18 = wup_sem := rfl
theorem lsquares_M20 : lsquares_M 20 = wsquare_sem := rfl
theorem lsquares_M22 : lsquares_M 22 = wadd_sem := rfl
theorem lsquares_M26 : lsquares_M 26 = wsub_sem := rfl
theorem lsquares_M23 : lsquares_M 23 = times_sem := rfl
theorem lsquares_M24 : lsquares_M 24 = less_sem := rfl
theorem lsquares_M25 : lsquares_M 25 = mul_sem := rfl
theorem lsquares_M15 : lsquares_M 15 = ralive_sem := rfl
theorem lsquares_cxok : CxOK Try.prog lsquares_cx lsquares_M := ⟨tysOK, fnsOK, spCons wroot_ok <| spCons wup_ok <| spCons wsquare_ok <| spCons wadd_ok <| spCons wsub_ok <| spCons times_ok <| spCons less_ok <| spCons mul_ok <| spCons ralive_ok <| fun _ _ h => spNil h, mixedOK, fun _ _ h => trNil h⟩

def lsquares_sem : SpecSem := { pre := fun cs => match cs with | [.i x, .i a, .i b, .i c, .i d] => IsU x ∧ IsU a ∧ IsU b ∧ IsU c ∧ IsU d | _ => False, out := fun cs => match cs with | [.i x, .i a, .i b, .i c, .i d] => [.b true] | _ => [] }
theorem lsquares_ok : SpecOK Try.prog 5 lsquares_sp lsquares_sem := by
  refine spec_of_tree lsquares_cxok Try.func5 (by kernel_rfl) (by kernel_rfl) lsquares_walk rfl ?_
  intro cs hpre
  match cs, hpre with
  | [.i x, .i a, .i b, .i c, .i d], ⟨⟨h1, h2⟩, ⟨h3, h4⟩, ⟨h5, h6⟩, ⟨h7, h8⟩, ⟨h9, h10⟩⟩ =>
    refine ⟨rfl, IvsB.ok (by simp only [lsquares_ivs, IvsB, Cv.int, and_true]; omega), ?_, ?_⟩
    · simp only [lsquares_sem, lsquares_sp, Fits]
    · simp only [lsquares_sem, lsquares_sp, IsU, lsquares_tree, lsquares_M16, wroot_sem, lsquares_M18, wup_sem, lsquares_M20, wsquare_sem, lsquares_M22, wadd_sem, lsquares_M26, wsub_sem, lsquares_M23, times_sem, lsquares_M24, less_sem, lsquares_M25, mul_sem, lsquares_M15, ralive_sem, Tree.den, List.getElem?_cons_zero, List.getElem?_cons_succ, IE.den, BE.den, At.den, CA.den, Env.get, Cv.int, Cv.bool, List.cons_append, List.nil_append, List.map_cons, List.map_nil, bindRes, bindEq, Fits, SV.den, denL, place, placeL, eq_t, eq_f, lt_t, lt_f, le_t, le_f, beq_iff_eq, beq_eq_false_iff_ne, ne_eq, reduceCtorEq, b_dec, decide_eq_true_eq, decide_eq_false_iff_not, Bool.not_eq_false', Bool.or_eq_true, Bool.or_eq_false_iff, Bool.and_eq_false_iff, true_iff, false_iff, Bool.false_eq_true, Bool.not_eq_true', Bool.and_eq_true, Bool.not_true, Bool.not_false, List.cons.injEq, Cv.i.injEq, Cv.b.injEq, and_true, true_and, agg_inj, tup_inj, Value.int.injEq, Value.bool.injEq]
      refine ⟨by omega, ?_⟩
      intro p1 hp1 _ _ p0 hp0 _ _
      have hp : val p1 p0 = x * x := by unfold val; omega
      have hx0 : 0 ≤ x * x := Int.mul_nonneg h1 h1
      have hr : rootZ (x * x) = x := rootZ_uniq h1 (by omega) (by rw [Int.add_mul, Int.mul_add]; omega)
      have hu : upZ (x * x) = x := by unfold upZ; rw [hr, if_pos rfl]
      simp only [hp, hr, hu, if_true, if_false, true_and, and_true, false_and, and_false, true_or, or_true, false_or, or_false, true_iff, iff_true, false_iff, iff_false, not_true_eq_false, not_false_eq_true, true_implies, false_implies, implies_true, forall_const, decide_true, decide_false, reduceCtorEq]
      have mn : ∀ u1 u0 v1 v0 : Int, 0 ≤ u1 → u1 ≤ 18446744073709551615 → 0 ≤ u0 → u0 ≤ 18446744073709551615 → 0 ≤ v1 → v1 ≤ 18446744073709551615 → 0 ≤ v0 → v0 ≤ 18446744073709551615 → val u1 u0 ≤ val v1 v0 →
          0 ≤ rootZ (val u1 u0) ∧ rootZ (val u1 u0) ≤ rootZ (val v1 v0) ∧ rootZ (val v1 v0) ≤ 18446744073709551615 ∧ 0 ≤ upZ (val u1 u0) ∧ upZ (val u1 u0) ≤ upZ (val v1 v0) ∧ upZ (val v1 v0) ≤ 18446744073709551616 := by
        intro u1 u0 v1 v0 a1 a2 a3 a4 b1 b2 b3 b4 hle
        have hu : 0 ≤ val u1 u0 := by unfold val; omega
        have hv : 0 ≤ val v1 v0 ∧ val v1 v0 < 340282366920938463463374607431768211456 := by unfold val; omega
        exact ⟨(rootZ_spec hu).1, rootZ_mono hu hle, rootZ_le hv.1 hv.2, (upZ_rng hu (by omega)).1, upZ_mono hu hle, (upZ_rng hv.1 hv.2).2⟩
      refine ⟨by omega, fun s hs _ _ => ⟨fun h => by omega, fun _ => ⟨by omega, fun u1 hu1 _ _ u0 hu0 _ _ => ⟨fun h => by omega, fun _ => ⟨by omega, fun h2x => ?_, fun hx2 => ?_⟩⟩⟩⟩⟩
      · have e : (x - 1) * (x - 1) = x * x - 2 * x + 1 := by rw [Int.sub_mul, Int.mul_sub]; omega
        have e1 : 2 * x ≤ x * x := Int.mul_le_mul h2x (Int.le_refl x) h1 h1
        have hl : rootZ (x * x - 1) = x - 1 := rootZ_uniq (by omega) (by omega) (by rw [Int.sub_add_cancel]; omega)
        have hul : upZ (x * x - 1) = x := by unfold upZ; rw [hl, if_neg (by omega)]; omega
        refine ⟨by omega, ?_⟩
        intro l1 hl1 _ _ l0 hl0 _ _
        have hlv : val l1 l0 = x * x - 1 := by unfold val at *; omega
        simp only [hlv, hl, hul]
        refine ⟨by omega, fun s hs _ _ y hy => ⟨fun h => by omega, fun _ => ⟨by omega, fun v1 hv1 _ _ v0 hv0 _ _ => ⟨fun h => by omega, fun _ => ⟨by omega, fun h => by omega, fun _ => ?_⟩⟩⟩⟩⟩
        refine ⟨by omega, ?_⟩
        intro e1 he1 e0 he0 f1 hf1 f0 hf0
        have hle : (0 ≤ e1 ∧ e1 ≤ 18446744073709551615 ∧ 0 ≤ e0 ∧ e0 ≤ 18446744073709551615) ∧ (0 ≤ f1 ∧ f1 ≤ 18446744073709551615 ∧ 0 ≤ f0 ∧ f0 ≤ 18446744073709551615) ∧ val e1 e0 ≤ val f1 f0 := by
          by_cases hc : val c d < val a b
          · rw [if_pos hc] at he1 he0 hf1 hf0; subst he1 he0 hf1 hf0; omega
          · rw [if_neg hc] at he1 he0 hf1 hf0; subst he1 he0 hf1 hf0; omega
        obtain ⟨⟨k1, k2, k3, k4⟩, ⟨k5, k6, k7, k8⟩, k9⟩ := hle
        obtain ⟨m1, m2, m3, m4, m5, m6⟩ := mn e1 e0 f1 f0 k1 k2 k3 k4 k5 k6 k7 k8 k9
        clear mn he1 he0 hf1 hf0 hr hu hp k9
        generalize rootZ (val e1 e0) = A at *
        generalize rootZ (val f1 f0) = B at *
        generalize upZ (val e1 e0) = C at *
        generalize upZ (val f1 f0) = D at *
        unfold val
        (repeat' (first | intro _ | refine And.intro ?_ ?_ | exact trivial)) <;> omega
      · refine ⟨by omega, ?_⟩
        intro e1 he1 e0 he0 f1 hf1 f0 hf0
        have hle : (0 ≤ e1 ∧ e1 ≤ 18446744073709551615 ∧ 0 ≤ e0 ∧ e0 ≤ 18446744073709551615) ∧ (0 ≤ f1 ∧ f1 ≤ 18446744073709551615 ∧ 0 ≤ f0 ∧ f0 ≤ 18446744073709551615) ∧ val e1 e0 ≤ val f1 f0 := by
          by_cases hc : val c d < val a b
          · rw [if_pos hc] at he1 he0 hf1 hf0; subst he1 he0 hf1 hf0; omega
          · rw [if_neg hc] at he1 he0 hf1 hf0; subst he1 he0 hf1 hf0; omega
        obtain ⟨⟨k1, k2, k3, k4⟩, ⟨k5, k6, k7, k8⟩, k9⟩ := hle
        obtain ⟨m1, m2, m3, m4, m5, m6⟩ := mn e1 e0 f1 f0 k1 k2 k3 k4 k5 k6 k7 k8 k9
        clear mn he1 he0 hf1 hf0 hr hu hp k9
        generalize rootZ (val e1 e0) = A at *
        generalize rootZ (val f1 f0) = B at *
        generalize upZ (val e1 e0) = C at *
        generalize upZ (val f1 f0) = D at *
        unfold val
        (repeat' (first | intro _ | refine And.intro ?_ ?_ | exact trivial)) <;> omega
end Go.Proofs.Ytbmfkdammaodpaa.X
