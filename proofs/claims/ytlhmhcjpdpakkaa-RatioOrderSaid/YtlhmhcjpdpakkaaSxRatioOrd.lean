/-
  RatioOrder tells true, for every input.
-/
import Derived.Test.YtlhmhcjpdpakkaaSxRatioNum2
namespace Go.Proofs.Ytlhmhcjpdpakkaa.X
open Go Go.SX Go.RowKit
set_option linter.unusedVariables false
set_option linter.unusedSimpArgs false





def lrord_sp : SpecSh := { args := [(.agg [(.int .i64 (.z 0)), (.int .i64 (.z 0)), (.int .i64 (.z 0)), (.int .i64 (.z 0)), (.int .i64 (.z 0)), (.int .i64 (.z 0))])], res := (.bool .f), sh := [.b] }
set_option maxRecDepth 100000 in
def lrord_tree : Tree :=
.lett (.ite (.cmp .eq (.v 1) (.z 0)) (.z 1) (.v 1)) <|
.call 38 [.i (some ((-9223372036854775808), 9223372036854775807)), .i (some ((-9223372036854775808), 9223372036854775807)), .i (some ((-9223372036854775808), 9223372036854775807))] [.i (.v 0), .i (.v 6)] <|
.ite (.not (.cmp .eq (.v 9) (.z 0))) (.call 41 [.b] [] <|
.ret (.bool (.v 10))) <|
.lett (.ite (.cmp .eq (.v 3) (.z 0)) (.z 1) (.v 3)) <|
.call 38 [.i (some ((-9223372036854775808), 9223372036854775807)), .i (some ((-9223372036854775808), 9223372036854775807)), .i (some ((-9223372036854775808), 9223372036854775807))] [.i (.v 2), .i (.v 10)] <|
.ite (.not (.cmp .eq (.v 13) (.z 0))) (.call 41 [.b] [] <|
.ret (.bool (.v 14))) <|
.lett (.ite (.cmp .eq (.v 5) (.z 0)) (.z 1) (.v 5)) <|
.call 38 [.i (some ((-9223372036854775808), 9223372036854775807)), .i (some ((-9223372036854775808), 9223372036854775807)), .i (some ((-9223372036854775808), 9223372036854775807))] [.i (.v 4), .i (.v 14)] <|
.ite (.not (.cmp .eq (.v 17) (.z 0))) (.call 41 [.b] [] <|
.ret (.bool (.v 18))) <|
.call 46 [.i (some ((-9223372036854775808), 9223372036854775807)), .i (some ((-9223372036854775808), 9223372036854775807))] [.i (.v 7), .i (.v 8), .i (.v 11), .i (.v 12)] <|
.call 46 [.i (some ((-9223372036854775808), 9223372036854775807)), .i (some ((-9223372036854775808), 9223372036854775807))] [.i (.v 11), .i (.v 12), .i (.v 7), .i (.v 8)] <|
.call 46 [.i (some ((-9223372036854775808), 9223372036854775807)), .i (some ((-9223372036854775808), 9223372036854775807))] [.i (.v 11), .i (.v 12), .i (.v 15), .i (.v 16)] <|
.call 46 [.i (some ((-9223372036854775808), 9223372036854775807)), .i (some ((-9223372036854775808), 9223372036854775807))] [.i (.v 7), .i (.v 8), .i (.v 15), .i (.v 16)] <|
.ite (.not (.cmp .eq (.v 19) (.z 0))) (.ret (.bool .f)) <|
.ite (.not (.cmp .eq (.v 21) (.z 0))) (.ret (.bool .f)) <|
.ite (.not (.cmp .eq (.v 23) (.z 0))) (.ret (.bool .f)) <|
.ite (.not (.cmp .eq (.v 25) (.z 0))) (.ret (.bool .f)) <|
.lett (.subw .i64 (.z 0) (.v 20)) <|
.ite (.not (.cmp .eq (.v 18) (.v 26))) (.ret (.bool .f)) <|
.ite (.not (.eqv (.cmp .eq (.v 18) (.z 0)) (.and (.cmp .eq (.v 7) (.v 11)) (.cmp .eq (.v 8) (.v 12))))) (.ret (.bool .f)) <|
.call 41 [.b] [] <|
.ite (.not (.v 27)) (.ret (.bool .f)) <|
.ite (.cmp .eq (.v 18) (.v 22)) (.ite (.not (.cmp .eq (.v 24) (.v 18))) (.ret (.bool .f)) <|
.ite (.cmp .eq (.v 18) (.z 0)) (.ite (.not (.cmp .eq (.v 24) (.v 22))) (.ret (.bool .f)) <|
.ite (.cmp .eq (.v 22) (.z 0)) (.call 44 [.i (some ((-9223372036854775808), 9223372036854775807)), .i (some ((-9223372036854775808), 9223372036854775807)), .i (some ((-9223372036854775808), 9223372036854775807))] [.i (.v 7), .i (.v 8), .i (.v 15), .i (.v 16)] <|
.call 44 [.i (some ((-9223372036854775808), 9223372036854775807)), .i (some ((-9223372036854775808), 9223372036854775807)), .i (some ((-9223372036854775808), 9223372036854775807))] [.i (.v 11), .i (.v 12), .i (.v 15), .i (.v 16)] <|
.ite (.not (.cmp .eq (.v 30) (.z 0))) (.ret (.bool .t)) <|
.ite (.not (.cmp .eq (.v 33) (.z 0))) (.ret (.bool .t)) <|
.call 46 [.i (some ((-9223372036854775808), 9223372036854775807)), .i (some ((-9223372036854775808), 9223372036854775807))] [.i (.v 28), .i (.v 29), .i (.v 31), .i (.v 32)] <|
.ite (.cmp .eq (.v 35) (.z 0)) (.ret (.bool (.cmp .eq (.v 34) (.v 18)))) <|
.ret (.bool .f)) <|
.call 44 [.i (some ((-9223372036854775808), 9223372036854775807)), .i (some ((-9223372036854775808), 9223372036854775807)), .i (some ((-9223372036854775808), 9223372036854775807))] [.i (.v 7), .i (.v 8), .i (.v 15), .i (.v 16)] <|
.call 44 [.i (some ((-9223372036854775808), 9223372036854775807)), .i (some ((-9223372036854775808), 9223372036854775807)), .i (some ((-9223372036854775808), 9223372036854775807))] [.i (.v 11), .i (.v 12), .i (.v 15), .i (.v 16)] <|
.ite (.not (.cmp .eq (.v 30) (.z 0))) (.ret (.bool .t)) <|
.ite (.not (.cmp .eq (.v 33) (.z 0))) (.ret (.bool .t)) <|
.call 46 [.i (some ((-9223372036854775808), 9223372036854775807)), .i (some ((-9223372036854775808), 9223372036854775807))] [.i (.v 28), .i (.v 29), .i (.v 31), .i (.v 32)] <|
.ite (.cmp .eq (.v 35) (.z 0)) (.ret (.bool (.cmp .eq (.v 34) (.v 18)))) <|
.ret (.bool .f)) <|
.ite (.cmp .eq (.v 22) (.z 0)) (.ite (.cmp .lt (.v 18) (.z (-1))) (.ret (.bool .f)) <|
.ite (.cmp .lt (.z 1) (.v 18)) (.ret (.bool .f)) <|
.call 44 [.i (some ((-9223372036854775808), 9223372036854775807)), .i (some ((-9223372036854775808), 9223372036854775807)), .i (some ((-9223372036854775808), 9223372036854775807))] [.i (.v 7), .i (.v 8), .i (.v 15), .i (.v 16)] <|
.call 44 [.i (some ((-9223372036854775808), 9223372036854775807)), .i (some ((-9223372036854775808), 9223372036854775807)), .i (some ((-9223372036854775808), 9223372036854775807))] [.i (.v 11), .i (.v 12), .i (.v 15), .i (.v 16)] <|
.ite (.not (.cmp .eq (.v 30) (.z 0))) (.ret (.bool .t)) <|
.ite (.not (.cmp .eq (.v 33) (.z 0))) (.ret (.bool .t)) <|
.call 46 [.i (some ((-9223372036854775808), 9223372036854775807)), .i (some ((-9223372036854775808), 9223372036854775807))] [.i (.v 28), .i (.v 29), .i (.v 31), .i (.v 32)] <|
.ite (.cmp .eq (.v 35) (.z 0)) (.ret (.bool (.cmp .eq (.v 34) (.v 18)))) <|
.ret (.bool .f)) <|
.ite (.cmp .lt (.v 18) (.z (-1))) (.ret (.bool .f)) <|
.ite (.cmp .lt (.z 1) (.v 18)) (.ret (.bool .f)) <|
.call 44 [.i (some ((-9223372036854775808), 9223372036854775807)), .i (some ((-9223372036854775808), 9223372036854775807)), .i (some ((-9223372036854775808), 9223372036854775807))] [.i (.v 7), .i (.v 8), .i (.v 15), .i (.v 16)] <|
.call 44 [.i (some ((-9223372036854775808), 9223372036854775807)), .i (some ((-9223372036854775808), 9223372036854775807)), .i (some ((-9223372036854775808), 9223372036854775807))] [.i (.v 11), .i (.v 12), .i (.v 15), .i (.v 16)] <|
.ite (.not (.cmp .eq (.v 30) (.z 0))) (.ret (.bool .t)) <|
.ite (.not (.cmp .eq (.v 33) (.z 0))) (.ret (.bool .t)) <|
.call 46 [.i (some ((-9223372036854775808), 9223372036854775807)), .i (some ((-9223372036854775808), 9223372036854775807))] [.i (.v 28), .i (.v 29), .i (.v 31), .i (.v 32)] <|
.ite (.cmp .eq (.v 35) (.z 0)) (.ret (.bool (.cmp .eq (.v 34) (.v 18)))) <|
.ret (.bool .f)) <|
.ite (.cmp .eq (.v 18) (.z 0)) (.ite (.not (.cmp .eq (.v 24) (.v 22))) (.ret (.bool .f)) <|
.ite (.cmp .eq (.v 22) (.z 0)) (.ite (.not (.cmp .eq (.v 24) (.v 18))) (.ret (.bool .f)) <|
.call 44 [.i (some ((-9223372036854775808), 9223372036854775807)), .i (some ((-9223372036854775808), 9223372036854775807)), .i (some ((-9223372036854775808), 9223372036854775807))] [.i (.v 7), .i (.v 8), .i (.v 15), .i (.v 16)] <|
.call 44 [.i (some ((-9223372036854775808), 9223372036854775807)), .i (some ((-9223372036854775808), 9223372036854775807)), .i (some ((-9223372036854775808), 9223372036854775807))] [.i (.v 11), .i (.v 12), .i (.v 15), .i (.v 16)] <|
.ite (.not (.cmp .eq (.v 30) (.z 0))) (.ret (.bool .t)) <|
.ite (.not (.cmp .eq (.v 33) (.z 0))) (.ret (.bool .t)) <|
.call 46 [.i (some ((-9223372036854775808), 9223372036854775807)), .i (some ((-9223372036854775808), 9223372036854775807))] [.i (.v 28), .i (.v 29), .i (.v 31), .i (.v 32)] <|
.ite (.cmp .eq (.v 35) (.z 0)) (.ret (.bool (.cmp .eq (.v 34) (.v 18)))) <|
.ret (.bool .f)) <|
.call 44 [.i (some ((-9223372036854775808), 9223372036854775807)), .i (some ((-9223372036854775808), 9223372036854775807)), .i (some ((-9223372036854775808), 9223372036854775807))] [.i (.v 7), .i (.v 8), .i (.v 15), .i (.v 16)] <|
.call 44 [.i (some ((-9223372036854775808), 9223372036854775807)), .i (some ((-9223372036854775808), 9223372036854775807)), .i (some ((-9223372036854775808), 9223372036854775807))] [.i (.v 11), .i (.v 12), .i (.v 15), .i (.v 16)] <|
.ite (.not (.cmp .eq (.v 30) (.z 0))) (.ret (.bool .t)) <|
.ite (.not (.cmp .eq (.v 33) (.z 0))) (.ret (.bool .t)) <|
.call 46 [.i (some ((-9223372036854775808), 9223372036854775807)), .i (some ((-9223372036854775808), 9223372036854775807))] [.i (.v 28), .i (.v 29), .i (.v 31), .i (.v 32)] <|
.ite (.cmp .eq (.v 35) (.z 0)) (.ret (.bool (.cmp .eq (.v 34) (.v 18)))) <|
.ret (.bool .f)) <|
.ite (.cmp .eq (.v 22) (.z 0)) (.ite (.not (.cmp .eq (.v 24) (.v 18))) (.ret (.bool .f)) <|
.ite (.cmp .lt (.v 18) (.z (-1))) (.ret (.bool .f)) <|
.ite (.cmp .lt (.z 1) (.v 18)) (.ret (.bool .f)) <|
.call 44 [.i (some ((-9223372036854775808), 9223372036854775807)), .i (some ((-9223372036854775808), 9223372036854775807)), .i (some ((-9223372036854775808), 9223372036854775807))] [.i (.v 7), .i (.v 8), .i (.v 15), .i (.v 16)] <|
.call 44 [.i (some ((-9223372036854775808), 9223372036854775807)), .i (some ((-9223372036854775808), 9223372036854775807)), .i (some ((-9223372036854775808), 9223372036854775807))] [.i (.v 11), .i (.v 12), .i (.v 15), .i (.v 16)] <|
.ite (.not (.cmp .eq (.v 30) (.z 0))) (.ret (.bool .t)) <|
.ite (.not (.cmp .eq (.v 33) (.z 0))) (.ret (.bool .t)) <|
.call 46 [.i (some ((-9223372036854775808), 9223372036854775807)), .i (some ((-9223372036854775808), 9223372036854775807))] [.i (.v 28), .i (.v 29), .i (.v 31), .i (.v 32)] <|
.ite (.cmp .eq (.v 35) (.z 0)) (.ret (.bool (.cmp .eq (.v 34) (.v 18)))) <|
.ret (.bool .f)) <|
.ite (.cmp .lt (.v 18) (.z (-1))) (.ret (.bool .f)) <|
.ite (.cmp .lt (.z 1) (.v 18)) (.ret (.bool .f)) <|
.call 44 [.i (some ((-9223372036854775808), 9223372036854775807)), .i (some ((-9223372036854775808), 9223372036854775807)), .i (some ((-9223372036854775808), 9223372036854775807))] [.i (.v 7), .i (.v 8), .i (.v 15), .i (.v 16)] <|
.call 44 [.i (some ((-9223372036854775808), 9223372036854775807)), .i (some ((-9223372036854775808), 9223372036854775807)), .i (some ((-9223372036854775808), 9223372036854775807))] [.i (.v 11), .i (.v 12), .i (.v 15), .i (.v 16)] <|
.ite (.not (.cmp .eq (.v 30) (.z 0))) (.ret (.bool .t)) <|
.ite (.not (.cmp .eq (.v 33) (.z 0))) (.ret (.bool .t)) <|
.call 46 [.i (some ((-9223372036854775808), 9223372036854775807)), .i (some ((-9223372036854775808), 9223372036854775807))] [.i (.v 28), .i (.v 29), .i (.v 31), .i (.v 32)] <|
.ite (.cmp .eq (.v 35) (.z 0)) (.ret (.bool (.cmp .eq (.v 34) (.v 18)))) <|
.ret (.bool .f)
noncomputable def lrord_cx : Ctx := { tys := tys, fns := fns, sps := [(38, qnew_sp), (44, qadd_sp), (46, qcmp_sp), (41, qal_sp)], anns := [], trys := [] }
def lrord_ivs : List (Option (Int × Int)) := [some ((-9223372036854775808), 9223372036854775807), some ((-9223372036854775808), 9223372036854775807), some ((-9223372036854775808), 9223372036854775807), some ((-9223372036854775808), 9223372036854775807), some ((-9223372036854775808), 9223372036854775807), some ((-9223372036854775808), 9223372036854775807)]
set_option maxRecDepth 100000 in
theorem lrord_walk : runFn lrord_cx 3000 7 Try.f7 lrord_sp.args lrord_ivs = lrord_tree := by kernel_rfl
noncomputable def lrord_M : Nat → SpecSem
  | 38 => qnew_sem
  | 44 => qadd_sem
  | 46 => qcmp_sem
  | 41 => qal_sem
  | _ => noSem
theorem lrord_M38 : lrord_M 38 = qnew_sem := rfl
theorem lrord_M44 : lrord_M 44 = qadd_sem := rfl
theorem lrord_M46 : lrord_M 46 = qcmp_sem := rfl
theorem lrord_M41 : lrord_M 41 = qal_sem := rfl
theorem lrord_cxok : CxOK Try.prog lrord_cx lrord_M := ⟨tysOK, fnsOK, spCons qnew_ok <| spCons qadd_ok <| spCons qcmp_ok <| spCons qal_ok <| fun _ _ h => spNil h, mixedOK, fun _ _ h => trNil h⟩

def lrord_sem : SpecSem := { pre := fun cs => match cs with | [.i n0, .i d0, .i n1, .i d1, .i n2, .i d2] => IsI n0 ∧ IsI d0 ∧ IsI n1 ∧ IsI d1 ∧ IsI n2 ∧ IsI d2 | _ => False, out := fun cs => match cs with | [.i n0, .i d0, .i n1, .i d1, .i n2, .i d2] => [.b true] | _ => [] }
theorem lrord_ok : SpecOK Try.prog 7 lrord_sp lrord_sem := by
  refine spec_of_tree lrord_cxok Try.func7 (by kernel_rfl) (by kernel_rfl) lrord_walk rfl ?_
  intro cs hpre
  match cs, hpre with
  | [.i n0, .i d0, .i n1, .i d1, .i n2, .i d2], ⟨h1, h2, h3, h4, h5, h6⟩ =>
    have g1 : IsI n0 := h1
    have g2 : IsI d0 := h2
    have g3 : IsI n1 := h3
    have g4 : IsI d1 := h4
    have g5 : IsI n2 := h5
    have g6 : IsI d2 := h6
    unfold IsI at h1 h2 h3 h4 h5 h6
    refine ⟨rfl, IvsB.ok (by simp only [lrord_ivs, IvsB, Cv.int, and_true]; omega), ?_, ?_⟩
    · simp only [lrord_sem, lrord_sp, Fits]
    · simp only [lrord_sem, qnew_sem, qcmp_sem, qadd_sem, qmul_sem, qal_sem, rtG, eq_beq, eq_eq, lrord_sp, lrord_tree, lrord_M38, qnew_sem, lrord_M44, qadd_sem, lrord_M46, qcmp_sem, lrord_M41, qal_sem, Tree.den, List.getElem?_cons_zero, List.getElem?_cons_succ, IE.den, BE.den, At.den, CA.den, Env.get, Cv.int, Cv.bool, List.cons_append, List.nil_append, List.map_cons, List.map_nil, bindRes, bindEq, Fits, SV.den, denL, place, placeL, eq_t, eq_f, lt_t, lt_f, le_t, le_f, beq_iff_eq, beq_eq_false_iff_ne, ne_eq, reduceCtorEq, b_dec, decide_eq_true_eq, decide_eq_false_iff_not, Bool.not_eq_false', Bool.or_eq_true, Bool.or_eq_false_iff, Bool.and_eq_false_iff, true_iff, false_iff, Bool.false_eq_true, Bool.not_eq_true', Bool.and_eq_true, Bool.not_true, Bool.not_false, List.cons.injEq, Cv.i.injEq, Cv.b.injEq, and_true, true_and, agg_inj, tup_inj, Value.int.injEq, Value.bool.injEq]
      have i1 : IsI 1 := by decide
      simp only [g1, g2, g3, g4, g5, g6, i1, if_true, if_false, true_and, and_true, false_and, and_false, true_or, or_true, false_or, or_false, true_iff, iff_true, false_iff, iff_false, not_true_eq_false, not_false_eq_true, true_implies, false_implies, implies_true, forall_const, decide_true, decide_false, reduceCtorEq]
      have nz : ∀ d : Int, (if d = 0 then 1 else d) ≠ 0 := fun d => by split <;> omega
      intro e0 he0
      have z0 : e0 ≠ 0 := by rw [he0]; exact nz _
      refine ⟨by rw [he0]; split <;> assumption, ?_⟩
      intro a ha al au b hb bl bu c0 hc0 _ _ k0 e1 he1
      have R0 : rtR a b := new_right z0 ha hb hc0 k0
      have z1 : e1 ≠ 0 := by rw [he1]; exact nz _
      refine ⟨by rw [he1]; split <;> assumption, ?_⟩
      intro c hc cl cu d hd dl du c1 hc1 _ _ k1 e2 he2
      have R1 : rtR c d := new_right z1 hc hd hc1 k1
      have z2 : e2 ≠ 0 := by rw [he2]; exact nz _
      refine ⟨by rw [he2]; split <;> assumption, ?_⟩
      intro e he el eu f hf fl fu c2 hc2 _ _ k2
      have R2 : rtR e f := new_right z2 he hf hc2 k2
      clear he hf hc2 he2 z2 hc hd hc1 he1 z1 ha hb hc0 he0 z0 nz k0 k1 k2
      clear g1 g2 g3 g4 g5 g6 h1 h2 h3 h4 h5 h6
      have ia : IsI a := ⟨al, au⟩
      have ib : IsI b := ⟨bl, bu⟩
      have ic : IsI c := ⟨cl, cu⟩
      have id' : IsI d := ⟨dl, du⟩
      have ie : IsI e := ⟨el, eu⟩
      have iff' : IsI f := ⟨fl, fu⟩
      simp only [R0, R1, R2, ia, ib, ic, id', ie, iff', if_true, if_false, true_and, and_true, false_and, and_false, true_or, or_true, false_or, or_false, true_iff, iff_true, false_iff, iff_false, not_true_eq_false, not_false_eq_true, true_implies, false_implies, implies_true, forall_const, decide_true, decide_false, reduceCtorEq]
      have hb : 0 < b := by have := R0.1; omega
      have hd : 0 < d := by have := R1.1; omega
      have hf : 0 < f := by have := R2.1; omega
      have C1 := cmp_back (a * d) (c * b)
      have C2 := cmp_lead (a := a) (c := c) (e := e) hb hd hf
      have C3 := cmp_rng (a * d) (c * b)
      have C4 := cmp_same hb hd R0 R1
      have W : IntKind.i64.wrap (0 - -cmpZ (a * d) (c * b)) = cmpZ (a * d) (c * b) := by
        rw [show 0 - -cmpZ (a * d) (c * b) = cmpZ (a * d) (c * b) by omega]
        exact w64 (by omega) (by omega)
      have T : Cmp.eq.den (cmpZ (a * d) (c * b)) 0 = (Cmp.eq.den a c && Cmp.eq.den b d) := by
        rw [ceq_and]
        simp only [Cmp.den]
        exact decide_eq_decide.2 C4
      have C5 := cmp_sums (a := a) (c := c) (e := e) hb hd hf
      have RX := rt_right (N := a * f + e * b) (Int.mul_pos hb hf)
      have RY := rt_right (N := c * f + e * d) (Int.mul_pos hd hf)
      have i0 : IsI 0 := by decide
      simp only [Int.mul_comm d b, Int.mul_comm f b, Int.mul_comm f d, C1]
      by_cases k1 : rtOK (a * f + e * b) (b * f) <;> by_cases k2 : rtOK (c * f + e * d) (d * f)
      all_goals
        simp only [k1, k2, if_true, if_false, true_and, and_true, false_and, and_false, true_or, or_true, false_or, or_false, true_iff, iff_true, false_iff, iff_false, not_true_eq_false, not_false_eq_true, true_implies, false_implies, implies_true, forall_const, decide_true, decide_false, reduceCtorEq]
        intro x hx _ _ x1 hx1 _ _ x2 hx2 _ _ x3 hx3 _ _ x4 hx4 _ _ x5 hx5 _ _ x6 hx6 _ _ x7 hx7 _ _
        subst hx hx1 hx2 hx3 hx4 hx5 hx6 hx7
        simp only [W, T, eq_self, forall_eq, if_true, if_false, true_and, and_true, false_and, and_false, true_or, or_true, false_or, or_false, true_iff, iff_true, false_iff, iff_false, not_true_eq_false, not_false_eq_true, true_implies, false_implies, implies_true, forall_const, decide_true, decide_false, reduceCtorEq]
        first
          | (simp only [RX, RY, k1.1, k1.2, k2.1, k2.2, C5, if_true, if_false, true_and, and_true, false_and, and_false, true_or, or_true, false_or, or_false, true_iff, iff_true, false_iff, iff_false, not_true_eq_false, not_false_eq_true, true_implies, false_implies, implies_true, forall_const, decide_true, decide_false, reduceCtorEq])
          | skip
        clear W T C5 RX RY R0 R1 R2 C4 C1 k1 k2
        generalize cmpZ (a * d) (c * b) = p at *
        generalize cmpZ (c * f) (e * d) = q at *
        generalize cmpZ (a * f) (e * b) = r at *
        (repeat' (first | intro _ | refine And.intro ?_ ?_ | exact trivial)) <;> omega
end Go.Proofs.Ytlhmhcjpdpakkaa.X
