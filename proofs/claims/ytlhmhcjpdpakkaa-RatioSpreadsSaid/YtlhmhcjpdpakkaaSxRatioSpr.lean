/-
  RatioSpreads tells true, for every input.
-/
import Derived.Test.YtlhmhcjpdpakkaaSxRatioNum2
namespace Go.Proofs.Ytlhmhcjpdpakkaa.X
open Go Go.SX Go.RowKit
set_option linter.unusedVariables false
set_option linter.unusedSimpArgs false





def lrspr_sp : SpecSh := { args := [(.agg [(.int .i64 (.z 0)), (.int .i64 (.z 0)), (.int .i64 (.z 0)), (.int .i64 (.z 0)), (.int .i64 (.z 0)), (.int .i64 (.z 0))])], res := (.bool .f), sh := [.b] }
set_option maxRecDepth 100000 in
def lrspr_tree : Tree :=
.lett (.ite (.cmp .eq (.v 1) (.z 0)) (.z 1) (.v 1)) <|
.call 38 [.i (some ((-9223372036854775808), 9223372036854775807)), .i (some ((-9223372036854775808), 9223372036854775807)), .i (some ((-9223372036854775808), 9223372036854775807))] [.i (.v 0), .i (.v 6)] <|
.ite (.not (.cmp .eq (.v 9) (.z 0))) (.call 41 [.b] [] <|
.ret (.bool (.v 10))) <|
.lett (.ite (.cmp .eq (.v 3) (.z 0)) (.z 1) (.v 3)) <|
.call 38 [.i (some ((-9223372036854775808), 9223372036854775807)), .i (some ((-9223372036854775808), 9223372036854775807)), .i (some ((-9223372036854775808), 9223372036854775807))] [.i (.v 2), .i (.v 10)] <|
.ite (.not (.cmp .eq (.v 13) (.z 0))) (.call 41 [.b] [] <|
.ret (.bool (.v 14))) <|
.lett (.ite (.cmp .eq (.v 5) (.z 0)) (.z 1) (.v 5)) <|
.call 38 [.i (some ((-9223372036854775808), 9223372036854775807)), .i (some ((-9223372036854775808), 9223372036854775807)), .i (some ((-9223372036854775808), 9223372036854775807))] [.i (.v 4), .i (.v 14)] <|
.ite (.not (.cmp .eq (.v 17) (.z 0))) (.call 41 [.b] [] <|
.ret (.bool (.v 18))) <|
.call 44 [.i (some ((-9223372036854775808), 9223372036854775807)), .i (some ((-9223372036854775808), 9223372036854775807)), .i (some ((-9223372036854775808), 9223372036854775807))] [.i (.v 7), .i (.v 8), .i (.v 11), .i (.v 12)] <|
.call 44 [.i (some ((-9223372036854775808), 9223372036854775807)), .i (some ((-9223372036854775808), 9223372036854775807)), .i (some ((-9223372036854775808), 9223372036854775807))] [.i (.v 11), .i (.v 12), .i (.v 7), .i (.v 8)] <|
.call 45 [.i (some ((-9223372036854775808), 9223372036854775807)), .i (some ((-9223372036854775808), 9223372036854775807)), .i (some ((-9223372036854775808), 9223372036854775807))] [.i (.v 7), .i (.v 8), .i (.v 11), .i (.v 12)] <|
.call 45 [.i (some ((-9223372036854775808), 9223372036854775807)), .i (some ((-9223372036854775808), 9223372036854775807)), .i (some ((-9223372036854775808), 9223372036854775807))] [.i (.v 11), .i (.v 12), .i (.v 7), .i (.v 8)] <|
.ite (.not (.and (.cmp .eq (.v 18) (.v 21)) (.cmp .eq (.v 19) (.v 22)))) (.ret (.bool .f)) <|
.ite (.not (.cmp .eq (.v 20) (.v 23))) (.ret (.bool .f)) <|
.ite (.not (.and (.cmp .eq (.v 24) (.v 27)) (.cmp .eq (.v 25) (.v 28)))) (.ret (.bool .f)) <|
.ite (.not (.cmp .eq (.v 26) (.v 29))) (.ret (.bool .f)) <|
.call 41 [.b] [] <|
.ite (.not (.v 30)) (.ret (.bool .f)) <|
.call 45 [.i (some ((-9223372036854775808), 9223372036854775807)), .i (some ((-9223372036854775808), 9223372036854775807)), .i (some ((-9223372036854775808), 9223372036854775807))] [.i (.v 15), .i (.v 16), .i (.v 18), .i (.v 19)] <|
.call 45 [.i (some ((-9223372036854775808), 9223372036854775807)), .i (some ((-9223372036854775808), 9223372036854775807)), .i (some ((-9223372036854775808), 9223372036854775807))] [.i (.v 15), .i (.v 16), .i (.v 7), .i (.v 8)] <|
.call 45 [.i (some ((-9223372036854775808), 9223372036854775807)), .i (some ((-9223372036854775808), 9223372036854775807)), .i (some ((-9223372036854775808), 9223372036854775807))] [.i (.v 15), .i (.v 16), .i (.v 11), .i (.v 12)] <|
.call 44 [.i (some ((-9223372036854775808), 9223372036854775807)), .i (some ((-9223372036854775808), 9223372036854775807)), .i (some ((-9223372036854775808), 9223372036854775807))] [.i (.v 34), .i (.v 35), .i (.v 37), .i (.v 38)] <|
.ite (.not (.cmp .eq (.v 20) (.z 0))) (.ret (.bool .t)) <|
.ite (.not (.cmp .eq (.v 33) (.z 0))) (.ret (.bool .t)) <|
.ite (.not (.cmp .eq (.v 36) (.z 0))) (.ret (.bool .t)) <|
.ite (.not (.cmp .eq (.v 39) (.z 0))) (.ret (.bool .t)) <|
.ite (.cmp .eq (.v 42) (.z 0)) (.ret (.bool (.and (.cmp .eq (.v 40) (.v 31)) (.cmp .eq (.v 41) (.v 32))))) <|
.ret (.bool .f)
noncomputable def lrspr_cx : Ctx := { tys := tys, fns := fns, sps := [(38, qnew_sp), (44, qadd_sp), (45, qmul_sp), (41, qal_sp)], anns := [], trys := [] }
def lrspr_ivs : List (Option (Int × Int)) := [some ((-9223372036854775808), 9223372036854775807), some ((-9223372036854775808), 9223372036854775807), some ((-9223372036854775808), 9223372036854775807), some ((-9223372036854775808), 9223372036854775807), some ((-9223372036854775808), 9223372036854775807), some ((-9223372036854775808), 9223372036854775807)]
set_option maxRecDepth 100000 in
theorem lrspr_walk : runFn lrspr_cx 3000 6 Try.f6 lrspr_sp.args lrspr_ivs = lrspr_tree := by kernel_rfl
noncomputable def lrspr_M : Nat → SpecSem
  | 38 => qnew_sem
  | 44 => qadd_sem
  | 45 => qmul_sem
  | 41 => qal_sem
  | _ => noSem
theorem lrspr_M38 : lrspr_M 38 = qnew_sem := rfl
theorem lrspr_M44 : lrspr_M 44 = qadd_sem := rfl
theorem lrspr_M45 : lrspr_M 45 = qmul_sem := rfl
theorem lrspr_M41 : lrspr_M 41 = qal_sem := rfl
theorem lrspr_cxok : CxOK Try.prog lrspr_cx lrspr_M := ⟨tysOK, fnsOK, spCons qnew_ok <| spCons qadd_ok <| spCons qmul_ok <| spCons qal_ok <| fun _ _ h => spNil h, mixedOK, fun _ _ h => trNil h⟩

def lrspr_sem : SpecSem := { pre := fun cs => match cs with | [.i n0, .i d0, .i n1, .i d1, .i n2, .i d2] => IsI n0 ∧ IsI d0 ∧ IsI n1 ∧ IsI d1 ∧ IsI n2 ∧ IsI d2 | _ => False, out := fun cs => match cs with | [.i n0, .i d0, .i n1, .i d1, .i n2, .i d2] => [.b true] | _ => [] }
theorem lrspr_ok : SpecOK Try.prog 6 lrspr_sp lrspr_sem := by
  refine spec_of_tree lrspr_cxok Try.func6 (by kernel_rfl) (by kernel_rfl) lrspr_walk rfl ?_
  intro cs hpre
  match cs, hpre with
  | [.i n0, .i d0, .i n1, .i d1, .i n2, .i d2], ⟨h1, h2, h3, h4, h5, h6⟩ =>
    have g1 : IsI n0 := h1
    have g2 : IsI d0 := h2
    have g3 : IsI n1 := h3
    have g4 : IsI d1 := h4
    have g5 : IsI n2 := h5
    have g6 : IsI d2 := h6
    unfold IsI at h1 h2 h3 h4 h5 h6
    refine ⟨rfl, IvsB.ok (by simp only [lrspr_ivs, IvsB, Cv.int, and_true]; omega), ?_, ?_⟩
    · simp only [lrspr_sem, lrspr_sp, Fits]
    · simp only [lrspr_sem, qnew_sem, qcmp_sem, qadd_sem, qmul_sem, qal_sem, rtG, eq_beq, eq_eq, lrspr_sp, lrspr_tree, lrspr_M38, qnew_sem, lrspr_M44, qadd_sem, lrspr_M45, qmul_sem, lrspr_M41, qal_sem, Tree.den, List.getElem?_cons_zero, List.getElem?_cons_succ, IE.den, BE.den, At.den, CA.den, Env.get, Cv.int, Cv.bool, List.cons_append, List.nil_append, List.map_cons, List.map_nil, bindRes, bindEq, Fits, SV.den, denL, place, placeL, eq_t, eq_f, lt_t, lt_f, le_t, le_f, beq_iff_eq, beq_eq_false_iff_ne, ne_eq, reduceCtorEq, b_dec, decide_eq_true_eq, decide_eq_false_iff_not, Bool.not_eq_false', Bool.or_eq_true, Bool.or_eq_false_iff, Bool.and_eq_false_iff, true_iff, false_iff, Bool.false_eq_true, Bool.not_eq_true', Bool.and_eq_true, Bool.not_true, Bool.not_false, List.cons.injEq, Cv.i.injEq, Cv.b.injEq, and_true, true_and, agg_inj, tup_inj, Value.int.injEq, Value.bool.injEq]
      have i1 : IsI 1 := by decide
      simp only [g1, g2, g3, g4, g5, g6, i1, if_true, if_false, true_and, and_true, false_and, and_false, true_or, or_true, false_or, or_false, true_iff, iff_true, false_iff, iff_false, not_true_eq_false, not_false_eq_true, true_implies, false_implies, implies_true, forall_const, decide_true, decide_false, reduceCtorEq]
      have nz : ∀ d : Int, (if d = 0 then 1 else d) ≠ 0 := fun d => by split <;> omega
      intro e0 he0
      have z0 : e0 ≠ 0 := by rw [he0]; exact nz _
      refine ⟨by rw [he0]; split <;> assumption, ?_⟩
      intro a ha al au b hb bl bu c0 hc0 _ _ k0 e1 he1
      have R0 : rtR a b := new_right z0 ha hb hc0 k0
      have z1 : e1 ≠ 0 := by rw [he1]; exact nz _
      refine ⟨by rw [he1]; split <;> assumption, ?_⟩
      intro c hc cl cu d hd dl du c1 hc1 _ _ k1 e2 he2
      have R1 : rtR c d := new_right z1 hc hd hc1 k1
      have z2 : e2 ≠ 0 := by rw [he2]; exact nz _
      refine ⟨by rw [he2]; split <;> assumption, ?_⟩
      intro e he el eu f hf fl fu c2 hc2 _ _ k2
      have R2 : rtR e f := new_right z2 he hf hc2 k2
      clear he hf hc2 he2 z2 hc hd hc1 he1 z1 ha hb hc0 he0 z0 nz k0 k1 k2
      clear g1 g2 g3 g4 g5 g6 h1 h2 h3 h4 h5 h6
      have ia : IsI a := ⟨al, au⟩
      have ib : IsI b := ⟨bl, bu⟩
      have ic : IsI c := ⟨cl, cu⟩
      have id' : IsI d := ⟨dl, du⟩
      have ie : IsI e := ⟨el, eu⟩
      have iff' : IsI f := ⟨fl, fu⟩
      simp only [R0, R1, R2, ia, ib, ic, id', ie, iff', if_true, if_false, true_and, and_true, false_and, and_false, true_or, or_true, false_or, or_false, true_iff, iff_true, false_iff, iff_false, not_true_eq_false, not_false_eq_true, true_implies, false_implies, implies_true, forall_const, decide_true, decide_false, reduceCtorEq]
      have hb : 0 < b := by have := R0.1; omega
      have hd : 0 < d := by have := R1.1; omega
      have hf : 0 < f := by have := R2.1; omega
      simp only [Int.mul_comm d b, Int.add_comm (c * b) (a * d), Int.mul_comm c a]
      by_cases k1 : rtOK (a * d + c * b) (b * d)
      · have RN := rt_right (N := a * d + c * b) (Int.mul_pos hb hd)
        have iN1 := k1.1
        have iN2 := k1.2
        simp only [k1, if_true, if_false, true_and, and_true, false_and, and_false, true_or, or_true, false_or, or_false, true_iff, iff_true, false_iff, iff_false, not_true_eq_false, not_false_eq_true, true_implies, false_implies, implies_true, forall_const, decide_true, decide_false, reduceCtorEq]
        intro x hx _ _ y hy _ _ x2 hx2 _ _ x3 hx3 _ _ y3 hy3 _ _ x5 hx5 _ _ m hm _ _ m' hm' _ _ mo hmo _ _ n hn _ _ n' hn' _ _ no hno _ _
        subst hx hy hx2 hx3 hy3 hx5 hm hm' hmo hn hn' hno
        simp only [RN, iN1, iN2, if_true, if_false, true_and, and_true, false_and, and_false, true_or, or_true, false_or, or_false, true_iff, iff_true, false_iff, iff_false, not_true_eq_false, not_false_eq_true, true_implies, false_implies, implies_true, forall_const, decide_true, decide_false, reduceCtorEq]
        have SP := rt_spread (a := a) (c := c) (e := e) hb hd hf
        have SO : rtOK (rtN (e * a) (f * b) * rtD (e * c) (f * d) + rtN (e * c) (f * d) * rtD (e * a) (f * b)) (rtD (e * a) (f * b) * rtD (e * c) (f * d)) ↔ rtOK (e * rtN (a * d + c * b) (b * d)) (f * rtD (a * d + c * b) (b * d)) := by
          unfold rtOK; rw [SP.1, SP.2]
        have RP := rt_right (N := e * a) (Int.mul_pos hf hb)
        have RQ := rt_right (N := e * c) (Int.mul_pos hf hd)
        have i0 : IsI 0 := by decide
        by_cases k3 : rtOK (e * a) (f * b) <;> by_cases k4 : rtOK (e * c) (f * d) <;> by_cases k2 : rtOK (e * rtN (a * d + c * b) (b * d)) (f * rtD (a * d + c * b) (b * d))
        · simp only [k2, k3, k4, if_true, if_false, true_and, and_true, false_and, and_false, true_or, or_true, false_or, or_false, true_iff, iff_true, false_iff, iff_false, not_true_eq_false, not_false_eq_true, true_implies, false_implies, implies_true, forall_const, decide_true, decide_false, reduceCtorEq]
          intro x hx _ _ y hy _ _ x2 hx2 _ _ x3 hx3 _ _ x4 hx4 _ _ x5 hx5 _ _ x6 hx6 _ _ x7 hx7 _ _ x8 hx8 _ _
          subst hx hy hx2 hx3 hx4 hx5 hx6 hx7 hx8
          simp only [RP, RQ, SO, SP.1, SP.2, k2, k3.1, k3.2, k4.1, k4.2, if_true, if_false, true_and, and_true, false_and, and_false, true_or, or_true, false_or, or_false, true_iff, iff_true, false_iff, iff_false, not_true_eq_false, not_false_eq_true, true_implies, false_implies, implies_true, forall_const, decide_true, decide_false, reduceCtorEq]
          (repeat' (first | intro _ | refine And.intro ?_ ?_ | exact trivial)) <;> omega
        all_goals
          simp only [k2, k3, k4, if_true, if_false, true_and, and_true, false_and, and_false, true_or, or_true, false_or, or_false, true_iff, iff_true, false_iff, iff_false, not_true_eq_false, not_false_eq_true, true_implies, false_implies, implies_true, forall_const, decide_true, decide_false, reduceCtorEq]
          intro x hx _ _ y hy _ _ x2 hx2 _ _ x3 hx3 _ _ x4 hx4 _ _ x5 hx5 _ _ x6 hx6 _ _ x7 hx7 _ _ x8 hx8 _ _
          refine ⟨?_, ?_⟩
          · subst hx3 hx4 hx6 hx7
            first
              | exact ⟨k3.1, k3.2, k4.1, k4.2⟩
              | exact ⟨k3.1, k3.2, i0, i0⟩
              | exact ⟨i0, i0, k4.1, k4.2⟩
              | exact ⟨i0, i0, i0, i0⟩
          · intro x9 _ _ _ x10 _ _ _ x11 _ _ _ z1 z2 z3
            first
              | exact absurd (hx2.symm.trans z1) (by decide)
              | exact absurd (hx5.symm.trans z2) (by decide)
              | exact absurd (hx8.symm.trans z3) (by decide)
      · have n0 : ¬rtR 0 0 := fun h => by have := h.1; omega
        have i0 : IsI 0 := by decide
        simp only [k1, if_true, if_false, true_and, and_true, false_and, and_false, true_or, or_true, false_or, or_false, true_iff, iff_true, false_iff, iff_false, not_true_eq_false, not_false_eq_true, true_implies, false_implies, implies_true, forall_const, decide_true, decide_false, reduceCtorEq]
        intro x hx _ _ y hy _ _ x2 hx2 _ _ x3 hx3 _ _ y3 hy3 _ _ x5 hx5 _ _ m hm _ _ m' hm' _ _ mo hmo _ _ n hn _ _ n' hn' _ _ no hno _ _
        subst hx hy hx2 hx3 hy3 hx5 hm hm' hmo hn hn' hno
        simp only [n0, i0, if_true, if_false, true_and, and_true, false_and, and_false, true_or, or_true, false_or, or_false, true_iff, iff_true, false_iff, iff_false, not_true_eq_false, not_false_eq_true, true_implies, false_implies, implies_true, forall_const, decide_true, decide_false, reduceCtorEq]
        by_cases k3 : rtOK (e * a) (f * b) <;> by_cases k4 : rtOK (e * c) (f * d)
        all_goals
          simp only [k3, k4, if_true, if_false, true_and, and_true, false_and, and_false, true_or, or_true, false_or, or_false, true_iff, iff_true, false_iff, iff_false, not_true_eq_false, not_false_eq_true, true_implies, false_implies, implies_true, forall_const, decide_true, decide_false, reduceCtorEq]
          intro x hx _ _ y hy _ _ x2 hx2 _ _ x3 hx3 _ _ x4 hx4 _ _ x5 hx5 _ _ x6 hx6 _ _ x7 hx7 _ _ x8 hx8 _ _
          refine ⟨?_, ?_⟩
          · subst hx3 hx4 hx6 hx7
            first
              | exact ⟨k3.1, k3.2, k4.1, k4.2⟩
              | exact ⟨k3.1, k3.2, i0, i0⟩
              | exact ⟨i0, i0, k4.1, k4.2⟩
              | exact ⟨i0, i0, i0, i0⟩
          · intro x9 _ _ _ x10 _ _ _ x11 _ _ _ z1
            exact absurd z1 (by decide)
end Go.Proofs.Ytlhmhcjpdpakkaa.X
