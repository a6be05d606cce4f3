/-
  The contracts of the reference's divisors (datumref02.Gcd, Lowest), for every input in range.
-/
import Derived.Test.YtlhmhcjpdpakkaaSxGcdNum
import Derived.Test.YtlhmhcjpdpakkaaSxRefDiv
namespace Go.Proofs.Ytlhmhcjpdpakkaa.X
open Go Go.SX Go.RowKit
set_option linter.unusedVariables false
set_option linter.unusedSimpArgs false

/-- what has been done so far leaves what divides both as it was -/
def rgI (g : Int) : List Cv → Prop := fun l => match l with
  | [.i x1, .i x0, .i y1, .i y0] => gcdZ (val x1 x0) (val y1 y0) = g
  | _ => False
def rgM : List Cv → Nat := fun l => match l with | [.i _, .i _, .i y1, .i y0] => (val y1 y0).toNat | _ => 0
def rgcd_sp : SpecSh := { args := [(.agg [(.int .u64 (.z 0)), (.int .u64 (.z 0))]), (.agg [(.int .u64 (.z 0)), (.int .u64 (.z 0))])], res := (.agg [(.int .u64 (.z 0)), (.int .u64 (.z 0))]), sh := [.i (some (0, 18446744073709551615)), .i (some (0, 18446744073709551615))] }
set_option maxRecDepth 100000 in
def rgcd_tree : Tree :=
.loop [.i (some (0, 18446744073709551615)), .i (some (0, 18446744073709551615)), .i (some (0, 18446744073709551615)), .i (some (0, 18446744073709551615))] [.i (.v 0), .i (.v 1), .i (.v 2), .i (.v 3)] <|
.ite (.not (.and (.cmp .eq (.v 6) (.z 0)) (.cmp .eq (.v 7) (.z 0)))) (.call 157 [.i (some (0, 18446744073709551615)), .i (some (0, 18446744073709551615)), .i (some (0, 18446744073709551615)), .i (some (0, 18446744073709551615))] [.i (.v 4), .i (.v 5), .i (.v 6), .i (.v 7)] <|
.again 0 [.i (.v 6), .i (.v 7), .i (.v 10), .i (.v 11)]) <|
.ret (.agg [(.int .u64 (.v 4)), (.int .u64 (.v 5))])
noncomputable def rgcd_cx : Ctx := { tys := tys, fns := fns, sps := [(157, rdiv_sp)], anns := [((103, 2), { slots := [], cells := [(0, 0), (0, 1), (1, 0), (1, 1)], ivs := [some (0, 18446744073709551615), some (0, 18446744073709551615), some (0, 18446744073709551615), some (0, 18446744073709551615)] })], trys := [] }
def rgcd_ivs : List (Option (Int × Int)) := [some (0, 18446744073709551615), some (0, 18446744073709551615), some (0, 18446744073709551615), some (0, 18446744073709551615)]
set_option maxRecDepth 100000 in
theorem rgcd_walk : runFn rgcd_cx 3000 103 Try.f103 rgcd_sp.args rgcd_ivs = rgcd_tree := by kernel_rfl
noncomputable def rgcd_M : Nat → SpecSem
  | 157 => rdiv_sem
  | _ => noSem
theorem rgcd_M157 : rgcd_M 157 = rdiv_sem := rfl
theorem rgcd_cxok : CxOK Try.prog rgcd_cx rgcd_M := ⟨tysOK, fnsOK, spCons rdiv_ok <| fun _ _ h => spNil h, mixedOK, fun _ _ h => trNil h⟩

def rgcd_sem : SpecSem := ggcd_sem
theorem rgcd_ok : SpecOK Try.prog 103 rgcd_sp rgcd_sem := by
  refine spec_of_tree rgcd_cxok Try.func103 (by kernel_rfl) (by kernel_rfl) rgcd_walk rfl ?_
  intro cs hpre
  match cs, hpre with
  | [.i a, .i b, .i c, .i d], ⟨⟨h1, h2⟩, ⟨h3, h4⟩, ⟨h5, h6⟩, ⟨h7, h8⟩⟩ =>
    have hab : 0 ≤ val a b ∧ val a b < 340282366920938463463374607431768211456 := by unfold val; omega
    have hcd : 0 ≤ val c d ∧ val c d < 340282366920938463463374607431768211456 := by unfold val; omega
    have hg := gcdZ_rng hab hcd
    refine ⟨rfl, IvsB.ok (by simp only [rgcd_ivs, IvsB, Cv.int, and_true]; omega), ?_, ?_⟩
    · simp only [rgcd_sem, ggcd_sem, rgcd_sp, Fits, and_true]; omega
    · simp only [rgcd_sem, ggcd_sem, rgcd_sp, IsU, divQ, divR, rgcd_tree, rgcd_M157, rdiv_sem, Tree.den, LE.den, Cv.list, placeA, List.getElem?_cons_zero, List.getElem?_cons_succ, IE.den, BE.den, At.den, CA.den, Env.get, Cv.int, Cv.bool, List.cons_append, List.nil_append, List.map_cons, List.map_nil, bindRes, bindEq, Fits, SV.den, denL, place, placeL, eq_t, eq_f, lt_t, lt_f, le_t, le_f, beq_iff_eq, beq_eq_false_iff_ne, ne_eq, reduceCtorEq, b_dec, decide_eq_true_eq, decide_eq_false_iff_not, Bool.not_eq_false', Bool.or_eq_true, Bool.or_eq_false_iff, Bool.and_eq_false_iff, true_iff, false_iff, Bool.false_eq_true, Bool.not_eq_true', Bool.and_eq_true, Bool.not_true, Bool.not_false, List.cons.injEq, Cv.i.injEq, Cv.b.injEq, and_true, true_and, agg_inj, tup_inj, Value.int.injEq, Value.bool.injEq]
      refine ⟨rgI (gcdZ (val a b) (val c d)), rgM, by omega, rfl, ?_⟩
      intro x1 _ _ x0 _ _ y1 _ _ y0 _ _ hI
      simp only [rgI] at hI
      have hx : 0 ≤ val x1 x0 := by unfold val; omega
      have hy : 0 ≤ val y1 y0 := by unfold val; omega
      refine ⟨fun hy0 => ?_, fun hy0 => ?_⟩
      · have hyp : 1 ≤ val y1 y0 := by unfold val; omega
        refine ⟨by omega, ?_⟩
        intro q1 hq1 _ _ q0 hq0 _ _ r1 hr1 _ _ r0 hr0 _ _
        rw [if_neg (by omega)] at hr1 hr0
        have hm0 := Int.emod_nonneg (val x1 x0) (b := val y1 y0) (by omega)
        have hm1 := Int.emod_lt_of_pos (val x1 x0) (b := val y1 y0) (by omega)
        have hyl : val y1 y0 < 340282366920938463463374607431768211456 := by unfold val; omega
        have hr := val_split _ ⟨hm0, by omega⟩ r1 r0 hr1 hr0
        refine ⟨by omega, ?_, ?_⟩
        · simp only [rgI]
          rw [hr, gcdZ_step hx (by omega), hI]
        · simp only [rgM]
          rw [hr]; omega
      · have hz : val y1 y0 = 0 := by unfold val; omega
        rw [hz, gcdZ_zero hx] at hI
        rw [← hI]
        unfold val; omega
def rlow_sp : SpecSh := { args := [(.agg [(.int .u64 (.z 0)), (.int .u64 (.z 0))]), (.agg [(.int .u64 (.z 0)), (.int .u64 (.z 0))])], res := (.tup [(.agg [(.int .u64 (.z 0)), (.int .u64 (.z 0))]), (.agg [(.int .u64 (.z 0)), (.int .u64 (.z 0))])]), sh := [.i (some (0, 18446744073709551615)), .i (some (0, 18446744073709551615)), .i (some (0, 18446744073709551615)), .i (some (0, 18446744073709551615))] }
set_option maxRecDepth 100000 in
def rlow_tree : Tree :=
.call 103 [.i (some (0, 18446744073709551615)), .i (some (0, 18446744073709551615))] [.i (.v 0), .i (.v 1), .i (.v 2), .i (.v 3)] <|
.call 157 [.i (some (0, 18446744073709551615)), .i (some (0, 18446744073709551615)), .i (some (0, 18446744073709551615)), .i (some (0, 18446744073709551615))] [.i (.v 0), .i (.v 1), .i (.v 4), .i (.v 5)] <|
.call 157 [.i (some (0, 18446744073709551615)), .i (some (0, 18446744073709551615)), .i (some (0, 18446744073709551615)), .i (some (0, 18446744073709551615))] [.i (.v 2), .i (.v 3), .i (.v 4), .i (.v 5)] <|
.ret (.tup [(.agg [(.int .u64 (.v 6)), (.int .u64 (.v 7))]), (.agg [(.int .u64 (.v 10)), (.int .u64 (.v 11))])])
noncomputable def rlow_cx : Ctx := { tys := tys, fns := fns, sps := [(103, rgcd_sp), (157, rdiv_sp)], anns := [], trys := [] }
def rlow_ivs : List (Option (Int × Int)) := [some (0, 18446744073709551615), some (0, 18446744073709551615), some (0, 18446744073709551615), some (0, 18446744073709551615)]
set_option maxRecDepth 100000 in
theorem rlow_walk : runFn rlow_cx 3000 158 Try.f158 rlow_sp.args rlow_ivs = rlow_tree := by kernel_rfl
noncomputable def rlow_M : Nat → SpecSem
  | 103 => rgcd_sem
  | 157 => rdiv_sem
  | _ => noSem
theorem rlow_M103 : rlow_M 103 = rgcd_sem := rfl
theorem rlow_M157 : rlow_M 157 = rdiv_sem := rfl
theorem rlow_cxok : CxOK Try.prog rlow_cx rlow_M := ⟨tysOK, fnsOK, spCons rgcd_ok <| spCons rdiv_ok <| fun _ _ h => spNil h, mixedOK, fun _ _ h => trNil h⟩

def rlow_sem : SpecSem := { pre := fun cs => match cs with | [.i a, .i b, .i c, .i d] => IsU a ∧ IsU b ∧ IsU c ∧ IsU d ∧ 1 ≤ val c d | _ => False, out := fun cs => match cs with | [.i a, .i b, .i c, .i d] => [.i (lowX (val a b) (val c d) / 18446744073709551616), .i (lowX (val a b) (val c d) % 18446744073709551616), .i (lowY (val a b) (val c d) / 18446744073709551616), .i (lowY (val a b) (val c d) % 18446744073709551616)] | _ => [] }
theorem rlow_ok : SpecOK Try.prog 158 rlow_sp rlow_sem := by
  refine spec_of_tree rlow_cxok Try.func158 (by kernel_rfl) (by kernel_rfl) rlow_walk rfl ?_
  intro cs hpre
  match cs, hpre with
  | [.i a, .i b, .i c, .i d], ⟨⟨h1, h2⟩, ⟨h3, h4⟩, ⟨h5, h6⟩, ⟨h7, h8⟩, hz⟩ =>
    have hab : 0 ≤ val a b ∧ val a b < 340282366920938463463374607431768211456 := by unfold val; omega
    have hcd : 0 ≤ val c d ∧ val c d < 340282366920938463463374607431768211456 := by unfold val; omega
    obtain ⟨⟨l1, l2⟩, ⟨l3, l4⟩⟩ := low_rng hab hcd
    have hg := gcdZ_rng hab hcd
    refine ⟨rfl, IvsB.ok (by simp only [rlow_ivs, IvsB, Cv.int, and_true]; omega), ?_, ?_⟩
    · simp only [rlow_sem, rlow_sp, Fits, and_true]; omega
    · simp only [rlow_sem, rgcd_sem, ggcd_sem, rlow_sp, IsU, divQ, divR, rlow_tree, rlow_M103, rgcd_sem, rlow_M157, rdiv_sem, Tree.den, LE.den, Cv.list, placeA, List.getElem?_cons_zero, List.getElem?_cons_succ, IE.den, BE.den, At.den, CA.den, Env.get, Cv.int, Cv.bool, List.cons_append, List.nil_append, List.map_cons, List.map_nil, bindRes, bindEq, Fits, SV.den, denL, place, placeL, eq_t, eq_f, lt_t, lt_f, le_t, le_f, beq_iff_eq, beq_eq_false_iff_ne, ne_eq, reduceCtorEq, b_dec, decide_eq_true_eq, decide_eq_false_iff_not, Bool.not_eq_false', Bool.or_eq_true, Bool.or_eq_false_iff, Bool.and_eq_false_iff, true_iff, false_iff, Bool.false_eq_true, Bool.not_eq_true', Bool.and_eq_true, Bool.not_true, Bool.not_false, List.cons.injEq, Cv.i.injEq, Cv.b.injEq, and_true, true_and, agg_inj, tup_inj, Value.int.injEq, Value.bool.injEq]
      refine ⟨by omega, ?_⟩
      have hz' : val c d ≠ 0 := by omega
      have hg0 : gcdZ (val a b) (val c d) ≠ 0 := fun h => hz' ((gcdZ_eq_zero hab.1 hcd.1).1 h).2
      intro g1 hg1 _ _ g0 hgg0 _ _
      have hv := val_split _ hg g1 g0 hg1 hgg0
      unfold lowX lowY
      simp only [hz', hv, hg0, if_false, if_true, if_false, true_and, and_true, false_and, and_false, true_or, or_true, false_or, or_false, true_iff, iff_true, false_iff, iff_false, not_true_eq_false, not_false_eq_true, true_implies, false_implies, implies_true, forall_const, decide_true, decide_false, reduceCtorEq]
      (repeat' (first | intro _ | refine And.intro ?_ ?_ | exact trivial)) <;> omega
end Go.Proofs.Ytlhmhcjpdpakkaa.X
