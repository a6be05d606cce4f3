/-
  The contracts of the reference's roots (datumref03), for every input in range.
-/
import Derived.Test.YtgnihomdpandfaaSxRoot
import Derived.Test.YtgnihomdpandfaaSxRefTimes
import Derived.Test.YtgnihomdpandfaaSxDivide
namespace Go.Proofs.Ytgnihomdpandfaa.X
open Go Go.SX Go.RowKit
set_option linter.unusedVariables false
set_option linter.unusedSimpArgs false


/-- bit by bit, the highest first: what has been found so far -/
def rrI (v : Int) : List Cv → Prop := fun l => match l with
  | [.i i, .i r] => (-1 ≤ i ∧ i ≤ 63) ∧ (0 ≤ r ∧ r + p2 (i + 1) ≤ 18446744073709551616) ∧ r * r ≤ v ∧ v < (r + p2 (i + 1)) * (r + p2 (i + 1))
  | _ => False
def rrM : List Cv → Nat := fun l => match l with | [.i i, .i _] => (i + 1).toNat | _ => 0
theorem shl_one {i : Int} (h0 : 0 ≤ i) (h : i ≤ 63) : IntKind.u64.wrap (1 * 2 ^ min i.toNat (IntKind.u64).bits) = p2 i := by
  have h1 := p2_pos i
  have h2 : p2 i ≤ 9223372036854775808 := p2_le (m := 63) h0 h
  rw [Int.one_mul, p2_den h0 (by omega), wu64 (by omega) (by omega)]
def rroot_sp : SpecSh := { args := [(.agg [(.int .u64 (.z 0)), (.int .u64 (.z 0))])], res := (.int .u64 (.z 0)), sh := [.i (some (0, 18446744073709551615))] }
set_option maxRecDepth 100000 in
def rroot_tree : Tree :=
.loop [.i (some ((-1), 63)), .i (some (0, 18446744073709551615))] [.i (.z 63), .i (.z 0)] <|
.ite (.cmp .le (.z 0) (.v 2)) (.lett (.shl .u64 (.z 1) (.v 2)) <|
.lett (.addw .u64 (.v 3) (.v 4)) <|
.call 76 [.i (some (0, 18446744073709551615)), .i (some (0, 18446744073709551615)), .b] [.i (.z 0), .i (.v 5), .i (.z 0), .i (.v 5)] <|
.ite (.not (.cmp .eq (.v 0) (.v 6))) (.lett (.ite (.not (.cmp .lt (.v 0) (.v 6))) (.v 5) (.v 3)) <|
.lett (.sub (.v 2) (.z 1)) <|
.again 0 [.i (.v 10), .i (.v 9)]) <|
.lett (.ite (.not (.cmp .lt (.v 1) (.v 7))) (.v 5) (.v 3)) <|
.lett (.sub (.v 2) (.z 1)) <|
.again 0 [.i (.v 10), .i (.v 9)]) <|
.ret (.int .u64 (.v 3))
noncomputable def rroot_cx : Ctx := { tys := tys, fns := fns, sps := [(76, rtimes_sp)], anns := [((88, 3), { slots := [4, 3], cells := [], ivs := [some ((-1), 63), some (0, 18446744073709551615)] })], trys := [] }
def rroot_ivs : List (Option (Int × Int)) := [some (0, 18446744073709551615), some (0, 18446744073709551615)]
set_option maxRecDepth 100000 in
theorem rroot_walk : runFn rroot_cx 3000 88 Try.f88 rroot_sp.args rroot_ivs = rroot_tree := by kernel_rfl
noncomputable def rroot_M : Nat → SpecSem
  | 76 => rtimes_sem
  | _ => noSem
theorem rroot_M76 : rroot_M 76 = rtimes_sem := rfl
theorem rroot_cxok : CxOK Try.prog rroot_cx rroot_M := ⟨tysOK, fnsOK, spCons rtimes_ok <| fun _ _ h => spNil h, mixedOK, fun _ _ h => trNil h⟩

def rroot_sem : SpecSem := { pre := fun cs => match cs with | [.i a, .i b] => IsU a ∧ IsU b | _ => False, out := fun cs => match cs with | [.i a, .i b] => [.i (rootZ (val a b))] | _ => [] }
theorem rroot_ok : SpecOK Try.prog 88 rroot_sp rroot_sem := by
  refine spec_of_tree rroot_cxok Try.func88 (by kernel_rfl) (by kernel_rfl) rroot_walk rfl ?_
  intro cs hpre
  match cs, hpre with
  | [.i a, .i b], ⟨⟨h1, h2⟩, ⟨h3, h4⟩⟩ =>
    have hv : 0 ≤ val a b ∧ val a b < 340282366920938463463374607431768211456 := by unfold val; omega
    have r3 := rootZ_le hv.1 hv.2
    have r4 := rootZ_spec hv.1
    refine ⟨rfl, IvsB.ok (by simp only [rroot_ivs, IvsB, Cv.int, and_true]; omega), ?_, ?_⟩
    · simp only [rroot_sem, rroot_sp, Fits, and_true]; omega
    · simp only [rroot_sem, rroot_sp, IsU, rroot_tree, rroot_M76, rtimes_sem, Tree.den, LE.den, Cv.list, placeA, List.getElem?_cons_zero, List.getElem?_cons_succ, IE.den, BE.den, At.den, CA.den, Env.get, Cv.int, Cv.bool, List.cons_append, List.nil_append, List.map_cons, List.map_nil, bindRes, bindEq, Fits, SV.den, denL, place, placeL, eq_t, eq_f, lt_t, lt_f, le_t, le_f, beq_iff_eq, beq_eq_false_iff_ne, ne_eq, reduceCtorEq, b_dec, decide_eq_true_eq, decide_eq_false_iff_not, Bool.not_eq_false', Bool.or_eq_true, Bool.or_eq_false_iff, Bool.and_eq_false_iff, true_iff, false_iff, Bool.false_eq_true, Bool.not_eq_true', Bool.and_eq_true, Bool.not_true, Bool.not_false, List.cons.injEq, Cv.i.injEq, Cv.b.injEq, and_true, true_and, agg_inj, tup_inj, Value.int.injEq, Value.bool.injEq]
      refine ⟨rrI (val a b), rrM, by omega, ?_, ?_⟩
      · simp only [rrI]
        have e : p2 (63 + 1) = 18446744073709551616 := rfl
        rw [e]
        exact ⟨by omega, by omega, by omega, by omega⟩
      · intro i i1 i2 r r1 r2 hI
        simp only [rrI] at hI
        obtain ⟨_, ⟨i3, i4⟩, i5, i6⟩ := hI
        refine ⟨fun hi => ?_, fun hi => ?_⟩
        · intro s hs x hx
          rw [shl_one hi i2] at hs
          have hp := p2_pos i
          have hps := p2_succ hi
          rw [hps] at i4 i6
          have hxe : x = r + p2 i := by rw [hx, hs, wu64 (by omega) (by omega)]
          refine ⟨by omega, ?_⟩
          intro q1 hq1 q10 q11 q0 hq0 q00 q01
          have hv0 : val 0 x = x := by unfold val; omega
          rw [hv0] at hq1 hq0
          have hsq0 : 0 ≤ x * x := Int.mul_nonneg (by omega) (by omega)
          have hsq1 : x * x ≤ 18446744073709551615 * 18446744073709551615 := Int.mul_le_mul (by omega) (by omega) (by omega) (by omega)
          have hq : q1 * 18446744073709551616 + q0 = x * x := by omega
          have hab : val a b = a * 18446744073709551616 + b := rfl
          have key : ∀ z j : Int, j = i - 1 → ((x * x ≤ val a b ∧ z = x) ∨ (val a b < x * x ∧ z = r)) → (-1 ≤ j ∧ j ≤ 63 ∧ 0 ≤ z ∧ z ≤ 18446744073709551615) ∧ rrI (val a b) [.i j, .i z] ∧ rrM [.i j, .i z] < rrM [.i i, .i r] := by
            intro z j hj hz
            subst hj
            simp only [rrI, rrM]
            rw [show i - 1 + 1 = i by omega]
            rcases hz with ⟨hz, rfl⟩ | ⟨hz, rfl⟩
            · refine ⟨by omega, ⟨by omega, by omega, hz, ?_⟩, by omega⟩
              rw [hxe, show r + p2 i + p2 i = r + 2 * p2 i by omega]; exact i6
            · refine ⟨by omega, ⟨by omega, by omega, i5, ?_⟩, by omega⟩
              rw [← hxe]; exact hz
          refine ⟨fun hne z hz j hj => key z j hj ?_, fun he z hz j hj => key z j hj ?_⟩
          · split at hz
            · left; omega
            · right; omega
          · split at hz
            · left; omega
            · right; omega
        · have : i = -1 := by omega
          subst this
          have e : p2 (-1 + 1) = 1 := rfl
          rw [e] at i6
          exact (rootZ_uniq i3 i5 i6).symm
def rsquare_sp : SpecSh := { args := [(.agg [(.int .u64 (.z 0)), (.int .u64 (.z 0))])], res := (.bool .f), sh := [.b] }
set_option maxRecDepth 100000 in
def rsquare_tree : Tree :=
.call 88 [.i (some (0, 18446744073709551615))] [.i (.v 0), .i (.v 1)] <|
.call 76 [.i (some (0, 18446744073709551615)), .i (some (0, 18446744073709551615)), .b] [.i (.z 0), .i (.v 2), .i (.z 0), .i (.v 2)] <|
.ret (.bool (.and (.cmp .eq (.v 3) (.v 0)) (.cmp .eq (.v 4) (.v 1))))
noncomputable def rsquare_cx : Ctx := { tys := tys, fns := fns, sps := [(88, rroot_sp), (76, rtimes_sp)], anns := [], trys := [] }
def rsquare_ivs : List (Option (Int × Int)) := [some (0, 18446744073709551615), some (0, 18446744073709551615)]
set_option maxRecDepth 100000 in
theorem rsquare_walk : runFn rsquare_cx 3000 100 Try.f100 rsquare_sp.args rsquare_ivs = rsquare_tree := by kernel_rfl
noncomputable def rsquare_M : Nat → SpecSem
  | 88 => rroot_sem
  | 76 => rtimes_sem
  | _ => noSem
theorem rsquare_M88 : rsquare_M 88 = rroot_sem := rfl
theorem rsquare_M76 : rsquare_M 76 = rtimes_sem := rfl
theorem rsquare_cxok : CxOK Try.prog rsquare_cx rsquare_M := ⟨tysOK, fnsOK, spCons rroot_ok <| spCons rtimes_ok <| fun _ _ h => spNil h, mixedOK, fun _ _ h => trNil h⟩

def rsquare_sem : SpecSem := { pre := fun cs => match cs with | [.i a, .i b] => IsU a ∧ IsU b | _ => False, out := fun cs => match cs with | [.i a, .i b] => [.b (decide (rootZ (val a b) * rootZ (val a b) = val a b))] | _ => [] }
theorem rsquare_ok : SpecOK Try.prog 100 rsquare_sp rsquare_sem := by
  refine spec_of_tree rsquare_cxok Try.func100 (by kernel_rfl) (by kernel_rfl) rsquare_walk rfl ?_
  intro cs hpre
  match cs, hpre with
  | [.i a, .i b], ⟨⟨h1, h2⟩, ⟨h3, h4⟩⟩ =>
    have hv : 0 ≤ val a b ∧ val a b < 340282366920938463463374607431768211456 := by unfold val; omega
    have r3 := rootZ_le hv.1 hv.2
    have r4 := rootZ_spec hv.1
    refine ⟨rfl, IvsB.ok (by simp only [rsquare_ivs, IvsB, Cv.int, and_true]; omega), ?_, ?_⟩
    · simp only [rsquare_sem, rsquare_sp, Fits]
    · simp only [rsquare_sem, rsquare_sp, IsU, rsquare_tree, rsquare_M88, rroot_sem, rsquare_M76, rtimes_sem, Tree.den, LE.den, Cv.list, placeA, List.getElem?_cons_zero, List.getElem?_cons_succ, IE.den, BE.den, At.den, CA.den, Env.get, Cv.int, Cv.bool, List.cons_append, List.nil_append, List.map_cons, List.map_nil, bindRes, bindEq, Fits, SV.den, denL, place, placeL, eq_t, eq_f, lt_t, lt_f, le_t, le_f, beq_iff_eq, beq_eq_false_iff_ne, ne_eq, reduceCtorEq, b_dec, decide_eq_true_eq, decide_eq_false_iff_not, Bool.not_eq_false', Bool.or_eq_true, Bool.or_eq_false_iff, Bool.and_eq_false_iff, true_iff, false_iff, Bool.false_eq_true, Bool.not_eq_true', Bool.and_eq_true, Bool.not_true, Bool.not_false, List.cons.injEq, Cv.i.injEq, Cv.b.injEq, and_true, true_and, agg_inj, tup_inj, Value.int.injEq, Value.bool.injEq]
      refine ⟨by omega, fun s hs _ _ => ⟨by omega, ?_⟩⟩
      subst hs
      intro ph hph _ _ pl hpl _ _
      have hv0 : val 0 (rootZ (val a b)) = rootZ (val a b) := by unfold val; omega
      rw [hv0] at hph hpl
      have hab : val a b = a * 18446744073709551616 + b := rfl
      obtain ⟨r5, r6, r7⟩ := r4
      have hP := Int.mul_nonneg r5 r5
      generalize rootZ (val a b) * rootZ (val a b) = P at *
      clear r7
      unfold val at *
      (repeat' (first | intro _ | refine And.intro ?_ ?_ | exact trivial)) <;> omega
def rup_sp : SpecSh := { args := [(.agg [(.int .u64 (.z 0)), (.int .u64 (.z 0))])], res := (.agg [(.int .u64 (.z 0)), (.int .u64 (.z 0))]), sh := [.i (some (0, 18446744073709551615)), .i (some (0, 18446744073709551615))] }
set_option maxRecDepth 100000 in
def rup_tree : Tree :=
.call 88 [.i (some (0, 18446744073709551615))] [.i (.v 0), .i (.v 1)] <|
.call 100 [.b] [.i (.v 0), .i (.v 1)] <|
.ite (.v 3) (.ret (.agg [(.int .u64 (.z 0)), (.int .u64 (.v 2))])) <|
.call 55 [.i (some (0, 18446744073709551615)), .i (some (0, 18446744073709551615)), .b] [.i (.z 0), .i (.v 2), .i (.z 0), .i (.z 1)] <|
.ret (.agg [(.int .u64 (.v 4)), (.int .u64 (.v 5))])
noncomputable def rup_cx : Ctx := { tys := tys, fns := fns, sps := [(88, rroot_sp), (100, rsquare_sp), (55, radd_sp)], anns := [], trys := [] }
def rup_ivs : List (Option (Int × Int)) := [some (0, 18446744073709551615), some (0, 18446744073709551615)]
set_option maxRecDepth 100000 in
theorem rup_walk : runFn rup_cx 3000 89 Try.f89 rup_sp.args rup_ivs = rup_tree := by kernel_rfl
noncomputable def rup_M : Nat → SpecSem
  | 88 => rroot_sem
  | 100 => rsquare_sem
  | 55 => radd_sem
  | _ => noSem
theorem rup_M88 : rup_M 88 = rroot_sem := rfl
theorem rup_M100 : rup_M 100 = rsquare_sem := rfl
theorem rup_M55 : rup_M 55 = radd_sem := rfl
theorem rup_cxok : CxOK Try.prog rup_cx rup_M := ⟨tysOK, fnsOK, spCons rroot_ok <| spCons rsquare_ok <| spCons radd_ok <| fun _ _ h => spNil h, mixedOK, fun _ _ h => trNil h⟩

def rup_sem : SpecSem := wup_sem
theorem rup_ok : SpecOK Try.prog 89 rup_sp rup_sem := by
  refine spec_of_tree rup_cxok Try.func89 (by kernel_rfl) (by kernel_rfl) rup_walk rfl ?_
  intro cs hpre
  match cs, hpre with
  | [.i a, .i b], ⟨⟨h1, h2⟩, ⟨h3, h4⟩⟩ =>
    have hv : 0 ≤ val a b ∧ val a b < 340282366920938463463374607431768211456 := by unfold val; omega
    have r3 := rootZ_le hv.1 hv.2
    obtain ⟨r0, r1, r2⟩ := rootZ_spec hv.1
    have hu : 0 ≤ upZ (val a b) ∧ upZ (val a b) ≤ 18446744073709551616 := by unfold upZ; split <;> omega
    refine ⟨rfl, IvsB.ok (by simp only [rup_ivs, IvsB, Cv.int, and_true]; omega), ?_, ?_⟩
    · simp only [rup_sem, wup_sem, rup_sp, Fits, and_true]; omega
    · simp only [rup_sem, wup_sem, rup_sp, IsU, upZ, rup_tree, rup_M88, rroot_sem, rup_M100, rsquare_sem, rup_M55, radd_sem, Tree.den, LE.den, Cv.list, placeA, List.getElem?_cons_zero, List.getElem?_cons_succ, IE.den, BE.den, At.den, CA.den, Env.get, Cv.int, Cv.bool, List.cons_append, List.nil_append, List.map_cons, List.map_nil, bindRes, bindEq, Fits, SV.den, denL, place, placeL, eq_t, eq_f, lt_t, lt_f, le_t, le_f, beq_iff_eq, beq_eq_false_iff_ne, ne_eq, reduceCtorEq, b_dec, decide_eq_true_eq, decide_eq_false_iff_not, Bool.not_eq_false', Bool.or_eq_true, Bool.or_eq_false_iff, Bool.and_eq_false_iff, true_iff, false_iff, Bool.false_eq_true, Bool.not_eq_true', Bool.and_eq_true, Bool.not_true, Bool.not_false, List.cons.injEq, Cv.i.injEq, Cv.b.injEq, and_true, true_and, agg_inj, tup_inj, Value.int.injEq, Value.bool.injEq]
      generalize rootZ (val a b) = s at *
      clear r1 r2
      unfold val at *
      by_cases hs : s * s = a * 18446744073709551616 + b
      · simp only [hs, if_true, if_false, true_and, and_true, false_and, and_false, true_or, or_true, false_or, or_false, true_iff, iff_true, false_iff, iff_false, not_true_eq_false, not_false_eq_true, true_implies, false_implies, implies_true, forall_const, decide_true, decide_false, reduceCtorEq]
        (repeat' (first | intro _ | refine And.intro ?_ ?_ | exact trivial)) <;> omega
      · simp only [hs, if_true, if_false, true_and, and_true, false_and, and_false, true_or, or_true, false_or, or_false, true_iff, iff_true, false_iff, iff_false, not_true_eq_false, not_false_eq_true, true_implies, false_implies, implies_true, forall_const, decide_true, decide_false, reduceCtorEq]
        (repeat' (first | intro _ | refine And.intro ?_ ?_ | exact trivial)) <;> omega
end Go.Proofs.Ytgnihomdpandfaa.X
