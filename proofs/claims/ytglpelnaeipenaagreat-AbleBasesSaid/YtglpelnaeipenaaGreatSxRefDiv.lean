/-
  The contract of the reference's division (datumref02.Div), for every input whose divisor is not 0.
-/
import Derived.Test.YtglpelnaeipenaaGreatSxDivide
import Derived.Test.YtglpelnaeipenaaGreatSxRef
namespace Go.Proofs.YtglpelnaeipenaaGreat.X
open Go Go.SX Go.RowKit
set_option linter.unusedVariables false
set_option linter.unusedSimpArgs false


theorem p2_split {i : Int} (h0 : 0 ≤ i) (h : i ≤ 64) : 18446744073709551616 = p2 (64 - i) * p2 i := by
  rw [p2_mul (by omega) h0, show 64 - i + i = 64 by omega]; rfl
theorem p2_63 {i : Int} (h0 : 0 ≤ i) (h : i ≤ 63) : 0 < p2 i ∧ p2 i ≤ 9223372036854775808 := ⟨p2_pos i, p2_le (m := 63) h0 h⟩
theorem one_shl {i : Int} (h0 : 0 ≤ i) (h : i ≤ 63) : IntKind.u64.wrap (1 * 2 ^ min i.toNat (IntKind.u64).bits) = p2 i := by
  have := p2_63 h0 h
  rw [Int.one_mul, p2_den h0 (by omega), wu64 (by omega) (by omega)]
def rbit_sp : SpecSh := { args := [(.agg [(.int .u64 (.z 0)), (.int .u64 (.z 0))]), (.int .i64 (.z 0))], res := (.int .u64 (.z 0)), sh := [.i (some (0, 18446744073709551615))] }
set_option maxRecDepth 100000 in
def rbit_tree : Tree :=
.ite (.cmp .le (.z 64) (.v 2)) (.lett (.sub (.v 2) (.z 64)) <|
.lett (.shr .u64 (.v 0) (.v 3)) <|
.lett (.bit .and .u64 (.v 4) (.z 1)) <|
.ret (.int .u64 (.v 5))) <|
.lett (.wrap .u64 (.v 2)) <|
.lett (.shr .u64 (.v 1) (.v 3)) <|
.lett (.bit .and .u64 (.v 4) (.z 1)) <|
.ret (.int .u64 (.v 5))
noncomputable def rbit_cx : Ctx := { tys := tys, fns := fns, mets := mets, sps := [], anns := [], trys := [] }
def rbit_ivs : List (Option (Int × Int)) := [some (0, 18446744073709551615), some (0, 18446744073709551615), some ((-9223372036854775808), 9223372036854775807)]
set_option maxRecDepth 100000 in
theorem rbit_walk : runFn rbit_cx 3000 86 Tryz.f86 rbit_sp.args rbit_ivs = rbit_tree := by kernel_rfl
noncomputable def rbit_M : Nat → SpecSem
  | _ => noSem
theorem rbit_cxok : CxOK Tryz.prog rbit_cx rbit_M := ⟨tysOK, fnsOK, fun _ _ h => spNil h, mixedOK, fun _ _ h => trNil h, fun _ _ h => atNil h, metsOK⟩

def rbit_sem : SpecSem := { pre := fun cs => match cs with | [.i a, .i b, .i i] => IsU a ∧ IsU b ∧ 0 ≤ i ∧ i ≤ 127 | _ => False, out := fun cs => match cs with | [.i a, .i b, .i i] => [.i (val a b / p2 i % 2)] | _ => [] }
theorem rbit_ok : SpecOK Tryz.prog 86 rbit_sp rbit_sem := by
  refine spec_of_tree rbit_cxok Tryz.func86 (by kernel_rfl) (by kernel_rfl) rbit_walk rfl ?_
  intro cs hpre
  match cs, hpre with
  | [.i a, .i b, .i i], ⟨⟨h1, h2⟩, ⟨h3, h4⟩, h5, h6⟩ =>
    refine ⟨rfl, IvsB.ok (by simp only [rbit_ivs, IvsB, Cv.int, and_true]; omega), ?_, ?_⟩
    · simp only [rbit_sem, rbit_sp, Fits, and_true]; omega
    · simp only [rbit_sem, rbit_sp, IsU, rbit_tree, Tree.den, LE.den, Cv.list, placeA, List.getElem?_cons_zero, List.getElem?_cons_succ, IE.den, BE.den, At.den, CA.den, Env.get, Cv.int, Cv.bool, List.cons_append, List.nil_append, List.map_cons, List.map_nil, bindRes, bindEq, Fits, SV.den, denL, place, placeL, eq_t, eq_f, lt_t, lt_f, le_t, le_f, beq_iff_eq, beq_eq_false_iff_ne, ne_eq, reduceCtorEq, b_dec, decide_eq_true_eq, decide_eq_false_iff_not, Bool.not_eq_false', Bool.or_eq_true, Bool.or_eq_false_iff, Bool.and_eq_false_iff, true_iff, false_iff, Bool.false_eq_true, Bool.not_eq_true', Bool.and_eq_true, Bool.not_true, Bool.not_false, List.cons.injEq, Cv.i.injEq, Cv.b.injEq, and_true, true_and, agg_inj, tup_inj, Value.int.injEq, Value.bool.injEq]
      refine ⟨fun hi x hx y hy z hz => ?_, fun hi x hx y hy z hz => ?_⟩
      · subst hx
        have hw : IntKind.i64.wrap (i - 64) = i - 64 := w64 (by omega) (by omega)
        have hw2 : IntKind.u64.wrap (i - 64) = i - 64 := wu64 (by omega) (by omega)
        try rw [hw] at hy
        try rw [hw2] at hy
        rw [p2_den (by omega) (by omega), Int.fdiv_eq_ediv_of_nonneg _ (Int.le_of_lt (p2_pos _))] at hy
        have hy0 : 0 ≤ y := by rw [hy]; exact Int.ediv_nonneg h1 (Int.le_of_lt (p2_pos _))
        have hy1 : y ≤ a := by rw [hy]; exact Int.ediv_le_self _ h1
        have e := and_mod (x := y) 1 (by omega) hy0 (by omega)
        have ez : z = y % 2 := by rw [hz]; exact e
        have ep : p2 i = 18446744073709551616 * p2 (i - 64) := by
          have := p2_mul (n := 64) (m := i - 64) (by omega) (by omega)
          rw [show 64 + (i - 64) = i by omega] at this
          rw [← this]; rfl
        rw [ez, hy, ep, ← Int.ediv_ediv_of_nonneg (by omega)]
        have : val a b / 18446744073709551616 = a := by unfold val; omega
        rw [this]
      · try rw [wu64 (by omega) (by omega)] at hx
        rw [hx] at hy
        rw [p2_den (by omega) (by omega), Int.fdiv_eq_ediv_of_nonneg _ (Int.le_of_lt (p2_pos _))] at hy
        have hy0 : 0 ≤ y := by rw [hy]; exact Int.ediv_nonneg h3 (Int.le_of_lt (p2_pos _))
        have hy1 : y ≤ b := by rw [hy]; exact Int.ediv_le_self _ h3
        have e := and_mod (x := y) 1 (by omega) hy0 (by omega)
        have ez : z = y % 2 := by rw [hz]; exact e
        have hp := p2_pos i
        have ep : p2 (64 - i) = 2 * p2 (63 - i) := by
          have := p2_succ (n := 63 - i) (by omega)
          rw [show 63 - i + 1 = 64 - i by omega] at this
          exact this
        have ev : val a b = b + a * p2 (64 - i) * p2 i := by
          unfold val
          rw [Int.mul_assoc, ← p2_split (by omega) (by omega)]; omega
        rw [ez, hy, ev, Int.add_mul_ediv_right _ _ (by omega), ep, Int.mul_left_comm]
        omega
def rwith_sp : SpecSh := { args := [(.agg [(.int .u64 (.z 0)), (.int .u64 (.z 0))]), (.int .i64 (.z 0))], res := (.agg [(.int .u64 (.z 0)), (.int .u64 (.z 0))]), sh := [.i (some (0, 18446744073709551615)), .i (some (0, 18446744073709551615))] }
set_option maxRecDepth 100000 in
def rwith_tree : Tree :=
.ite (.cmp .le (.z 64) (.v 2)) (.lett (.sub (.v 2) (.z 64)) <|
.lett (.shl .u64 (.z 1) (.v 3)) <|
.lett (.addw .u64 (.v 0) (.v 4)) <|
.ret (.agg [(.int .u64 (.v 5)), (.int .u64 (.v 1))])) <|
.lett (.wrap .u64 (.v 2)) <|
.lett (.shl .u64 (.z 1) (.v 3)) <|
.lett (.addw .u64 (.v 1) (.v 4)) <|
.ret (.agg [(.int .u64 (.v 0)), (.int .u64 (.v 5))])
noncomputable def rwith_cx : Ctx := { tys := tys, fns := fns, mets := mets, sps := [], anns := [], trys := [] }
def rwith_ivs : List (Option (Int × Int)) := [some (0, 18446744073709551615), some (0, 18446744073709551615), some ((-9223372036854775808), 9223372036854775807)]
set_option maxRecDepth 100000 in
theorem rwith_walk : runFn rwith_cx 3000 88 Tryz.f88 rwith_sp.args rwith_ivs = rwith_tree := by kernel_rfl
noncomputable def rwith_M : Nat → SpecSem
  | _ => noSem
theorem rwith_cxok : CxOK Tryz.prog rwith_cx rwith_M := ⟨tysOK, fnsOK, fun _ _ h => spNil h, mixedOK, fun _ _ h => trNil h, fun _ _ h => atNil h, metsOK⟩

def rwith_sem : SpecSem := { pre := fun cs => match cs with | [.i a, .i b, .i i] => IsU a ∧ IsU b ∧ (0 ≤ i ∧ i ≤ 127) ∧ val a b % p2 (i + 1) = 0 ∧ val a b + p2 i < 340282366920938463463374607431768211456 | _ => False, out := fun cs => match cs with | [.i a, .i b, .i i] => [.i ((val a b + p2 i) / 18446744073709551616), .i ((val a b + p2 i) % 18446744073709551616)] | _ => [] }
theorem rwith_ok : SpecOK Tryz.prog 88 rwith_sp rwith_sem := by
  refine spec_of_tree rwith_cxok Tryz.func88 (by kernel_rfl) (by kernel_rfl) rwith_walk rfl ?_
  intro cs hpre
  match cs, hpre with
  | [.i a, .i b, .i i], ⟨⟨h1, h2⟩, ⟨h3, h4⟩, ⟨h5, h6⟩, h7, h8⟩ =>
    have hpp := p2_pos i
    have hv0 : 0 ≤ val a b := by unfold val; omega
    refine ⟨rfl, IvsB.ok (by simp only [rwith_ivs, IvsB, Cv.int, and_true]; omega), ?_, ?_⟩
    · simp only [rwith_sem, rwith_sp, Fits, and_true]; omega
    · simp only [rwith_sem, rwith_sp, IsU, rwith_tree, Tree.den, LE.den, Cv.list, placeA, List.getElem?_cons_zero, List.getElem?_cons_succ, IE.den, BE.den, At.den, CA.den, Env.get, Cv.int, Cv.bool, List.cons_append, List.nil_append, List.map_cons, List.map_nil, bindRes, bindEq, Fits, SV.den, denL, place, placeL, eq_t, eq_f, lt_t, lt_f, le_t, le_f, beq_iff_eq, beq_eq_false_iff_ne, ne_eq, reduceCtorEq, b_dec, decide_eq_true_eq, decide_eq_false_iff_not, Bool.not_eq_false', Bool.or_eq_true, Bool.or_eq_false_iff, Bool.and_eq_false_iff, true_iff, false_iff, Bool.false_eq_true, Bool.not_eq_true', Bool.and_eq_true, Bool.not_true, Bool.not_false, List.cons.injEq, Cv.i.injEq, Cv.b.injEq, and_true, true_and, agg_inj, tup_inj, Value.int.injEq, Value.bool.injEq]
      refine ⟨fun hi x hx y hy z hz => ?_, fun hi x hx y hy z hz => ?_⟩
      · subst hx
        have hw2 : IntKind.u64.wrap (i - 64) = i - 64 := wu64 (by omega) (by omega)
        try rw [hw2] at hy
        rw [one_shl (by omega) (by omega)] at hy
        have ep : p2 i = 18446744073709551616 * p2 (i - 64) := by
          have := p2_mul (n := 64) (m := i - 64) (by omega) (by omega)
          rw [show 64 + (i - 64) = i by omega] at this
          rw [← this]; rfl
        have hp := p2_63 (i := i - 64) (by omega) (by omega)
        rw [wu64_mod] at hz
        rw [ep] at h8 ⊢
        subst hy
        generalize p2 (i - 64) = p at *
        unfold val at *
        omega
      · try rw [wu64 (by omega) (by omega)] at hx
        rw [hx] at hy
        rw [one_shl (by omega) (by omega)] at hy
        have hp := p2_63 (i := i) (by omega) (by omega)
        rw [wu64_mod] at hz
        subst hy
        have hs := p2_succ (n := i) (by omega)
        have e64 : 18446744073709551616 = p2 (63 - i) * p2 (i + 1) := by
          rw [p2_mul (by omega) (by omega), show 63 - i + (i + 1) = 64 by omega]; rfl
        have hb : b % p2 (i + 1) = 0 := by
          have : val a b = b + a * p2 (63 - i) * p2 (i + 1) := by
            unfold val
            rw [Int.mul_assoc, ← e64]; omega
          rw [this, Int.add_mul_emod_self_right] at h7
          exact h7
        have hlt : b + p2 i < 18446744073709551616 := by
          obtain ⟨k, hk⟩ := Int.dvd_of_emod_eq_zero hb
          have hpos := p2_pos (i + 1)
          have hkm : k < p2 (63 - i) := by
            refine Int.lt_of_mul_lt_mul_right (a := p2 (i + 1)) ?_ (Int.le_of_lt hpos)
            rw [← e64, Int.mul_comm]; omega
          have := Int.mul_le_mul_of_nonneg_right (show k + 1 ≤ p2 (63 - i) by omega) (Int.le_of_lt hpos)
          rw [← e64, Int.add_mul, Int.one_mul, Int.mul_comm k] at this
          omega
        generalize p2 i = p at *
        unfold val at *
        omega
/-- bit by bit, the highest first: what has been found so far -/
def rdI (N D : Int) : List Cv → Prop := fun l => match l with
  | [.i n, .i q1, .i q0, .i r1, .i r0] => (-1 ≤ n ∧ n ≤ 127) ∧ val q1 q0 * D + val r1 r0 * p2 (n + 1) + N % p2 (n + 1) = N ∧ (0 ≤ val r1 r0 ∧ val r1 r0 < D) ∧ val q1 q0 % p2 (n + 1) = 0 ∧ 0 ≤ val q1 q0
  | _ => False
def rdM : List Cv → Nat := fun l => match l with | [.i n, .i _, .i _, .i _, .i _] => (n + 1).toNat | _ => 0
theorem mod_two {N p k : Int} (hp : 0 < p) (hN : 0 ≤ N) (hk : k = N / p % 2) : N % (2 * p) = k * p + N % p := by
  have e := Int.emod_add_mul_ediv N p
  have e0 := Int.emod_nonneg N (b := p) (by omega)
  have e1 := Int.emod_lt_of_pos N hp
  have f := Int.emod_add_mul_ediv (N / p) 2
  have hk2 : k = 0 ∨ k = 1 := by omega
  have hm : p * (N / p) = 2 * (N / p / 2 * p) + k * p := by
    have : N / p = 2 * (N / p / 2) + k := by omega
    conv => lhs; rw [this]
    rw [Int.mul_add, Int.mul_comm p k, Int.mul_left_comm, Int.mul_comm p]
  have hq : N = N / p / 2 * (2 * p) + (k * p + N % p) := by
    have : N / p / 2 * (2 * p) = 2 * (N / p / 2 * p) := Int.mul_left_comm _ _ _
    omega
  have hb : 0 ≤ k * p + N % p ∧ k * p + N % p < 2 * p := by
    rcases hk2 with rfl | rfl <;> omega
  exact (div_uniq (D := 2 * p) (by omega) hq hb.1 hb.2).2
def rdiv_sp : SpecSh := { args := [(.agg [(.int .u64 (.z 0)), (.int .u64 (.z 0))]), (.agg [(.int .u64 (.z 0)), (.int .u64 (.z 0))])], res := (.tup [(.agg [(.int .u64 (.z 0)), (.int .u64 (.z 0))]), (.agg [(.int .u64 (.z 0)), (.int .u64 (.z 0))])]), sh := [.i (some (0, 18446744073709551615)), .i (some (0, 18446744073709551615)), .i (some (0, 18446744073709551615)), .i (some (0, 18446744073709551615))] }
set_option maxRecDepth 100000 in
def rdiv_tree : Tree :=
.loop [.i (some ((-1), 127)), .i (some (0, 18446744073709551615)), .i (some (0, 18446744073709551615)), .i (some (0, 18446744073709551615)), .i (some (0, 18446744073709551615))] [.i (.z 127), .i (.z 0), .i (.z 0), .i (.z 0), .i (.z 0)] <|
.ite (.cmp .le (.z 0) (.v 4)) (.call 78 [.i (some (0, 18446744073709551615)), .i (some (0, 18446744073709551615)), .b] [.i (.v 7), .i (.v 8), .i (.v 7), .i (.v 8)] <|
.call 86 [.i (some (0, 18446744073709551615))] [.i (.v 0), .i (.v 1), .i (.v 4)] <|
.call 78 [.i (some (0, 18446744073709551615)), .i (some (0, 18446744073709551615)), .b] [.i (.v 9), .i (.v 10), .i (.z 0), .i (.v 12)] <|
.ite (.v 11) (.call 87 [.i (some (0, 18446744073709551615)), .i (some (0, 18446744073709551615)), .b] [.i (.v 13), .i (.v 14), .i (.v 2), .i (.v 3)] <|
.call 88 [.i (some (0, 18446744073709551615)), .i (some (0, 18446744073709551615))] [.i (.v 5), .i (.v 6), .i (.v 4)] <|
.lett (.sub (.v 4) (.z 1)) <|
.again 0 [.i (.v 21), .i (.v 19), .i (.v 20), .i (.v 16), .i (.v 17)]) <|
.ite (.not (.cmp .eq (.v 13) (.v 2))) (.ite (.not (.cmp .lt (.v 13) (.v 2))) (.call 87 [.i (some (0, 18446744073709551615)), .i (some (0, 18446744073709551615)), .b] [.i (.v 13), .i (.v 14), .i (.v 2), .i (.v 3)] <|
.call 88 [.i (some (0, 18446744073709551615)), .i (some (0, 18446744073709551615))] [.i (.v 5), .i (.v 6), .i (.v 4)] <|
.lett (.sub (.v 4) (.z 1)) <|
.again 0 [.i (.v 21), .i (.v 19), .i (.v 20), .i (.v 16), .i (.v 17)]) <|
.lett (.sub (.v 4) (.z 1)) <|
.again 0 [.i (.v 16), .i (.v 5), .i (.v 6), .i (.v 13), .i (.v 14)]) <|
.ite (.not (.cmp .lt (.v 14) (.v 3))) (.call 87 [.i (some (0, 18446744073709551615)), .i (some (0, 18446744073709551615)), .b] [.i (.v 13), .i (.v 14), .i (.v 2), .i (.v 3)] <|
.call 88 [.i (some (0, 18446744073709551615)), .i (some (0, 18446744073709551615))] [.i (.v 5), .i (.v 6), .i (.v 4)] <|
.lett (.sub (.v 4) (.z 1)) <|
.again 0 [.i (.v 21), .i (.v 19), .i (.v 20), .i (.v 16), .i (.v 17)]) <|
.lett (.sub (.v 4) (.z 1)) <|
.again 0 [.i (.v 16), .i (.v 5), .i (.v 6), .i (.v 13), .i (.v 14)]) <|
.ret (.tup [(.agg [(.int .u64 (.v 5)), (.int .u64 (.v 6))]), (.agg [(.int .u64 (.v 7)), (.int .u64 (.v 8))])])
noncomputable def rdiv_cx : Ctx := { tys := tys, fns := fns, mets := mets, sps := [(78, radd_sp), (87, rsub_sp), (86, rbit_sp), (88, rwith_sp)], anns := [((76, 4), { slots := [8], cells := [(4, 0), (4, 1), (5, 0), (5, 1)], ivs := [some ((-1), 127), some (0, 18446744073709551615), some (0, 18446744073709551615), some (0, 18446744073709551615), some (0, 18446744073709551615)] })], trys := [] }
def rdiv_ivs : List (Option (Int × Int)) := [some (0, 18446744073709551615), some (0, 18446744073709551615), some (0, 18446744073709551615), some (0, 18446744073709551615)]
set_option maxRecDepth 100000 in
theorem rdiv_walk : runFn rdiv_cx 3000 76 Tryz.f76 rdiv_sp.args rdiv_ivs = rdiv_tree := by kernel_rfl
noncomputable def rdiv_M : Nat → SpecSem
  | 78 => radd_sem
  | 87 => rsub_sem
  | 86 => rbit_sem
  | 88 => rwith_sem
  | _ => noSem
theorem rdiv_M78 : rdiv_M 78 = radd_sem := rfl
theorem rdiv_M87 : rdiv_M 87 = rsub_sem := rfl
theorem rdiv_M86 : rdiv_M 86 = rbit_sem := rfl
theorem rdiv_M88 : rdiv_M 88 = rwith_sem := rfl
theorem rdiv_cxok : CxOK Tryz.prog rdiv_cx rdiv_M := ⟨tysOK, fnsOK, spCons radd_ok <| spCons rsub_ok <| spCons rbit_ok <| spCons rwith_ok <| fun _ _ h => spNil h, mixedOK, fun _ _ h => trNil h, fun _ _ h => atNil h, metsOK⟩

def rdiv_sem : SpecSem := { pre := fun cs => match cs with | [.i a, .i b, .i c, .i d] => IsU a ∧ IsU b ∧ IsU c ∧ IsU d ∧ 1 ≤ val c d | _ => False, out := fun cs => match cs with | [.i a, .i b, .i c, .i d] => [.i (divQ a b c d / 18446744073709551616), .i (divQ a b c d % 18446744073709551616), .i (divR a b c d / 18446744073709551616), .i (divR a b c d % 18446744073709551616)] | _ => [] }
theorem rdiv_ok : SpecOK Tryz.prog 76 rdiv_sp rdiv_sem := by
  refine spec_of_tree rdiv_cxok Tryz.func76 (by kernel_rfl) (by kernel_rfl) rdiv_walk rfl ?_
  intro cs hpre
  match cs, hpre with
  | [.i a, .i b, .i c, .i d], ⟨ha, hb, hc, hd, hD⟩ =>
    obtain ⟨⟨g1, g2⟩, ⟨g3, g4⟩⟩ := divQR_rng ha hb hc hd
    obtain ⟨h1, h2⟩ := ha
    obtain ⟨h3, h4⟩ := hb
    obtain ⟨h5, h6⟩ := hc
    obtain ⟨h7, h8⟩ := hd
    have hN : 0 ≤ val a b ∧ val a b < 340282366920938463463374607431768211456 := by unfold val; omega
    have hDw : val c d < 340282366920938463463374607431768211456 := by unfold val; omega
    refine ⟨rfl, IvsB.ok (by simp only [rdiv_ivs, IvsB, Cv.int, and_true]; omega), ?_, ?_⟩
    · simp only [rdiv_sem, rdiv_sp, Fits, and_true]; omega
    · simp only [rdiv_sem, rdiv_sp, IsU, rdiv_tree, rdiv_M78, radd_sem, rdiv_M87, rsub_sem, rdiv_M86, rbit_sem, rdiv_M88, rwith_sem, Tree.den, LE.den, Cv.list, placeA, List.getElem?_cons_zero, List.getElem?_cons_succ, IE.den, BE.den, At.den, CA.den, Env.get, Cv.int, Cv.bool, List.cons_append, List.nil_append, List.map_cons, List.map_nil, bindRes, bindEq, Fits, SV.den, denL, place, placeL, eq_t, eq_f, lt_t, lt_f, le_t, le_f, beq_iff_eq, beq_eq_false_iff_ne, ne_eq, reduceCtorEq, b_dec, decide_eq_true_eq, decide_eq_false_iff_not, Bool.not_eq_false', Bool.or_eq_true, Bool.or_eq_false_iff, Bool.and_eq_false_iff, true_iff, false_iff, Bool.false_eq_true, Bool.not_eq_true', Bool.and_eq_true, Bool.not_true, Bool.not_false, List.cons.injEq, Cv.i.injEq, Cv.b.injEq, and_true, true_and, agg_inj, tup_inj, Value.int.injEq, Value.bool.injEq]
      refine ⟨rdI (val a b) (val c d), rdM, by omega, ?_, ?_⟩
      · simp only [rdI]
        have e : p2 (127 + 1) = 340282366920938463463374607431768211456 := rfl
        have v0 : val 0 0 = 0 := rfl
        rw [e, v0]
        exact ⟨by omega, by omega, ⟨by omega, by omega⟩, by omega, by omega⟩
      · intro n l1 l2 q1 l3 l4 q0 l5 l6 r1 l7 l8 r0 l9 l10 hI
        simp only [rdI] at hI
        obtain ⟨_, iN, ⟨i3, i4⟩, i5, i6⟩ := hI
        refine ⟨fun hn => ⟨by omega, ?_⟩, fun hn => ?_⟩
        · intro u1 hu1 _ _ u0 hu0 _ _
          refine ⟨by omega, ?_⟩
          intro bt hbt b0 b1
          refine ⟨by omega, ?_⟩
          intro t1 ht1 t10 t11 t0 ht0 t00 t01
          have hp := p2_pos n
          have hps := p2_succ hn
          have i5' := i5
          have eN := mod_two (k := bt) hp hN.1 hbt
          have hb2 : 0 ≤ bt ∧ bt ≤ 1 := by omega
          rw [hps, eN] at iN
          rw [hps] at i5
          have hQ2 : val q1 q0 % p2 n = 0 := by
            have := Int.emod_emod_of_dvd (val q1 q0) (Int.dvd_mul_left 2 (p2 n))
            rw [i5, Int.zero_emod] at this
            exact this.symm
          have hm0 := Int.emod_nonneg (val a b) (b := p2 n) (by omega)
          have hm1 := Int.emod_lt_of_pos (val a b) hp
          have hR2 : val r1 r0 * (2 * p2 n) = 2 * (val r1 r0 * p2 n) := Int.mul_left_comm _ _ _
          rw [hR2] at iN
          clear hbt eN hR2 hps i5 l7 l8 l9 l10
          have hDD : val c d = c * 18446744073709551616 + d := rfl
          generalize hDv : val c d = D at *
          generalize val r1 r0 = R at *
          have hu : val u1 u0 = (R + R) % 340282366920938463463374607431768211456 := by unfold val; omega
          have hv : val 0 bt = bt := by unfold val; omega
          rw [hu, hv] at ht1 ht0
          have ht : val t1 t0 = (2 * R + bt) % 340282366920938463463374607431768211456 := by unfold val; omega
          have htt : t1 * 18446744073709551616 + t0 = (2 * R + bt) % 340282366920938463463374607431768211456 := ht
          have hdr : (2 * R + bt) * p2 n = 2 * (R * p2 n) + bt * p2 n := by rw [Int.add_mul, Int.mul_assoc]
          have hDp : D * p2 n = p2 n * D := Int.mul_comm _ _
          have hskip : 2 * R + bt < D → val t1 t0 = 2 * R + bt := fun h => by omega
          have hQp0 : D ≤ 2 * R + bt → val q1 q0 + p2 n < 340282366920938463463374607431768211456 := fun h => by
            have h1 := Int.mul_le_mul_of_nonneg_right h (Int.le_of_lt hp)
            have h2 := Int.mul_le_mul_of_nonneg_left hD (show 0 ≤ val q1 q0 + p2 n by omega)
            rw [Int.mul_one, Int.add_mul] at h2
            omega
          clear hu1 hu0 hu hv ht1 ht0
          rw [ht]
          refine ⟨fun ho => ?_, fun ho => ⟨fun hne => ?_, fun heq => ?_⟩⟩
          · have hge : D ≤ 2 * R + bt := by omega
            have hQp := hQp0 hge
            refine ⟨by omega, ?_⟩
            intro s1 hs1 _ _ s0 hs0 _ _
            have hs : val s1 s0 = 2 * R + bt - D := by unfold val; omega
            refine ⟨⟨by omega, by omega, by omega, i5', hQp⟩, ?_⟩
            intro w1 hw1 _ _ w0 hw0 _ _ m hm
            have hw : val w1 w0 = val q1 q0 + p2 n := by
              generalize val q1 q0 + p2 n = Z at *
              unfold val; omega
            subst hm
            refine ⟨by omega, ?_, ?_⟩
            · simp only [rdI]
              rw [show n - 1 + 1 = n by omega, hw, hs]
              refine ⟨by omega, ?_, ⟨by omega, by omega⟩, ?_, by omega⟩
              · rw [Int.add_mul, Int.sub_mul]; omega
              · rw [Int.add_emod_right]; exact hQ2
            · simp only [rdM]; omega
          · refine ⟨fun hh => ?_, fun hh => ?_⟩
            · have hge : D ≤ 2 * R + bt := by omega
              have hQp := hQp0 hge
              refine ⟨by omega, ?_⟩
              intro s1 hs1 _ _ s0 hs0 _ _
              have hs : val s1 s0 = 2 * R + bt - D := by unfold val; omega
              refine ⟨⟨by omega, by omega, by omega, i5', hQp⟩, ?_⟩
              intro w1 hw1 _ _ w0 hw0 _ _ m hm
              have hw : val w1 w0 = val q1 q0 + p2 n := by
                generalize val q1 q0 + p2 n = Z at *
                unfold val; omega
              subst hm
              refine ⟨by omega, ?_, ?_⟩
              · simp only [rdI]
                rw [show n - 1 + 1 = n by omega, hw, hs]
                refine ⟨by omega, ?_, ⟨by omega, by omega⟩, ?_, by omega⟩
                · rw [Int.add_mul, Int.sub_mul]; omega
                · rw [Int.add_emod_right]; exact hQ2
              · simp only [rdM]; omega
            · have hlt : 2 * R + bt < D := by omega
              intro m hm
              subst hm
              refine ⟨by omega, ?_, ?_⟩
              · simp only [rdI]
                rw [show n - 1 + 1 = n by omega, hskip (by omega)]
                exact ⟨by omega, by omega, ⟨by omega, by omega⟩, hQ2, by omega⟩
              · simp only [rdM]; omega
          · refine ⟨fun hh => ?_, fun hh => ?_⟩
            · have hge : D ≤ 2 * R + bt := by omega
              have hQp := hQp0 hge
              refine ⟨by omega, ?_⟩
              intro s1 hs1 _ _ s0 hs0 _ _
              have hs : val s1 s0 = 2 * R + bt - D := by unfold val; omega
              refine ⟨⟨by omega, by omega, by omega, i5', hQp⟩, ?_⟩
              intro w1 hw1 _ _ w0 hw0 _ _ m hm
              have hw : val w1 w0 = val q1 q0 + p2 n := by
                generalize val q1 q0 + p2 n = Z at *
                unfold val; omega
              subst hm
              refine ⟨by omega, ?_, ?_⟩
              · simp only [rdI]
                rw [show n - 1 + 1 = n by omega, hw, hs]
                refine ⟨by omega, ?_, ⟨by omega, by omega⟩, ?_, by omega⟩
                · rw [Int.add_mul, Int.sub_mul]; omega
                · rw [Int.add_emod_right]; exact hQ2
              · simp only [rdM]; omega
            · have hlt : 2 * R + bt < D := by omega
              intro m hm
              subst hm
              refine ⟨by omega, ?_, ?_⟩
              · simp only [rdI]
                rw [show n - 1 + 1 = n by omega, hskip (by omega)]
                exact ⟨by omega, by omega, ⟨by omega, by omega⟩, hQ2, by omega⟩
              · simp only [rdM]; omega
        · have en : n = -1 := by omega
          subst en
          have e1 : p2 (-1 + 1) = 1 := rfl
          rw [e1, Int.mul_one, Int.emod_one, Int.add_zero] at iN
          obtain ⟨u1, u2⟩ := div_uniq (by omega) iN.symm i3 i4
          unfold divQ divR
          rw [if_neg (by omega), if_neg (by omega), u1, u2]
          unfold val
          omega
end Go.Proofs.YtglpelnaeipenaaGreat.X
