/-
  The contracts of package root (square roots of numbers of 128 bits), for every input in range.
-/
import Derived.Test.YtglpelnaeipenaaGreatSxWide2
import Derived.Lib.ItoaNum
namespace Go.Proofs.YtglpelnaeipenaaGreat.X
open Go Go.SX Go.RowKit
set_option linter.unusedVariables false
set_option linter.unusedSimpArgs false




/-! ### the root, as a number -/
def nroot : Nat → Nat
  | 0 => 0
  | n + 1 => if (nroot n + 1) * (nroot n + 1) ≤ n + 1 then nroot n + 1 else nroot n
theorem nroot_spec : ∀ n : Nat, nroot n * nroot n ≤ n ∧ n < (nroot n + 1) * (nroot n + 1)
  | 0 => by simp [nroot]
  | n + 1 => by
    obtain ⟨h1, h2⟩ := nroot_spec n
    simp only [nroot]
    split
    · rename_i h
      refine ⟨h, ?_⟩
      have e : (nroot n + 1 + 1) * (nroot n + 1 + 1) = (nroot n + 1) * (nroot n + 1) + 2 * (nroot n + 1) + 1 := by
        generalize nroot n + 1 = k
        rw [Nat.add_mul, Nat.mul_add]; omega
      omega
    · rename_i h; exact ⟨by omega, by omega⟩
def rootZ (v : Int) : Int := (nroot v.toNat : Int)
theorem rootZ_spec {v : Int} (h : 0 ≤ v) : 0 ≤ rootZ v ∧ rootZ v * rootZ v ≤ v ∧ v < (rootZ v + 1) * (rootZ v + 1) := by
  obtain ⟨n, rfl⟩ := Int.eq_ofNat_of_zero_le h
  obtain ⟨h1, h2⟩ := nroot_spec n
  unfold rootZ
  rw [Int.toNat_natCast]
  exact ⟨by omega, by exact_mod_cast h1, by exact_mod_cast h2⟩
theorem sq_le {x y : Int} (hx : 0 ≤ x) (h : x ≤ y) : x * x ≤ y * y := Int.mul_le_mul h h hx (by omega)
theorem rootZ_uniq {v s : Int} (h0 : 0 ≤ s) (h1 : s * s ≤ v) (h2 : v < (s + 1) * (s + 1)) : rootZ v = s := by
  obtain ⟨g0, g1, g2⟩ := rootZ_spec (v := v) (Int.le_trans (Int.mul_nonneg h0 h0) h1)
  by_cases c : rootZ v < s
  · have := sq_le (x := rootZ v + 1) (y := s) (by omega) (by omega); omega
  · by_cases c2 : s < rootZ v
    · have := sq_le (x := s + 1) (y := rootZ v) (by omega) (by omega); omega
    · omega
theorem le_rootZ {v s : Int} (h0 : 0 ≤ s) (hv : 0 ≤ v) : s ≤ rootZ v ↔ s * s ≤ v := by
  obtain ⟨g0, g1, g2⟩ := rootZ_spec hv
  constructor
  · intro h; exact Int.le_trans (sq_le h0 h) g1
  · intro h
    refine Decidable.byContradiction fun c => ?_
    have := sq_le (x := rootZ v + 1) (y := s) (by omega) (by omega); omega
theorem rootZ_le {v : Int} (hv : 0 ≤ v) (h : v < 340282366920938463463374607431768211456) : rootZ v ≤ 18446744073709551615 := by
  obtain ⟨g0, g1, g2⟩ := rootZ_spec hv
  refine Decidable.byContradiction fun c => ?_
  have := sq_le (x := 18446744073709551616) (y := rootZ v) (by omega) (by omega); omega
theorem rootZ_small {v : Int} (hv : 0 ≤ v) (h : v < 18446744073709551616) : rootZ v ≤ 4294967295 := by
  obtain ⟨g0, g1, g2⟩ := rootZ_spec hv
  refine Decidable.byContradiction fun c => ?_
  have := sq_le (x := 4294967296) (y := rootZ v) (by omega) (by omega); omega

def rootI (v : Int) : List Cv → Prop := fun l => match l with | [.i lo, .i hi] => lo ≤ rootZ v ∧ rootZ v ≤ hi | _ => False
def rootM : List Cv → Nat := fun l => match l with | [.i lo, .i hi] => (hi - lo).toNat | _ => 0
def len64_sp : SpecSh := { args := [(.int .u64 (.z 0))], res := (.int .i64 (.z 0)), sh := [.i (some ((-9223372036854775808), 9223372036854775807))] }
def len64_sem : SpecSem := { pre := fun cs => match cs with | [.i x] => IsU x | _ => False, out := fun cs => match cs with | [.i x] => [.i (Lib.bitLen x.toNat : Int)] | _ => [] }
theorem len64_ok : SpecOK Tryz.prog 74 len64_sp len64_sem := by
  refine spec_of_calls Tryz.func74 (by kernel_rfl) (by kernel_rfl) ?_
  intro cs hpre
  match cs, hpre with
  | [.i x], ⟨h0, h1⟩ =>
    refine ⟨?_, fun w => ?_⟩
    · simp only [len64_sem, len64_sp, Fits, and_true]
      have := Lib.bitLen_le x.toNat 64 (by omega) (by omega)
      omega
    · refine (Tryz.bits_Len64 x w h0 (by omega)).mono ?_
      rintro e w' ⟨rfl, rfl⟩
      exact ⟨rfl, .refl _ _⟩
def wroot_sp : SpecSh := { args := [(.agg [(.int .u64 (.z 0)), (.int .u64 (.z 0))])], res := (.int .u64 (.z 0)), sh := [.i (some (0, 18446744073709551615))] }
set_option maxRecDepth 100000 in
def wroot_tree : Tree :=
.call 74 [.i (some ((-9223372036854775808), 9223372036854775807))] [.i (.v 0)] <|
.ite (.cmp .eq (.v 2) (.z 0)) (.lett (.div (.v 1) (.z 4294967296)) <|
.lett (.bit .or .u64 (.z 4294967295) (.v 3)) <|
.loop [.i (some (0, 18446744073709551615)), .i (some (0, 18446744073709551615))] [.i (.z 0), .i (.v 4)] <|
.ite (.cmp .eq (.v 5) (.v 6)) (.ret (.int .u64 (.v 5))) <|
.lett (.subw .u64 (.v 6) (.v 5)) <|
.lett (.div (.v 7) (.z 2)) <|
.lett (.subw .u64 (.v 6) (.v 8)) <|
.call 47 [.i (some (0, 18446744073709551615)), .i (some (0, 18446744073709551615))] [.i (.v 9), .i (.v 9)] <|
.call 51 [.b] [.i (.v 0), .i (.v 1), .i (.v 10), .i (.v 11)] <|
.ite (.not (.v 12)) (.again 0 [.i (.v 9), .i (.v 6)]) <|
.lett (.subw .u64 (.v 9) (.z 1)) <|
.again 0 [.i (.v 5), .i (.v 13)]) <|
.loop [.i (some (0, 18446744073709551615)), .i (some (0, 18446744073709551615))] [.i (.z 0), .i (.z 18446744073709551615)] <|
.ite (.cmp .eq (.v 3) (.v 4)) (.ret (.int .u64 (.v 3))) <|
.lett (.subw .u64 (.v 4) (.v 3)) <|
.lett (.div (.v 5) (.z 2)) <|
.lett (.subw .u64 (.v 4) (.v 6)) <|
.call 47 [.i (some (0, 18446744073709551615)), .i (some (0, 18446744073709551615))] [.i (.v 7), .i (.v 7)] <|
.call 51 [.b] [.i (.v 0), .i (.v 1), .i (.v 8), .i (.v 9)] <|
.ite (.not (.v 10)) (.again 0 [.i (.v 7), .i (.v 4)]) <|
.lett (.subw .u64 (.v 7) (.z 1)) <|
.again 0 [.i (.v 3), .i (.v 11)]
noncomputable def wroot_cx : Ctx := { tys := tys, fns := fns, mets := mets, sps := [(47, mul_sp), (51, less_sp), (74, len64_sp)], anns := [((55, 6), { slots := [4, 5], cells := [], ivs := [some (0, 18446744073709551615), some (0, 18446744073709551615)] })], trys := [] }
def wroot_ivs : List (Option (Int × Int)) := [some (0, 18446744073709551615), some (0, 18446744073709551615)]
set_option maxRecDepth 100000 in
theorem wroot_walk : runFn wroot_cx 3000 55 Tryz.f55 wroot_sp.args wroot_ivs = wroot_tree := by kernel_rfl
noncomputable def wroot_M : Nat → SpecSem
  | 47 => mul_sem
  | 51 => less_sem
  | 74 => len64_sem
  | _ => noSem
theorem wroot_M47 : wroot_M 47 = mul_sem := rfl
theorem wroot_M51 : wroot_M 51 = less_sem := rfl
theorem wroot_M74 : wroot_M 74 = len64_sem := rfl
theorem wroot_cxok : CxOK Tryz.prog wroot_cx wroot_M := ⟨tysOK, fnsOK, spCons mul_ok <| spCons less_ok <| spCons len64_ok <| fun _ _ h => spNil h, mixedOK, fun _ _ h => trNil h, fun _ _ h => atNil h, metsOK⟩

def wroot_sem : SpecSem := { pre := fun cs => match cs with | [.i a, .i b] => IsU a ∧ IsU b | _ => False, out := fun cs => match cs with | [.i a, .i b] => [.i (rootZ (val a b))] | _ => [] }
theorem wroot_ok : SpecOK Tryz.prog 55 wroot_sp wroot_sem := by
  refine spec_of_tree wroot_cxok Tryz.func55 (by kernel_rfl) (by kernel_rfl) wroot_walk rfl ?_
  intro cs hpre
  match cs, hpre with
  | [.i a, .i b], ⟨⟨h1, h2⟩, ⟨h3, h4⟩⟩ =>
    have hv : 0 ≤ val a b ∧ val a b < 340282366920938463463374607431768211456 := by unfold val; omega
    obtain ⟨r0, r1, r2⟩ := rootZ_spec hv.1
    have r3 := rootZ_le hv.1 hv.2
    refine ⟨rfl, IvsB.ok (by simp only [wroot_ivs, IvsB, Cv.int, and_true]; omega), ?_, ?_⟩
    · simp only [wroot_sem, wroot_sp, Fits, and_true]; omega
    · simp only [wroot_sem, wroot_sp, IsU, wroot_tree, wroot_M47, mul_sem, wroot_M51, less_sem, wroot_M74, len64_sem, Tree.den, LE.den, Cv.list, placeA, List.getElem?_cons_zero, List.getElem?_cons_succ, IE.den, BE.den, At.den, CA.den, Env.get, Cv.int, Cv.bool, List.cons_append, List.nil_append, List.map_cons, List.map_nil, bindRes, bindEq, Fits, SV.den, denL, place, placeL, eq_t, eq_f, lt_t, lt_f, le_t, le_f, beq_iff_eq, beq_eq_false_iff_ne, ne_eq, reduceCtorEq, b_dec, decide_eq_true_eq, decide_eq_false_iff_not, Bool.not_eq_false', Bool.or_eq_true, Bool.or_eq_false_iff, Bool.and_eq_false_iff, true_iff, false_iff, Bool.false_eq_true, Bool.not_eq_true', Bool.and_eq_true, Bool.not_true, Bool.not_false, List.cons.injEq, Cv.i.injEq, Cv.b.injEq, and_true, true_and, agg_inj, tup_inj, Value.int.injEq, Value.bool.injEq]
      refine ⟨by omega, fun n hn _ _ => ⟨fun h0 m hm q hq => ⟨rootI (val a b), rootM, ?_, ?_, ?_⟩, fun h0 => ⟨rootI (val a b), rootM, ?_, ?_, ?_⟩⟩⟩
      · have := or_le (x := 4294967295) (y := m) (by omega) (by omega) (by omega) (by omega)
        omega
      · have ha : a = 0 := by
          refine Decidable.byContradiction fun c => ?_
          obtain ⟨q1, _, _⟩ := Lib.bitLenAux_bounds 64 a.toNat (by omega) (by omega)
          unfold Lib.bitLen at hn
          omega
        have := or_le (x := 4294967295) (y := m) (by omega) (by omega) (by omega) (by omega)
        have h5 := rootZ_small (v := val a b) hv.1 (by unfold val; omega)
        simp only [rootI]
        omega
      rotate_left
      · omega
      · simp only [rootI]
        omega
      all_goals
        intro lo l0 l1 hi g0 g1 hI
        simp only [rootI] at hI
        refine ⟨fun e => by omega, fun ne d hd e he mid hmid => ?_⟩
        rw [wu64 (by omega) (by omega)] at hd
        rw [wu64 (by omega) (by omega)] at hmid
        refine ⟨by omega, ?_⟩
        intro ph hph _ _ pl hpl _ _
        have hval : val ph pl = mid * mid := by unfold val; omega
        have hle := le_rootZ (v := val a b) (s := mid) (by omega) hv.1
        simp only [rootI, rootM]
        rw [hval]
        refine ⟨by omega, fun hn => ?_, fun hs z hz => ?_⟩
        · have := hle.2 (by omega); omega
        · have : ¬ mid ≤ rootZ (val a b) := fun h => by have := hle.1 h; omega
          rw [wu64 (by omega) (by omega)] at hz
          omega

def wsquare_sp : SpecSh := { args := [(.agg [(.int .u64 (.z 0)), (.int .u64 (.z 0))])], res := (.bool .f), sh := [.b] }
set_option maxRecDepth 100000 in
def wsquare_tree : Tree :=
.call 55 [.i (some (0, 18446744073709551615))] [.i (.v 0), .i (.v 1)] <|
.call 47 [.i (some (0, 18446744073709551615)), .i (some (0, 18446744073709551615))] [.i (.v 2), .i (.v 2)] <|
.ret (.bool (.and (.cmp .eq (.v 3) (.v 0)) (.cmp .eq (.v 4) (.v 1))))
noncomputable def wsquare_cx : Ctx := { tys := tys, fns := fns, mets := mets, sps := [(55, wroot_sp), (47, mul_sp)], anns := [], trys := [] }
def wsquare_ivs : List (Option (Int × Int)) := [some (0, 18446744073709551615), some (0, 18446744073709551615)]
set_option maxRecDepth 100000 in
theorem wsquare_walk : runFn wsquare_cx 3000 75 Tryz.f75 wsquare_sp.args wsquare_ivs = wsquare_tree := by kernel_rfl
noncomputable def wsquare_M : Nat → SpecSem
  | 55 => wroot_sem
  | 47 => mul_sem
  | _ => noSem
theorem wsquare_M55 : wsquare_M 55 = wroot_sem := rfl
theorem wsquare_M47 : wsquare_M 47 = mul_sem := rfl
theorem wsquare_cxok : CxOK Tryz.prog wsquare_cx wsquare_M := ⟨tysOK, fnsOK, spCons wroot_ok <| spCons mul_ok <| fun _ _ h => spNil h, mixedOK, fun _ _ h => trNil h, fun _ _ h => atNil h, metsOK⟩

def wsquare_sem : SpecSem := { pre := fun cs => match cs with | [.i a, .i b] => IsU a ∧ IsU b | _ => False, out := fun cs => match cs with | [.i a, .i b] => [.b (decide (rootZ (val a b) * rootZ (val a b) = val a b))] | _ => [] }
theorem wsquare_ok : SpecOK Tryz.prog 75 wsquare_sp wsquare_sem := by
  refine spec_of_tree wsquare_cxok Tryz.func75 (by kernel_rfl) (by kernel_rfl) wsquare_walk rfl ?_
  intro cs hpre
  match cs, hpre with
  | [.i a, .i b], ⟨⟨h1, h2⟩, ⟨h3, h4⟩⟩ =>
    have hv : 0 ≤ val a b ∧ val a b < 340282366920938463463374607431768211456 := by unfold val; omega
    have r3 := rootZ_le hv.1 hv.2
    have r4 := rootZ_spec hv.1
    refine ⟨rfl, IvsB.ok (by simp only [wsquare_ivs, IvsB, Cv.int, and_true]; omega), ?_, ?_⟩
    · simp only [wsquare_sem, wsquare_sp, Fits]
    · simp only [wsquare_sem, wsquare_sp, IsU, wsquare_tree, wsquare_M55, wroot_sem, wsquare_M47, mul_sem, Tree.den, LE.den, Cv.list, placeA, List.getElem?_cons_zero, List.getElem?_cons_succ, IE.den, BE.den, At.den, CA.den, Env.get, Cv.int, Cv.bool, List.cons_append, List.nil_append, List.map_cons, List.map_nil, bindRes, bindEq, Fits, SV.den, denL, place, placeL, eq_t, eq_f, lt_t, lt_f, le_t, le_f, beq_iff_eq, beq_eq_false_iff_ne, ne_eq, reduceCtorEq, b_dec, decide_eq_true_eq, decide_eq_false_iff_not, Bool.not_eq_false', Bool.or_eq_true, Bool.or_eq_false_iff, Bool.and_eq_false_iff, true_iff, false_iff, Bool.false_eq_true, Bool.not_eq_true', Bool.and_eq_true, Bool.not_true, Bool.not_false, List.cons.injEq, Cv.i.injEq, Cv.b.injEq, and_true, true_and, agg_inj, tup_inj, Value.int.injEq, Value.bool.injEq]
      refine ⟨by omega, fun s hs _ _ => ⟨by omega, ?_⟩⟩
      subst hs
      intro ph hph _ _ pl hpl _ _
      unfold val at *
      omega
def wup_sp : SpecSh := { args := [(.agg [(.int .u64 (.z 0)), (.int .u64 (.z 0))])], res := (.agg [(.int .u64 (.z 0)), (.int .u64 (.z 0))]), sh := [.i (some (0, 18446744073709551615)), .i (some (0, 18446744073709551615))] }
set_option maxRecDepth 100000 in
def wup_tree : Tree :=
.call 55 [.i (some (0, 18446744073709551615))] [.i (.v 0), .i (.v 1)] <|
.call 75 [.b] [.i (.v 0), .i (.v 1)] <|
.ite (.not (.v 3)) (.call 48 [.i (some (0, 18446744073709551615)), .i (some (0, 18446744073709551615)), .b] [.i (.z 0), .i (.v 2), .i (.z 0), .i (.z 1)] <|
.ret (.agg [(.int .u64 (.v 4)), (.int .u64 (.v 5))])) <|
.ret (.agg [(.int .u64 (.z 0)), (.int .u64 (.v 2))])
noncomputable def wup_cx : Ctx := { tys := tys, fns := fns, mets := mets, sps := [(55, wroot_sp), (75, wsquare_sp), (48, wadd_sp)], anns := [], trys := [] }
def wup_ivs : List (Option (Int × Int)) := [some (0, 18446744073709551615), some (0, 18446744073709551615)]
set_option maxRecDepth 100000 in
theorem wup_walk : runFn wup_cx 3000 56 Tryz.f56 wup_sp.args wup_ivs = wup_tree := by kernel_rfl
noncomputable def wup_M : Nat → SpecSem
  | 55 => wroot_sem
  | 75 => wsquare_sem
  | 48 => wadd_sem
  | _ => noSem
theorem wup_M55 : wup_M 55 = wroot_sem := rfl
theorem wup_M75 : wup_M 75 = wsquare_sem := rfl
theorem wup_M48 : wup_M 48 = wadd_sem := rfl
theorem wup_cxok : CxOK Tryz.prog wup_cx wup_M := ⟨tysOK, fnsOK, spCons wroot_ok <| spCons wsquare_ok <| spCons wadd_ok <| fun _ _ h => spNil h, mixedOK, fun _ _ h => trNil h, fun _ _ h => atNil h, metsOK⟩

def upZ (v : Int) : Int := if rootZ v * rootZ v = v then rootZ v else rootZ v + 1
def wup_sem : SpecSem := { pre := fun cs => match cs with | [.i a, .i b] => IsU a ∧ IsU b | _ => False, out := fun cs => match cs with | [.i a, .i b] => [.i (upZ (val a b) / 18446744073709551616), .i (upZ (val a b) % 18446744073709551616)] | _ => [] }
theorem wup_ok : SpecOK Tryz.prog 56 wup_sp wup_sem := by
  refine spec_of_tree wup_cxok Tryz.func56 (by kernel_rfl) (by kernel_rfl) wup_walk rfl ?_
  intro cs hpre
  match cs, hpre with
  | [.i a, .i b], ⟨⟨h1, h2⟩, ⟨h3, h4⟩⟩ =>
    have hv : 0 ≤ val a b ∧ val a b < 340282366920938463463374607431768211456 := by unfold val; omega
    have r3 := rootZ_le hv.1 hv.2
    have r4 := rootZ_spec hv.1
    refine ⟨rfl, IvsB.ok (by simp only [wup_ivs, IvsB, Cv.int, and_true]; omega), ?_, ?_⟩
    · simp only [wup_sem, wup_sp, Fits, and_true, upZ]; split <;> omega
    · simp only [wup_sem, wup_sp, IsU, upZ, wup_tree, wup_M55, wroot_sem, wup_M75, wsquare_sem, wup_M48, wadd_sem, Tree.den, LE.den, Cv.list, placeA, List.getElem?_cons_zero, List.getElem?_cons_succ, IE.den, BE.den, At.den, CA.den, Env.get, Cv.int, Cv.bool, List.cons_append, List.nil_append, List.map_cons, List.map_nil, bindRes, bindEq, Fits, SV.den, denL, place, placeL, eq_t, eq_f, lt_t, lt_f, le_t, le_f, beq_iff_eq, beq_eq_false_iff_ne, ne_eq, reduceCtorEq, b_dec, decide_eq_true_eq, decide_eq_false_iff_not, Bool.not_eq_false', Bool.or_eq_true, Bool.or_eq_false_iff, Bool.and_eq_false_iff, true_iff, false_iff, Bool.false_eq_true, Bool.not_eq_true', Bool.and_eq_true, Bool.not_true, Bool.not_false, List.cons.injEq, Cv.i.injEq, Cv.b.injEq, and_true, true_and, agg_inj, tup_inj, Value.int.injEq, Value.bool.injEq]
      generalize rootZ (val a b) = s at *
      by_cases hsq : s * s = val a b
      · simp only [if_pos hsq, hsq, if_true, if_false, true_and, and_true, false_and, and_false, true_or, or_true, false_or, or_false, true_iff, iff_true, false_iff, iff_false, not_true_eq_false, not_false_eq_true, true_implies, false_implies, implies_true, forall_const, decide_true, decide_false, reduceCtorEq]
        (repeat' (first | intro _ | refine And.intro ?_ ?_ | exact trivial)) <;> omega
      · simp only [if_neg hsq, hsq, val, if_true, if_false, true_and, and_true, false_and, and_false, true_or, or_true, false_or, or_false, true_iff, iff_true, false_iff, iff_false, not_true_eq_false, not_false_eq_true, true_implies, false_implies, implies_true, forall_const, decide_true, decide_false, reduceCtorEq]
        (repeat' (first | intro _ | refine And.intro ?_ ?_ | exact trivial)) <;> omega
theorem rootZ_mono {u v : Int} (hu : 0 ≤ u) (h : u ≤ v) : rootZ u ≤ rootZ v := by
  obtain ⟨g0, g1, g2⟩ := rootZ_spec hu
  exact (le_rootZ g0 (by omega)).2 (by omega)
theorem upZ_mono {u v : Int} (hu : 0 ≤ u) (h : u ≤ v) : upZ u ≤ upZ v := by
  have hm := rootZ_mono hu h
  obtain ⟨g0, g1, g2⟩ := rootZ_spec hu
  obtain ⟨k0, k1, k2⟩ := rootZ_spec (v := v) (by omega)
  unfold upZ
  split <;> split <;> first | omega | skip
  rename_i c1 c2
  refine Decidable.byContradiction fun c => ?_
  have e : rootZ u = rootZ v := by omega
  rw [e] at c1 g1
  omega
theorem upZ_rng {v : Int} (hv : 0 ≤ v) (h : v < 340282366920938463463374607431768211456) : 0 ≤ upZ v ∧ upZ v ≤ 18446744073709551616 := by
  have := rootZ_le hv h
  obtain ⟨g0, g1, g2⟩ := rootZ_spec hv
  unfold upZ; split <;> omega
end Go.Proofs.YtglpelnaeipenaaGreat.X
