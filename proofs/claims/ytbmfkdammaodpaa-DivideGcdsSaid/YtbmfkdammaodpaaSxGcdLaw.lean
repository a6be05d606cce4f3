/-
  DivideGcds and DivideCommon tell true, for every input; the contracts of divide.Lowest and of the reference's divisors.
-/
import Derived.Test.YtbmfkdammaodpaaSxGcd
import Derived.Test.YtbmfkdammaodpaaSxDivTells
namespace Go.Proofs.Ytbmfkdammaodpaa.X
open Go Go.SX Go.RowKit
set_option linter.unusedVariables false
set_option linter.unusedSimpArgs false






theorem gcdZ_nat (a b : Nat) : gcdZ (a : Int) (b : Int) = (Nat.gcd a b : Int) := by simp [gcdZ]
theorem gcdZ_comm (u v : Int) : gcdZ u v = gcdZ v u := by unfold gcdZ; rw [Nat.gcd_comm]
theorem gcdZ_mul {u v k : Int} (hu : 0 ≤ u) (hv : 0 ≤ v) (hk : 0 ≤ k) : gcdZ (u * k) (v * k) = gcdZ u v * k := by
  obtain ⟨a, rfl⟩ := Int.eq_ofNat_of_zero_le hu
  obtain ⟨b, rfl⟩ := Int.eq_ofNat_of_zero_le hv
  obtain ⟨c, rfl⟩ := Int.eq_ofNat_of_zero_le hk
  rw [← Int.natCast_mul, ← Int.natCast_mul, gcdZ_nat, gcdZ_nat, ← Int.natCast_mul, Nat.gcd_mul_right]
theorem gcdZ_eq_zero {u v : Int} (hu : 0 ≤ u) (hv : 0 ≤ v) : gcdZ u v = 0 ↔ u = 0 ∧ v = 0 := by
  obtain ⟨a, rfl⟩ := Int.eq_ofNat_of_zero_le hu
  obtain ⟨b, rfl⟩ := Int.eq_ofNat_of_zero_le hv
  rw [gcdZ_nat]
  have := Nat.gcd_eq_zero_iff (i := a) (j := b)
  omega
theorem gcdZ_nonneg (u v : Int) : 0 ≤ gcdZ u v := by unfold gcdZ; omega
theorem gcdZ_dvd {u v : Int} (hu : 0 ≤ u) (hv : 0 ≤ v) : u % gcdZ u v = 0 ∧ v % gcdZ u v = 0 := by
  obtain ⟨a, rfl⟩ := Int.eq_ofNat_of_zero_le hu
  obtain ⟨b, rfl⟩ := Int.eq_ofNat_of_zero_le hv
  rw [gcdZ_nat]
  have h1 := Nat.mod_eq_zero_of_dvd (Nat.gcd_dvd_left a b)
  have h2 := Nat.mod_eq_zero_of_dvd (Nat.gcd_dvd_right a b)
  exact ⟨by exact_mod_cast h1, by exact_mod_cast h2⟩
theorem gcdZ_div {u v : Int} (hu : 0 ≤ u) (hv : 0 ≤ v) (hg : gcdZ u v ≠ 0) : gcdZ (u / gcdZ u v) (v / gcdZ u v) = 1 := by
  obtain ⟨a, rfl⟩ := Int.eq_ofNat_of_zero_le hu
  obtain ⟨b, rfl⟩ := Int.eq_ofNat_of_zero_le hv
  rw [gcdZ_nat] at *
  rw [← Int.natCast_ediv, ← Int.natCast_ediv, gcdZ_nat]
  have : Nat.gcd (a / Nat.gcd a b) (b / Nat.gcd a b) = 1 := by
    rw [Nat.gcd_div (Nat.gcd_dvd_left a b) (Nat.gcd_dvd_right a b)]
    exact Nat.div_self (by omega)
  omega
/-- what is left of two, by what divides both -/
def lowX (u v : Int) : Int := if v = 0 then 0 else u / gcdZ u v
def lowY (u v : Int) : Int := if v = 0 then 0 else v / gcdZ u v
theorem low_rng {u v : Int} (hu : 0 ≤ u ∧ u < 340282366920938463463374607431768211456) (hv : 0 ≤ v ∧ v < 340282366920938463463374607431768211456) : (0 ≤ lowX u v ∧ lowX u v < 340282366920938463463374607431768211456) ∧ (0 ≤ lowY u v ∧ lowY u v < 340282366920938463463374607431768211456) := by
  have hg := gcdZ_nonneg u v
  unfold lowX lowY
  split
  · omega
  · have h1 := Int.ediv_nonneg hu.1 hg
    have h2 := Int.ediv_nonneg hv.1 hg
    have h3 := Int.ediv_le_self (a := u) (gcdZ u v) hu.1
    have h4 := Int.ediv_le_self (a := v) (gcdZ u v) hv.1
    omega
theorem val_split (g : Int) (h : 0 ≤ g ∧ g < 340282366920938463463374607431768211456) (g1 g0 : Int) (h1 : g1 = g / 18446744073709551616) (h0 : g0 = g % 18446744073709551616) : val g1 g0 = g := by
  unfold val; omega
def glow_sp : SpecSh := { args := [(.agg [(.int .u64 (.z 0)), (.int .u64 (.z 0))]), (.agg [(.int .u64 (.z 0)), (.int .u64 (.z 0))])], res := (.tup [(.agg [(.int .u64 (.z 0)), (.int .u64 (.z 0))]), (.agg [(.int .u64 (.z 0)), (.int .u64 (.z 0))]), (.int .i64 (.z 0))]), sh := [.i (some (0, 18446744073709551615)), .i (some (0, 18446744073709551615)), .i (some (0, 18446744073709551615)), .i (some (0, 18446744073709551615)), .i (some ((-9223372036854775808), 9223372036854775807))] }
set_option maxRecDepth 100000 in
def glow_tree : Tree :=
.ite (.and (.cmp .eq (.v 2) (.z 0)) (.cmp .eq (.v 3) (.z 0))) (.ret (.tup [(.agg [(.int .u64 (.z 0)), (.int .u64 (.z 0))]), (.agg [(.int .u64 (.z 0)), (.int .u64 (.z 0))]), (.int .i64 (.z 4))])) <|
.call 30 [.i (some (0, 18446744073709551615)), .i (some (0, 18446744073709551615))] [.i (.v 0), .i (.v 1), .i (.v 2), .i (.v 3)] <|
.call 27 [.i (some (0, 18446744073709551615)), .i (some (0, 18446744073709551615)), .i (some (0, 18446744073709551615)), .i (some (0, 18446744073709551615)), .i (some ((-9223372036854775808), 9223372036854775807))] [.i (.v 0), .i (.v 1), .i (.v 4), .i (.v 5)] <|
.call 27 [.i (some (0, 18446744073709551615)), .i (some (0, 18446744073709551615)), .i (some (0, 18446744073709551615)), .i (some (0, 18446744073709551615)), .i (some ((-9223372036854775808), 9223372036854775807))] [.i (.v 2), .i (.v 3), .i (.v 4), .i (.v 5)] <|
.ret (.tup [(.agg [(.int .u64 (.v 6)), (.int .u64 (.v 7))]), (.agg [(.int .u64 (.v 11)), (.int .u64 (.v 12))]), (.int .i64 (.z 0))])
noncomputable def glow_cx : Ctx := { tys := tys, fns := fns, sps := [(30, ggcd_sp), (27, wdiv_sp)], anns := [], trys := [] }
def glow_ivs : List (Option (Int × Int)) := [some (0, 18446744073709551615), some (0, 18446744073709551615), some (0, 18446744073709551615), some (0, 18446744073709551615)]
set_option maxRecDepth 100000 in
theorem glow_walk : runFn glow_cx 3000 31 Try.f31 glow_sp.args glow_ivs = glow_tree := by kernel_rfl
noncomputable def glow_M : Nat → SpecSem
  | 30 => ggcd_sem
  | 27 => wdiv_sem
  | _ => noSem
theorem glow_M30 : glow_M 30 = ggcd_sem := rfl
theorem glow_M27 : glow_M 27 = wdiv_sem := rfl
theorem glow_cxok : CxOK Try.prog glow_cx glow_M := ⟨tysOK, fnsOK, spCons ggcd_ok <| spCons wdiv_ok <| fun _ _ h => spNil h, mixedOK, fun _ _ h => trNil h⟩

def glow_sem : SpecSem := { pre := fun cs => match cs with | [.i a, .i b, .i c, .i d] => IsU a ∧ IsU b ∧ IsU c ∧ IsU d | _ => False, out := fun cs => match cs with | [.i a, .i b, .i c, .i d] => [.i (lowX (val a b) (val c d) / 18446744073709551616), .i (lowX (val a b) (val c d) % 18446744073709551616), .i (lowY (val a b) (val c d) / 18446744073709551616), .i (lowY (val a b) (val c d) % 18446744073709551616), .i (if val c d = 0 then 4 else 0)] | _ => [] }
theorem glow_ok : SpecOK Try.prog 31 glow_sp glow_sem := by
  refine spec_of_tree glow_cxok Try.func31 (by kernel_rfl) (by kernel_rfl) glow_walk rfl ?_
  intro cs hpre
  match cs, hpre with
  | [.i a, .i b, .i c, .i d], ⟨⟨h1, h2⟩, ⟨h3, h4⟩, ⟨h5, h6⟩, ⟨h7, h8⟩⟩ =>
    have hab : 0 ≤ val a b ∧ val a b < 340282366920938463463374607431768211456 := by unfold val; omega
    have hcd : 0 ≤ val c d ∧ val c d < 340282366920938463463374607431768211456 := by unfold val; omega
    obtain ⟨⟨l1, l2⟩, ⟨l3, l4⟩⟩ := low_rng hab hcd
    have hg := gcdZ_rng hab hcd
    refine ⟨rfl, IvsB.ok (by simp only [glow_ivs, IvsB, Cv.int, and_true]; omega), ?_, ?_⟩
    · simp only [glow_sem, glow_sp, Fits, and_true]; split <;> omega
    · simp only [glow_sem, glow_sp, IsU, divQ, divR, glow_tree, glow_M30, ggcd_sem, glow_M27, wdiv_sem, Tree.den, List.getElem?_cons_zero, List.getElem?_cons_succ, IE.den, BE.den, At.den, CA.den, Env.get, Cv.int, Cv.bool, List.cons_append, List.nil_append, List.map_cons, List.map_nil, bindRes, bindEq, Fits, SV.den, denL, place, placeL, eq_t, eq_f, lt_t, lt_f, le_t, le_f, beq_iff_eq, beq_eq_false_iff_ne, ne_eq, reduceCtorEq, b_dec, decide_eq_true_eq, decide_eq_false_iff_not, Bool.not_eq_false', Bool.or_eq_true, Bool.or_eq_false_iff, Bool.and_eq_false_iff, true_iff, false_iff, Bool.false_eq_true, Bool.not_eq_true', Bool.and_eq_true, Bool.not_true, Bool.not_false, List.cons.injEq, Cv.i.injEq, Cv.b.injEq, and_true, true_and, agg_inj, tup_inj, Value.int.injEq, Value.bool.injEq]
      refine ⟨fun hz => ?_, fun hz => ⟨by omega, ?_⟩⟩
      · have : val c d = 0 := by unfold val; omega
        unfold lowX lowY
        simp only [this, if_true, if_true, if_false, true_and, and_true, false_and, and_false, true_or, or_true, false_or, or_false, true_iff, iff_true, false_iff, iff_false, not_true_eq_false, not_false_eq_true, true_implies, false_implies, implies_true, forall_const, decide_true, decide_false, reduceCtorEq]
        omega
      · have hz' : val c d ≠ 0 := fun h => by unfold val at h; omega
        have hg0 : gcdZ (val a b) (val c d) ≠ 0 := fun h => hz' ((gcdZ_eq_zero hab.1 hcd.1).1 h).2
        intro g1 hg1 _ _ g0 hgg0 _ _
        have hv := val_split _ hg g1 g0 hg1 hgg0
        unfold lowX lowY
        simp only [hz', hv, hg0, if_false, if_true, if_false, true_and, and_true, false_and, and_false, true_or, or_true, false_or, or_false, true_iff, iff_true, false_iff, iff_false, not_true_eq_false, not_false_eq_true, true_implies, false_implies, implies_true, forall_const, decide_true, decide_false, reduceCtorEq]
        (repeat' (first | intro _ | refine And.intro ?_ ?_ | exact trivial)) <;> omega
/-- what has been done so far leaves what divides both as it was -/
def rgI (g : Int) : List Cv → Prop := fun l => match l with
  | [.i x1, .i x0, .i y1, .i y0] => gcdZ (val x1 x0) (val y1 y0) = g
  | _ => False
def rgM : List Cv → Nat := fun l => match l with | [.i _, .i _, .i y1, .i y0] => (val y1 y0).toNat | _ => 0
def rgcd_sp : SpecSh := { args := [(.agg [(.int .u64 (.z 0)), (.int .u64 (.z 0))]), (.agg [(.int .u64 (.z 0)), (.int .u64 (.z 0))])], res := (.agg [(.int .u64 (.z 0)), (.int .u64 (.z 0))]), sh := [.i (some (0, 18446744073709551615)), .i (some (0, 18446744073709551615))] }
set_option maxRecDepth 100000 in
def rgcd_tree : Tree :=
.loop [.i (some (0, 18446744073709551615)), .i (some (0, 18446744073709551615)), .i (some (0, 18446744073709551615)), .i (some (0, 18446744073709551615))] [.i (.v 0), .i (.v 1), .i (.v 2), .i (.v 3)] <|
.ite (.not (.and (.cmp .eq (.v 6) (.z 0)) (.cmp .eq (.v 7) (.z 0)))) (.call 29 [.i (some (0, 18446744073709551615)), .i (some (0, 18446744073709551615)), .i (some (0, 18446744073709551615)), .i (some (0, 18446744073709551615))] [.i (.v 4), .i (.v 5), .i (.v 6), .i (.v 7)] <|
.again 0 [.i (.v 6), .i (.v 7), .i (.v 10), .i (.v 11)]) <|
.ret (.agg [(.int .u64 (.v 4)), (.int .u64 (.v 5))])
noncomputable def rgcd_cx : Ctx := { tys := tys, fns := fns, sps := [(29, rdiv_sp)], anns := [((32, 2), { slots := [], cells := [(0, 0), (0, 1), (1, 0), (1, 1)], ivs := [some (0, 18446744073709551615), some (0, 18446744073709551615), some (0, 18446744073709551615), some (0, 18446744073709551615)] })], trys := [] }
def rgcd_ivs : List (Option (Int × Int)) := [some (0, 18446744073709551615), some (0, 18446744073709551615), some (0, 18446744073709551615), some (0, 18446744073709551615)]
set_option maxRecDepth 100000 in
theorem rgcd_walk : runFn rgcd_cx 3000 32 Try.f32 rgcd_sp.args rgcd_ivs = rgcd_tree := by kernel_rfl
noncomputable def rgcd_M : Nat → SpecSem
  | 29 => rdiv_sem
  | _ => noSem
theorem rgcd_M29 : rgcd_M 29 = rdiv_sem := rfl
theorem rgcd_cxok : CxOK Try.prog rgcd_cx rgcd_M := ⟨tysOK, fnsOK, spCons rdiv_ok <| fun _ _ h => spNil h, mixedOK, fun _ _ h => trNil h⟩

def rgcd_sem : SpecSem := ggcd_sem
theorem rgcd_ok : SpecOK Try.prog 32 rgcd_sp rgcd_sem := by
  refine spec_of_tree rgcd_cxok Try.func32 (by kernel_rfl) (by kernel_rfl) rgcd_walk rfl ?_
  intro cs hpre
  match cs, hpre with
  | [.i a, .i b, .i c, .i d], ⟨⟨h1, h2⟩, ⟨h3, h4⟩, ⟨h5, h6⟩, ⟨h7, h8⟩⟩ =>
    have hab : 0 ≤ val a b ∧ val a b < 340282366920938463463374607431768211456 := by unfold val; omega
    have hcd : 0 ≤ val c d ∧ val c d < 340282366920938463463374607431768211456 := by unfold val; omega
    have hg := gcdZ_rng hab hcd
    refine ⟨rfl, IvsB.ok (by simp only [rgcd_ivs, IvsB, Cv.int, and_true]; omega), ?_, ?_⟩
    · simp only [rgcd_sem, ggcd_sem, rgcd_sp, Fits, and_true]; omega
    · simp only [rgcd_sem, ggcd_sem, rgcd_sp, IsU, divQ, divR, rgcd_tree, rgcd_M29, rdiv_sem, Tree.den, List.getElem?_cons_zero, List.getElem?_cons_succ, IE.den, BE.den, At.den, CA.den, Env.get, Cv.int, Cv.bool, List.cons_append, List.nil_append, List.map_cons, List.map_nil, bindRes, bindEq, Fits, SV.den, denL, place, placeL, eq_t, eq_f, lt_t, lt_f, le_t, le_f, beq_iff_eq, beq_eq_false_iff_ne, ne_eq, reduceCtorEq, b_dec, decide_eq_true_eq, decide_eq_false_iff_not, Bool.not_eq_false', Bool.or_eq_true, Bool.or_eq_false_iff, Bool.and_eq_false_iff, true_iff, false_iff, Bool.false_eq_true, Bool.not_eq_true', Bool.and_eq_true, Bool.not_true, Bool.not_false, List.cons.injEq, Cv.i.injEq, Cv.b.injEq, and_true, true_and, agg_inj, tup_inj, Value.int.injEq, Value.bool.injEq]
      refine ⟨rgI (gcdZ (val a b) (val c d)), rgM, by omega, rfl, ?_⟩
      intro x1 _ _ x0 _ _ y1 _ _ y0 _ _ hI
      simp only [rgI] at hI
      have hx : 0 ≤ val x1 x0 := by unfold val; omega
      have hy : 0 ≤ val y1 y0 := by unfold val; omega
      refine ⟨fun hy0 => ?_, fun hy0 => ?_⟩
      · have hyp : 1 ≤ val y1 y0 := by unfold val; omega
        refine ⟨by omega, ?_⟩
        intro q1 hq1 _ _ q0 hq0 _ _ r1 hr1 _ _ r0 hr0 _ _
        rw [if_neg (by omega)] at hr1 hr0
        have hm0 := Int.emod_nonneg (val x1 x0) (b := val y1 y0) (by omega)
        have hm1 := Int.emod_lt_of_pos (val x1 x0) (b := val y1 y0) (by omega)
        have hyl : val y1 y0 < 340282366920938463463374607431768211456 := by unfold val; omega
        have hr := val_split _ ⟨hm0, by omega⟩ r1 r0 hr1 hr0
        refine ⟨by omega, ?_, ?_⟩
        · simp only [rgI]
          rw [hr, gcdZ_step hx (by omega), hI]
        · simp only [rgM]
          rw [hr]; omega
      · have hz : val y1 y0 = 0 := by unfold val; omega
        rw [hz, gcdZ_zero hx] at hI
        rw [← hI]
        unfold val; omega
def rlow_sp : SpecSh := { args := [(.agg [(.int .u64 (.z 0)), (.int .u64 (.z 0))]), (.agg [(.int .u64 (.z 0)), (.int .u64 (.z 0))])], res := (.tup [(.agg [(.int .u64 (.z 0)), (.int .u64 (.z 0))]), (.agg [(.int .u64 (.z 0)), (.int .u64 (.z 0))])]), sh := [.i (some (0, 18446744073709551615)), .i (some (0, 18446744073709551615)), .i (some (0, 18446744073709551615)), .i (some (0, 18446744073709551615))] }
set_option maxRecDepth 100000 in
def rlow_tree : Tree :=
.call 32 [.i (some (0, 18446744073709551615)), .i (some (0, 18446744073709551615))] [.i (.v 0), .i (.v 1), .i (.v 2), .i (.v 3)] <|
.call 29 [.i (some (0, 18446744073709551615)), .i (some (0, 18446744073709551615)), .i (some (0, 18446744073709551615)), .i (some (0, 18446744073709551615))] [.i (.v 0), .i (.v 1), .i (.v 4), .i (.v 5)] <|
.call 29 [.i (some (0, 18446744073709551615)), .i (some (0, 18446744073709551615)), .i (some (0, 18446744073709551615)), .i (some (0, 18446744073709551615))] [.i (.v 2), .i (.v 3), .i (.v 4), .i (.v 5)] <|
.ret (.tup [(.agg [(.int .u64 (.v 6)), (.int .u64 (.v 7))]), (.agg [(.int .u64 (.v 10)), (.int .u64 (.v 11))])])
noncomputable def rlow_cx : Ctx := { tys := tys, fns := fns, sps := [(32, rgcd_sp), (29, rdiv_sp)], anns := [], trys := [] }
def rlow_ivs : List (Option (Int × Int)) := [some (0, 18446744073709551615), some (0, 18446744073709551615), some (0, 18446744073709551615), some (0, 18446744073709551615)]
set_option maxRecDepth 100000 in
theorem rlow_walk : runFn rlow_cx 3000 33 Try.f33 rlow_sp.args rlow_ivs = rlow_tree := by kernel_rfl
noncomputable def rlow_M : Nat → SpecSem
  | 32 => rgcd_sem
  | 29 => rdiv_sem
  | _ => noSem
theorem rlow_M32 : rlow_M 32 = rgcd_sem := rfl
theorem rlow_M29 : rlow_M 29 = rdiv_sem := rfl
theorem rlow_cxok : CxOK Try.prog rlow_cx rlow_M := ⟨tysOK, fnsOK, spCons rgcd_ok <| spCons rdiv_ok <| fun _ _ h => spNil h, mixedOK, fun _ _ h => trNil h⟩

def rlow_sem : SpecSem := { pre := fun cs => match cs with | [.i a, .i b, .i c, .i d] => IsU a ∧ IsU b ∧ IsU c ∧ IsU d ∧ 1 ≤ val c d | _ => False, out := fun cs => match cs with | [.i a, .i b, .i c, .i d] => [.i (lowX (val a b) (val c d) / 18446744073709551616), .i (lowX (val a b) (val c d) % 18446744073709551616), .i (lowY (val a b) (val c d) / 18446744073709551616), .i (lowY (val a b) (val c d) % 18446744073709551616)] | _ => [] }
theorem rlow_ok : SpecOK Try.prog 33 rlow_sp rlow_sem := by
  refine spec_of_tree rlow_cxok Try.func33 (by kernel_rfl) (by kernel_rfl) rlow_walk rfl ?_
  intro cs hpre
  match cs, hpre with
  | [.i a, .i b, .i c, .i d], ⟨⟨h1, h2⟩, ⟨h3, h4⟩, ⟨h5, h6⟩, ⟨h7, h8⟩, hz⟩ =>
    have hab : 0 ≤ val a b ∧ val a b < 340282366920938463463374607431768211456 := by unfold val; omega
    have hcd : 0 ≤ val c d ∧ val c d < 340282366920938463463374607431768211456 := by unfold val; omega
    obtain ⟨⟨l1, l2⟩, ⟨l3, l4⟩⟩ := low_rng hab hcd
    have hg := gcdZ_rng hab hcd
    refine ⟨rfl, IvsB.ok (by simp only [rlow_ivs, IvsB, Cv.int, and_true]; omega), ?_, ?_⟩
    · simp only [rlow_sem, rlow_sp, Fits, and_true]; omega
    · simp only [rlow_sem, rgcd_sem, ggcd_sem, rlow_sp, IsU, divQ, divR, rlow_tree, rlow_M32, rgcd_sem, rlow_M29, rdiv_sem, Tree.den, List.getElem?_cons_zero, List.getElem?_cons_succ, IE.den, BE.den, At.den, CA.den, Env.get, Cv.int, Cv.bool, List.cons_append, List.nil_append, List.map_cons, List.map_nil, bindRes, bindEq, Fits, SV.den, denL, place, placeL, eq_t, eq_f, lt_t, lt_f, le_t, le_f, beq_iff_eq, beq_eq_false_iff_ne, ne_eq, reduceCtorEq, b_dec, decide_eq_true_eq, decide_eq_false_iff_not, Bool.not_eq_false', Bool.or_eq_true, Bool.or_eq_false_iff, Bool.and_eq_false_iff, true_iff, false_iff, Bool.false_eq_true, Bool.not_eq_true', Bool.and_eq_true, Bool.not_true, Bool.not_false, List.cons.injEq, Cv.i.injEq, Cv.b.injEq, and_true, true_and, agg_inj, tup_inj, Value.int.injEq, Value.bool.injEq]
      refine ⟨by omega, ?_⟩
      have hz' : val c d ≠ 0 := by omega
      have hg0 : gcdZ (val a b) (val c d) ≠ 0 := fun h => hz' ((gcdZ_eq_zero hab.1 hcd.1).1 h).2
      intro g1 hg1 _ _ g0 hgg0 _ _
      have hv := val_split _ hg g1 g0 hg1 hgg0
      unfold lowX lowY
      simp only [hz', hv, hg0, if_false, if_true, if_false, true_and, and_true, false_and, and_false, true_or, or_true, false_or, or_false, true_iff, iff_true, false_iff, iff_false, not_true_eq_false, not_false_eq_true, true_implies, false_implies, implies_true, forall_const, decide_true, decide_false, reduceCtorEq]
      (repeat' (first | intro _ | refine And.intro ?_ ?_ | exact trivial)) <;> omega
def ldgcds_sp : SpecSh := { args := [(.agg [(.int .u64 (.z 0)), (.int .u64 (.z 0))]), (.agg [(.int .u64 (.z 0)), (.int .u64 (.z 0))])], res := (.bool .f), sh := [.b] }
set_option maxRecDepth 100000 in
def ldgcds_tree : Tree :=
.call 30 [.i (some (0, 18446744073709551615)), .i (some (0, 18446744073709551615))] [.i (.v 0), .i (.v 1), .i (.v 2), .i (.v 3)] <|
.call 31 [.i (some (0, 18446744073709551615)), .i (some (0, 18446744073709551615)), .i (some (0, 18446744073709551615)), .i (some (0, 18446744073709551615)), .i (some ((-9223372036854775808), 9223372036854775807))] [.i (.v 0), .i (.v 1), .i (.v 2), .i (.v 3)] <|
.call 32 [.i (some (0, 18446744073709551615)), .i (some (0, 18446744073709551615))] [.i (.v 0), .i (.v 1), .i (.v 2), .i (.v 3)] <|
.ite (.not (.and (.cmp .eq (.v 4) (.v 11)) (.cmp .eq (.v 5) (.v 12)))) (.ret (.bool .f)) <|
.call 28 [.b] [] <|
.ite (.not (.v 13)) (.ret (.bool .f)) <|
.ite (.and (.cmp .eq (.v 2) (.z 0)) (.cmp .eq (.v 3) (.z 0))) (.ite (.cmp .eq (.v 10) (.z 4)) (.ite (.and (.cmp .eq (.v 6) (.z 0)) (.cmp .eq (.v 7) (.z 0))) (.ret (.bool (.and (.cmp .eq (.v 8) (.z 0)) (.cmp .eq (.v 9) (.z 0))))) <|
.ret (.bool .f)) <|
.ret (.bool .f)) <|
.call 33 [.i (some (0, 18446744073709551615)), .i (some (0, 18446744073709551615)), .i (some (0, 18446744073709551615)), .i (some (0, 18446744073709551615))] [.i (.v 0), .i (.v 1), .i (.v 2), .i (.v 3)] <|
.ite (.cmp .eq (.v 10) (.z 0)) (.ite (.and (.cmp .eq (.v 6) (.v 14)) (.cmp .eq (.v 7) (.v 15))) (.ret (.bool (.and (.cmp .eq (.v 8) (.v 16)) (.cmp .eq (.v 9) (.v 17))))) <|
.ret (.bool .f)) <|
.ret (.bool .f)
noncomputable def ldgcds_cx : Ctx := { tys := tys, fns := fns, sps := [(30, ggcd_sp), (31, glow_sp), (32, rgcd_sp), (33, rlow_sp), (28, dalive_sp)], anns := [], trys := [] }
def ldgcds_ivs : List (Option (Int × Int)) := [some (0, 18446744073709551615), some (0, 18446744073709551615), some (0, 18446744073709551615), some (0, 18446744073709551615)]
set_option maxRecDepth 100000 in
theorem ldgcds_walk : runFn ldgcds_cx 3000 7 Try.f7 ldgcds_sp.args ldgcds_ivs = ldgcds_tree := by kernel_rfl
noncomputable def ldgcds_M : Nat → SpecSem
  | 30 => ggcd_sem
  | 31 => glow_sem
  | 32 => rgcd_sem
  | 33 => rlow_sem
  | 28 => dalive_sem
  | _ => noSem
theorem ldgcds_M30 : ldgcds_M 30 = ggcd_sem := rfl
theorem ldgcds_M31 : ldgcds_M 31 = glow_sem := rfl
theorem ldgcds_M32 : ldgcds_M 32 = rgcd_sem := rfl
theorem ldgcds_M33 : ldgcds_M 33 = rlow_sem := rfl
theorem ldgcds_M28 : ldgcds_M 28 = dalive_sem := rfl
theorem ldgcds_cxok : CxOK Try.prog ldgcds_cx ldgcds_M := ⟨tysOK, fnsOK, spCons ggcd_ok <| spCons glow_ok <| spCons rgcd_ok <| spCons rlow_ok <| spCons dalive_ok <| fun _ _ h => spNil h, mixedOK, fun _ _ h => trNil h⟩

def ldgcds_sem : SpecSem := { pre := fun cs => match cs with | [.i a, .i b, .i c, .i d] => IsU a ∧ IsU b ∧ IsU c ∧ IsU d | _ => False, out := fun cs => match cs with | [.i a, .i b, .i c, .i d] => [.b true] | _ => [] }
theorem ldgcds_ok : SpecOK Try.prog 7 ldgcds_sp ldgcds_sem := by
  refine spec_of_tree ldgcds_cxok Try.func7 (by kernel_rfl) (by kernel_rfl) ldgcds_walk rfl ?_
  intro cs hpre
  match cs, hpre with
  | [.i a, .i b, .i c, .i d], ⟨⟨h1, h2⟩, ⟨h3, h4⟩, ⟨h5, h6⟩, ⟨h7, h8⟩⟩ =>
    refine ⟨rfl, IvsB.ok (by simp only [ldgcds_ivs, IvsB, Cv.int, and_true]; omega), ?_, ?_⟩
    · simp only [ldgcds_sem, ldgcds_sp, Fits]
    · simp only [ldgcds_sem, rgcd_sem, ggcd_sem, ldgcds_sp, IsU, ldgcds_tree, ldgcds_M30, ggcd_sem, ldgcds_M31, glow_sem, ldgcds_M32, rgcd_sem, ldgcds_M33, rlow_sem, ldgcds_M28, dalive_sem, Tree.den, List.getElem?_cons_zero, List.getElem?_cons_succ, IE.den, BE.den, At.den, CA.den, Env.get, Cv.int, Cv.bool, List.cons_append, List.nil_append, List.map_cons, List.map_nil, bindRes, bindEq, Fits, SV.den, denL, place, placeL, eq_t, eq_f, lt_t, lt_f, le_t, le_f, beq_iff_eq, beq_eq_false_iff_ne, ne_eq, reduceCtorEq, b_dec, decide_eq_true_eq, decide_eq_false_iff_not, Bool.not_eq_false', Bool.or_eq_true, Bool.or_eq_false_iff, Bool.and_eq_false_iff, true_iff, false_iff, Bool.false_eq_true, Bool.not_eq_true', Bool.and_eq_true, Bool.not_true, Bool.not_false, List.cons.injEq, Cv.i.injEq, Cv.b.injEq, and_true, true_and, agg_inj, tup_inj, Value.int.injEq, Value.bool.injEq]
      by_cases hz : val c d = 0
      · have hc0 : c = 0 ∧ d = 0 := by unfold val at hz; omega
        have eX : lowX (val a b) 0 = 0 := if_pos rfl
        have eY : lowY (val a b) 0 = 0 := if_pos rfl
        simp only [hz, eX, eY, if_true]
        (repeat' (first | intro _ | refine And.intro ?_ ?_ | exact trivial)) <;> omega
      · have hD : 1 ≤ val c d := by unfold val at *; omega
        have hcd : ¬ (c = 0 ∧ d = 0) := fun h => hz (by rw [h.1, h.2]; rfl)
        simp only [hz, if_false]
        (repeat' (first | intro _ | refine And.intro ?_ ?_ | exact trivial)) <;> omega
def ldcommon_sp : SpecSh := { args := [(.int .u64 (.z 0)), (.int .u64 (.z 0)), (.int .u64 (.z 0))], res := (.bool .f), sh := [.b] }
set_option maxRecDepth 100000 in
def ldcommon_tree : Tree :=
.lett (.mod (.v 2) (.z 4294967296)) <|
.lett (.add (.v 3) (.z 1)) <|
.lett (.div (.v 0) (.z 8589934592)) <|
.call 25 [.i (some (0, 18446744073709551615)), .i (some (0, 18446744073709551615))] [.i (.v 5), .i (.v 4)] <|
.lett (.div (.v 1) (.z 8589934592)) <|
.call 25 [.i (some (0, 18446744073709551615)), .i (some (0, 18446744073709551615))] [.i (.v 8), .i (.v 4)] <|
.call 30 [.i (some (0, 18446744073709551615)), .i (some (0, 18446744073709551615))] [.i (.v 6), .i (.v 7), .i (.v 9), .i (.v 10)] <|
.lett (.div (.v 0) (.z 8589934592)) <|
.lett (.div (.v 1) (.z 8589934592)) <|
.call 30 [.i (some (0, 18446744073709551615)), .i (some (0, 18446744073709551615))] [.i (.z 0), .i (.v 13), .i (.z 0), .i (.v 14)] <|
.call 23 [.i (some (0, 18446744073709551615)), .i (some (0, 18446744073709551615)), .b] [.i (.v 15), .i (.v 16), .i (.z 0), .i (.v 4)] <|
.ite (.not (.and (.cmp .eq (.v 11) (.v 17)) (.cmp .eq (.v 12) (.v 18)))) (.ret (.bool .f)) <|
.call 30 [.i (some (0, 18446744073709551615)), .i (some (0, 18446744073709551615))] [.i (.v 9), .i (.v 10), .i (.v 6), .i (.v 7)] <|
.ite (.not (.and (.cmp .eq (.v 11) (.v 20)) (.cmp .eq (.v 12) (.v 21)))) (.ret (.bool .f)) <|
.call 28 [.b] [] <|
.ite (.not (.v 22)) (.ret (.bool .f)) <|
.ite (.and (.cmp .eq (.v 11) (.z 0)) (.cmp .eq (.v 12) (.z 0))) (.lett (.div (.v 0) (.z 8589934592)) <|
.ite (.cmp .eq (.v 23) (.z 0)) (.lett (.div (.v 1) (.z 8589934592)) <|
.ret (.bool (.cmp .eq (.v 24) (.z 0)))) <|
.ret (.bool .f)) <|
.call 27 [.i (some (0, 18446744073709551615)), .i (some (0, 18446744073709551615)), .i (some (0, 18446744073709551615)), .i (some (0, 18446744073709551615)), .i (some ((-9223372036854775808), 9223372036854775807))] [.i (.v 6), .i (.v 7), .i (.v 11), .i (.v 12)] <|
.call 27 [.i (some (0, 18446744073709551615)), .i (some (0, 18446744073709551615)), .i (some (0, 18446744073709551615)), .i (some (0, 18446744073709551615)), .i (some ((-9223372036854775808), 9223372036854775807))] [.i (.v 9), .i (.v 10), .i (.v 11), .i (.v 12)] <|
.ite (.cmp .eq (.v 27) (.z 0)) (.ite (.cmp .eq (.v 32) (.z 0)) (.ite (.and (.cmp .eq (.v 25) (.z 0)) (.cmp .eq (.v 26) (.z 0))) (.ite (.and (.cmp .eq (.v 30) (.z 0)) (.cmp .eq (.v 31) (.z 0))) (.call 30 [.i (some (0, 18446744073709551615)), .i (some (0, 18446744073709551615))] [.i (.v 23), .i (.v 24), .i (.v 28), .i (.v 29)] <|
.ret (.bool (.and (.cmp .eq (.v 33) (.z 0)) (.cmp .eq (.v 34) (.z 1))))) <|
.ret (.bool .f)) <|
.ret (.bool .f)) <|
.ret (.bool .f)) <|
.ret (.bool .f)
noncomputable def ldcommon_cx : Ctx := { tys := tys, fns := fns, sps := [(25, mul_sp), (30, ggcd_sp), (27, wdiv_sp), (23, times_sp), (28, dalive_sp)], anns := [], trys := [] }
def ldcommon_ivs : List (Option (Int × Int)) := [some (0, 18446744073709551615), some (0, 18446744073709551615), some (0, 18446744073709551615)]
set_option maxRecDepth 100000 in
theorem ldcommon_walk : runFn ldcommon_cx 3000 9 Try.f9 ldcommon_sp.args ldcommon_ivs = ldcommon_tree := by kernel_rfl
noncomputable def ldcommon_M : Nat → SpecSem
  | 25 => mul_sem
  | 30 => ggcd_sem
  | 27 => wdiv_sem
  | 23 => times_sem
  | 28 => dalive_sem
  | _ => noSem
theorem ldcommon_M25 : ldcommon_M 25 = mul_sem := rfl
theorem ldcommon_M30 : ldcommon_M 30 = ggcd_sem := rfl
theorem ldcommon_M27 : ldcommon_M 27 = wdiv_sem := rfl
theorem ldcommon_M23 : ldcommon_M 23 = times_sem := rfl
theorem ldcommon_M28 : ldcommon_M 28 = dalive_sem := rfl
theorem ldcommon_cxok : CxOK Try.prog ldcommon_cx ldcommon_M := ⟨tysOK, fnsOK, spCons mul_ok <| spCons ggcd_ok <| spCons wdiv_ok <| spCons times_ok <| spCons dalive_ok <| fun _ _ h => spNil h, mixedOK, fun _ _ h => trNil h⟩

def ldcommon_sem : SpecSem := { pre := fun cs => match cs with | [.i a, .i b, .i k] => IsU a ∧ IsU b ∧ IsU k | _ => False, out := fun cs => match cs with | [.i a, .i b, .i k] => [.b true] | _ => [] }
theorem ldcommon_ok : SpecOK Try.prog 9 ldcommon_sp ldcommon_sem := by
  refine spec_of_tree ldcommon_cxok Try.func9 (by kernel_rfl) (by kernel_rfl) ldcommon_walk rfl ?_
  intro cs hpre
  match cs, hpre with
  | [.i a, .i b, .i k], ⟨⟨h1, h2⟩, ⟨h3, h4⟩, ⟨h5, h6⟩⟩ =>
    refine ⟨rfl, IvsB.ok (by simp only [ldcommon_ivs, IvsB, Cv.int, and_true]; omega), ?_, ?_⟩
    · simp only [ldcommon_sem, ldcommon_sp, Fits]
    · simp only [ldcommon_sem, ldcommon_sp, IsU, divQ, divR, ldcommon_tree, ldcommon_M25, mul_sem, ldcommon_M30, ggcd_sem, ldcommon_M27, wdiv_sem, ldcommon_M23, times_sem, ldcommon_M28, dalive_sem, Tree.den, List.getElem?_cons_zero, List.getElem?_cons_succ, IE.den, BE.den, At.den, CA.den, Env.get, Cv.int, Cv.bool, List.cons_append, List.nil_append, List.map_cons, List.map_nil, bindRes, bindEq, Fits, SV.den, denL, place, placeL, eq_t, eq_f, lt_t, lt_f, le_t, le_f, beq_iff_eq, beq_eq_false_iff_ne, ne_eq, reduceCtorEq, b_dec, decide_eq_true_eq, decide_eq_false_iff_not, Bool.not_eq_false', Bool.or_eq_true, Bool.or_eq_false_iff, Bool.and_eq_false_iff, true_iff, false_iff, Bool.false_eq_true, Bool.not_eq_true', Bool.and_eq_true, Bool.not_true, Bool.not_false, List.cons.injEq, Cv.i.injEq, Cv.b.injEq, and_true, true_and, agg_inj, tup_inj, Value.int.injEq, Value.bool.injEq]
      intro k0 hk0 K hK u hu
      have hu1 : 0 ≤ u ∧ u ≤ 2147483647 := by omega
      have hK1 : 1 ≤ K ∧ K ≤ 4294967296 := by omega
      have huK0 : 0 ≤ u * K := Int.mul_nonneg hu1.1 (by omega)
      have huK1 : u * K ≤ 2147483647 * 4294967296 := Int.mul_le_mul hu1.2 hK1.2 (by omega) (by omega)
      refine ⟨by omega, ?_⟩
      intro p1 hp1 _ _ p0 hp0 _ _ v hv
      have hv1 : 0 ≤ v ∧ v ≤ 2147483647 := by omega
      have hvK0 : 0 ≤ v * K := Int.mul_nonneg hv1.1 (by omega)
      have hvK1 : v * K ≤ 2147483647 * 4294967296 := Int.mul_le_mul hv1.2 hK1.2 (by omega) (by omega)
      refine ⟨by omega, ?_⟩
      intro q1 hq1 _ _ q0 hq0 _ _
      refine ⟨by omega, ?_⟩
      have eX : val p1 p0 = u * K := by unfold val; omega
      have eY : val q1 q0 = v * K := by unfold val; omega
      have eXY : gcdZ (u * K) (v * K) = gcdZ u v * K := gcdZ_mul hu1.1 hv1.1 (by omega)
      have eYX : gcdZ (v * K) (u * K) = gcdZ u v * K := by rw [gcdZ_comm, eXY]
      have hG0 := gcdZ_nonneg u v
      have hG1 : gcdZ u v ≤ 2147483647 := by
        by_cases h : v = 0
        · rw [h, gcdZ_zero hu1.1]; omega
        · have : Nat.gcd u.toNat v.toNat ≤ v.toNat := Nat.gcd_le_right _ (by omega)
          unfold gcdZ; omega
      have hz := gcdZ_eq_zero hu1.1 hv1.1
      have hdv := gcdZ_dvd huK0 hvK0
      have hone := gcdZ_div huK0 hvK0
      have hsm := Int.ediv_le_self (a := u * K) (gcdZ (u * K) (v * K)) huK0
      have hsn := Int.ediv_le_self (a := v * K) (gcdZ (u * K) (v * K)) hvK0
      have hsm0 := Int.ediv_nonneg (a := u * K) (b := gcdZ (u * K) (v * K)) huK0 (gcdZ_nonneg _ _)
      have hsn0 := Int.ediv_nonneg (a := v * K) (b := gcdZ (u * K) (v * K)) hvK0 (gcdZ_nonneg _ _)
      simp only [eX, eY, eXY, eYX] at hdv hone hsm hsn hsm0 hsn0 ⊢
      clear eXY eYX
      intro g1 hg1 _ _ g0 hg0 _ _ u' hu' v' hv'
      have eu : u' = u := by omega
      have ev : v' = v := by omega
      subst eu ev
      have e0u : val 0 u' = u' := by unfold val; omega
      have e0v : val 0 v' = v' := by unfold val; omega
      simp only [e0u, e0v]
      refine ⟨by omega, ?_⟩
      intro m1 hm1 _ _ m0 hm0 _ _
      have eM : val m1 m0 = gcdZ u' v' := by unfold val; omega
      have eK : val 0 K = K := by unfold val; omega
      simp only [eM, eK]
      refine ⟨by omega, ?_⟩
      have hGK0 : 0 ≤ gcdZ u' v' * K := Int.mul_nonneg hG0 (by omega)
      have hGK1 : gcdZ u' v' * K ≤ 2147483647 * 4294967296 := Int.mul_le_mul hG1 hK1.2 (by omega) (by omega)
      have hGKz : gcdZ u' v' * K = 0 ↔ gcdZ u' v' = 0 := by
        refine ⟨fun h => ?_, fun h => by rw [h, Int.zero_mul]⟩
        rcases Int.mul_eq_zero.1 h with h | h
        · exact h
        · omega
      generalize gcdZ u' v' = G at *
      generalize G * K = GK at *
      generalize u' * K = X at *
      generalize v' * K = Y at *
      have eG : val g1 g0 = GK := by unfold val; omega
      intro t1 ht1 _ _ t0 ht0 _ _
      simp only [eG]
      by_cases hnz : GK = 0
      · have := hz.1 (hGKz.1 hnz)
        clear hdv hone hsm hsn hsm0 hsn0 hz hGKz
        subst hnz
        simp only [if_true, if_false, true_and, and_true, false_and, and_false, true_or, or_true, false_or, or_false, true_iff, iff_true, false_iff, iff_false, not_true_eq_false, not_false_eq_true, true_implies, false_implies, implies_true, forall_const, decide_true, decide_false, reduceCtorEq]
        (repeat' (first | intro _ | refine And.intro ?_ ?_ | exact trivial)) <;> omega
      · have hone := hone hnz
        obtain ⟨d1, d2⟩ := hdv
        simp only [hnz, d1, d2, if_true, if_false, true_and, and_true, false_and, and_false, true_or, or_true, false_or, or_false, true_iff, iff_true, false_iff, iff_false, not_true_eq_false, not_false_eq_true, true_implies, false_implies, implies_true, forall_const, decide_true, decide_false, reduceCtorEq]
        clear hz hGKz
        have hgg : g1 = 0 ∧ g0 = 0 → False := fun h => hnz (by rw [← eG, h.1, h.2]; rfl)
        refine ⟨fun h => by omega, fun _ => ⟨by omega, ?_⟩⟩
        intro y1 hy1 _ _ y0 hy0 _ _
        refine ⟨fun h => by omega, fun _ => ⟨fun h => (hgg h).elim, fun _ => ⟨by omega, ?_⟩⟩⟩
        intro x1 hx1 _ _ x0 hx0 _ _ r1 hr1 _ _ r0 hr0 _ _ e1 he1 _ _
        refine ⟨by omega, ?_⟩
        intro z1 hz1 _ _ z0 hz0 _ _ s1 hs1 _ _ s0 hs0 _ _ e2 he2 _ _
        have eA := val_split (X / GK) ⟨hsm0, by omega⟩ x1 x0 hx1 hx0
        have eB := val_split (Y / GK) ⟨hsn0, by omega⟩ z1 z0 hz1 hz0
        simp only [eA, eB, hone]
        clear hone eA eB hsm hsn hsm0 hsn0 hx1 hx0 hz1 hz0
        (repeat' (first | intro _ | refine And.intro ?_ ?_ | exact trivial)) <;> omega
end Go.Proofs.Ytbmfkdammaodpaa.X
