/-
  The contract of divide.Div (numbers of 128 bits, divided), for every input.
-/
import Derived.Test.YtglpelnaeipenaaGreatSxDiv
namespace Go.Proofs.YtglpelnaeipenaaGreat.X
open Go Go.SX Go.RowKit
set_option linter.unusedVariables false
set_option linter.unusedSimpArgs false




def p2 (n : Int) : Int := ((2 ^ n.toNat : Nat) : Int)
theorem p2_pos (n : Int) : 0 < p2 n := Int.natCast_pos.mpr (Nat.two_pow_pos _)
theorem p2_succ {n : Int} (h : 0 ≤ n) : p2 (n + 1) = 2 * p2 n := by
  unfold p2
  rw [show (n + 1).toNat = n.toNat + 1 by omega, Nat.pow_succ]
  omega
theorem p2_mul {n m : Int} (hn : 0 ≤ n) (hm : 0 ≤ m) : p2 n * p2 m = p2 (n + m) := by
  unfold p2
  rw [show (n + m).toNat = n.toNat + m.toNat by omega, Nat.pow_add, Int.natCast_mul]
theorem p2_64 : p2 64 = 18446744073709551616 := rfl
theorem p2_le {n m : Int} (hn : 0 ≤ n) (h : n ≤ m) : p2 n ≤ p2 m := by
  unfold p2
  exact Int.ofNat_le.2 (Nat.pow_le_pow_right (by omega) (by omega))
theorem p2_den {n : Int} (h0 : 0 ≤ n) (h : n ≤ 64) : (2 : Int) ^ (min n.toNat (IntKind.u64).bits) = p2 n := by
  have : min n.toNat (IntKind.u64).bits = n.toNat := by simp only [IntKind.bits]; omega
  rw [this]; unfold p2; simp
/-- the loop: what has been taken away so far -/
def divI (N D s : Int) : List Cv → Prop := fun l => match l with
  | [.i n, .i a1, .i a0, .i q] => (-1 ≤ n ∧ n ≤ s) ∧ N = q * D + val a1 a0 ∧ (0 ≤ val a1 a0 ∧ val a1 a0 < D * p2 (n + 1)) ∧ q % p2 (n + 1) = 0 ∧ 0 ≤ q
  | _ => False
def divM : List Cv → Nat := fun l => match l with | [.i n, .i _, .i _, .i _] => (n + 1).toNat | _ => 0
theorem div_uniq {N D q r : Int} (hD : 0 < D) (h : N = q * D + r) (h0 : 0 ≤ r) (h1 : r < D) : N / D = q ∧ N % D = r := by
  subst h
  rw [Int.add_comm, Int.add_mul_ediv_right _ _ (by omega), Int.add_mul_emod_self_right, Int.ediv_eq_zero_of_lt h0 h1, Int.emod_eq_of_lt h0 h1]
  omega
def wdiv_sp : SpecSh := { args := [(.agg [(.int .u64 (.z 0)), (.int .u64 (.z 0))]), (.agg [(.int .u64 (.z 0)), (.int .u64 (.z 0))])], res := (.tup [(.agg [(.int .u64 (.z 0)), (.int .u64 (.z 0))]), (.agg [(.int .u64 (.z 0)), (.int .u64 (.z 0))]), (.int .i64 (.z 0))]), sh := [.i (some (0, 18446744073709551615)), .i (some (0, 18446744073709551615)), .i (some (0, 18446744073709551615)), .i (some (0, 18446744073709551615)), .i (some ((-9223372036854775808), 9223372036854775807))] }
set_option maxRecDepth 100000 in
def wdiv_tree : Tree :=
.ite (.and (.cmp .eq (.v 2) (.z 0)) (.cmp .eq (.v 3) (.z 0))) (.ret (.tup [(.agg [(.int .u64 (.z 0)), (.int .u64 (.z 0))]), (.agg [(.int .u64 (.z 0)), (.int .u64 (.z 0))]), (.int .i64 (.z 4))])) <|
.ite (.cmp .eq (.v 2) (.z 0)) (.call 67 [.i (some (0, 18446744073709551615)), .i (some (0, 18446744073709551615))] [.i (.z 0), .i (.v 0), .i (.v 3)] <|
.call 67 [.i (some (0, 18446744073709551615)), .i (some (0, 18446744073709551615))] [.i (.v 5), .i (.v 1), .i (.v 3)] <|
.ret (.tup [(.agg [(.int .u64 (.v 4)), (.int .u64 (.v 6))]), (.agg [(.int .u64 (.z 0)), (.int .u64 (.v 7))]), (.int .i64 (.z 0))])) <|
.call 68 [.i (some ((-9223372036854775808), 9223372036854775807))] [.i (.v 2)] <|
.loop [.i (some ((-1), 63)), .i (some (0, 18446744073709551615)), .i (some (0, 18446744073709551615)), .i (some (0, 18446744073709551615))] [.i (.v 4), .i (.v 0), .i (.v 1), .i (.z 0)] <|
.ite (.cmp .le (.z 0) (.v 5)) (.lett (.shl .u64 (.v 2) (.v 5)) <|
.lett (.sub (.z 64) (.v 5)) <|
.lett (.shr .u64 (.v 3) (.v 10)) <|
.lett (.bit .or .u64 (.v 9) (.v 11)) <|
.lett (.shl .u64 (.v 3) (.v 5)) <|
.call 51 [.b] [.i (.v 6), .i (.v 7), .i (.v 12), .i (.v 13)] <|
.ite (.v 14) (.lett (.sub (.v 5) (.z 1)) <|
.again 0 [.i (.v 15), .i (.v 6), .i (.v 7), .i (.v 8)]) <|
.call 65 [.i (some (0, 18446744073709551615)), .i (some (0, 18446744073709551615)), .b] [.i (.v 6), .i (.v 7), .i (.v 12), .i (.v 13)] <|
.lett (.shl .u64 (.z 1) (.v 5)) <|
.lett (.bit .or .u64 (.v 8) (.v 18)) <|
.lett (.sub (.v 5) (.z 1)) <|
.again 0 [.i (.v 20), .i (.v 15), .i (.v 16), .i (.v 19)]) <|
.ret (.tup [(.agg [(.int .u64 (.z 0)), (.int .u64 (.v 8))]), (.agg [(.int .u64 (.v 6)), (.int .u64 (.v 7))]), (.int .i64 (.z 0))])
noncomputable def wdiv_cx : Ctx := { tys := tys, fns := fns, mets := mets, sps := [(51, less_sp), (65, wsub_sp), (67, div64_sp), (68, lz64_sp)], anns := [((46, 9), { slots := [12], cells := [(0, 0), (0, 1), (4, 1)], ivs := [some ((-1), 63), some (0, 18446744073709551615), some (0, 18446744073709551615), some (0, 18446744073709551615)] })], trys := [] }
def wdiv_ivs : List (Option (Int × Int)) := [some (0, 18446744073709551615), some (0, 18446744073709551615), some (0, 18446744073709551615), some (0, 18446744073709551615)]
set_option maxRecDepth 100000 in
theorem wdiv_walk : runFn wdiv_cx 3000 46 Tryz.f46 wdiv_sp.args wdiv_ivs = wdiv_tree := by kernel_rfl
noncomputable def wdiv_M : Nat → SpecSem
  | 51 => less_sem
  | 65 => wsub_sem
  | 67 => div64_sem
  | 68 => lz64_sem
  | _ => noSem
theorem wdiv_M51 : wdiv_M 51 = less_sem := rfl
theorem wdiv_M65 : wdiv_M 65 = wsub_sem := rfl
theorem wdiv_M67 : wdiv_M 67 = div64_sem := rfl
theorem wdiv_M68 : wdiv_M 68 = lz64_sem := rfl
theorem wdiv_cxok : CxOK Tryz.prog wdiv_cx wdiv_M := ⟨tysOK, fnsOK, spCons less_ok <| spCons wsub_ok <| spCons div64_ok <| spCons lz64_ok <| fun _ _ h => spNil h, mixedOK, fun _ _ h => trNil h, fun _ _ h => atNil h, metsOK⟩

def divQ (a b c d : Int) : Int := if val c d = 0 then 0 else val a b / val c d
def divR (a b c d : Int) : Int := if val c d = 0 then 0 else val a b % val c d
theorem divQR_rng {a b c d : Int} (ha : IsU a) (hb : IsU b) (hc : IsU c) (hd : IsU d) : (0 ≤ divQ a b c d ∧ divQ a b c d < 340282366920938463463374607431768211456) ∧ (0 ≤ divR a b c d ∧ divR a b c d < 340282366920938463463374607431768211456) := by
  obtain ⟨h1, h2⟩ := ha
  obtain ⟨h3, h4⟩ := hb
  obtain ⟨h5, h6⟩ := hc
  obtain ⟨h7, h8⟩ := hd
  have v1 : 0 ≤ val a b ∧ val a b < 340282366920938463463374607431768211456 := by unfold val; omega
  have v2 : 0 ≤ val c d ∧ val c d < 340282366920938463463374607431768211456 := by unfold val; omega
  unfold divQ divR
  split
  · omega
  · have a1 := Int.ediv_nonneg v1.1 v2.1
    have a2 := Int.ediv_le_self (val c d) v1.1
    have a3 := Int.emod_nonneg (val a b) (b := val c d) (by omega)
    have a4 := Int.emod_lt_of_pos (val a b) (b := val c d) (by omega)
    omega
def wdiv_sem : SpecSem := { pre := fun cs => match cs with | [.i a, .i b, .i c, .i d] => IsU a ∧ IsU b ∧ IsU c ∧ IsU d | _ => False, out := fun cs => match cs with | [.i a, .i b, .i c, .i d] => [.i (divQ a b c d / 18446744073709551616), .i (divQ a b c d % 18446744073709551616), .i (divR a b c d / 18446744073709551616), .i (divR a b c d % 18446744073709551616), .i (if val c d = 0 then 4 else 0)] | _ => [] }
theorem wdiv_ok : SpecOK Tryz.prog 46 wdiv_sp wdiv_sem := by
  refine spec_of_tree wdiv_cxok Tryz.func46 (by kernel_rfl) (by kernel_rfl) wdiv_walk rfl ?_
  intro cs hpre
  match cs, hpre with
  | [.i a, .i b, .i c, .i d], ⟨ha, hb, hc, hd⟩ =>
    obtain ⟨⟨g1, g2⟩, ⟨g3, g4⟩⟩ := divQR_rng ha hb hc hd
    obtain ⟨h1, h2⟩ := ha
    obtain ⟨h3, h4⟩ := hb
    obtain ⟨h5, h6⟩ := hc
    obtain ⟨h7, h8⟩ := hd
    refine ⟨rfl, IvsB.ok (by simp only [wdiv_ivs, IvsB, Cv.int, and_true]; omega), ?_, ?_⟩
    · simp only [wdiv_sem, wdiv_sp, Fits, and_true]
      have e4 : -9223372036854775808 ≤ (if val c d = 0 then 4 else 0 : Int) ∧ (if val c d = 0 then 4 else 0 : Int) ≤ 9223372036854775807 := by split <;> omega
      omega
    · simp only [wdiv_sem, wdiv_sp, IsU, wdiv_tree, wdiv_M51, less_sem, wdiv_M65, wsub_sem, wdiv_M67, div64_sem, wdiv_M68, lz64_sem, Tree.den, LE.den, Cv.list, placeA, List.getElem?_cons_zero, List.getElem?_cons_succ, IE.den, BE.den, At.den, CA.den, Env.get, Cv.int, Cv.bool, List.cons_append, List.nil_append, List.map_cons, List.map_nil, bindRes, bindEq, Fits, SV.den, denL, place, placeL, eq_t, eq_f, lt_t, lt_f, le_t, le_f, beq_iff_eq, beq_eq_false_iff_ne, ne_eq, reduceCtorEq, b_dec, decide_eq_true_eq, decide_eq_false_iff_not, Bool.not_eq_false', Bool.or_eq_true, Bool.or_eq_false_iff, Bool.and_eq_false_iff, true_iff, false_iff, Bool.false_eq_true, Bool.not_eq_true', Bool.and_eq_true, Bool.not_true, Bool.not_false, List.cons.injEq, Cv.i.injEq, Cv.b.injEq, and_true, true_and, agg_inj, tup_inj, Value.int.injEq, Value.bool.injEq]
      refine ⟨fun hz => ?_, fun hnz => ⟨fun hc0 => ?_, fun hc0 => ⟨by omega, ?_⟩⟩⟩
      · have e : val c d = 0 := by unfold val; omega
        unfold divQ divR
        simp only [e, if_true]
        decide
      · refine ⟨by omega, ?_⟩
        intro x hx _ _ r hr hr0 hr1
        have hrd : r < d := by rw [hr]; exact Int.emod_lt_of_pos _ (by omega)
        refine ⟨by omega, ?_⟩
        intro q hq _ _ t ht ht0 ht1
        have htd : t < d := by rw [ht]; exact Int.emod_lt_of_pos _ (by omega)
        have ev : val 0 a = a := by unfold val; omega
        rw [ev] at hx hr
        have e := Int.emod_add_mul_ediv a d
        rw [← hx, ← hr, Int.mul_comm] at e
        have e2 := Int.emod_add_mul_ediv (val r b) d
        rw [← hq, ← ht, Int.mul_comm] at e2
        have eN : val a b = (x * 18446744073709551616 + q) * val c d + t := by
          have ed : val c d = d := by unfold val; omega
          rw [ed, Int.add_mul, Int.mul_assoc, Int.mul_comm 18446744073709551616 d, ← Int.mul_assoc]
          unfold val at *
          omega
        have eD : val c d = d := by unfold val; omega
        obtain ⟨u1, u2⟩ := div_uniq (by omega) eN ht0 (by omega)
        unfold divQ divR
        rw [if_neg (by omega), if_neg (by omega), if_neg (by omega), u1, u2]
        omega
      · intro lz hlz _ _
        obtain ⟨L1, L2, L3, L4, L5⟩ := norm_shift (y := c.toNat) (by omega) (by omega)
        generalize Lib.bitLen c.toNat = L at *
        have hL : lz = 64 - (L : Int) := hlz
        have ec : c = (c.toNat : Int) := by omega
        have hcL : c + 1 ≤ p2 (L : Int) := by
          have h : c.toNat < 2 ^ L := by
            refine Nat.lt_of_mul_lt_mul_right (a := 2 ^ (64 - L)) ?_
            rw [Nat.mul_comm (2 ^ L)]; omega
          unfold p2
          rw [Int.toNat_natCast]
          omega
        have hcs : 9223372036854775808 ≤ c * p2 lz := by
          have e : c * p2 lz = ((c.toNat * 2 ^ (64 - L) : Nat) : Int) := by
            unfold p2
            rw [Int.natCast_mul, ← ec, show lz.toNat = 64 - L by omega]
          rw [e]; exact Int.ofNat_le.2 L4
        have hps := p2_pos lz
        have hD0 : 18446744073709551616 ≤ val c d := by unfold val; omega
        have hN : 0 ≤ val a b ∧ val a b < 340282366920938463463374607431768211456 := by unfold val; omega
        clear L4 L5 L3 ec
        refine ⟨divI (val a b) (val c d) lz, divM, by omega, ?_, ?_⟩
        · simp only [divI]
          have e0 : val c d * p2 (lz + 1) = 2 * (c * p2 lz * 18446744073709551616 + d * p2 lz) := by
            rw [p2_succ (by omega), Int.mul_left_comm]
            unfold val
            rw [Int.add_mul, Int.mul_assoc, Int.mul_comm 18446744073709551616, ← Int.mul_assoc]
          have e1 : 0 ≤ d * p2 lz := Int.mul_nonneg h7 (by omega)
          exact ⟨by omega, by omega, ⟨hN.1, by omega⟩, Int.zero_emod _, by omega⟩
        · intro n n0 n1 a1 l1 l2 a0 l3 l4 q l5 l6 hI
          simp only [divI] at hI
          obtain ⟨⟨i1, i2⟩, iN, ⟨i3, i4⟩, i5, i6⟩ := hI
          refine ⟨fun hn x4 e4 x5 e5 x6 e6 x7 e7 x8 e8 => ?_, fun hn => ?_⟩
          · rw [p2_den hn (by omega)] at e4 e8
            subst e5
            rw [p2_den (n := 64 - n) (by omega) (by omega)] at e6
            have hp := p2_pos n
            have hq := p2_pos (64 - n)
            have hpq : p2 n * p2 (64 - n) = 18446744073709551616 := by
              rw [p2_mul hn (by omega), show n + (64 - n) = 64 by omega]; rfl
            have hcb : (c + 1) * p2 n ≤ 18446744073709551616 := by
              have hm : p2 (L : Int) * p2 (64 - L) = 18446744073709551616 := by
                rw [p2_mul (by omega) (by omega), show (L : Int) + (64 - L) = 64 by omega]; rfl
              have := Int.mul_le_mul hcL (p2_le (n := n) (m := 64 - L) hn (by omega)) (by omega) (Int.le_of_lt (p2_pos _))
              omega
            obtain ⟨c1, c2, c3, c4, c5, c6⟩ := shifted_words hp hq hpq h5 (show c < c + 1 by omega) h7 (show d < 18446744073709551616 by omega) hcb
            have f4 : x4 = c * p2 n := by rw [e4, wu64_mod, Int.emod_eq_of_lt (by omega) (by omega)]
            have f6 : x6 = d / p2 (64 - n) := by rw [e6, Int.fdiv_eq_ediv_of_nonneg _ (by omega)]
            have f7 : x7 = c * p2 n + d / p2 (64 - n) := by
              rw [e7, f4, f6]; exact or_add n.toNat c1 c2 c3 (by omega) (Int.mul_emod_left c _) c4
            have f8 : x8 = d * p2 n % 18446744073709551616 := by rw [e8, wu64_mod]
            have hval : val x7 x8 = val c d * p2 n := by
              unfold val
              rw [c6, f7, f8]
            have b7 : 0 ≤ x7 ∧ x7 ≤ 18446744073709551615 := by
              have : (c + 1) * p2 n = c * p2 n + p2 n := by rw [Int.add_mul, Int.one_mul]
              omega
            have b8 : 0 ≤ x8 ∧ x8 ≤ 18446744073709551615 := by omega
            have i5' := i5
            rw [p2_succ hn] at i4 i5
            have hq2 : q % p2 n = 0 := by
              have := Int.emod_emod_of_dvd q (Int.dvd_mul_left 2 (p2 n))
              rw [i5, Int.zero_emod] at this
              exact this.symm
            have i4' : val c d * (2 * p2 n) = 2 * (val c d * p2 n) := Int.mul_left_comm _ _ _
            rw [i4'] at i4
            rw [hval]
            have hmc : val c d * p2 n = p2 n * val c d := Int.mul_comm _ _
            clear e4 e6 e7 e8 f4 f6 f7 f8 c1 c2 c3 c4 c5 c6 hcb hpq i4'
            refine ⟨by omega, fun hlt m hm => ?_, fun hge => ⟨by omega, ?_⟩⟩
            · subst hm
              refine ⟨by omega, ?_, ?_⟩
              · simp only [divI]
                rw [show n - 1 + 1 = n by omega]
                exact ⟨by omega, iN, ⟨i3, hlt⟩, hq2, i6⟩
              · simp only [divM]; omega
            · intro b1 hb1 _ _ b0 hb0 _ _ w hw z hz m hm
              have hp63 : p2 n ≤ 9223372036854775808 := p2_le (m := 63) hn (by omega)
              rw [Int.one_mul, p2_den hn (by omega), wu64 (by omega) (by omega)] at hw
              subst hw
              have hz1 := or_le (x := q) (y := p2 n) (by omega) (by omega) (by omega) (by omega)
              rw [← hz] at hz1
              have hz2 : z = q + p2 n := by
                rw [hz]
                refine or_add (n + 1).toNat (by omega) (by omega) (by omega) (by omega) i5' ?_
                have : p2 n < p2 (n + 1) := by rw [p2_succ hn]; omega
                exact this
              have hbv : val b1 b0 = val a1 a0 - val c d * p2 n := by
                generalize val c d * p2 n = DP at *
                have : 0 ≤ val a1 a0 - DP ∧ val a1 a0 - DP < 340282366920938463463374607431768211456 := by
                  have : val a1 a0 < 340282366920938463463374607431768211456 := by unfold val; omega
                  have : 0 ≤ DP := by omega
                  omega
                generalize val a1 a0 - DP = Z at *
                unfold val; omega
              subst hm
              refine ⟨by omega, ?_, ?_⟩
              · simp only [divI]
                rw [show n - 1 + 1 = n by omega, hbv, hz2]
                refine ⟨by omega, ?_, ⟨by omega, by omega⟩, ?_, by omega⟩
                · rw [Int.add_mul]; omega
                · rw [Int.add_emod_right]; exact hq2
              · simp only [divM]; omega
          · have en : n = -1 := by omega
            subst en
            have e1 : p2 (-1 + 1) = 1 := rfl
            rw [e1, Int.mul_one] at i4
            obtain ⟨u1, u2⟩ := div_uniq (by omega) iN i3 i4
            unfold divQ divR
            rw [if_neg (by omega), if_neg (by omega), if_neg (by omega), u1, u2]
            unfold val
            omega
end Go.Proofs.YtglpelnaeipenaaGreat.X
