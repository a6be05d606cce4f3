/-
  The contract of the reference's division (datumref02.Div), for every input whose divisor is not 0; and DivideTells tells true, for every two numbers.
-/
import Derived.Test.YtbmfkdammaodpaaSxRefDiv
namespace Go.Proofs.Ytbmfkdammaodpaa.X
open Go Go.SX Go.RowKit
set_option linter.unusedVariables false
set_option linter.unusedSimpArgs false






/-- bit by bit, the highest first: what has been found so far -/
def rdI (N D : Int) : List Cv → Prop := fun l => match l with
  | [.i n, .i q1, .i q0, .i r1, .i r0] => (-1 ≤ n ∧ n ≤ 127) ∧ val q1 q0 * D + val r1 r0 * p2 (n + 1) + N % p2 (n + 1) = N ∧ (0 ≤ val r1 r0 ∧ val r1 r0 < D) ∧ val q1 q0 % p2 (n + 1) = 0 ∧ 0 ≤ val q1 q0
  | _ => False
def rdM : List Cv → Nat := fun l => match l with | [.i n, .i _, .i _, .i _, .i _] => (n + 1).toNat | _ => 0
theorem mod_two {N p k : Int} (hp : 0 < p) (hN : 0 ≤ N) (hk : k = N / p % 2) : N % (2 * p) = k * p + N % p := by
  have e := Int.emod_add_mul_ediv N p
  have e0 := Int.emod_nonneg N (b := p) (by omega)
  have e1 := Int.emod_lt_of_pos N hp
  have f := Int.emod_add_mul_ediv (N / p) 2
  have hk2 : k = 0 ∨ k = 1 := by omega
  have hm : p * (N / p) = 2 * (N / p / 2 * p) + k * p := by
    have : N / p = 2 * (N / p / 2) + k := by omega
    conv => lhs; rw [this]
    rw [Int.mul_add, Int.mul_comm p k, Int.mul_left_comm, Int.mul_comm p]
  have hq : N = N / p / 2 * (2 * p) + (k * p + N % p) := by
    have : N / p / 2 * (2 * p) = 2 * (N / p / 2 * p) := Int.mul_left_comm _ _ _
    omega
  have hb : 0 ≤ k * p + N % p ∧ k * p + N % p < 2 * p := by
    rcases hk2 with rfl | rfl <;> omega
  exact (div_uniq (D := 2 * p) (by omega) hq hb.1 hb.2).2
def rdiv_sp : SpecSh := { args := [(.agg [(.int .u64 (.z 0)), (.int .u64 (.z 0))]), (.agg [(.int .u64 (.z 0)), (.int .u64 (.z 0))])], res := (.tup [(.agg [(.int .u64 (.z 0)), (.int .u64 (.z 0))]), (.agg [(.int .u64 (.z 0)), (.int .u64 (.z 0))])]), sh := [.i (some (0, 18446744073709551615)), .i (some (0, 18446744073709551615)), .i (some (0, 18446744073709551615)), .i (some (0, 18446744073709551615))] }
set_option maxRecDepth 100000 in
def rdiv_tree : Tree :=
.loop [.i (some ((-1), 127)), .i (some (0, 18446744073709551615)), .i (some (0, 18446744073709551615)), .i (some (0, 18446744073709551615)), .i (some (0, 18446744073709551615))] [.i (.z 127), .i (.z 0), .i (.z 0), .i (.z 0), .i (.z 0)] <|
.ite (.cmp .le (.z 0) (.v 4)) (.call 48 [.i (some (0, 18446744073709551615)), .i (some (0, 18446744073709551615)), .b] [.i (.v 7), .i (.v 8), .i (.v 7), .i (.v 8)] <|
.call 56 [.i (some (0, 18446744073709551615))] [.i (.v 0), .i (.v 1), .i (.v 4)] <|
.call 48 [.i (some (0, 18446744073709551615)), .i (some (0, 18446744073709551615)), .b] [.i (.v 9), .i (.v 10), .i (.z 0), .i (.v 12)] <|
.ite (.v 11) (.call 57 [.i (some (0, 18446744073709551615)), .i (some (0, 18446744073709551615)), .b] [.i (.v 13), .i (.v 14), .i (.v 2), .i (.v 3)] <|
.call 58 [.i (some (0, 18446744073709551615)), .i (some (0, 18446744073709551615))] [.i (.v 5), .i (.v 6), .i (.v 4)] <|
.lett (.sub (.v 4) (.z 1)) <|
.again 0 [.i (.v 21), .i (.v 19), .i (.v 20), .i (.v 16), .i (.v 17)]) <|
.ite (.not (.cmp .eq (.v 13) (.v 2))) (.ite (.not (.cmp .lt (.v 13) (.v 2))) (.call 57 [.i (some (0, 18446744073709551615)), .i (some (0, 18446744073709551615)), .b] [.i (.v 13), .i (.v 14), .i (.v 2), .i (.v 3)] <|
.call 58 [.i (some (0, 18446744073709551615)), .i (some (0, 18446744073709551615))] [.i (.v 5), .i (.v 6), .i (.v 4)] <|
.lett (.sub (.v 4) (.z 1)) <|
.again 0 [.i (.v 21), .i (.v 19), .i (.v 20), .i (.v 16), .i (.v 17)]) <|
.lett (.sub (.v 4) (.z 1)) <|
.again 0 [.i (.v 16), .i (.v 5), .i (.v 6), .i (.v 13), .i (.v 14)]) <|
.ite (.not (.cmp .lt (.v 14) (.v 3))) (.call 57 [.i (some (0, 18446744073709551615)), .i (some (0, 18446744073709551615)), .b] [.i (.v 13), .i (.v 14), .i (.v 2), .i (.v 3)] <|
.call 58 [.i (some (0, 18446744073709551615)), .i (some (0, 18446744073709551615))] [.i (.v 5), .i (.v 6), .i (.v 4)] <|
.lett (.sub (.v 4) (.z 1)) <|
.again 0 [.i (.v 21), .i (.v 19), .i (.v 20), .i (.v 16), .i (.v 17)]) <|
.lett (.sub (.v 4) (.z 1)) <|
.again 0 [.i (.v 16), .i (.v 5), .i (.v 6), .i (.v 13), .i (.v 14)]) <|
.ret (.tup [(.agg [(.int .u64 (.v 5)), (.int .u64 (.v 6))]), (.agg [(.int .u64 (.v 7)), (.int .u64 (.v 8))])])
noncomputable def rdiv_cx : Ctx := { tys := tys, fns := fns, sps := [(48, radd_sp), (57, rsub_sp), (56, rbit_sp), (58, rwith_sp)], anns := [((29, 4), { slots := [8], cells := [(4, 0), (4, 1), (5, 0), (5, 1)], ivs := [some ((-1), 127), some (0, 18446744073709551615), some (0, 18446744073709551615), some (0, 18446744073709551615), some (0, 18446744073709551615)] })], trys := [] }
def rdiv_ivs : List (Option (Int × Int)) := [some (0, 18446744073709551615), some (0, 18446744073709551615), some (0, 18446744073709551615), some (0, 18446744073709551615)]
set_option maxRecDepth 100000 in
theorem rdiv_walk : runFn rdiv_cx 3000 29 Try.f29 rdiv_sp.args rdiv_ivs = rdiv_tree := by kernel_rfl
noncomputable def rdiv_M : Nat → SpecSem
  | 48 => radd_sem
  | 57 => rsub_sem
  | 56 => rbit_sem
  | 58 => rwith_sem
  | _ => noSem
theorem rdiv_M48 : rdiv_M 48 = radd_sem := rfl
theorem rdiv_M57 : rdiv_M 57 = rsub_sem := rfl
theorem rdiv_M56 : rdiv_M 56 = rbit_sem := rfl
theorem rdiv_M58 : rdiv_M 58 = rwith_sem := rfl
theorem rdiv_cxok : CxOK Try.prog rdiv_cx rdiv_M := ⟨tysOK, fnsOK, spCons radd_ok <| spCons rsub_ok <| spCons rbit_ok <| spCons rwith_ok <| fun _ _ h => spNil h, mixedOK, fun _ _ h => trNil h⟩

def rdiv_sem : SpecSem := { pre := fun cs => match cs with | [.i a, .i b, .i c, .i d] => IsU a ∧ IsU b ∧ IsU c ∧ IsU d ∧ 1 ≤ val c d | _ => False, out := fun cs => match cs with | [.i a, .i b, .i c, .i d] => [.i (divQ a b c d / 18446744073709551616), .i (divQ a b c d % 18446744073709551616), .i (divR a b c d / 18446744073709551616), .i (divR a b c d % 18446744073709551616)] | _ => [] }
theorem rdiv_ok : SpecOK Try.prog 29 rdiv_sp rdiv_sem := by
  refine spec_of_tree rdiv_cxok Try.func29 (by kernel_rfl) (by kernel_rfl) rdiv_walk rfl ?_
  intro cs hpre
  match cs, hpre with
  | [.i a, .i b, .i c, .i d], ⟨ha, hb, hc, hd, hD⟩ =>
    obtain ⟨⟨g1, g2⟩, ⟨g3, g4⟩⟩ := divQR_rng ha hb hc hd
    obtain ⟨h1, h2⟩ := ha
    obtain ⟨h3, h4⟩ := hb
    obtain ⟨h5, h6⟩ := hc
    obtain ⟨h7, h8⟩ := hd
    have hN : 0 ≤ val a b ∧ val a b < 340282366920938463463374607431768211456 := by unfold val; omega
    have hDw : val c d < 340282366920938463463374607431768211456 := by unfold val; omega
    refine ⟨rfl, IvsB.ok (by simp only [rdiv_ivs, IvsB, Cv.int, and_true]; omega), ?_, ?_⟩
    · simp only [rdiv_sem, rdiv_sp, Fits, and_true]; omega
    · simp only [rdiv_sem, rdiv_sp, IsU, rdiv_tree, rdiv_M48, radd_sem, rdiv_M57, rsub_sem, rdiv_M56, rbit_sem, rdiv_M58, rwith_sem, Tree.den, List.getElem?_cons_zero, List.getElem?_cons_succ, IE.den, BE.den, At.den, CA.den, Env.get, Cv.int, Cv.bool, List.cons_append, List.nil_append, List.map_cons, List.map_nil, bindRes, bindEq, Fits, SV.den, denL, place, placeL, eq_t, eq_f, lt_t, lt_f, le_t, le_f, beq_iff_eq, beq_eq_false_iff_ne, ne_eq, reduceCtorEq, b_dec, decide_eq_true_eq, decide_eq_false_iff_not, Bool.not_eq_false', Bool.or_eq_true, Bool.or_eq_false_iff, Bool.and_eq_false_iff, true_iff, false_iff, Bool.false_eq_true, Bool.not_eq_true', Bool.and_eq_true, Bool.not_true, Bool.not_false, List.cons.injEq, Cv.i.injEq, Cv.b.injEq, and_true, true_and, agg_inj, tup_inj, Value.int.injEq, Value.bool.injEq]
      refine ⟨rdI (val a b) (val c d), rdM, by omega, ?_, ?_⟩
      · simp only [rdI]
        have e : p2 (127 + 1) = 340282366920938463463374607431768211456 := rfl
        have v0 : val 0 0 = 0 := rfl
        rw [e, v0]
        exact ⟨by omega, by omega, ⟨by omega, by omega⟩, by omega, by omega⟩
      · intro n l1 l2 q1 l3 l4 q0 l5 l6 r1 l7 l8 r0 l9 l10 hI
        simp only [rdI] at hI
        obtain ⟨_, iN, ⟨i3, i4⟩, i5, i6⟩ := hI
        refine ⟨fun hn => ⟨by omega, ?_⟩, fun hn => ?_⟩
        · intro u1 hu1 _ _ u0 hu0 _ _
          refine ⟨by omega, ?_⟩
          intro bt hbt b0 b1
          refine ⟨by omega, ?_⟩
          intro t1 ht1 t10 t11 t0 ht0 t00 t01
          have hp := p2_pos n
          have hps := p2_succ hn
          have i5' := i5
          have eN := mod_two (k := bt) hp hN.1 hbt
          have hb2 : 0 ≤ bt ∧ bt ≤ 1 := by omega
          rw [hps, eN] at iN
          rw [hps] at i5
          have hQ2 : val q1 q0 % p2 n = 0 := by
            have := Int.emod_emod_of_dvd (val q1 q0) (Int.dvd_mul_left 2 (p2 n))
            rw [i5, Int.zero_emod] at this
            exact this.symm
          have hm0 := Int.emod_nonneg (val a b) (b := p2 n) (by omega)
          have hm1 := Int.emod_lt_of_pos (val a b) hp
          have hR2 : val r1 r0 * (2 * p2 n) = 2 * (val r1 r0 * p2 n) := Int.mul_left_comm _ _ _
          rw [hR2] at iN
          clear hbt eN hR2 hps i5 l7 l8 l9 l10
          have hDD : val c d = c * 18446744073709551616 + d := rfl
          generalize hDv : val c d = D at *
          generalize val r1 r0 = R at *
          have hu : val u1 u0 = (R + R) % 340282366920938463463374607431768211456 := by unfold val; omega
          have hv : val 0 bt = bt := by unfold val; omega
          rw [hu, hv] at ht1 ht0
          have ht : val t1 t0 = (2 * R + bt) % 340282366920938463463374607431768211456 := by unfold val; omega
          have htt : t1 * 18446744073709551616 + t0 = (2 * R + bt) % 340282366920938463463374607431768211456 := ht
          have hdr : (2 * R + bt) * p2 n = 2 * (R * p2 n) + bt * p2 n := by rw [Int.add_mul, Int.mul_assoc]
          have hDp : D * p2 n = p2 n * D := Int.mul_comm _ _
          have hskip : 2 * R + bt < D → val t1 t0 = 2 * R + bt := fun h => by omega
          have hQp0 : D ≤ 2 * R + bt → val q1 q0 + p2 n < 340282366920938463463374607431768211456 := fun h => by
            have h1 := Int.mul_le_mul_of_nonneg_right h (Int.le_of_lt hp)
            have h2 := Int.mul_le_mul_of_nonneg_left hD (show 0 ≤ val q1 q0 + p2 n by omega)
            rw [Int.mul_one, Int.add_mul] at h2
            omega
          clear hu1 hu0 hu hv ht1 ht0
          rw [ht]
          refine ⟨fun ho => ?_, fun ho => ⟨fun hne => ?_, fun heq => ?_⟩⟩
          · have hge : D ≤ 2 * R + bt := by omega
            have hQp := hQp0 hge
            refine ⟨by omega, ?_⟩
            intro s1 hs1 _ _ s0 hs0 _ _
            have hs : val s1 s0 = 2 * R + bt - D := by unfold val; omega
            refine ⟨⟨by omega, by omega, by omega, i5', hQp⟩, ?_⟩
            intro w1 hw1 _ _ w0 hw0 _ _ m hm
            have hw : val w1 w0 = val q1 q0 + p2 n := by
              generalize val q1 q0 + p2 n = Z at *
              unfold val; omega
            subst hm
            refine ⟨by omega, ?_, ?_⟩
            · simp only [rdI]
              rw [show n - 1 + 1 = n by omega, hw, hs]
              refine ⟨by omega, ?_, ⟨by omega, by omega⟩, ?_, by omega⟩
              · rw [Int.add_mul, Int.sub_mul]; omega
              · rw [Int.add_emod_right]; exact hQ2
            · simp only [rdM]; omega
          · refine ⟨fun hh => ?_, fun hh => ?_⟩
            · have hge : D ≤ 2 * R + bt := by omega
              have hQp := hQp0 hge
              refine ⟨by omega, ?_⟩
              intro s1 hs1 _ _ s0 hs0 _ _
              have hs : val s1 s0 = 2 * R + bt - D := by unfold val; omega
              refine ⟨⟨by omega, by omega, by omega, i5', hQp⟩, ?_⟩
              intro w1 hw1 _ _ w0 hw0 _ _ m hm
              have hw : val w1 w0 = val q1 q0 + p2 n := by
                generalize val q1 q0 + p2 n = Z at *
                unfold val; omega
              subst hm
              refine ⟨by omega, ?_, ?_⟩
              · simp only [rdI]
                rw [show n - 1 + 1 = n by omega, hw, hs]
                refine ⟨by omega, ?_, ⟨by omega, by omega⟩, ?_, by omega⟩
                · rw [Int.add_mul, Int.sub_mul]; omega
                · rw [Int.add_emod_right]; exact hQ2
              · simp only [rdM]; omega
            · have hlt : 2 * R + bt < D := by omega
              intro m hm
              subst hm
              refine ⟨by omega, ?_, ?_⟩
              · simp only [rdI]
                rw [show n - 1 + 1 = n by omega, hskip (by omega)]
                exact ⟨by omega, by omega, ⟨by omega, by omega⟩, hQ2, by omega⟩
              · simp only [rdM]; omega
          · refine ⟨fun hh => ?_, fun hh => ?_⟩
            · have hge : D ≤ 2 * R + bt := by omega
              have hQp := hQp0 hge
              refine ⟨by omega, ?_⟩
              intro s1 hs1 _ _ s0 hs0 _ _
              have hs : val s1 s0 = 2 * R + bt - D := by unfold val; omega
              refine ⟨⟨by omega, by omega, by omega, i5', hQp⟩, ?_⟩
              intro w1 hw1 _ _ w0 hw0 _ _ m hm
              have hw : val w1 w0 = val q1 q0 + p2 n := by
                generalize val q1 q0 + p2 n = Z at *
                unfold val; omega
              subst hm
              refine ⟨by omega, ?_, ?_⟩
              · simp only [rdI]
                rw [show n - 1 + 1 = n by omega, hw, hs]
                refine ⟨by omega, ?_, ⟨by omega, by omega⟩, ?_, by omega⟩
                · rw [Int.add_mul, Int.sub_mul]; omega
                · rw [Int.add_emod_right]; exact hQ2
              · simp only [rdM]; omega
            · have hlt : 2 * R + bt < D := by omega
              intro m hm
              subst hm
              refine ⟨by omega, ?_, ?_⟩
              · simp only [rdI]
                rw [show n - 1 + 1 = n by omega, hskip (by omega)]
                exact ⟨by omega, by omega, ⟨by omega, by omega⟩, hQ2, by omega⟩
              · simp only [rdM]; omega
        · have en : n = -1 := by omega
          subst en
          have e1 : p2 (-1 + 1) = 1 := rfl
          rw [e1, Int.mul_one, Int.emod_one, Int.add_zero] at iN
          obtain ⟨u1, u2⟩ := div_uniq (by omega) iN.symm i3 i4
          unfold divQ divR
          rw [if_neg (by omega), if_neg (by omega), u1, u2]
          unfold val
          omega
def ldtells_sp : SpecSh := { args := [(.agg [(.int .u64 (.z 0)), (.int .u64 (.z 0))]), (.agg [(.int .u64 (.z 0)), (.int .u64 (.z 0))])], res := (.bool .f), sh := [.b] }
set_option maxRecDepth 100000 in
def ldtells_tree : Tree :=
.call 27 [.i (some (0, 18446744073709551615)), .i (some (0, 18446744073709551615)), .i (some (0, 18446744073709551615)), .i (some (0, 18446744073709551615)), .i (some ((-9223372036854775808), 9223372036854775807))] [.i (.v 0), .i (.v 1), .i (.v 2), .i (.v 3)] <|
.ite (.and (.cmp .eq (.v 2) (.z 0)) (.cmp .eq (.v 3) (.z 0))) (.call 28 [.b] [] <|
.ite (.v 9) (.ite (.cmp .eq (.v 8) (.z 4)) (.ite (.and (.cmp .eq (.v 4) (.z 0)) (.cmp .eq (.v 5) (.z 0))) (.ret (.bool (.and (.cmp .eq (.v 6) (.z 0)) (.cmp .eq (.v 7) (.z 0))))) <|
.ret (.bool .f)) <|
.ret (.bool .f)) <|
.ret (.bool .f)) <|
.call 29 [.i (some (0, 18446744073709551615)), .i (some (0, 18446744073709551615)), .i (some (0, 18446744073709551615)), .i (some (0, 18446744073709551615))] [.i (.v 0), .i (.v 1), .i (.v 2), .i (.v 3)] <|
.call 28 [.b] [] <|
.ite (.v 13) (.ite (.cmp .eq (.v 8) (.z 0)) (.ite (.and (.cmp .eq (.v 4) (.v 9)) (.cmp .eq (.v 5) (.v 10))) (.ret (.bool (.and (.cmp .eq (.v 6) (.v 11)) (.cmp .eq (.v 7) (.v 12))))) <|
.ret (.bool .f)) <|
.ret (.bool .f)) <|
.ret (.bool .f)
noncomputable def ldtells_cx : Ctx := { tys := tys, fns := fns, sps := [(27, wdiv_sp), (29, rdiv_sp), (28, dalive_sp)], anns := [], trys := [] }
def ldtells_ivs : List (Option (Int × Int)) := [some (0, 18446744073709551615), some (0, 18446744073709551615), some (0, 18446744073709551615), some (0, 18446744073709551615)]
set_option maxRecDepth 100000 in
theorem ldtells_walk : runFn ldtells_cx 3000 6 Try.f6 ldtells_sp.args ldtells_ivs = ldtells_tree := by kernel_rfl
noncomputable def ldtells_M : Nat → SpecSem
  | 27 => wdiv_sem
  | 29 => rdiv_sem
  | 28 => dalive_sem
  | _ => noSem
theorem ldtells_M27 : ldtells_M 27 = wdiv_sem := rfl
theorem ldtells_M29 : ldtells_M 29 = rdiv_sem := rfl
theorem ldtells_M28 : ldtells_M 28 = dalive_sem := rfl
theorem ldtells_cxok : CxOK Try.prog ldtells_cx ldtells_M := ⟨tysOK, fnsOK, spCons wdiv_ok <| spCons rdiv_ok <| spCons dalive_ok <| fun _ _ h => spNil h, mixedOK, fun _ _ h => trNil h⟩

def ldtells_sem : SpecSem := { pre := fun cs => match cs with | [.i a, .i b, .i c, .i d] => IsU a ∧ IsU b ∧ IsU c ∧ IsU d | _ => False, out := fun cs => match cs with | [.i a, .i b, .i c, .i d] => [.b true] | _ => [] }
theorem ldtells_ok : SpecOK Try.prog 6 ldtells_sp ldtells_sem := by
  refine spec_of_tree ldtells_cxok Try.func6 (by kernel_rfl) (by kernel_rfl) ldtells_walk rfl ?_
  intro cs hpre
  match cs, hpre with
  | [.i a, .i b, .i c, .i d], ⟨ha, hb, hc, hd⟩ =>
    obtain ⟨⟨g1, g2⟩, ⟨g3, g4⟩⟩ := divQR_rng ha hb hc hd
    obtain ⟨h1, h2⟩ := ha
    obtain ⟨h3, h4⟩ := hb
    obtain ⟨h5, h6⟩ := hc
    obtain ⟨h7, h8⟩ := hd
    refine ⟨rfl, IvsB.ok (by simp only [ldtells_ivs, IvsB, Cv.int, and_true]; omega), ?_, ?_⟩
    · simp only [ldtells_sem, ldtells_sp, Fits]
    · simp only [ldtells_sem, ldtells_sp, IsU, ldtells_tree, ldtells_M27, wdiv_sem, ldtells_M29, rdiv_sem, ldtells_M28, dalive_sem, Tree.den, List.getElem?_cons_zero, List.getElem?_cons_succ, IE.den, BE.den, At.den, CA.den, Env.get, Cv.int, Cv.bool, List.cons_append, List.nil_append, List.map_cons, List.map_nil, bindRes, bindEq, Fits, SV.den, denL, place, placeL, eq_t, eq_f, lt_t, lt_f, le_t, le_f, beq_iff_eq, beq_eq_false_iff_ne, ne_eq, reduceCtorEq, b_dec, decide_eq_true_eq, decide_eq_false_iff_not, Bool.not_eq_false', Bool.or_eq_true, Bool.or_eq_false_iff, Bool.and_eq_false_iff, true_iff, false_iff, Bool.false_eq_true, Bool.not_eq_true', Bool.and_eq_true, Bool.not_true, Bool.not_false, List.cons.injEq, Cv.i.injEq, Cv.b.injEq, and_true, true_and, agg_inj, tup_inj, Value.int.injEq, Value.bool.injEq]
      by_cases hz : val c d = 0
      · have hc0 : c = 0 ∧ d = 0 := by unfold val at hz; omega
        have eQ : divQ a b c d = 0 := by unfold divQ; rw [if_pos hz]
        have eR : divR a b c d = 0 := by unfold divR; rw [if_pos hz]
        simp only [hz, eQ, eR, if_true]
        (repeat' (first | intro _ | refine And.intro ?_ ?_ | exact trivial)) <;> omega
      · have hD : 1 ≤ val c d := by unfold val at *; omega
        have hcd : ¬ (c = 0 ∧ d = 0) := fun h => hz (by rw [h.1, h.2]; rfl)
        simp only [hz, if_false]
        (repeat' (first | intro _ | refine And.intro ?_ ?_ | exact trivial)) <;> omega
end Go.Proofs.Ytbmfkdammaodpaa.X
