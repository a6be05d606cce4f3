/-
  ZoneHulls, the pure statement: all classes that deviations of any span have, with variances between any two, are as the reference says, or refused. No condition but that each number is of its kind.
-/
import Derived.Test.YtpgoekfmalpcdaaXx10
import Derived.Test.YtpgoekfmalpcdaaMRef13
import Derived.Test.YtpgoekfmalpcdaaPureZoneRises
namespace Go.Proofs.Ytpgoekfmalpcdaa.Pure
open Go.RowKit Go.Proofs.Ytpgoekfmalpcdaa.X Go.Proofs.YtpgoekfmalpcdaaW.PrintWords Go.Proofs.YtpgoekfmalpcdaaW.PrintMore
set_option linter.unusedVariables false
set_option linter.unusedSimpArgs false

def maskOf (a b : Int) : Int := (2 ^ (b - a + 1).toNat - 1) * 2 ^ (a + 4).toNat
theorem between_fin : ∀ i j : Fin 9, i.val ≤ j.val → datumref13_Between.f 12 ((i.val : Int) - 4) ((j.val : Int) - 4) = some (maskOf ((i.val : Int) - 4) ((j.val : Int) - 4)) := by decide +kernel
theorem shl_fin : ∀ i j : Fin 9, i.val ≤ j.val → (0 ≤ (wrap64 ((wrap64 (((j.val : Int) - 4) - ((i.val : Int) - 4))) + 1)) ∧ 0 ≤ (wrap64 (((i.val : Int) - 4) + 4)) ∧ shl .i64 (wrap64 ((shl .i64 1 (wrap64 ((wrap64 (((j.val : Int) - 4) - ((i.val : Int) - 4))) + 1))) - 1)) (wrap64 (((i.val : Int) - 4) + 4)) = maskOf ((i.val : Int) - 4) ((j.val : Int) - 4)) := by decide +kernel
theorem fin9 {a : Int} (h : -4 ≤ a ∧ a ≤ 4) : ∃ i : Fin 9, a = (i.val : Int) - 4 := ⟨⟨(a + 4).toNat, by omega⟩, by simp; omega⟩
theorem ev_between {a b : Int} (ha : -4 ≤ a ∧ a ≤ 4) (hb : -4 ≤ b ∧ b ≤ 4) (h : a ≤ b) : Ev (fun k => datumref13_Between.f k a b) (maskOf a b) := by
  obtain ⟨i, rfl⟩ := fin9 ha
  obtain ⟨j, rfl⟩ := fin9 hb
  exact Ev.of (fun k => datumref13_Between.mono _ _ k) (between_fin i j (by omega))
theorem shl_ok {a b : Int} (ha : -4 ≤ a ∧ a ≤ 4) (hb : -4 ≤ b ∧ b ≤ 4) (h : a ≤ b) : 0 ≤ (wrap64 ((wrap64 (b - a)) + 1)) ∧ 0 ≤ (wrap64 (a + 4)) ∧ shl .i64 (wrap64 ((shl .i64 1 (wrap64 ((wrap64 (b - a)) + 1))) - 1)) (wrap64 (a + 4)) = maskOf a b := by
  obtain ⟨i, rfl⟩ := fin9 ha
  obtain ⟨j, rfl⟩ := fin9 hb
  exact shl_fin i j (by omega)

theorem zclass_ok {d a b : Int} (h0 : -9223372036854775808 ≤ d ∧ d < 9223372036854775808) (h1 : 0 ≤ a ∧ a < 1152921504606846976) (h2 : 0 ≤ b ∧ b < 18446744073709551616) :
    zone_class.f d a b = some (zcls d (a * 18446744073709551616 + b)) := by
  unfold zone_class.f
  rw [if_pos (by simp only [Bool.and_eq_true, i64B_iff, u64B_iff, decide_eq_true_eq]; exact ⟨h0, h1, h2⟩)]

/-- the hull's ends: the least and the greatest class -/
def lowOf (lo u v : Int) : Int := if lo > 0 then zcls lo v else zcls lo u
def highOf (hi u v : Int) : Int := if hi < 0 then zcls hi v else zcls hi u
theorem low_bd (lo u v : Int) : -4 ≤ lowOf lo u v ∧ lowOf lo u v ≤ 4 := by unfold lowOf; split <;> exact zcls_bd _ _
theorem high_bd (hi u v : Int) : -4 ≤ highOf hi u v ∧ highOf hi u v ≤ 4 := by unfold highOf; split <;> exact zcls_bd _ _
theorem low_le_high {lo hi u v : Int} (hu : 0 ≤ u) (huv : u ≤ v) (h : lo ≤ hi) : lowOf lo u v ≤ highOf hi u v := by
  unfold lowOf highOf
  have m1 := zcls_mono v h
  have m2 := zcls_mono u h
  split
  · rw [if_neg (by omega)]; have := zcls_anti (b := hi) (by omega) hu huv; omega
  · split
    · have := zcls_anti' (b := lo) (by omega) hu huv; omega
    · exact m2

theorem hull_j0 (k : Nat) (lo hi lh ll hh hl : Int) (h0 : -9223372036854775808 ≤ lo ∧ lo < 9223372036854775808) (h1 : -9223372036854775808 ≤ hi ∧ hi < 9223372036854775808) (h2 : 0 ≤ lh ∧ lh < 1152921504606846976) (h3 : 0 ≤ ll ∧ ll < 18446744073709551616)
    (h4 : 0 ≤ hh ∧ hh < 1152921504606846976) (h5 : 0 ≤ hl ∧ hl < 18446744073709551616) (h : lo ≤ hi) (hv : lh * 18446744073709551616 + ll ≤ hh * 18446744073709551616 + hl) :
    zone_Hull.j0 (k + 1) false lo hi lh ll hh hl = some (maskOf (lowOf lo (lh * 18446744073709551616 + ll) (hh * 18446744073709551616 + hl)) (highOf hi (lh * 18446744073709551616 + ll) (hh * 18446744073709551616 + hl)), 0) := by
  have b1 := low_bd lo (lh * 18446744073709551616 + ll) (hh * 18446744073709551616 + hl)
  have b2 := high_bd hi (lh * 18446744073709551616 + ll) (hh * 18446744073709551616 + hl)
  have b3 := low_le_high (u := lh * 18446744073709551616 + ll) (by omega) hv h
  obtain ⟨s1, s2, s3⟩ := shl_ok b1 b2 b3
  simp only [zone_Hull.j0]
  rw [if_neg (by simp), zclass_ok h0 h2 h3, zclass_ok h1 h2 h3, zclass_ok h0 h4 h5, zclass_ok h1 h4 h5]
  simp only [Option.bind_some]
  simp only [lowOf, highOf] at s1 s2 s3 ⊢
  by_cases c1 : lo > 0
  · have c2 : ¬ hi < 0 := by omega
    rw [if_pos c1, if_neg c2] at s1 s3
    rw [if_pos c1] at s2
    rw [if_pos c1, if_neg c2, if_pos s1, if_pos s2, s3, if_pos c1, if_neg c2]
  · rw [if_neg c1] at s2
    by_cases c2 : hi < 0
    · rw [if_neg c1, if_pos c2] at s1 s3
      rw [if_neg c1, if_pos c2, if_pos s1, if_pos s2, s3, if_neg c1, if_pos c2]
    · rw [if_neg c1, if_neg c2] at s1 s3
      rw [if_neg c1, if_neg c2, if_pos s1, if_pos s2, s3, if_neg c1, if_neg c2]

theorem hull_l1 (x7 x8 d i lh ll hh hl : Int) (xs : List Int) (n : Int) (hd : -9223372036854775808 ≤ d ∧ d < 9223372036854775808) (h2 : 0 ≤ lh ∧ lh < 1152921504606846976) (h3 : 0 ≤ ll ∧ ll < 18446744073709551616)
    (h4 : 0 ≤ hh ∧ hh < 1152921504606846976) (h5 : 0 ≤ hl ∧ hl < 18446744073709551616) (hi : 0 ≤ i ∧ i < 1000) {r : Int}
    (h : Ev (fun k => datumref13_Hull.l0 k (mn (mn x7 (zcls d (lh * 18446744073709551616 + ll))) (zcls d (hh * 18446744073709551616 + hl))) (mx (mx x8 (zcls d (lh * 18446744073709551616 + ll))) (zcls d (hh * 18446744073709551616 + hl))) xs n (i + 1) lh ll hh hl) r) :
    Ev (fun k => datumref13_Hull.l1 k x7 x8 d xs n i [(⟨lh, ll⟩ : S24), (⟨hh, hl⟩ : S24)] 2 0 lh ll hh hl) r := by
  have c1 := ev_class d lh ll hd h2 h3
  have c2 := ev_class d hh hl hd h4 h5
  refine Ev.step (f := fun k => (datumref13_Class.f k d lh ll).bind fun t => (datumref13_Class.f k d lh ll).bind fun u => datumref13_Hull.l1 k (mn x7 t) (mx x8 u) d xs n i [(⟨lh, ll⟩ : S24), (⟨hh, hl⟩ : S24)] 2 1 lh ll hh hl) (fun k => ?_) ?_
  · simp only [datumref13_Hull.l1]
    rw [if_pos (by omega), if_pos (by omega), if_pos (by simp), wrap64_id (by omega) (by omega)]
    rfl
  refine Ev.bind (f := fun k t => (datumref13_Class.f k d lh ll).bind fun u => datumref13_Hull.l1 k (mn x7 t) (mx x8 u) d xs n i [(⟨lh, ll⟩ : S24), (⟨hh, hl⟩ : S24)] 2 1 lh ll hh hl) c1 ?_
  refine Ev.bind (f := fun k u => datumref13_Hull.l1 k (mn x7 _) (mx x8 u) d xs n i [(⟨lh, ll⟩ : S24), (⟨hh, hl⟩ : S24)] 2 1 lh ll hh hl) c1 ?_
  generalize mn x7 (zcls d (lh * 18446744073709551616 + ll)) = y7 at *
  generalize mx x8 (zcls d (lh * 18446744073709551616 + ll)) = y8 at *
  refine Ev.step (f := fun k => (datumref13_Class.f k d hh hl).bind fun t => (datumref13_Class.f k d hh hl).bind fun u => datumref13_Hull.l1 k (mn y7 t) (mx y8 u) d xs n i [(⟨lh, ll⟩ : S24), (⟨hh, hl⟩ : S24)] 2 2 lh ll hh hl) (fun k => ?_) ?_
  · simp only [datumref13_Hull.l1]
    rw [if_pos (by omega), if_pos (by omega), if_pos (by simp), wrap64_id (by omega) (by omega)]
    rfl
  refine Ev.bind (f := fun k t => (datumref13_Class.f k d hh hl).bind fun u => datumref13_Hull.l1 k (mn y7 t) (mx y8 u) d xs n i [(⟨lh, ll⟩ : S24), (⟨hh, hl⟩ : S24)] 2 2 lh ll hh hl) c2 ?_
  refine Ev.bind (f := fun k u => datumref13_Hull.l1 k (mn y7 _) (mx y8 u) d xs n i [(⟨lh, ll⟩ : S24), (⟨hh, hl⟩ : S24)] 2 2 lh ll hh hl) c2 ?_
  refine Ev.step (fun k => ?_) h
  simp only [datumref13_Hull.l1]
  rw [if_neg (by omega), wrap64_id (by omega) (by omega)]

theorem mnmx (lo hi u v : Int) (hu : 0 ≤ u) (huv : u ≤ v) (h : lo ≤ hi) :
    mn (mn (mn (mn 5 (zcls lo u)) (zcls lo v)) (zcls hi u)) (zcls hi v) = lowOf lo u v ∧ mx (mx (mx (mx (-5) (zcls lo u)) (zcls lo v)) (zcls hi u)) (zcls hi v) = highOf hi u v := by
  have a1 := zcls_bd lo u
  have a2 := zcls_bd lo v
  have a3 := zcls_bd hi u
  have a4 := zcls_bd hi v
  have m1 := zcls_mono v h
  have m2 := zcls_mono u h
  have k1 : 0 ≤ lo → zcls lo v ≤ zcls lo u := fun h => zcls_anti h hu huv
  have k2 : lo ≤ 0 → zcls lo u ≤ zcls lo v := fun h => zcls_anti' h hu huv
  have k3 : 0 ≤ hi → zcls hi v ≤ zcls hi u := fun h => zcls_anti h hu huv
  have k4 : hi ≤ 0 → zcls hi u ≤ zcls hi v := fun h => zcls_anti' h hu huv
  unfold lowOf highOf
  generalize zcls lo u = p1 at *
  generalize zcls lo v = p2 at *
  generalize zcls hi u = p3 at *
  generalize zcls hi v = p4 at *
  constructor
  · unfold mn; split <;> split <;> split <;> split <;> split <;> omega
  · unfold mx; split <;> split <;> split <;> split <;> split <;> omega

theorem ev_refhull (lo hi lh ll hh hl : Int) (h0 : -9223372036854775808 ≤ lo ∧ lo < 9223372036854775808) (h1 : -9223372036854775808 ≤ hi ∧ hi < 9223372036854775808) (h2 : 0 ≤ lh ∧ lh < 1152921504606846976) (h3 : 0 ≤ ll ∧ ll < 18446744073709551616)
    (h4 : 0 ≤ hh ∧ hh < 1152921504606846976) (h5 : 0 ≤ hl ∧ hl < 18446744073709551616) (h : lo ≤ hi) (hv : lh * 18446744073709551616 + ll ≤ hh * 18446744073709551616 + hl) :
    Ev (fun k => datumref13_Hull.f k lo hi lh ll hh hl) (maskOf (lowOf lo (lh * 18446744073709551616 + ll) (hh * 18446744073709551616 + hl)) (highOf hi (lh * 18446744073709551616 + ll) (hh * 18446744073709551616 + hl))) := by
  have b1 := low_bd lo (lh * 18446744073709551616 + ll) (hh * 18446744073709551616 + hl)
  have b2 := high_bd hi (lh * 18446744073709551616 + ll) (hh * 18446744073709551616 + hl)
  have b3 := low_le_high (u := lh * 18446744073709551616 + ll) (by omega) hv h
  obtain ⟨e1, e2⟩ := mnmx lo hi (lh * 18446744073709551616 + ll) (hh * 18446744073709551616 + hl) (by omega) hv h
  have hbt := ev_between b1 b2 b3
  have last : Ev (fun k => datumref13_Hull.l0 k (lowOf lo (lh * 18446744073709551616 + ll) (hh * 18446744073709551616 + hl)) (highOf hi (lh * 18446744073709551616 + ll) (hh * 18446744073709551616 + hl)) [lo, hi] 2 2 lh ll hh hl) _ :=
    Ev.step (f := fun k => (datumref13_Between.f k (lowOf lo (lh * 18446744073709551616 + ll) (hh * 18446744073709551616 + hl)) (highOf hi (lh * 18446744073709551616 + ll) (hh * 18446744073709551616 + hl))).bind fun t => some t) (fun k => by simp only [datumref13_Hull.l0]; rw [if_neg (by omega)]) (Ev.bind (f := fun _ t => some t) hbt (Ev.now _))
  rw [← e1, ← e2] at last
  have s2 := hull_l1 _ _ hi 1 lh ll hh hl [lo, hi] 2 h1 h2 h3 h4 h5 (by omega) last
  have s3 : Ev (fun k => datumref13_Hull.l0 k (mn (mn 5 (zcls lo (lh * 18446744073709551616 + ll))) (zcls lo (hh * 18446744073709551616 + hl))) (mx (mx (-5) (zcls lo (lh * 18446744073709551616 + ll))) (zcls lo (hh * 18446744073709551616 + hl))) [lo, hi] 2 (0 + 1) lh ll hh hl) _ :=
    Ev.step (fun k => by simp only [datumref13_Hull.l0]; rw [if_pos (by omega), if_pos (by omega), if_pos (by simp)]; rfl) s2
  have s4 := hull_l1 5 (-5) lo 0 lh ll hh hl [lo, hi] 2 h0 h2 h3 h4 h5 (by omega) s3
  unfold datumref13_Hull.f
  rw [e1, e2] at s4
  refine Ev.congr (fun k => rfl) (Ev.step (g := fun k => datumref13_Hull.l0 k 5 (-5) [lo, hi] 2 0 lh ll hh hl) (fun k => ?_) s4)
  simp only [datumref13_Hull.l0]
  rw [if_pos (by omega), if_pos (by omega), if_pos (by simp)]
  rfl

theorem ZoneHulls : ∀ (a0_0 : Int) (a0_1 : Int) (a1_0 : Int) (a1_1 : Int) (a2_0 : Int) (a2_1 : Int), (Lit.int .i64 a0_0).wf = true → (Lit.int .i64 a0_1).wf = true → (Lit.int .u64 a1_0).wf = true → (Lit.int .u64 a1_1).wf = true → (Lit.int .u64 a2_0).wf = true → (Lit.int .u64 a2_1).wf = true → ∃ k, datumlaw13_ZoneHulls.f k a0_0 a0_1 a1_0 a1_1 a2_0 a2_1 = some true := by
  intro lo hi lh ll hh hl h0 h1 h2 h3 h4 h5
  replace h0 := wf64 h0; replace h1 := wf64 h1; replace h2 := wfu64 h2; replace h3 := wfu64 h3; replace h4 := wfu64 h4; replace h5 := wfu64 h5
  have bad : (lo ≤ hi ∧ ¬ (hh < lh ∨ hh = lh ∧ hl < ll) ∧ hh < 1152921504606846976) ∨ ¬ (lo ≤ hi ∧ ¬ (hh < lh ∨ hh = lh ∧ hl < ll) ∧ hh < 1152921504606846976) := Decidable.em _
  rcases bad with ⟨g1, g2, g3⟩ | hb
  · have hev := ev_refhull lo hi lh ll hh hl h0 h1 (by omega) h3 (by omega) h5 g1 (by omega)
    have hj := fun k => hull_j0 k lo hi lh ll hh hl h0 h1 (by omega) h3 (by omega) h5 g1 (by omega)
    generalize maskOf (lowOf lo (lh * 18446744073709551616 + ll) (hh * 18446744073709551616 + hl)) (highOf hi (lh * 18446744073709551616 + ll) (hh * 18446744073709551616 + hl)) = m at *
    obtain ⟨K, hK⟩ := hev
    refine ⟨K + 1, ?_⟩
    unfold datumlaw13_ZoneHulls.f zone_Hull.f span_Right.f datumref05_Right.f datumref13_Variance.f
    simp only [Option.bind_some, less_ok, decide_eq_true_eq, if_pos g1, if_neg g2]
    rw [decide_eq_false (show ¬ hh ≥ 1152921504606846976 by omega), hj K]
    simp only [Option.bind_some, decide_eq_true g3, Bool.not_true, datumlaw13_ZoneHulls.j0, Bool.false_eq_true, if_false, alive_ok, if_true, hK K (Nat.le_refl _), beq_self_eq_true]
  · refine ⟨2, ?_⟩
    have hj : zone_Hull.f 2 lo hi lh ll hh hl = some (0, 1) := by
      unfold zone_Hull.f span_Right.f
      simp only [Option.bind_some, less_ok, decide_eq_true_eq]
      split
      · split
        · simp [zone_Hull.j0]
        · rw [decide_eq_true (show hh ≥ 1152921504606846976 by omega)]; simp [zone_Hull.j0]
      · simp [zone_Hull.j0]
    unfold datumlaw13_ZoneHulls.f datumref05_Right.f datumref13_Variance.f
    rw [hj]
    simp only [Option.bind_some, less_ok, decide_eq_true_eq, datumlaw13_ZoneHulls.j0, alive_ok, if_true, beq_self_eq_true]
    split
    · split
      · rfl
      · rw [decide_eq_false (show ¬ hh < 1152921504606846976 by omega)]; simp
    · rfl
end Go.Proofs.Ytpgoekfmalpcdaa.Pure
