/-
  SpanInside tells true, for every input.
-/
import Derived.Test.YtlhmhcjpdpakkaaSxSpanNum
namespace Go.Proofs.Ytlhmhcjpdpakkaa.X
open Go Go.SX Go.RowKit
set_option linter.unusedVariables false
set_option linter.unusedSimpArgs false










/-- what lies in another, as both are told -/
theorem in_of {l h l' h' x y z x' y' z' : Int} {i1 i2 i3 : Decidable (IsI l ∧ IsI h)} {j1 j2 j3 : Decidable (IsI l' ∧ IsI h')} (e1 : x = @ite Int (IsI l ∧ IsI h) i1 l 0) (e2 : y = @ite Int (IsI l ∧ IsI h) i2 h 0) (e3 : z = @ite Int (IsI l ∧ IsI h) i3 0 5)
    (f1 : x' = @ite Int (IsI l' ∧ IsI h') j1 l' 0) (f2 : y' = @ite Int (IsI l' ∧ IsI h') j2 h' 0) (f3 : z' = @ite Int (IsI l' ∧ IsI h') j3 0 5) (hl : l' ≤ l) (hh : h ≤ h') (hlh : l ≤ h) : z' = 0 → z = 0 ∧ x' ≤ x ∧ y ≤ y' := by
  intro hz
  by_cases q : IsI l' ∧ IsI h'
  · have p : IsI l ∧ IsI h := by unfold IsI at q ⊢; omega
    rw [if_pos p] at e1 e2 e3
    rw [if_pos q] at f1 f2
    omega
  · rw [if_neg q] at f3; omega
theorem mn4_mx4 (p q r s : Int) : mn4 p q r s ≤ mx4 p q r s := by
  have h1 := (mn4_cases p q r s).1.1
  have h2 := (mx4_cases p q r s).1.1
  omega
theorem div_sub {a b c d x y : Int} (h1 : a ≤ x) (h2 : x ≤ b) (h3 : c ≤ y) (h4 : y ≤ d) : qEr a b c d = 0 → qEr x b c y = 0 ∧ qLo a b c d ≤ qLo x b c y ∧ qHi x b c y ≤ qHi a b c d := by
  intro hz
  have wo : a ≤ b ∧ c ≤ d := by omega
  have wi : x ≤ b ∧ c ≤ y := by omega
  by_cases z : c ≤ 0 ∧ 0 ≤ d
  · have := (q_zero wo z).2.2; omega
  · by_cases k : qOK a b c d
    · obtain ⟨e1, e2, e3⟩ := q_fits wo z k
      have z' : ¬(c ≤ 0 ∧ 0 ≤ y) := by omega
      have c0 : c ≠ 0 := by omega
      have y0 : y ≠ 0 := by omega
      have p1 := div_in (a := a) (b := b) (c := c) (d := d) (x := x) (y := c) h1 h2 (by omega) (by omega) z
      have p2 := div_in (a := a) (b := b) (c := c) (d := d) (x := x) (y := y) h1 h2 h3 h4 z
      have p3 := div_in (a := a) (b := b) (c := c) (d := d) (x := b) (y := c) (by omega) (by omega) (by omega) (by omega) z
      have p4 := div_in (a := a) (b := b) (c := c) (d := d) (x := b) (y := y) (by omega) (by omega) h3 h4 z
      have s1 := mn4_sub p1.1 p2.1 p3.1 p4.1
      have s2 := mx4_sub p1.2 p2.2 p3.2 p4.2
      have l1 := dn_up (x := x) c0
      have t1 := (mn4_cases (dnZ x c) (dnZ x y) (dnZ b c) (dnZ b y)).1.1
      have t2 := (mx4_cases (upD x c) (upD x y) (upD b c) (upD b y)).1.1
      have k' : qOK x b c y := by
        unfold qOK IsI at k ⊢
        omega
      obtain ⟨g1, g2, g3⟩ := q_fits wi z' k'
      rw [e1, e2, g1, g2, g3]
      exact ⟨rfl, s1, s2⟩
    · have := (q_over wo z k).2.2; omega
theorem mul_sub {a b c d x y : Int} (h1 : a ≤ x) (h2 : x ≤ b) (h3 : c ≤ y) (h4 : y ≤ d) : mn4 (a * c) (a * d) (b * c) (b * d) ≤ mn4 (x * c) (x * y) (b * c) (b * y) ∧ mx4 (x * c) (x * y) (b * c) (b * y) ≤ mx4 (a * c) (a * d) (b * c) (b * d) := by
  have p1 := mul_in (a := a) (b := b) (c := c) (d := d) (x := x) (y := c) h1 h2 (by omega) (by omega)
  have p2 := mul_in (a := a) (b := b) (c := c) (d := d) (x := x) (y := y) h1 h2 h3 h4
  have p3 := mul_in (a := a) (b := b) (c := c) (d := d) (x := b) (y := c) (by omega) (by omega) (by omega) (by omega)
  have p4 := mul_in (a := a) (b := b) (c := c) (d := d) (x := b) (y := y) (by omega) (by omega) h3 h4
  exact ⟨mn4_sub p1.1 p2.1 p3.1 p4.1, mx4_sub p1.2 p2.2 p3.2 p4.2⟩
theorem root_sub {a b x x1 y1 z1 x2 y2 z2 : Int} (h1 : a ≤ x) (h2 : x ≤ b) {i1 i2 : Decidable (0 ≤ x)} {i3 : Decidable (0 ≤ x)} {j1 j2 : Decidable (0 ≤ a)} {j3 : Decidable (0 ≤ a)}
    (e1 : x1 = @ite Int (0 ≤ x) i1 (rootZ x) 0) (e2 : y1 = @ite Int (0 ≤ x) i2 (upZ b) 0) (e3 : z1 = @ite Int (0 ≤ x) i3 0 3)
    (f1 : x2 = @ite Int (0 ≤ a) j1 (rootZ a) 0) (f2 : y2 = @ite Int (0 ≤ a) j2 (upZ b) 0) (f3 : z2 = @ite Int (0 ≤ a) j3 0 3) : z2 = 0 → z1 = 0 ∧ x2 ≤ x1 ∧ y1 ≤ y2 := by
  intro hz
  by_cases q : 0 ≤ a
  · have p : 0 ≤ x := by omega
    rw [if_pos p] at e1 e2 e3
    rw [if_pos q] at f1 f2
    have := rootZ_mono q h1
    omega
  · rw [if_neg q] at f3; omega
def lsins_sp : SpecSh := { args := [(.int .i64 (.z 0)), (.int .i64 (.z 0)), (.int .i64 (.z 0)), (.int .i64 (.z 0)), (.int .i64 (.z 0)), (.int .i64 (.z 0))], res := (.bool .f), sh := [.b] }
set_option maxRecDepth 100000 in
def lsins_tree : Tree :=
.lett (.ite (.cmp .lt (.v 1) (.v 0)) (.v 1) (.v 0)) <|
.lett (.ite (.cmp .lt (.v 1) (.v 0)) (.v 0) (.v 1)) <|
.lett (.ite (.cmp .lt (.v 2) (.v 7)) (.v 2) (.v 7)) <|
.lett (.ite (.cmp .lt (.v 2) (.v 7)) (.v 7) (.v 2)) <|
.lett (.ite (.cmp .lt (.v 8) (.v 6)) (.v 8) (.v 6)) <|
.lett (.ite (.cmp .lt (.v 8) (.v 6)) (.v 6) (.v 8)) <|
.lett (.ite (.cmp .lt (.v 4) (.v 3)) (.v 4) (.v 3)) <|
.lett (.ite (.cmp .lt (.v 4) (.v 3)) (.v 3) (.v 4)) <|
.lett (.ite (.cmp .lt (.v 5) (.v 13)) (.v 5) (.v 13)) <|
.lett (.ite (.cmp .lt (.v 5) (.v 13)) (.v 13) (.v 5)) <|
.lett (.ite (.cmp .lt (.v 14) (.v 12)) (.v 14) (.v 12)) <|
.lett (.ite (.cmp .lt (.v 14) (.v 12)) (.v 12) (.v 14)) <|
.call 22 [.i (some ((-9223372036854775808), 9223372036854775807)), .i (some ((-9223372036854775808), 9223372036854775807)), .i (some ((-9223372036854775808), 9223372036854775807))] [.i (.v 11), .i (.v 9), .i (.v 16), .i (.v 17)] <|
.call 22 [.i (some ((-9223372036854775808), 9223372036854775807)), .i (some ((-9223372036854775808), 9223372036854775807)), .i (some ((-9223372036854775808), 9223372036854775807))] [.i (.v 10), .i (.v 9), .i (.v 16), .i (.v 15)] <|
.call 23 [.i (some ((-9223372036854775808), 9223372036854775807)), .i (some ((-9223372036854775808), 9223372036854775807)), .i (some ((-9223372036854775808), 9223372036854775807))] [.i (.v 11), .i (.v 9), .i (.v 16), .i (.v 17)] <|
.call 23 [.i (some ((-9223372036854775808), 9223372036854775807)), .i (some ((-9223372036854775808), 9223372036854775807)), .i (some ((-9223372036854775808), 9223372036854775807))] [.i (.v 10), .i (.v 9), .i (.v 16), .i (.v 15)] <|
.call 24 [.i (some ((-9223372036854775808), 9223372036854775807)), .i (some ((-9223372036854775808), 9223372036854775807)), .i (some ((-9223372036854775808), 9223372036854775807))] [.i (.v 11), .i (.v 9), .i (.v 16), .i (.v 17)] <|
.call 24 [.i (some ((-9223372036854775808), 9223372036854775807)), .i (some ((-9223372036854775808), 9223372036854775807)), .i (some ((-9223372036854775808), 9223372036854775807))] [.i (.v 10), .i (.v 9), .i (.v 16), .i (.v 15)] <|
.call 48 [.i (some ((-9223372036854775808), 9223372036854775807)), .i (some ((-9223372036854775808), 9223372036854775807)), .i (some ((-9223372036854775808), 9223372036854775807))] [.i (.v 11), .i (.v 9), .i (.v 16), .i (.v 17)] <|
.call 48 [.i (some ((-9223372036854775808), 9223372036854775807)), .i (some ((-9223372036854775808), 9223372036854775807)), .i (some ((-9223372036854775808), 9223372036854775807))] [.i (.v 10), .i (.v 9), .i (.v 16), .i (.v 15)] <|
.call 50 [.i (some ((-9223372036854775808), 9223372036854775807)), .i (some ((-9223372036854775808), 9223372036854775807)), .i (some ((-9223372036854775808), 9223372036854775807))] [.i (.v 11), .i (.v 9)] <|
.call 50 [.i (some ((-9223372036854775808), 9223372036854775807)), .i (some ((-9223372036854775808), 9223372036854775807)), .i (some ((-9223372036854775808), 9223372036854775807))] [.i (.v 10), .i (.v 9)] <|
.call 29 [.b] [] <|
.ite (.v 48) (.ite (.not (.cmp .eq (.v 23) (.z 0))) (.ite (.not (.cmp .eq (.v 29) (.z 0))) (.ite (.not (.cmp .eq (.v 35) (.z 0))) (.ite (.not (.cmp .eq (.v 41) (.z 0))) (.ite (.not (.cmp .eq (.v 47) (.z 0))) (.ret (.bool .t)) <|
.ite (.cmp .eq (.v 44) (.z 0)) (.ite (.cmp .le (.v 45) (.v 42)) (.ret (.bool (.cmp .le (.v 43) (.v 46)))) <|
.ret (.bool .f)) <|
.ret (.bool .f)) <|
.ite (.cmp .eq (.v 38) (.z 0)) (.ite (.cmp .le (.v 39) (.v 36)) (.ite (.cmp .le (.v 37) (.v 40)) (.ite (.not (.cmp .eq (.v 47) (.z 0))) (.ret (.bool .t)) <|
.ite (.cmp .eq (.v 44) (.z 0)) (.ite (.cmp .le (.v 45) (.v 42)) (.ret (.bool (.cmp .le (.v 43) (.v 46)))) <|
.ret (.bool .f)) <|
.ret (.bool .f)) <|
.ret (.bool .f)) <|
.ret (.bool .f)) <|
.ret (.bool .f)) <|
.ite (.cmp .eq (.v 32) (.z 0)) (.ite (.cmp .le (.v 33) (.v 30)) (.ite (.cmp .le (.v 31) (.v 34)) (.ite (.not (.cmp .eq (.v 41) (.z 0))) (.ite (.not (.cmp .eq (.v 47) (.z 0))) (.ret (.bool .t)) <|
.ite (.cmp .eq (.v 44) (.z 0)) (.ite (.cmp .le (.v 45) (.v 42)) (.ret (.bool (.cmp .le (.v 43) (.v 46)))) <|
.ret (.bool .f)) <|
.ret (.bool .f)) <|
.ite (.cmp .eq (.v 38) (.z 0)) (.ite (.cmp .le (.v 39) (.v 36)) (.ite (.cmp .le (.v 37) (.v 40)) (.ite (.not (.cmp .eq (.v 47) (.z 0))) (.ret (.bool .t)) <|
.ite (.cmp .eq (.v 44) (.z 0)) (.ite (.cmp .le (.v 45) (.v 42)) (.ret (.bool (.cmp .le (.v 43) (.v 46)))) <|
.ret (.bool .f)) <|
.ret (.bool .f)) <|
.ret (.bool .f)) <|
.ret (.bool .f)) <|
.ret (.bool .f)) <|
.ret (.bool .f)) <|
.ret (.bool .f)) <|
.ret (.bool .f)) <|
.ite (.cmp .eq (.v 26) (.z 0)) (.ite (.cmp .le (.v 27) (.v 24)) (.ite (.cmp .le (.v 25) (.v 28)) (.ite (.not (.cmp .eq (.v 35) (.z 0))) (.ite (.not (.cmp .eq (.v 41) (.z 0))) (.ite (.not (.cmp .eq (.v 47) (.z 0))) (.ret (.bool .t)) <|
.ite (.cmp .eq (.v 44) (.z 0)) (.ite (.cmp .le (.v 45) (.v 42)) (.ret (.bool (.cmp .le (.v 43) (.v 46)))) <|
.ret (.bool .f)) <|
.ret (.bool .f)) <|
.ite (.cmp .eq (.v 38) (.z 0)) (.ite (.cmp .le (.v 39) (.v 36)) (.ite (.cmp .le (.v 37) (.v 40)) (.ite (.not (.cmp .eq (.v 47) (.z 0))) (.ret (.bool .t)) <|
.ite (.cmp .eq (.v 44) (.z 0)) (.ite (.cmp .le (.v 45) (.v 42)) (.ret (.bool (.cmp .le (.v 43) (.v 46)))) <|
.ret (.bool .f)) <|
.ret (.bool .f)) <|
.ret (.bool .f)) <|
.ret (.bool .f)) <|
.ret (.bool .f)) <|
.ite (.cmp .eq (.v 32) (.z 0)) (.ite (.cmp .le (.v 33) (.v 30)) (.ite (.cmp .le (.v 31) (.v 34)) (.ite (.not (.cmp .eq (.v 41) (.z 0))) (.ite (.not (.cmp .eq (.v 47) (.z 0))) (.ret (.bool .t)) <|
.ite (.cmp .eq (.v 44) (.z 0)) (.ite (.cmp .le (.v 45) (.v 42)) (.ret (.bool (.cmp .le (.v 43) (.v 46)))) <|
.ret (.bool .f)) <|
.ret (.bool .f)) <|
.ite (.cmp .eq (.v 38) (.z 0)) (.ite (.cmp .le (.v 39) (.v 36)) (.ite (.cmp .le (.v 37) (.v 40)) (.ite (.not (.cmp .eq (.v 47) (.z 0))) (.ret (.bool .t)) <|
.ite (.cmp .eq (.v 44) (.z 0)) (.ite (.cmp .le (.v 45) (.v 42)) (.ret (.bool (.cmp .le (.v 43) (.v 46)))) <|
.ret (.bool .f)) <|
.ret (.bool .f)) <|
.ret (.bool .f)) <|
.ret (.bool .f)) <|
.ret (.bool .f)) <|
.ret (.bool .f)) <|
.ret (.bool .f)) <|
.ret (.bool .f)) <|
.ret (.bool .f)) <|
.ret (.bool .f)) <|
.ret (.bool .f)) <|
.ite (.cmp .eq (.v 20) (.z 0)) (.ite (.cmp .le (.v 21) (.v 18)) (.ite (.cmp .le (.v 19) (.v 22)) (.ite (.not (.cmp .eq (.v 29) (.z 0))) (.ite (.not (.cmp .eq (.v 35) (.z 0))) (.ite (.not (.cmp .eq (.v 41) (.z 0))) (.ite (.not (.cmp .eq (.v 47) (.z 0))) (.ret (.bool .t)) <|
.ite (.cmp .eq (.v 44) (.z 0)) (.ite (.cmp .le (.v 45) (.v 42)) (.ret (.bool (.cmp .le (.v 43) (.v 46)))) <|
.ret (.bool .f)) <|
.ret (.bool .f)) <|
.ite (.cmp .eq (.v 38) (.z 0)) (.ite (.cmp .le (.v 39) (.v 36)) (.ite (.cmp .le (.v 37) (.v 40)) (.ite (.not (.cmp .eq (.v 47) (.z 0))) (.ret (.bool .t)) <|
.ite (.cmp .eq (.v 44) (.z 0)) (.ite (.cmp .le (.v 45) (.v 42)) (.ret (.bool (.cmp .le (.v 43) (.v 46)))) <|
.ret (.bool .f)) <|
.ret (.bool .f)) <|
.ret (.bool .f)) <|
.ret (.bool .f)) <|
.ret (.bool .f)) <|
.ite (.cmp .eq (.v 32) (.z 0)) (.ite (.cmp .le (.v 33) (.v 30)) (.ite (.cmp .le (.v 31) (.v 34)) (.ite (.not (.cmp .eq (.v 41) (.z 0))) (.ite (.not (.cmp .eq (.v 47) (.z 0))) (.ret (.bool .t)) <|
.ite (.cmp .eq (.v 44) (.z 0)) (.ite (.cmp .le (.v 45) (.v 42)) (.ret (.bool (.cmp .le (.v 43) (.v 46)))) <|
.ret (.bool .f)) <|
.ret (.bool .f)) <|
.ite (.cmp .eq (.v 38) (.z 0)) (.ite (.cmp .le (.v 39) (.v 36)) (.ite (.cmp .le (.v 37) (.v 40)) (.ite (.not (.cmp .eq (.v 47) (.z 0))) (.ret (.bool .t)) <|
.ite (.cmp .eq (.v 44) (.z 0)) (.ite (.cmp .le (.v 45) (.v 42)) (.ret (.bool (.cmp .le (.v 43) (.v 46)))) <|
.ret (.bool .f)) <|
.ret (.bool .f)) <|
.ret (.bool .f)) <|
.ret (.bool .f)) <|
.ret (.bool .f)) <|
.ret (.bool .f)) <|
.ret (.bool .f)) <|
.ret (.bool .f)) <|
.ite (.cmp .eq (.v 26) (.z 0)) (.ite (.cmp .le (.v 27) (.v 24)) (.ite (.cmp .le (.v 25) (.v 28)) (.ite (.not (.cmp .eq (.v 35) (.z 0))) (.ite (.not (.cmp .eq (.v 41) (.z 0))) (.ite (.not (.cmp .eq (.v 47) (.z 0))) (.ret (.bool .t)) <|
.ite (.cmp .eq (.v 44) (.z 0)) (.ite (.cmp .le (.v 45) (.v 42)) (.ret (.bool (.cmp .le (.v 43) (.v 46)))) <|
.ret (.bool .f)) <|
.ret (.bool .f)) <|
.ite (.cmp .eq (.v 38) (.z 0)) (.ite (.cmp .le (.v 39) (.v 36)) (.ite (.cmp .le (.v 37) (.v 40)) (.ite (.not (.cmp .eq (.v 47) (.z 0))) (.ret (.bool .t)) <|
.ite (.cmp .eq (.v 44) (.z 0)) (.ite (.cmp .le (.v 45) (.v 42)) (.ret (.bool (.cmp .le (.v 43) (.v 46)))) <|
.ret (.bool .f)) <|
.ret (.bool .f)) <|
.ret (.bool .f)) <|
.ret (.bool .f)) <|
.ret (.bool .f)) <|
.ite (.cmp .eq (.v 32) (.z 0)) (.ite (.cmp .le (.v 33) (.v 30)) (.ite (.cmp .le (.v 31) (.v 34)) (.ite (.not (.cmp .eq (.v 41) (.z 0))) (.ite (.not (.cmp .eq (.v 47) (.z 0))) (.ret (.bool .t)) <|
.ite (.cmp .eq (.v 44) (.z 0)) (.ite (.cmp .le (.v 45) (.v 42)) (.ret (.bool (.cmp .le (.v 43) (.v 46)))) <|
.ret (.bool .f)) <|
.ret (.bool .f)) <|
.ite (.cmp .eq (.v 38) (.z 0)) (.ite (.cmp .le (.v 39) (.v 36)) (.ite (.cmp .le (.v 37) (.v 40)) (.ite (.not (.cmp .eq (.v 47) (.z 0))) (.ret (.bool .t)) <|
.ite (.cmp .eq (.v 44) (.z 0)) (.ite (.cmp .le (.v 45) (.v 42)) (.ret (.bool (.cmp .le (.v 43) (.v 46)))) <|
.ret (.bool .f)) <|
.ret (.bool .f)) <|
.ret (.bool .f)) <|
.ret (.bool .f)) <|
.ret (.bool .f)) <|
.ret (.bool .f)) <|
.ret (.bool .f)) <|
.ret (.bool .f)) <|
.ret (.bool .f)) <|
.ret (.bool .f)) <|
.ret (.bool .f)) <|
.ret (.bool .f)) <|
.ret (.bool .f)) <|
.ret (.bool .f)) <|
.ret (.bool .f)
noncomputable def lsins_cx : Ctx := { tys := tys, fns := fns, sps := [(22, sadd_sp), (23, ssub_sp), (24, smul_sp), (48, sdiv_sp), (50, sroot_sp), (29, salive_sp)], anns := [], trys := [] }
def lsins_ivs : List (Option (Int × Int)) := [some ((-9223372036854775808), 9223372036854775807), some ((-9223372036854775808), 9223372036854775807), some ((-9223372036854775808), 9223372036854775807), some ((-9223372036854775808), 9223372036854775807), some ((-9223372036854775808), 9223372036854775807), some ((-9223372036854775808), 9223372036854775807)]
set_option maxRecDepth 100000 in
theorem lsins_walk : runFn lsins_cx 3000 14 Try.f14 lsins_sp.args lsins_ivs = lsins_tree := by kernel_rfl
noncomputable def lsins_M : Nat → SpecSem
  | 22 => sadd_sem
  | 23 => ssub_sem
  | 24 => smul_sem
  | 48 => sdiv_sem
  | 50 => sroot_sem
  | 29 => salive_sem
  | _ => noSem
theorem lsins_M22 : lsins_M 22 = sadd_sem := rfl
theorem lsins_M23 : lsins_M 23 = ssub_sem := rfl
theorem lsins_M24 : lsins_M 24 = smul_sem := rfl
theorem lsins_M48 : lsins_M 48 = sdiv_sem := rfl
theorem lsins_M50 : lsins_M 50 = sroot_sem := rfl
theorem lsins_M29 : lsins_M 29 = salive_sem := rfl
theorem lsins_cxok : CxOK Try.prog lsins_cx lsins_M := ⟨tysOK, fnsOK, spCons sadd_ok <| spCons ssub_ok <| spCons smul_ok <| spCons sdiv_ok <| spCons sroot_ok <| spCons salive_ok <| fun _ _ h => spNil h, mixedOK, fun _ _ h => trNil h⟩
set_option maxRecDepth 100000 in
set_option maxHeartbeats 8000000 in
theorem lsins_den (R RP : Value → Prop) (F : Ex → St → Js → Env → Prop) (J : Js) (x0 : Int) (x1 : Int) (x2 : Int) (x3 : Int) (x4 : Int) (x5 : Int) : Tree.den lsins_M R RP F lsins_tree J [(.i x0), (.i x1), (.i x2), (.i x3), (.i x4), (.i x5)] = (
  ∀ x6 : Int, x6 = (if (Cmp.den .lt x1 x0) = true then x1 else x0) →
∀ x7 : Int, x7 = (if (Cmp.den .lt x1 x0) = true then x0 else x1) →
∀ x8 : Int, x8 = (if (Cmp.den .lt x2 x7) = true then x2 else x7) →
∀ x9 : Int, x9 = (if (Cmp.den .lt x2 x7) = true then x7 else x2) →
∀ x10 : Int, x10 = (if (Cmp.den .lt x8 x6) = true then x8 else x6) →
∀ x11 : Int, x11 = (if (Cmp.den .lt x8 x6) = true then x6 else x8) →
∀ x12 : Int, x12 = (if (Cmp.den .lt x4 x3) = true then x4 else x3) →
∀ x13 : Int, x13 = (if (Cmp.den .lt x4 x3) = true then x3 else x4) →
∀ x14 : Int, x14 = (if (Cmp.den .lt x5 x13) = true then x5 else x13) →
∀ x15 : Int, x15 = (if (Cmp.den .lt x5 x13) = true then x13 else x5) →
∀ x16 : Int, x16 = (if (Cmp.den .lt x14 x12) = true then x14 else x12) →
∀ x17 : Int, x17 = (if (Cmp.den .lt x14 x12) = true then x12 else x14) →
(sadd_sem.pre [(.i x11), (.i x9), (.i x16), (.i x17)]) ∧ (
∀ x18 : Int, x18 = (Cv.int (Env.get (sadd_sem.out [(.i x11), (.i x9), (.i x16), (.i x17)]) 0)) → (-9223372036854775808 : Int) ≤ x18 → x18 ≤ (9223372036854775807 : Int) →
∀ x19 : Int, x19 = (Cv.int (Env.get (sadd_sem.out [(.i x11), (.i x9), (.i x16), (.i x17)]) 1)) → (-9223372036854775808 : Int) ≤ x19 → x19 ≤ (9223372036854775807 : Int) →
∀ x20 : Int, x20 = (Cv.int (Env.get (sadd_sem.out [(.i x11), (.i x9), (.i x16), (.i x17)]) 2)) → (-9223372036854775808 : Int) ≤ x20 → x20 ≤ (9223372036854775807 : Int) →
(sadd_sem.pre [(.i x10), (.i x9), (.i x16), (.i x15)]) ∧ (
∀ x21 : Int, x21 = (Cv.int (Env.get (sadd_sem.out [(.i x10), (.i x9), (.i x16), (.i x15)]) 0)) → (-9223372036854775808 : Int) ≤ x21 → x21 ≤ (9223372036854775807 : Int) →
∀ x22 : Int, x22 = (Cv.int (Env.get (sadd_sem.out [(.i x10), (.i x9), (.i x16), (.i x15)]) 1)) → (-9223372036854775808 : Int) ≤ x22 → x22 ≤ (9223372036854775807 : Int) →
∀ x23 : Int, x23 = (Cv.int (Env.get (sadd_sem.out [(.i x10), (.i x9), (.i x16), (.i x15)]) 2)) → (-9223372036854775808 : Int) ≤ x23 → x23 ≤ (9223372036854775807 : Int) →
(ssub_sem.pre [(.i x11), (.i x9), (.i x16), (.i x17)]) ∧ (
∀ x24 : Int, x24 = (Cv.int (Env.get (ssub_sem.out [(.i x11), (.i x9), (.i x16), (.i x17)]) 0)) → (-9223372036854775808 : Int) ≤ x24 → x24 ≤ (9223372036854775807 : Int) →
∀ x25 : Int, x25 = (Cv.int (Env.get (ssub_sem.out [(.i x11), (.i x9), (.i x16), (.i x17)]) 1)) → (-9223372036854775808 : Int) ≤ x25 → x25 ≤ (9223372036854775807 : Int) →
∀ x26 : Int, x26 = (Cv.int (Env.get (ssub_sem.out [(.i x11), (.i x9), (.i x16), (.i x17)]) 2)) → (-9223372036854775808 : Int) ≤ x26 → x26 ≤ (9223372036854775807 : Int) →
(ssub_sem.pre [(.i x10), (.i x9), (.i x16), (.i x15)]) ∧ (
∀ x27 : Int, x27 = (Cv.int (Env.get (ssub_sem.out [(.i x10), (.i x9), (.i x16), (.i x15)]) 0)) → (-9223372036854775808 : Int) ≤ x27 → x27 ≤ (9223372036854775807 : Int) →
∀ x28 : Int, x28 = (Cv.int (Env.get (ssub_sem.out [(.i x10), (.i x9), (.i x16), (.i x15)]) 1)) → (-9223372036854775808 : Int) ≤ x28 → x28 ≤ (9223372036854775807 : Int) →
∀ x29 : Int, x29 = (Cv.int (Env.get (ssub_sem.out [(.i x10), (.i x9), (.i x16), (.i x15)]) 2)) → (-9223372036854775808 : Int) ≤ x29 → x29 ≤ (9223372036854775807 : Int) →
(smul_sem.pre [(.i x11), (.i x9), (.i x16), (.i x17)]) ∧ (
∀ x30 : Int, x30 = (Cv.int (Env.get (smul_sem.out [(.i x11), (.i x9), (.i x16), (.i x17)]) 0)) → (-9223372036854775808 : Int) ≤ x30 → x30 ≤ (9223372036854775807 : Int) →
∀ x31 : Int, x31 = (Cv.int (Env.get (smul_sem.out [(.i x11), (.i x9), (.i x16), (.i x17)]) 1)) → (-9223372036854775808 : Int) ≤ x31 → x31 ≤ (9223372036854775807 : Int) →
∀ x32 : Int, x32 = (Cv.int (Env.get (smul_sem.out [(.i x11), (.i x9), (.i x16), (.i x17)]) 2)) → (-9223372036854775808 : Int) ≤ x32 → x32 ≤ (9223372036854775807 : Int) →
(smul_sem.pre [(.i x10), (.i x9), (.i x16), (.i x15)]) ∧ (
∀ x33 : Int, x33 = (Cv.int (Env.get (smul_sem.out [(.i x10), (.i x9), (.i x16), (.i x15)]) 0)) → (-9223372036854775808 : Int) ≤ x33 → x33 ≤ (9223372036854775807 : Int) →
∀ x34 : Int, x34 = (Cv.int (Env.get (smul_sem.out [(.i x10), (.i x9), (.i x16), (.i x15)]) 1)) → (-9223372036854775808 : Int) ≤ x34 → x34 ≤ (9223372036854775807 : Int) →
∀ x35 : Int, x35 = (Cv.int (Env.get (smul_sem.out [(.i x10), (.i x9), (.i x16), (.i x15)]) 2)) → (-9223372036854775808 : Int) ≤ x35 → x35 ≤ (9223372036854775807 : Int) →
(sdiv_sem.pre [(.i x11), (.i x9), (.i x16), (.i x17)]) ∧ (
∀ x36 : Int, x36 = (Cv.int (Env.get (sdiv_sem.out [(.i x11), (.i x9), (.i x16), (.i x17)]) 0)) → (-9223372036854775808 : Int) ≤ x36 → x36 ≤ (9223372036854775807 : Int) →
∀ x37 : Int, x37 = (Cv.int (Env.get (sdiv_sem.out [(.i x11), (.i x9), (.i x16), (.i x17)]) 1)) → (-9223372036854775808 : Int) ≤ x37 → x37 ≤ (9223372036854775807 : Int) →
∀ x38 : Int, x38 = (Cv.int (Env.get (sdiv_sem.out [(.i x11), (.i x9), (.i x16), (.i x17)]) 2)) → (-9223372036854775808 : Int) ≤ x38 → x38 ≤ (9223372036854775807 : Int) →
(sdiv_sem.pre [(.i x10), (.i x9), (.i x16), (.i x15)]) ∧ (
∀ x39 : Int, x39 = (Cv.int (Env.get (sdiv_sem.out [(.i x10), (.i x9), (.i x16), (.i x15)]) 0)) → (-9223372036854775808 : Int) ≤ x39 → x39 ≤ (9223372036854775807 : Int) →
∀ x40 : Int, x40 = (Cv.int (Env.get (sdiv_sem.out [(.i x10), (.i x9), (.i x16), (.i x15)]) 1)) → (-9223372036854775808 : Int) ≤ x40 → x40 ≤ (9223372036854775807 : Int) →
∀ x41 : Int, x41 = (Cv.int (Env.get (sdiv_sem.out [(.i x10), (.i x9), (.i x16), (.i x15)]) 2)) → (-9223372036854775808 : Int) ≤ x41 → x41 ≤ (9223372036854775807 : Int) →
(sroot_sem.pre [(.i x11), (.i x9)]) ∧ (
∀ x42 : Int, x42 = (Cv.int (Env.get (sroot_sem.out [(.i x11), (.i x9)]) 0)) → (-9223372036854775808 : Int) ≤ x42 → x42 ≤ (9223372036854775807 : Int) →
∀ x43 : Int, x43 = (Cv.int (Env.get (sroot_sem.out [(.i x11), (.i x9)]) 1)) → (-9223372036854775808 : Int) ≤ x43 → x43 ≤ (9223372036854775807 : Int) →
∀ x44 : Int, x44 = (Cv.int (Env.get (sroot_sem.out [(.i x11), (.i x9)]) 2)) → (-9223372036854775808 : Int) ≤ x44 → x44 ≤ (9223372036854775807 : Int) →
(sroot_sem.pre [(.i x10), (.i x9)]) ∧ (
∀ x45 : Int, x45 = (Cv.int (Env.get (sroot_sem.out [(.i x10), (.i x9)]) 0)) → (-9223372036854775808 : Int) ≤ x45 → x45 ≤ (9223372036854775807 : Int) →
∀ x46 : Int, x46 = (Cv.int (Env.get (sroot_sem.out [(.i x10), (.i x9)]) 1)) → (-9223372036854775808 : Int) ≤ x46 → x46 ≤ (9223372036854775807 : Int) →
∀ x47 : Int, x47 = (Cv.int (Env.get (sroot_sem.out [(.i x10), (.i x9)]) 2)) → (-9223372036854775808 : Int) ≤ x47 → x47 ≤ (9223372036854775807 : Int) →
(salive_sem.pre []) ∧ (
((Cv.bool (Env.get (salive_sem.out []) 0)) = true → ((!(Cmp.den .eq x23 (0 : Int))) = true → ((!(Cmp.den .eq x29 (0 : Int))) = true → ((!(Cmp.den .eq x35 (0 : Int))) = true → ((!(Cmp.den .eq x41 (0 : Int))) = true → ((!(Cmp.den .eq x47 (0 : Int))) = true → R (Value.bool true)) ∧ ((!(Cmp.den .eq x47 (0 : Int))) = false → ((Cmp.den .eq x44 (0 : Int)) = true → ((Cmp.den .le x45 x42) = true → R (Value.bool (Cmp.den .le x43 x46))) ∧ ((Cmp.den .le x45 x42) = false → R (Value.bool false))) ∧ ((Cmp.den .eq x44 (0 : Int)) = false → R (Value.bool false)))) ∧ ((!(Cmp.den .eq x41 (0 : Int))) = false → ((Cmp.den .eq x38 (0 : Int)) = true → ((Cmp.den .le x39 x36) = true → ((Cmp.den .le x37 x40) = true → ((!(Cmp.den .eq x47 (0 : Int))) = true → R (Value.bool true)) ∧ ((!(Cmp.den .eq x47 (0 : Int))) = false → ((Cmp.den .eq x44 (0 : Int)) = true → ((Cmp.den .le x45 x42) = true → R (Value.bool (Cmp.den .le x43 x46))) ∧ ((Cmp.den .le x45 x42) = false → R (Value.bool false))) ∧ ((Cmp.den .eq x44 (0 : Int)) = false → R (Value.bool false)))) ∧ ((Cmp.den .le x37 x40) = false → R (Value.bool false))) ∧ ((Cmp.den .le x39 x36) = false → R (Value.bool false))) ∧ ((Cmp.den .eq x38 (0 : Int)) = false → R (Value.bool false)))) ∧ ((!(Cmp.den .eq x35 (0 : Int))) = false → ((Cmp.den .eq x32 (0 : Int)) = true → ((Cmp.den .le x33 x30) = true → ((Cmp.den .le x31 x34) = true → ((!(Cmp.den .eq x41 (0 : Int))) = true → ((!(Cmp.den .eq x47 (0 : Int))) = true → R (Value.bool true)) ∧ ((!(Cmp.den .eq x47 (0 : Int))) = false → ((Cmp.den .eq x44 (0 : Int)) = true → ((Cmp.den .le x45 x42) = true → R (Value.bool (Cmp.den .le x43 x46))) ∧ ((Cmp.den .le x45 x42) = false → R (Value.bool false))) ∧ ((Cmp.den .eq x44 (0 : Int)) = false → R (Value.bool false)))) ∧ ((!(Cmp.den .eq x41 (0 : Int))) = false → ((Cmp.den .eq x38 (0 : Int)) = true → ((Cmp.den .le x39 x36) = true → ((Cmp.den .le x37 x40) = true → ((!(Cmp.den .eq x47 (0 : Int))) = true → R (Value.bool true)) ∧ ((!(Cmp.den .eq x47 (0 : Int))) = false → ((Cmp.den .eq x44 (0 : Int)) = true → ((Cmp.den .le x45 x42) = true → R (Value.bool (Cmp.den .le x43 x46))) ∧ ((Cmp.den .le x45 x42) = false → R (Value.bool false))) ∧ ((Cmp.den .eq x44 (0 : Int)) = false → R (Value.bool false)))) ∧ ((Cmp.den .le x37 x40) = false → R (Value.bool false))) ∧ ((Cmp.den .le x39 x36) = false → R (Value.bool false))) ∧ ((Cmp.den .eq x38 (0 : Int)) = false → R (Value.bool false)))) ∧ ((Cmp.den .le x31 x34) = false → R (Value.bool false))) ∧ ((Cmp.den .le x33 x30) = false → R (Value.bool false))) ∧ ((Cmp.den .eq x32 (0 : Int)) = false → R (Value.bool false)))) ∧ ((!(Cmp.den .eq x29 (0 : Int))) = false → ((Cmp.den .eq x26 (0 : Int)) = true → ((Cmp.den .le x27 x24) = true → ((Cmp.den .le x25 x28) = true → ((!(Cmp.den .eq x35 (0 : Int))) = true → ((!(Cmp.den .eq x41 (0 : Int))) = true → ((!(Cmp.den .eq x47 (0 : Int))) = true → R (Value.bool true)) ∧ ((!(Cmp.den .eq x47 (0 : Int))) = false → ((Cmp.den .eq x44 (0 : Int)) = true → ((Cmp.den .le x45 x42) = true → R (Value.bool (Cmp.den .le x43 x46))) ∧ ((Cmp.den .le x45 x42) = false → R (Value.bool false))) ∧ ((Cmp.den .eq x44 (0 : Int)) = false → R (Value.bool false)))) ∧ ((!(Cmp.den .eq x41 (0 : Int))) = false → ((Cmp.den .eq x38 (0 : Int)) = true → ((Cmp.den .le x39 x36) = true → ((Cmp.den .le x37 x40) = true → ((!(Cmp.den .eq x47 (0 : Int))) = true → R (Value.bool true)) ∧ ((!(Cmp.den .eq x47 (0 : Int))) = false → ((Cmp.den .eq x44 (0 : Int)) = true → ((Cmp.den .le x45 x42) = true → R (Value.bool (Cmp.den .le x43 x46))) ∧ ((Cmp.den .le x45 x42) = false → R (Value.bool false))) ∧ ((Cmp.den .eq x44 (0 : Int)) = false → R (Value.bool false)))) ∧ ((Cmp.den .le x37 x40) = false → R (Value.bool false))) ∧ ((Cmp.den .le x39 x36) = false → R (Value.bool false))) ∧ ((Cmp.den .eq x38 (0 : Int)) = false → R (Value.bool false)))) ∧ ((!(Cmp.den .eq x35 (0 : Int))) = false → ((Cmp.den .eq x32 (0 : Int)) = true → ((Cmp.den .le x33 x30) = true → ((Cmp.den .le x31 x34) = true → ((!(Cmp.den .eq x41 (0 : Int))) = true → ((!(Cmp.den .eq x47 (0 : Int))) = true → R (Value.bool true)) ∧ ((!(Cmp.den .eq x47 (0 : Int))) = false → ((Cmp.den .eq x44 (0 : Int)) = true → ((Cmp.den .le x45 x42) = true → R (Value.bool (Cmp.den .le x43 x46))) ∧ ((Cmp.den .le x45 x42) = false → R (Value.bool false))) ∧ ((Cmp.den .eq x44 (0 : Int)) = false → R (Value.bool false)))) ∧ ((!(Cmp.den .eq x41 (0 : Int))) = false → ((Cmp.den .eq x38 (0 : Int)) = true → ((Cmp.den .le x39 x36) = true → ((Cmp.den .le x37 x40) = true → ((!(Cmp.den .eq x47 (0 : Int))) = true → R (Value.bool true)) ∧ ((!(Cmp.den .eq x47 (0 : Int))) = false → ((Cmp.den .eq x44 (0 : Int)) = true → ((Cmp.den .le x45 x42) = true → R (Value.bool (Cmp.den .le x43 x46))) ∧ ((Cmp.den .le x45 x42) = false → R (Value.bool false))) ∧ ((Cmp.den .eq x44 (0 : Int)) = false → R (Value.bool false)))) ∧ ((Cmp.den .le x37 x40) = false → R (Value.bool false))) ∧ ((Cmp.den .le x39 x36) = false → R (Value.bool false))) ∧ ((Cmp.den .eq x38 (0 : Int)) = false → R (Value.bool false)))) ∧ ((Cmp.den .le x31 x34) = false → R (Value.bool false))) ∧ ((Cmp.den .le x33 x30) = false → R (Value.bool false))) ∧ ((Cmp.den .eq x32 (0 : Int)) = false → R (Value.bool false)))) ∧ ((Cmp.den .le x25 x28) = false → R (Value.bool false))) ∧ ((Cmp.den .le x27 x24) = false → R (Value.bool false))) ∧ ((Cmp.den .eq x26 (0 : Int)) = false → R (Value.bool false)))) ∧ ((!(Cmp.den .eq x23 (0 : Int))) = false → ((Cmp.den .eq x20 (0 : Int)) = true → ((Cmp.den .le x21 x18) = true → ((Cmp.den .le x19 x22) = true → ((!(Cmp.den .eq x29 (0 : Int))) = true → ((!(Cmp.den .eq x35 (0 : Int))) = true → ((!(Cmp.den .eq x41 (0 : Int))) = true → ((!(Cmp.den .eq x47 (0 : Int))) = true → R (Value.bool true)) ∧ ((!(Cmp.den .eq x47 (0 : Int))) = false → ((Cmp.den .eq x44 (0 : Int)) = true → ((Cmp.den .le x45 x42) = true → R (Value.bool (Cmp.den .le x43 x46))) ∧ ((Cmp.den .le x45 x42) = false → R (Value.bool false))) ∧ ((Cmp.den .eq x44 (0 : Int)) = false → R (Value.bool false)))) ∧ ((!(Cmp.den .eq x41 (0 : Int))) = false → ((Cmp.den .eq x38 (0 : Int)) = true → ((Cmp.den .le x39 x36) = true → ((Cmp.den .le x37 x40) = true → ((!(Cmp.den .eq x47 (0 : Int))) = true → R (Value.bool true)) ∧ ((!(Cmp.den .eq x47 (0 : Int))) = false → ((Cmp.den .eq x44 (0 : Int)) = true → ((Cmp.den .le x45 x42) = true → R (Value.bool (Cmp.den .le x43 x46))) ∧ ((Cmp.den .le x45 x42) = false → R (Value.bool false))) ∧ ((Cmp.den .eq x44 (0 : Int)) = false → R (Value.bool false)))) ∧ ((Cmp.den .le x37 x40) = false → R (Value.bool false))) ∧ ((Cmp.den .le x39 x36) = false → R (Value.bool false))) ∧ ((Cmp.den .eq x38 (0 : Int)) = false → R (Value.bool false)))) ∧ ((!(Cmp.den .eq x35 (0 : Int))) = false → ((Cmp.den .eq x32 (0 : Int)) = true → ((Cmp.den .le x33 x30) = true → ((Cmp.den .le x31 x34) = true → ((!(Cmp.den .eq x41 (0 : Int))) = true → ((!(Cmp.den .eq x47 (0 : Int))) = true → R (Value.bool true)) ∧ ((!(Cmp.den .eq x47 (0 : Int))) = false → ((Cmp.den .eq x44 (0 : Int)) = true → ((Cmp.den .le x45 x42) = true → R (Value.bool (Cmp.den .le x43 x46))) ∧ ((Cmp.den .le x45 x42) = false → R (Value.bool false))) ∧ ((Cmp.den .eq x44 (0 : Int)) = false → R (Value.bool false)))) ∧ ((!(Cmp.den .eq x41 (0 : Int))) = false → ((Cmp.den .eq x38 (0 : Int)) = true → ((Cmp.den .le x39 x36) = true → ((Cmp.den .le x37 x40) = true → ((!(Cmp.den .eq x47 (0 : Int))) = true → R (Value.bool true)) ∧ ((!(Cmp.den .eq x47 (0 : Int))) = false → ((Cmp.den .eq x44 (0 : Int)) = true → ((Cmp.den .le x45 x42) = true → R (Value.bool (Cmp.den .le x43 x46))) ∧ ((Cmp.den .le x45 x42) = false → R (Value.bool false))) ∧ ((Cmp.den .eq x44 (0 : Int)) = false → R (Value.bool false)))) ∧ ((Cmp.den .le x37 x40) = false → R (Value.bool false))) ∧ ((Cmp.den .le x39 x36) = false → R (Value.bool false))) ∧ ((Cmp.den .eq x38 (0 : Int)) = false → R (Value.bool false)))) ∧ ((Cmp.den .le x31 x34) = false → R (Value.bool false))) ∧ ((Cmp.den .le x33 x30) = false → R (Value.bool false))) ∧ ((Cmp.den .eq x32 (0 : Int)) = false → R (Value.bool false)))) ∧ ((!(Cmp.den .eq x29 (0 : Int))) = false → ((Cmp.den .eq x26 (0 : Int)) = true → ((Cmp.den .le x27 x24) = true → ((Cmp.den .le x25 x28) = true → ((!(Cmp.den .eq x35 (0 : Int))) = true → ((!(Cmp.den .eq x41 (0 : Int))) = true → ((!(Cmp.den .eq x47 (0 : Int))) = true → R (Value.bool true)) ∧ ((!(Cmp.den .eq x47 (0 : Int))) = false → ((Cmp.den .eq x44 (0 : Int)) = true → ((Cmp.den .le x45 x42) = true → R (Value.bool (Cmp.den .le x43 x46))) ∧ ((Cmp.den .le x45 x42) = false → R (Value.bool false))) ∧ ((Cmp.den .eq x44 (0 : Int)) = false → R (Value.bool false)))) ∧ ((!(Cmp.den .eq x41 (0 : Int))) = false → ((Cmp.den .eq x38 (0 : Int)) = true → ((Cmp.den .le x39 x36) = true → ((Cmp.den .le x37 x40) = true → ((!(Cmp.den .eq x47 (0 : Int))) = true → R (Value.bool true)) ∧ ((!(Cmp.den .eq x47 (0 : Int))) = false → ((Cmp.den .eq x44 (0 : Int)) = true → ((Cmp.den .le x45 x42) = true → R (Value.bool (Cmp.den .le x43 x46))) ∧ ((Cmp.den .le x45 x42) = false → R (Value.bool false))) ∧ ((Cmp.den .eq x44 (0 : Int)) = false → R (Value.bool false)))) ∧ ((Cmp.den .le x37 x40) = false → R (Value.bool false))) ∧ ((Cmp.den .le x39 x36) = false → R (Value.bool false))) ∧ ((Cmp.den .eq x38 (0 : Int)) = false → R (Value.bool false)))) ∧ ((!(Cmp.den .eq x35 (0 : Int))) = false → ((Cmp.den .eq x32 (0 : Int)) = true → ((Cmp.den .le x33 x30) = true → ((Cmp.den .le x31 x34) = true → ((!(Cmp.den .eq x41 (0 : Int))) = true → ((!(Cmp.den .eq x47 (0 : Int))) = true → R (Value.bool true)) ∧ ((!(Cmp.den .eq x47 (0 : Int))) = false → ((Cmp.den .eq x44 (0 : Int)) = true → ((Cmp.den .le x45 x42) = true → R (Value.bool (Cmp.den .le x43 x46))) ∧ ((Cmp.den .le x45 x42) = false → R (Value.bool false))) ∧ ((Cmp.den .eq x44 (0 : Int)) = false → R (Value.bool false)))) ∧ ((!(Cmp.den .eq x41 (0 : Int))) = false → ((Cmp.den .eq x38 (0 : Int)) = true → ((Cmp.den .le x39 x36) = true → ((Cmp.den .le x37 x40) = true → ((!(Cmp.den .eq x47 (0 : Int))) = true → R (Value.bool true)) ∧ ((!(Cmp.den .eq x47 (0 : Int))) = false → ((Cmp.den .eq x44 (0 : Int)) = true → ((Cmp.den .le x45 x42) = true → R (Value.bool (Cmp.den .le x43 x46))) ∧ ((Cmp.den .le x45 x42) = false → R (Value.bool false))) ∧ ((Cmp.den .eq x44 (0 : Int)) = false → R (Value.bool false)))) ∧ ((Cmp.den .le x37 x40) = false → R (Value.bool false))) ∧ ((Cmp.den .le x39 x36) = false → R (Value.bool false))) ∧ ((Cmp.den .eq x38 (0 : Int)) = false → R (Value.bool false)))) ∧ ((Cmp.den .le x31 x34) = false → R (Value.bool false))) ∧ ((Cmp.den .le x33 x30) = false → R (Value.bool false))) ∧ ((Cmp.den .eq x32 (0 : Int)) = false → R (Value.bool false)))) ∧ ((Cmp.den .le x25 x28) = false → R (Value.bool false))) ∧ ((Cmp.den .le x27 x24) = false → R (Value.bool false))) ∧ ((Cmp.den .eq x26 (0 : Int)) = false → R (Value.bool false)))) ∧ ((Cmp.den .le x19 x22) = false → R (Value.bool false))) ∧ ((Cmp.den .le x21 x18) = false → R (Value.bool false))) ∧ ((Cmp.den .eq x20 (0 : Int)) = false → R (Value.bool false)))) ∧ ((Cv.bool (Env.get (salive_sem.out []) 0)) = false → R (Value.bool false)))))))))))))) := by kernel_rfl

def lsins_sem : SpecSem := { pre := fun cs => match cs with | [.i a, .i b, .i c, .i d, .i e, .i f] => IsI a ∧ IsI b ∧ IsI c ∧ IsI d ∧ IsI e ∧ IsI f | _ => False, out := fun cs => match cs with | [.i a, .i b, .i c, .i d, .i e, .i f] => [.b true] | _ => [] }
set_option maxHeartbeats 8000000 in
theorem lsins_ok : SpecOK Try.prog 14 lsins_sp lsins_sem := by
  refine spec_of_tree lsins_cxok Try.func14 (by kernel_rfl) (by kernel_rfl) lsins_walk rfl ?_
  intro cs hpre
  match cs, hpre with
  | [.i a, .i b, .i c, .i d, .i e, .i f], ⟨⟨h1, h2⟩, ⟨h3, h4⟩, ⟨h5, h6⟩, ⟨h7, h8⟩, ⟨h9, h10⟩, ⟨h11, h12⟩⟩ =>
    refine ⟨rfl, IvsB.ok (by simp only [lsins_ivs, IvsB, Cv.int, and_true]; omega), ?_, ?_⟩
    · simp only [lsins_sem, lsins_sp, Fits]
    · rw [lsins_den]
      simp only [lsins_sem, lsins_sp, spT, lsins_den, sadd_sem, ssub_sem, smul_sem, sdiv_sem, sroot_sem, salive_sem, Tree.den, List.getElem?_cons_zero, List.getElem?_cons_succ, IE.den, BE.den, At.den, CA.den, Env.get, Cv.int, Cv.bool, List.cons_append, List.nil_append, List.map_cons, List.map_nil, bindRes, bindEq, Fits, SV.den, denL, place, placeL, eq_t, eq_f, lt_t, lt_f, le_t, le_f, beq_iff_eq, beq_eq_false_iff_ne, ne_eq, reduceCtorEq, b_dec, decide_eq_true_eq, decide_eq_false_iff_not, Bool.not_eq_false', Bool.or_eq_true, Bool.or_eq_false_iff, Bool.and_eq_false_iff, true_iff, false_iff, Bool.false_eq_true, Bool.not_eq_true', Bool.and_eq_true, Bool.not_true, Bool.not_false, List.cons.injEq, Cv.i.injEq, Cv.b.injEq, and_true, true_and, agg_inj, tup_inj, Value.int.injEq, Value.bool.injEq]
      intro x6 e6 x7 e7 x8 e8 x9 e9 x10 e10 x11 e11
      have F1 : (x10 ≤ x11 ∧ x11 ≤ x9) ∧ (-9223372036854775808 ≤ x10 ∧ x9 ≤ 9223372036854775807) := by
        clear h7 h8 h9 h10 h11 h12
        omega
      clear e6 e7 e8 e9 e10 e11 h1 h2 h3 h4 h5 h6
      intro x12 e12 x13 e13 x14 e14 x15 e15 x16 e16 x17 e17
      have F2 : (x16 ≤ x17 ∧ x17 ≤ x15) ∧ (-9223372036854775808 ≤ x16 ∧ x15 ≤ 9223372036854775807) := by
        clear F1
        omega
      clear e12 e13 e14 e15 e16 e17 h7 h8 h9 h10 h11 h12
      obtain ⟨⟨u1, u2⟩, u3, u4⟩ := F1
      obtain ⟨⟨v1, v2⟩, v3, v4⟩ := F2
      have jA : IsI x10 := ⟨by omega, by omega⟩
      have jB : IsI x9 := ⟨by omega, by omega⟩
      have jX : IsI x11 := ⟨by omega, by omega⟩
      have jC : IsI x16 := ⟨by omega, by omega⟩
      have jD : IsI x15 := ⟨by omega, by omega⟩
      have jY : IsI x17 := ⟨by omega, by omega⟩
      have i0 : IsI 0 := by decide
      have i1 : IsI 1 := by decide
      have w1 : x10 ≤ x9 := by omega
      have w2 : x16 ≤ x15 := by omega
      have o1 : (x9 < x10) = False := by simp; omega
      have o2 : (x9 < x11) = False := by simp; omega
      have o3 : (x11 < x10) = False := by simp; omega
      have o4 : (x15 < x17) = False := by simp; omega
      have o5 : (x17 < x16) = False := by simp; omega
      simp only [w1, w2, u2, v1, if_true, if_false, true_and, and_true, false_and, and_false, true_or, or_true, false_or, or_false, true_iff, iff_true, false_iff, iff_false, not_true_eq_false, not_false_eq_true, true_implies, false_implies, implies_true, forall_const, decide_true, decide_false, reduceCtorEq]
      refine ⟨⟨jX, jB, jC, jY⟩, ?_⟩
      intro x18 e18 _ _ x19 e19 _ _ x20 e20 _ _
      refine ⟨⟨jA, jB, jC, jD⟩, ?_⟩
      intro x21 e21 _ _ x22 e22 _ _ x23 e23 _ _
      refine ⟨⟨jX, jB, jC, jY⟩, ?_⟩
      intro x24 e24 _ _ x25 e25 _ _ x26 e26 _ _
      refine ⟨⟨jA, jB, jC, jD⟩, ?_⟩
      intro x27 e27 _ _ x28 e28 _ _ x29 e29 _ _
      refine ⟨⟨jX, jB, jC, jY⟩, ?_⟩
      intro x30 e30 _ _ x31 e31 _ _ x32 e32 _ _
      refine ⟨⟨jA, jB, jC, jD⟩, ?_⟩
      intro x33 e33 _ _ x34 e34 _ _ x35 e35 _ _
      refine ⟨⟨jX, jB, jC, jY⟩, ?_⟩
      intro x36 e36 _ _ x37 e37 _ _ x38 e38 _ _
      refine ⟨⟨jA, jB, jC, jD⟩, ?_⟩
      intro x39 e39 _ _ x40 e40 _ _ x41 e41 _ _
      refine ⟨⟨jX, jB⟩, ?_⟩
      intro x42 e42 _ _ x43 e43 _ _ x44 e44 _ _
      refine ⟨⟨jA, jB⟩, ?_⟩
      intro x45 e45 _ _ x46 e46 _ _ x47 e47 _ _
      have K1 := in_of e18 e19 e20 e21 e22 e23 (by omega) (by omega) (by omega)
      have K2 := in_of e24 e25 e26 e27 e28 e29 (by omega) (by omega) (by omega)
      obtain ⟨m1, m2⟩ := mul_sub u1 u2 v1 v2
      have K3 := in_of e30 e31 e32 e33 e34 e35 m1 m2 (mn4_mx4 _ _ _ _)
      have K4 := div_sub u1 u2 v1 v2
      rw [← e36, ← e37, ← e38, ← e39, ← e40, ← e41] at K4
      have K5 := root_sub u1 u2 e42 e43 e44 e45 e46 e47
      clear e18 e19 e20 e21 e22 e23 e24 e25 e26 e27 e28 e29 e30 e31 e32 e33 e34 e35 e36 e37 e38 e39 e40 e41 e42 e43 e44 e45 e46 e47 m1 m2
      have C1 := (Decidable.em (x23 = 0)).imp_left (fun h => And.intro h (K1 h))
      rcases C1 with ⟨a1, p, q, r⟩ | a1
      all_goals first
        | (have n1 : (x18 < x21) = False := eq_false (Int.not_lt.2 q)
           have n2 : (x22 < x19) = False := eq_false (Int.not_lt.2 r)
           simp only [a1, p, q, r, n1, n2, f00, eq_self, if_true, if_false, true_and, and_true, false_and, and_false, true_or, or_true, false_or, or_false, true_iff, iff_true, false_iff, iff_false, not_true_eq_false, not_false_eq_true, true_implies, false_implies, implies_true, forall_const, decide_true, decide_false, reduceCtorEq])
        | simp only [a1, f00, eq_self, if_true, if_false, true_and, and_true, false_and, and_false, true_or, or_true, false_or, or_false, true_iff, iff_true, false_iff, iff_false, not_true_eq_false, not_false_eq_true, true_implies, false_implies, implies_true, forall_const, decide_true, decide_false, reduceCtorEq]
      all_goals
        have C2 := (Decidable.em (x29 = 0)).imp_left (fun h => And.intro h (K2 h))
        rcases C2 with ⟨a1, p, q, r⟩ | a1
        all_goals first
          | (have n1 : (x24 < x27) = False := eq_false (Int.not_lt.2 q)
             have n2 : (x28 < x25) = False := eq_false (Int.not_lt.2 r)
             simp only [a1, p, q, r, n1, n2, f00, eq_self, if_true, if_false, true_and, and_true, false_and, and_false, true_or, or_true, false_or, or_false, true_iff, iff_true, false_iff, iff_false, not_true_eq_false, not_false_eq_true, true_implies, false_implies, implies_true, forall_const, decide_true, decide_false, reduceCtorEq])
          | simp only [a1, f00, eq_self, if_true, if_false, true_and, and_true, false_and, and_false, true_or, or_true, false_or, or_false, true_iff, iff_true, false_iff, iff_false, not_true_eq_false, not_false_eq_true, true_implies, false_implies, implies_true, forall_const, decide_true, decide_false, reduceCtorEq]
        all_goals
          have C3 := (Decidable.em (x35 = 0)).imp_left (fun h => And.intro h (K3 h))
          rcases C3 with ⟨a1, p, q, r⟩ | a1
          all_goals first
            | (have n1 : (x30 < x33) = False := eq_false (Int.not_lt.2 q)
               have n2 : (x34 < x31) = False := eq_false (Int.not_lt.2 r)
               simp only [a1, p, q, r, n1, n2, f00, eq_self, if_true, if_false, true_and, and_true, false_and, and_false, true_or, or_true, false_or, or_false, true_iff, iff_true, false_iff, iff_false, not_true_eq_false, not_false_eq_true, true_implies, false_implies, implies_true, forall_const, decide_true, decide_false, reduceCtorEq])
            | simp only [a1, f00, eq_self, if_true, if_false, true_and, and_true, false_and, and_false, true_or, or_true, false_or, or_false, true_iff, iff_true, false_iff, iff_false, not_true_eq_false, not_false_eq_true, true_implies, false_implies, implies_true, forall_const, decide_true, decide_false, reduceCtorEq]
          all_goals
            have C4 := (Decidable.em (x41 = 0)).imp_left (fun h => And.intro h (K4 h))
            rcases C4 with ⟨a1, p, q, r⟩ | a1
            all_goals first
              | (have n1 : (x36 < x39) = False := eq_false (Int.not_lt.2 q)
                 have n2 : (x40 < x37) = False := eq_false (Int.not_lt.2 r)
                 simp only [a1, p, q, r, n1, n2, f00, eq_self, if_true, if_false, true_and, and_true, false_and, and_false, true_or, or_true, false_or, or_false, true_iff, iff_true, false_iff, iff_false, not_true_eq_false, not_false_eq_true, true_implies, false_implies, implies_true, forall_const, decide_true, decide_false, reduceCtorEq])
              | simp only [a1, f00, eq_self, if_true, if_false, true_and, and_true, false_and, and_false, true_or, or_true, false_or, or_false, true_iff, iff_true, false_iff, iff_false, not_true_eq_false, not_false_eq_true, true_implies, false_implies, implies_true, forall_const, decide_true, decide_false, reduceCtorEq]
            all_goals
              have C5 := (Decidable.em (x47 = 0)).imp_left (fun h => And.intro h (K5 h))
              rcases C5 with ⟨a1, p, q, r⟩ | a1
              all_goals first
                | (have n1 : (x42 < x45) = False := eq_false (Int.not_lt.2 q)
                   have n2 : (x46 < x43) = False := eq_false (Int.not_lt.2 r)
                   simp only [a1, p, q, r, n1, n2, f00, eq_self, if_true, if_false, true_and, and_true, false_and, and_false, true_or, or_true, false_or, or_false, true_iff, iff_true, false_iff, iff_false, not_true_eq_false, not_false_eq_true, true_implies, false_implies, implies_true, forall_const, decide_true, decide_false, reduceCtorEq])
                | simp only [a1, f00, eq_self, if_true, if_false, true_and, and_true, false_and, and_false, true_or, or_true, false_or, or_false, true_iff, iff_true, false_iff, iff_false, not_true_eq_false, not_false_eq_true, true_implies, false_implies, implies_true, forall_const, decide_true, decide_false, reduceCtorEq]
end Go.Proofs.Ytlhmhcjpdpakkaa.X
