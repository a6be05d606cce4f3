/-
  The contract of the library's Div64 (a number of two words divided by one): the quotient and what is left, for every input for which they fit.
-/
import Derived.Test.YtglpelnaeipenaaGreatSxWide2
import Derived.Lib.ItoaNum
import Derived.Lib.BitFns
namespace Go.Proofs.YtglpelnaeipenaaGreat.X
open Go Go.SX Go.RowKit
set_option linter.unusedVariables false
set_option linter.unusedSimpArgs false

/-! ### a digit of a quotient (two words by one, half a word at a time) -/
/-- what stands at the head of the loop: the guess is not less than the digit, and is not far from it -/
def DigI (n2 n1 y1 y0 q r : Int) : Prop := q * y1 + r = n2 ∧ (n2 * 4294967296 + n1) / (y1 * 4294967296 + y0) ≤ q ∧ 0 ≤ r ∧ r < 4294967296 ∧ 0 ≤ q ∧ q ≤ 4294967297
theorem dig_le {N Y q : Int} (hY : 0 < Y) (h : q * Y ≤ N) : q ≤ N / Y := (Int.le_ediv_iff_mul_le hY).2 h
theorem dig_lt {N Y q : Int} (hY : 0 < Y) (h : N < q * Y) : N / Y < q := (Int.ediv_lt_iff_lt_mul hY).2 h
theorem dig_init {n2 n1 y1 y0 : Int} (h2 : 0 ≤ n2) (h2' : n2 < y1 * 4294967296 + y0) (h1 : 0 ≤ n1) (h1' : n1 < 4294967296) (hy1 : 2147483648 ≤ y1) (hy1' : y1 < 4294967296) (hy0 : 0 ≤ y0) (hy0' : y0 < 4294967296) :
    DigI n2 n1 y1 y0 (n2 / y1) (n2 - n2 / y1 * y1) := by
  have e := Int.emod_add_mul_ediv n2 y1
  have e1 := Int.emod_nonneg n2 (b := y1) (by omega)
  have e2 := Int.emod_lt_of_pos n2 (b := y1) (by omega)
  have c := Int.mul_comm y1 (n2 / y1)
  have q0 : 0 ≤ n2 / y1 := Int.ediv_nonneg h2 (by omega)
  have q1 : n2 / y1 ≤ 4294967297 := by
    have : n2 / y1 < 4294967298 := dig_lt (by omega) (by omega)
    omega
  refine ⟨by omega, ?_, by omega, by omega, q0, q1⟩
  generalize hQ : (n2 * 4294967296 + n1) / (y1 * 4294967296 + y0) = Q
  have hY : 0 < y1 * 4294967296 + y0 := by omega
  have hm : Q * (y1 * 4294967296 + y0) ≤ n2 * 4294967296 + n1 := (Int.le_ediv_iff_mul_le hY).1 (by omega)
  have hQ0 : 0 ≤ Q := by rw [← hQ]; exact Int.ediv_nonneg (by omega) (by omega)
  have hx : Q * (y1 * 4294967296 + y0) = Q * y1 * 4294967296 + Q * y0 := by rw [Int.mul_add, Int.mul_assoc]
  have h0 : 0 ≤ Q * y0 := Int.mul_nonneg hQ0 hy0
  exact dig_le (by omega) (by omega)
/-- left by the test -/
theorem dig_exit {n2 n1 y1 y0 q r : Int} (hI : DigI n2 n1 y1 y0 q r) (hy1 : 2147483648 ≤ y1) (hy0 : 0 ≤ y0) (hle : q * y0 ≤ 4294967296 * r + n1) : q = (n2 * 4294967296 + n1) / (y1 * 4294967296 + y0) := by
  obtain ⟨i1, i2, i3, i4, i5, i6⟩ := hI
  have hx : q * (y1 * 4294967296 + y0) = q * y1 * 4294967296 + q * y0 := by rw [Int.mul_add, Int.mul_assoc]
  have := dig_le (N := n2 * 4294967296 + n1) (Y := y1 * 4294967296 + y0) (q := q) (by omega) (by omega)
  omega
/-- one round -/
theorem dig_step {n2 n1 y1 y0 q r : Int} (hI : DigI n2 n1 y1 y0 q r) (h2' : n2 < y1 * 4294967296 + y0) (h1 : 0 ≤ n1) (h1' : n1 < 4294967296) (hy1 : 2147483648 ≤ y1) (hy1' : y1 < 4294967296) (hy0 : 0 ≤ y0) (hy0' : y0 < 4294967296) (hc : 4294967296 ≤ q ∨ 4294967296 * r + n1 < q * y0) :
    1 ≤ q ∧ (r + y1 < 4294967296 → DigI n2 n1 y1 y0 (q - 1) (r + y1)) ∧ (4294967296 ≤ r + y1 → q - 1 = (n2 * 4294967296 + n1) / (y1 * 4294967296 + y0)) := by
  obtain ⟨i1, i2, i3, i4, i5, i6⟩ := hI
  have hx : q * (y1 * 4294967296 + y0) = q * y1 * 4294967296 + q * y0 := by rw [Int.mul_add, Int.mul_assoc]
  have hlt : (n2 * 4294967296 + n1) / (y1 * 4294967296 + y0) < q := by
    rcases hc with hc | hc
    · have : (n2 * 4294967296 + n1) / (y1 * 4294967296 + y0) < 4294967296 := dig_lt (by omega) (by omega)
      omega
    · exact dig_lt (by omega) (by omega)
  have hq0 : 0 ≤ (n2 * 4294967296 + n1) / (y1 * 4294967296 + y0) := by
    have n20 : 0 ≤ n2 := by have := Int.mul_nonneg i5 (show 0 ≤ y1 by omega); omega
    exact Int.ediv_nonneg (by omega) (by omega)
  have e1 : (q - 1) * y1 = q * y1 - y1 := by rw [Int.sub_mul, Int.one_mul]
  refine ⟨by omega, fun h => ⟨by omega, by omega, by omega, by omega, by omega, by omega⟩, fun h => ?_⟩
  have e2 : (q - 1) * (y1 * 4294967296 + y0) = (q - 1) * y1 * 4294967296 + (q - 1) * y0 := by rw [Int.mul_add, Int.mul_assoc]
  have e3 : (q - 1) * y0 ≤ 4294967296 * y0 := Int.mul_le_mul_of_nonneg_right (by omega) hy0
  have := dig_le (N := n2 * 4294967296 + n1) (Y := y1 * 4294967296 + y0) (q := q - 1) (by omega) (by omega)
  omega
/-- both digits together -/
theorem two_digits {A n0 Y : Int} (hY : 0 < Y) (hA : 0 ≤ A) (h0 : 0 ≤ n0) (h0' : n0 < 4294967296) :
    (A * 4294967296 + n0) / Y = A / Y * 4294967296 + (A % Y * 4294967296 + n0) / Y ∧ (A * 4294967296 + n0) % Y = (A % Y * 4294967296 + n0) % Y := by
  have e := Int.emod_add_mul_ediv A Y
  have h : A * 4294967296 + n0 = (A % Y * 4294967296 + n0) + Y * (A / Y * 4294967296) := by
    have : Y * (A / Y * 4294967296) = Y * (A / Y) * 4294967296 := by rw [Int.mul_assoc]
    omega
  constructor
  · conv => lhs; rw [h]
    rw [Int.add_mul_ediv_left _ _ (by omega)]; omega
  · conv => lhs; rw [h]
    rw [Int.add_mul_emod_self_left]
/-- the shift that makes a word's highest bit 1 -/
theorem norm_shift {y : Nat} (h0 : 0 < y) (h1 : y < 18446744073709551616) :
    Lib.bitLen y ≤ 64 ∧ 1 ≤ Lib.bitLen y ∧ 2 ^ (64 - Lib.bitLen y) * 2 ^ (Lib.bitLen y) = 18446744073709551616 ∧ 9223372036854775808 ≤ y * 2 ^ (64 - Lib.bitLen y) ∧ y * 2 ^ (64 - Lib.bitLen y) < 18446744073709551616 := by
  have hL := Lib.bitLen_le y 64 (Nat.le_refl _) h1
  obtain ⟨a, b, c⟩ := Lib.bitLenAux_bounds 64 y h1 (by omega)
  have hb : Lib.bitLenAux 64 y = Lib.bitLen y := rfl
  rw [hb] at a b c
  generalize Lib.bitLen y = L at *
  refine ⟨hL, a, ?_, ?_, ?_⟩
  · rw [← Nat.pow_add, show 64 - L + L = 64 by omega]
  · have := Nat.mul_le_mul_right (2 ^ (64 - L)) b
    rw [← Nat.pow_add, show L - 1 + (64 - L) = 63 by omega] at this
    exact this
  · have := Nat.mul_lt_mul_of_pos_right c (Nat.two_pow_pos (64 - L))
    rw [← Nat.pow_add, show L + (64 - L) = 64 by omega] at this
    exact this
theorem fin_div {V y P n2 n1 n0 q1 q0 : Int} (hP : 0 < P) (hy : 0 < y) (hV : V * P = (n2 * 4294967296 + n1) * 4294967296 + n0) (h2 : 0 ≤ n2) (h1 : 0 ≤ n1) (h0 : 0 ≤ n0) (h0' : n0 < 4294967296)
    (hq1 : q1 = (n2 * 4294967296 + n1) / (y * P)) (hq0 : q0 = ((n2 * 4294967296 + n1) % (y * P) * 4294967296 + n0) / (y * P)) :
    q1 * 4294967296 + q0 = V / y ∧ (n2 * 4294967296 + n1) % (y * P) * 4294967296 + n0 - q0 * (y * P) = V % y * P := by
  have hY : 0 < y * P := Int.mul_pos hy hP
  obtain ⟨d1, d2⟩ := two_digits (A := n2 * 4294967296 + n1) (n0 := n0) hY (by omega) h0 h0'
  have e1 : V * P / (y * P) = V / y := Int.mul_ediv_mul_of_pos_left V y hP
  have e2 : V * P % (y * P) = V % y * P := by
    rw [Int.mul_comm V P, Int.mul_comm y P, Int.mul_emod_mul_of_pos _ _ hP, Int.mul_comm]
  rw [hV] at e1 e2
  rw [d1] at e1
  rw [d2] at e2
  subst hq1
  refine ⟨by rw [hq0]; exact e1, ?_⟩
  have e := Int.emod_add_mul_ediv ((n2 * 4294967296 + n1) % (y * P) * 4294967296 + n0) (y * P)
  rw [← hq0, e2, Int.mul_comm (y * P) q0] at e
  omega
theorem fin_rest {A Y q : Int} (hY : 0 < Y) (hq : q = A / Y) : A - q * Y = A % Y ∧ 0 ≤ A % Y ∧ A % Y < Y := by
  have e := Int.emod_add_mul_ediv A Y
  have := Int.emod_nonneg A (b := Y) (by omega)
  have := Int.emod_lt_of_pos A hY
  rw [hq, Int.mul_comm]
  omega
/-- a number shifted: its upper words, and the lower one -/
theorem shifted_words {a b y P Q : Int} (hP : 0 < P) (hQ : 0 < Q) (hPQ : P * Q = 18446744073709551616) (ha : 0 ≤ a) (hay : a < y) (hb : 0 ≤ b) (hb' : b < 18446744073709551616) (hY : y * P ≤ 18446744073709551616) :
    0 ≤ a * P ∧ a * P < 18446744073709551616 ∧ 0 ≤ b / Q ∧ b / Q < P ∧ a * P + b / Q < y * P ∧ (a * 18446744073709551616 + b) * P = (a * P + b / Q) * 18446744073709551616 + b * P % 18446744073709551616 := by
  have h1 : 0 ≤ a * P := Int.mul_nonneg ha (by omega)
  have h2 : a * P + P ≤ y * P := by
    have := Int.mul_le_mul_of_nonneg_right (show a + 1 ≤ y by omega) (show 0 ≤ P by omega)
    rw [Int.add_mul, Int.one_mul] at this; exact this
  have h3 : 0 ≤ b / Q := Int.ediv_nonneg hb (by omega)
  have h4 : b / Q < P := dig_lt hQ (by omega)
  have h5 : b * P / 18446744073709551616 = b / Q := by
    rw [← hPQ, Int.mul_comm P Q]; exact Int.mul_ediv_mul_of_pos_left b Q hP
  have e := Int.emod_add_mul_ediv (b * P) 18446744073709551616
  rw [h5] at e
  refine ⟨h1, by omega, h3, h4, by omega, ?_⟩
  rw [Int.add_mul, Int.add_mul, Int.mul_assoc, Int.mul_comm 18446744073709551616 P, ← Int.mul_assoc]
  omega

/-- the guess, as the machine reckons it -/
theorem dig_start {n2 n1 y1 y0 q m r : Int} (h2 : 0 ≤ n2) (h2' : n2 < y1 * 4294967296 + y0) (h1 : 0 ≤ n1) (h1' : n1 < 4294967296) (hy1 : 2147483648 ≤ y1) (hy1' : y1 < 4294967296) (hy0 : 0 ≤ y0) (hy0' : y0 < 4294967296)
    (hq : q = n2 / y1) (hm : m = IntKind.u64.wrap (q * y1)) (hr : r = IntKind.u64.wrap (n2 - m)) : DigI n2 n1 y1 y0 q r := by
  have h := dig_init h2 h2' h1 h1' hy1 hy1' hy0 hy0'
  rw [← hq] at h
  have h0 : 0 ≤ q * y1 := Int.mul_nonneg h.2.2.2.2.1 (by omega)
  have h3 := h.2.2.1
  have h4 := h.2.2.2.1
  rw [wu64_mod] at hm hr
  have e : r = n2 - q * y1 := by omega
  rw [e]; exact h
theorem dig_prod {q y0 : Int} (h0 : 0 ≤ q) (h1 : q < 4294967296) (hy0 : 0 ≤ y0) (hy0' : y0 < 4294967296) : IntKind.u64.wrap (q * y0) = q * y0 := by
  have a := Int.mul_nonneg h0 hy0
  have b := Int.mul_le_mul_of_nonneg_right (show q ≤ 4294967295 by omega) hy0
  exact wu64 a (by omega)
theorem div_mid {n2 n1 n0 y1 y0 sh qq m1 m2 m3 u q0 m4 r0 : Int} (h2 : 0 ≤ n2) (h2' : n2 < y1 * 4294967296 + y0) (h1 : 0 ≤ n1) (h1' : n1 < 4294967296) (h0 : 0 ≤ n0) (h0' : n0 < 4294967296) (hy1 : 2147483648 ≤ y1) (hy1' : y1 < 4294967296) (hy0 : 0 ≤ y0) (hy0' : y0 < 4294967296)
    (hsh : y1 * 4294967296 + y0 = sh) (hq1 : qq = (n2 * 4294967296 + n1) / (y1 * 4294967296 + y0)) (hm1 : m1 = IntKind.u64.wrap (n2 * 4294967296)) (hm2 : m2 = IntKind.u64.wrap (m1 + n1)) (hm3 : m3 = IntKind.u64.wrap (qq * sh)) (hu : u = IntKind.u64.wrap (m2 - m3))
    (hq0 : q0 = u / y1) (hm4 : m4 = IntKind.u64.wrap (q0 * y1)) (hr0 : r0 = IntKind.u64.wrap (u - m4)) : u = (n2 * 4294967296 + n1) % sh ∧ DigI u n0 y1 y0 q0 r0 ∧ 0 ≤ u ∧ u < y1 * 4294967296 + y0 := by
  rw [hsh] at hq1
  obtain ⟨f1, f2, f3⟩ := fin_rest (A := n2 * 4294967296 + n1) (Y := sh) (by omega) hq1
  have eu : u = (n2 * 4294967296 + n1) % sh := by
    rw [wu64_mod] at hm1 hm2 hm3 hu
    omega
  have u0 : 0 ≤ u := by omega
  have u1 : u < y1 * 4294967296 + y0 := by omega
  exact ⟨eu, dig_start u0 u1 h0 h0' hy1 hy1' hy0 hy0' hq0 hm4 hr0, u0, u1⟩
theorem div_final {V y P n2 n1 n0 sh qq u q2 z1 z2 z3 z4 z5 z6 z7 pw : Int} (hP : 0 < P) (hy : 0 < y) (hV : V * P = (n2 * 4294967296 + n1) * 4294967296 + n0) (h2 : 0 ≤ n2) (h1 : 0 ≤ n1) (h0 : 0 ≤ n0) (h0' : n0 < 4294967296) (hV0 : 0 ≤ V / y) (hV1 : V / y < 18446744073709551616)
    (hsh : sh = y * P) (hs1 : y * P < 18446744073709551616) (hq1 : qq = (n2 * 4294967296 + n1) / sh) (hu : u = (n2 * 4294967296 + n1) % sh) (hq2 : q2 = (u * 4294967296 + n0) / sh)
    (hz1 : z1 = IntKind.u64.wrap (qq * 4294967296)) (hz2 : z2 = IntKind.u64.wrap (z1 + q2)) (hz3 : z3 = IntKind.u64.wrap (u * 4294967296)) (hz4 : z4 = IntKind.u64.wrap (z3 + n0)) (hz5 : z5 = IntKind.u64.wrap (q2 * sh)) (hz6 : z6 = IntKind.u64.wrap (z4 - z5)) (hpw : pw = P) (hz7 : z7 = Int.fdiv z6 pw) :
    z2 = V / y ∧ z7 = V % y := by
  subst hsh; subst hu
  rw [hpw] at hz7
  obtain ⟨e1, e2⟩ := fin_div hP hy hV h2 h1 h0 h0' hq1 hq2
  have m0 : 0 ≤ V % y := Int.emod_nonneg _ (by omega)
  have m1 : V % y < y := Int.emod_lt_of_pos _ hy
  have m2 : 0 ≤ V % y * P := Int.mul_nonneg m0 (by omega)
  have m3 := Int.mul_le_mul_of_nonneg_right (show V % y + 1 ≤ y by omega) (show 0 ≤ P by omega)
  rw [Int.add_mul, Int.one_mul] at m3
  rw [wu64_mod] at hz1 hz2 hz3 hz4 hz5 hz6
  have e6 : z6 = V % y * P := by omega
  refine ⟨by omega, ?_⟩
  rw [hz7, e6, Int.fdiv_eq_ediv_of_nonneg _ (by omega)]
  exact Int.mul_ediv_cancel _ (by omega)

def lz64_sp : SpecSh := { args := [(.int .u64 (.z 0))], res := (.int .i64 (.z 0)), sh := [.i (some ((-9223372036854775808), 9223372036854775807))] }
def lz64_sem : SpecSem := { pre := fun cs => match cs with | [.i x] => IsU x | _ => False, out := fun cs => match cs with | [.i x] => [.i (64 - (Lib.bitLen x.toNat : Int))] | _ => [] }
theorem lz64_ok : SpecOK Tryz.prog 68 lz64_sp lz64_sem := by
  refine spec_of_calls Tryz.func68 (by kernel_rfl) (by kernel_rfl) ?_
  intro cs hpre
  match cs, hpre with
  | [.i x], ⟨h0, h1⟩ =>
    refine ⟨?_, fun w => ?_⟩
    · simp only [lz64_sem, lz64_sp, Fits, and_true]
      have := Lib.bitLen_le x.toNat 64 (by omega) (by omega)
      omega
    · refine (Tryz.bits_LeadingZeros64 x w h0 (by omega)).mono ?_
      rintro e w' ⟨rfl, rfl⟩
      exact ⟨rfl, .refl _ _⟩
def dI (n2 n1 y1 y0 : Int) : List Cv → Prop := fun l => match l with | [.i q, .i r] => DigI n2 n1 y1 y0 q r | _ => False
def dM : List Cv → Nat := fun l => match l with | [.i q, .i _] => q.toNat | _ => 0
def div64_sp : SpecSh := { args := [(.int .u64 (.z 0)), (.int .u64 (.z 0)), (.int .u64 (.z 0))], res := (.tup [(.int .u64 (.z 0)), (.int .u64 (.z 0))]), sh := [.i (some (0, 18446744073709551615)), .i (some (0, 18446744073709551615))] }
set_option maxRecDepth 100000 in
def div64_tree : Tree :=
.ite (.cmp .eq (.v 2) (.z 0)) (.bad 29) <|
.ite (.cmp .le (.v 2) (.v 0)) (.bad 29) <|
.ite (.cmp .eq (.v 0) (.z 0)) (.lett (.div (.v 1) (.v 2)) <|
.lett (.mod (.v 1) (.v 2)) <|
.ret (.tup [(.int .u64 (.v 3)), (.int .u64 (.v 4))])) <|
.call 68 [.i (some ((-9223372036854775808), 9223372036854775807))] [.i (.v 2)] <|
.lett (.wrap .u64 (.v 3)) <|
.lett (.shl .u64 (.v 2) (.v 4)) <|
.lett (.div (.v 5) (.z 4294967296)) <|
.lett (.bit .and .u64 (.v 5) (.z 4294967295)) <|
.lett (.shl .u64 (.v 0) (.v 4)) <|
.lett (.subw .u64 (.z 64) (.v 4)) <|
.lett (.shr .u64 (.v 1) (.v 9)) <|
.lett (.bit .or .u64 (.v 8) (.v 10)) <|
.lett (.shl .u64 (.v 1) (.v 4)) <|
.lett (.div (.v 12) (.z 4294967296)) <|
.lett (.bit .and .u64 (.v 12) (.z 4294967295)) <|
.ite (.cmp .eq (.v 6) (.z 0)) (.bad 29) <|
.lett (.div (.v 11) (.v 6)) <|
.lett (.mulw .u64 (.v 15) (.v 6)) <|
.lett (.subw .u64 (.v 11) (.v 16)) <|
.loop [.i (some (0, 4294967297)), .i (some (0, 4294967295))] [.i (.v 15), .i (.v 17)] <|
.ite (.cmp .le (.z 4294967296) (.v 18)) (.lett (.sub (.v 18) (.z 1)) <|
.lett (.add (.v 19) (.v 6)) <|
.ite (.cmp .le (.z 4294967296) (.v 21)) (.lett (.mulw .u64 (.v 11) (.z 4294967296)) <|
.lett (.addw .u64 (.v 22) (.v 13)) <|
.lett (.mulw .u64 (.v 20) (.v 5)) <|
.lett (.subw .u64 (.v 23) (.v 24)) <|
.lett (.div (.v 25) (.v 6)) <|
.lett (.mulw .u64 (.v 26) (.v 6)) <|
.lett (.subw .u64 (.v 25) (.v 27)) <|
.loop [.i (some (0, 4294967297)), .i (some (0, 4294967295))] [.i (.v 26), .i (.v 28)] <|
.ite (.cmp .le (.z 4294967296) (.v 29)) (.lett (.sub (.v 29) (.z 1)) <|
.lett (.add (.v 30) (.v 6)) <|
.ite (.cmp .le (.z 4294967296) (.v 32)) (.lett (.mulw .u64 (.v 20) (.z 4294967296)) <|
.lett (.addw .u64 (.v 33) (.v 31)) <|
.lett (.mulw .u64 (.v 25) (.z 4294967296)) <|
.lett (.addw .u64 (.v 35) (.v 14)) <|
.lett (.mulw .u64 (.v 31) (.v 5)) <|
.lett (.subw .u64 (.v 36) (.v 37)) <|
.lett (.shr .u64 (.v 38) (.v 4)) <|
.ret (.tup [(.int .u64 (.v 34)), (.int .u64 (.v 39))])) <|
.again 1 [.i (.v 31), .i (.v 32)]) <|
.lett (.mulw .u64 (.v 29) (.v 7)) <|
.lett (.mul (.z 4294967296) (.v 30)) <|
.lett (.addw .u64 (.v 32) (.v 14)) <|
.ite (.cmp .lt (.v 33) (.v 31)) (.lett (.subw .u64 (.v 29) (.z 1)) <|
.lett (.add (.v 30) (.v 6)) <|
.ite (.cmp .le (.z 4294967296) (.v 35)) (.lett (.mulw .u64 (.v 20) (.z 4294967296)) <|
.lett (.addw .u64 (.v 36) (.v 34)) <|
.lett (.mulw .u64 (.v 25) (.z 4294967296)) <|
.lett (.addw .u64 (.v 38) (.v 14)) <|
.lett (.mulw .u64 (.v 34) (.v 5)) <|
.lett (.subw .u64 (.v 39) (.v 40)) <|
.lett (.shr .u64 (.v 41) (.v 4)) <|
.ret (.tup [(.int .u64 (.v 37)), (.int .u64 (.v 42))])) <|
.again 1 [.i (.v 34), .i (.v 35)]) <|
.lett (.mulw .u64 (.v 20) (.z 4294967296)) <|
.lett (.addw .u64 (.v 34) (.v 29)) <|
.lett (.mulw .u64 (.v 25) (.z 4294967296)) <|
.lett (.addw .u64 (.v 36) (.v 14)) <|
.lett (.mulw .u64 (.v 29) (.v 5)) <|
.lett (.subw .u64 (.v 37) (.v 38)) <|
.lett (.shr .u64 (.v 39) (.v 4)) <|
.ret (.tup [(.int .u64 (.v 35)), (.int .u64 (.v 40))])) <|
.again 0 [.i (.v 20), .i (.v 21)]) <|
.lett (.mulw .u64 (.v 18) (.v 7)) <|
.lett (.mul (.z 4294967296) (.v 19)) <|
.lett (.add (.v 21) (.v 13)) <|
.ite (.cmp .lt (.v 22) (.v 20)) (.lett (.subw .u64 (.v 18) (.z 1)) <|
.lett (.add (.v 19) (.v 6)) <|
.ite (.cmp .le (.z 4294967296) (.v 24)) (.lett (.mulw .u64 (.v 11) (.z 4294967296)) <|
.lett (.addw .u64 (.v 25) (.v 13)) <|
.lett (.mulw .u64 (.v 23) (.v 5)) <|
.lett (.subw .u64 (.v 26) (.v 27)) <|
.lett (.div (.v 28) (.v 6)) <|
.lett (.mulw .u64 (.v 29) (.v 6)) <|
.lett (.subw .u64 (.v 28) (.v 30)) <|
.loop [.i (some (0, 4294967297)), .i (some (0, 4294967295))] [.i (.v 29), .i (.v 31)] <|
.ite (.cmp .le (.z 4294967296) (.v 32)) (.lett (.sub (.v 32) (.z 1)) <|
.lett (.add (.v 33) (.v 6)) <|
.ite (.cmp .le (.z 4294967296) (.v 35)) (.lett (.mulw .u64 (.v 23) (.z 4294967296)) <|
.lett (.addw .u64 (.v 36) (.v 34)) <|
.lett (.mulw .u64 (.v 28) (.z 4294967296)) <|
.lett (.addw .u64 (.v 38) (.v 14)) <|
.lett (.mulw .u64 (.v 34) (.v 5)) <|
.lett (.subw .u64 (.v 39) (.v 40)) <|
.lett (.shr .u64 (.v 41) (.v 4)) <|
.ret (.tup [(.int .u64 (.v 37)), (.int .u64 (.v 42))])) <|
.again 1 [.i (.v 34), .i (.v 35)]) <|
.lett (.mulw .u64 (.v 32) (.v 7)) <|
.lett (.mul (.z 4294967296) (.v 33)) <|
.lett (.addw .u64 (.v 35) (.v 14)) <|
.ite (.cmp .lt (.v 36) (.v 34)) (.lett (.subw .u64 (.v 32) (.z 1)) <|
.lett (.add (.v 33) (.v 6)) <|
.ite (.cmp .le (.z 4294967296) (.v 38)) (.lett (.mulw .u64 (.v 23) (.z 4294967296)) <|
.lett (.addw .u64 (.v 39) (.v 37)) <|
.lett (.mulw .u64 (.v 28) (.z 4294967296)) <|
.lett (.addw .u64 (.v 41) (.v 14)) <|
.lett (.mulw .u64 (.v 37) (.v 5)) <|
.lett (.subw .u64 (.v 42) (.v 43)) <|
.lett (.shr .u64 (.v 44) (.v 4)) <|
.ret (.tup [(.int .u64 (.v 40)), (.int .u64 (.v 45))])) <|
.again 1 [.i (.v 37), .i (.v 38)]) <|
.lett (.mulw .u64 (.v 23) (.z 4294967296)) <|
.lett (.addw .u64 (.v 37) (.v 32)) <|
.lett (.mulw .u64 (.v 28) (.z 4294967296)) <|
.lett (.addw .u64 (.v 39) (.v 14)) <|
.lett (.mulw .u64 (.v 32) (.v 5)) <|
.lett (.subw .u64 (.v 40) (.v 41)) <|
.lett (.shr .u64 (.v 42) (.v 4)) <|
.ret (.tup [(.int .u64 (.v 38)), (.int .u64 (.v 43))])) <|
.again 0 [.i (.v 23), .i (.v 24)]) <|
.lett (.mulw .u64 (.v 11) (.z 4294967296)) <|
.lett (.addw .u64 (.v 23) (.v 13)) <|
.lett (.mulw .u64 (.v 18) (.v 5)) <|
.lett (.subw .u64 (.v 24) (.v 25)) <|
.lett (.div (.v 26) (.v 6)) <|
.lett (.mulw .u64 (.v 27) (.v 6)) <|
.lett (.subw .u64 (.v 26) (.v 28)) <|
.loop [.i (some (0, 4294967297)), .i (some (0, 4294967295))] [.i (.v 27), .i (.v 29)] <|
.ite (.cmp .le (.z 4294967296) (.v 30)) (.lett (.sub (.v 30) (.z 1)) <|
.lett (.add (.v 31) (.v 6)) <|
.ite (.cmp .le (.z 4294967296) (.v 33)) (.lett (.mul (.v 18) (.z 4294967296)) <|
.lett (.addw .u64 (.v 34) (.v 32)) <|
.lett (.mulw .u64 (.v 26) (.z 4294967296)) <|
.lett (.addw .u64 (.v 36) (.v 14)) <|
.lett (.mulw .u64 (.v 32) (.v 5)) <|
.lett (.subw .u64 (.v 37) (.v 38)) <|
.lett (.shr .u64 (.v 39) (.v 4)) <|
.ret (.tup [(.int .u64 (.v 35)), (.int .u64 (.v 40))])) <|
.again 1 [.i (.v 32), .i (.v 33)]) <|
.lett (.mulw .u64 (.v 30) (.v 7)) <|
.lett (.mul (.z 4294967296) (.v 31)) <|
.lett (.addw .u64 (.v 33) (.v 14)) <|
.ite (.cmp .lt (.v 34) (.v 32)) (.lett (.subw .u64 (.v 30) (.z 1)) <|
.lett (.add (.v 31) (.v 6)) <|
.ite (.cmp .le (.z 4294967296) (.v 36)) (.lett (.mul (.v 18) (.z 4294967296)) <|
.lett (.addw .u64 (.v 37) (.v 35)) <|
.lett (.mulw .u64 (.v 26) (.z 4294967296)) <|
.lett (.addw .u64 (.v 39) (.v 14)) <|
.lett (.mulw .u64 (.v 35) (.v 5)) <|
.lett (.subw .u64 (.v 40) (.v 41)) <|
.lett (.shr .u64 (.v 42) (.v 4)) <|
.ret (.tup [(.int .u64 (.v 38)), (.int .u64 (.v 43))])) <|
.again 1 [.i (.v 35), .i (.v 36)]) <|
.lett (.mul (.v 18) (.z 4294967296)) <|
.lett (.add (.v 35) (.v 30)) <|
.lett (.mulw .u64 (.v 26) (.z 4294967296)) <|
.lett (.addw .u64 (.v 37) (.v 14)) <|
.lett (.mulw .u64 (.v 30) (.v 5)) <|
.lett (.subw .u64 (.v 38) (.v 39)) <|
.lett (.shr .u64 (.v 40) (.v 4)) <|
.ret (.tup [(.int .u64 (.v 36)), (.int .u64 (.v 41))])
noncomputable def div64_cx : Ctx := { tys := tys, fns := fns, mets := mets, sps := [(68, lz64_sp)], anns := [((67, 17), { slots := [15, 16], cells := [], ivs := [some (0, 4294967297), some (0, 4294967295)] }), ((67, 24), { slots := [18, 16], cells := [], ivs := [some (0, 4294967297), some (0, 4294967295)] })], trys := [] }
def div64_ivs : List (Option (Int × Int)) := [some (0, 18446744073709551615), some (0, 18446744073709551615), some (0, 18446744073709551615)]
set_option maxRecDepth 100000 in
theorem div64_walk : runFn div64_cx 3000 67 Tryz.f67 div64_sp.args div64_ivs = div64_tree := by kernel_rfl
noncomputable def div64_M : Nat → SpecSem
  | 68 => lz64_sem
  | _ => noSem
theorem div64_M68 : div64_M 68 = lz64_sem := rfl
theorem div64_cxok : CxOK Tryz.prog div64_cx div64_M := ⟨tysOK, fnsOK, spCons lz64_ok <| fun _ _ h => spNil h, mixedOK, fun _ _ h => trNil h, fun _ _ h => atNil h, metsOK⟩

def div64_sem : SpecSem := { pre := fun cs => match cs with | [.i a, .i b, .i y] => IsU a ∧ IsU b ∧ IsU y ∧ a < y | _ => False, out := fun cs => match cs with | [.i a, .i b, .i y] => [.i (val a b / y), .i (val a b % y)] | _ => [] }
set_option maxHeartbeats 8000000 in
theorem div64_ok : SpecOK Tryz.prog 67 div64_sp div64_sem := by
  refine spec_of_tree div64_cxok Tryz.func67 (by kernel_rfl) (by kernel_rfl) div64_walk rfl ?_
  intro cs hpre
  match cs, hpre with
  | [.i a, .i b, .i y], ⟨⟨h1, h2⟩, ⟨h3, h4⟩, ⟨h5, h6⟩, hay⟩ =>
    have hq0 : 0 ≤ val a b / y := Int.ediv_nonneg (by unfold val; omega) h5
    have hq1 : val a b / y < 18446744073709551616 := dig_lt (by omega) (by
      have := Int.mul_le_mul_of_nonneg_left (show a + 1 ≤ y by omega) (show (0 : Int) ≤ 18446744073709551616 by omega)
      unfold val; omega)
    have hr0 : 0 ≤ val a b % y := Int.emod_nonneg _ (by omega)
    have hr1 : val a b % y < y := Int.emod_lt_of_pos _ (by omega)
    refine ⟨rfl, IvsB.ok (by simp only [div64_ivs, IvsB, Cv.int, and_true]; omega), ?_, ?_⟩
    · simp only [div64_sem, div64_sp, Fits, and_true]; omega
    · simp (config := { maxSteps := 4000000 }) only [div64_sem, div64_sp, IsU, div64_tree, div64_M68, lz64_sem, Tree.den, LE.den, Cv.list, placeA, List.getElem?_cons_zero, List.getElem?_cons_succ, IE.den, BE.den, At.den, CA.den, Env.get, Cv.int, Cv.bool, List.cons_append, List.nil_append, List.map_cons, List.map_nil, bindRes, bindEq, Fits, SV.den, denL, place, placeL, eq_t, eq_f, lt_t, lt_f, le_t, le_f, beq_iff_eq, beq_eq_false_iff_ne, ne_eq, reduceCtorEq, b_dec, decide_eq_true_eq, decide_eq_false_iff_not, Bool.not_eq_false', Bool.or_eq_true, Bool.or_eq_false_iff, Bool.and_eq_false_iff, true_iff, false_iff, Bool.false_eq_true, Bool.not_eq_true', Bool.and_eq_true, Bool.not_true, Bool.not_false, List.cons.injEq, Cv.i.injEq, Cv.b.injEq, and_true, true_and, agg_inj, tup_inj, Value.int.injEq, Value.bool.injEq]
      refine ⟨fun h => by omega, fun hy0 => ⟨fun h => by omega, fun _ => ⟨fun ha0 q hq r hr => ?_, fun ha0 => ⟨by omega, ?_⟩⟩⟩⟩
      · subst ha0
        have e : val 0 b = b := by unfold val; omega
        rw [e]; exact ⟨hq, hr⟩
      intro lz hlz _ _ s hs sh hsh y1 hy1 y0 hy0' hp hhp w9 hw9 lq hlq n2 hn2 lp hlp n1 hn1 n0 hn0
      obtain ⟨L1, L2, L3, L4, L5⟩ := norm_shift (y := y.toNat) (by omega) (by omega)
      generalize Lib.bitLen y.toNat = L at *
      have es : s = ((64 - L : Nat) : Int) := by rw [wu64_mod] at hs; omega
      have ew : w9 = (L : Int) := by rw [wu64_mod] at hw9; omega
      have hPe : (2 : Int) ^ (min s.toNat (IntKind.u64).bits) = ((2 ^ (64 - L) : Nat) : Int) := by
        have : min s.toNat (IntKind.u64).bits = 64 - L := by simp only [IntKind.bits]; omega
        rw [this]; simp
      have hQe : (2 : Int) ^ (min w9.toNat (IntKind.u64).bits) = ((2 ^ L : Nat) : Int) := by
        have : min w9.toNat (IntKind.u64).bits = L := by simp only [IntKind.bits]; omega
        rw [this]; simp
      rw [hPe] at hsh hhp hlp
      rw [hQe] at hlq
      have hP0 : (0 : Int) < ((2 ^ (64 - L) : Nat) : Int) := Int.natCast_pos.mpr (Nat.two_pow_pos _)
      have hQ0 : (0 : Int) < ((2 ^ L : Nat) : Int) := Int.natCast_pos.mpr (Nat.two_pow_pos _)
      have hPQ : ((2 ^ (64 - L) : Nat) : Int) * ((2 ^ L : Nat) : Int) = 18446744073709551616 := by rw [← Int.natCast_mul, L3]; rfl
      have ey : y = (y.toNat : Int) := by omega
      have eyp : y * ((2 ^ (64 - L) : Nat) : Int) = ((y.toNat * 2 ^ (64 - L) : Nat) : Int) := by rw [Int.natCast_mul, ← ey]
      have k1 : 9223372036854775808 ≤ y * ((2 ^ (64 - L) : Nat) : Int) := by rw [eyp]; exact Int.ofNat_le.2 L4
      have k2 : y * ((2 ^ (64 - L) : Nat) : Int) < 18446744073709551616 := by rw [eyp]; exact Int.ofNat_lt.2 L5
      clear eyp
      obtain ⟨c1, c2, c3, c4, c5, c6⟩ := shifted_words hP0 hQ0 hPQ h1 hay h3 (show b < 18446744073709551616 by omega) (by omega)
      have esh : sh = y * ((2 ^ (64 - L) : Nat) : Int) := by rw [hsh, wu64_mod, Int.emod_eq_of_lt (by omega) (by omega)]
      have ehp : hp = a * ((2 ^ (64 - L) : Nat) : Int) := by rw [hhp, wu64_mod, Int.emod_eq_of_lt (by omega) (by omega)]
      have elq : lq = b / ((2 ^ L : Nat) : Int) := by rw [hlq, Int.fdiv_eq_ediv_of_nonneg _ (by omega)]
      have en2 : n2 = a * ((2 ^ (64 - L) : Nat) : Int) + b / ((2 ^ L : Nat) : Int) := by
        rw [hn2, ehp, elq]; exact or_add (64 - L) c1 c2 c3 (by omega) (Int.mul_emod_left a _) c4
      have elp : lp = b * ((2 ^ (64 - L) : Nat) : Int) % 18446744073709551616 := by rw [hlp, wu64_mod]
      have ey0 : y0 = sh % 4294967296 := by rw [hy0']; exact and_mod (x := sh) 32 (by omega) (by omega) (by omega)
      have en0 : n0 = lp % 4294967296 := by rw [hn0]; exact and_mod (x := lp) 32 (by omega) (by omega) (by omega)
      generalize ((2 ^ (64 - L) : Nat) : Int) = P at *
      generalize ((2 ^ L : Nat) : Int) = Q at *
      have hV : val a b * P = (n2 * 4294967296 + n1) * 4294967296 + n0 := by unfold val; rw [c6, ← elp, ← en2]; omega
      have b1 : y1 * 4294967296 + y0 = y * P := by omega
      have b2 : 2147483648 ≤ y1 ∧ y1 < 4294967296 ∧ 0 ≤ y0 ∧ y0 < 4294967296 ∧ 0 ≤ n1 ∧ n1 < 4294967296 ∧ 0 ≤ n0 ∧ n0 < 4294967296 ∧ 0 ≤ n2 ∧ n2 < y1 * 4294967296 + y0 := by omega
      obtain ⟨b9, b10, b11, b12, b5, b6, b7, b8, b3, b4⟩ := b2
      clear hlz hs hsh hy0' hhp hw9 hlq hn2 hlp hn0 c1 c2 c3 c4 c5 c6 hQe es ew L1 L2 L3 L4 L5 ey elq ehp hr0 hr1
      refine ⟨fun h => by omega, fun _ q hq m hm r hr => ?_⟩
      have hi := dig_start (n1 := n1) b3 b4 b5 b6 b9 b10 b11 b12 hq hm hr
      refine ⟨dI n2 n1 y1 y0, dM, ⟨hi.2.2.2.2.1, hi.2.2.2.2.2, hi.2.2.1, by have := hi.2.2.2.1; omega⟩, hi, ?_⟩
      clear hi hq hm hr q m r
      intro q l0 l1 r l2 l3 hI
      simp only [dI, dM]
      have st := fun hc => dig_step hI b4 b5 b6 b9 b10 b11 b12 hc
      refine ⟨fun hc q' hq' r' hr' => ⟨fun hb => ?_, fun hb => ?_⟩, fun hc p hp t ht t' ht' => ⟨fun hd q' hq' r' hr' => ⟨fun hb => ?_, fun hb => ?_⟩, fun hd => ?_⟩⟩
      · subst hq'; subst hr'
        have HQ := (st (.inl hc)).2.2 hb
        clear st hI hb hc l0 l1 l2 l3
        intro m1 hm1 m2 hm2 m3 hm3 u hu g hg m4 hm4 v hv
        obtain ⟨eu, hi2, u0, u1⟩ := div_mid b3 b4 b5 b6 b7 b8 b9 b10 b11 b12 (b1.trans esh.symm) HQ hm1 hm2 hm3 hu hg hm4 hv
        have Hq := HQ
        rw [b1, ← esh] at Hq
        clear hm1 hm2 hm3 hu hg hm4 hv
        refine ⟨dI u n0 y1 y0, dM, ⟨hi2.2.2.2.2.1, hi2.2.2.2.2.2, hi2.2.2.1, by have := hi2.2.2.2.1; omega⟩, hi2, ?_⟩
        clear hi2
        intro q2 l0 l1 r2 l2 l3 hJ
        simp only [dI, dM]
        have sj := fun hc => dig_step (n2 := u) (n1 := n0) hJ u1 b7 b8 b9 b10 b11 b12 hc
        refine ⟨fun hc q' hq' r' hr' => ⟨fun hb => ?_, fun hb => ?_⟩, fun hc p hp t ht t' ht' => ⟨fun hd q' hq' r' hr' => ⟨fun hb => ?_, fun hb => ?_⟩, fun hd => ?_⟩⟩
        · subst hq'; subst hr'
          have Hq2 := (sj (.inl hc)).2.2 hb
          rw [b1, ← esh] at Hq2
          intro z1 hz1 z2 hz2 z3 hz3 z4 hz4 z5 hz5 z6 hz6 z7 hz7
          exact div_final hP0 (by omega) hV (by omega) (by omega) (by omega) (by omega) hq0 hq1 esh k2 Hq eu Hq2 hz1 hz2 hz3 hz4 hz5 hz6 hPe hz7
        · subst hq'; subst hr'
          have hk := (sj (.inl hc)).2.1 hb
          have hk0 := (sj (.inl hc)).1
          exact ⟨⟨hk.2.2.2.2.1, hk.2.2.2.2.2, hk.2.2.1, by omega⟩, hk, by omega⟩
        · rw [dig_prod l0 hc b11 b12] at hp
          subst hp; subst ht
          rw [wu64 (by omega) (by omega)] at ht'
          subst ht'
          rw [wu64 (by have := (sj (.inr hd)).1; omega) (by omega)] at hq'
          subst hq'; subst hr'
          have Hq2 := (sj (.inr hd)).2.2 hb
          rw [b1, ← esh] at Hq2
          intro z1 hz1 z2 hz2 z3 hz3 z4 hz4 z5 hz5 z6 hz6 z7 hz7
          exact div_final hP0 (by omega) hV (by omega) (by omega) (by omega) (by omega) hq0 hq1 esh k2 Hq eu Hq2 hz1 hz2 hz3 hz4 hz5 hz6 hPe hz7
        · rw [dig_prod l0 hc b11 b12] at hp
          subst hp; subst ht
          rw [wu64 (by omega) (by omega)] at ht'
          subst ht'
          rw [wu64 (by have := (sj (.inr hd)).1; omega) (by omega)] at hq'
          subst hq'; subst hr'
          have hk := (sj (.inr hd)).2.1 hb
          have hk0 := (sj (.inr hd)).1
          exact ⟨⟨hk.2.2.2.2.1, hk.2.2.2.2.2, hk.2.2.1, by omega⟩, hk, by omega⟩
        · rw [dig_prod l0 hc b11 b12] at hp
          subst hp; subst ht
          rw [wu64 (by omega) (by omega)] at ht'
          subst ht'
          have Hq2 := dig_exit hJ b9 b11 (by omega)
          rw [b1, ← esh] at Hq2
          intro z1 hz1 z2 hz2 z3 hz3 z4 hz4 z5 hz5 z6 hz6 z7 hz7
          exact div_final hP0 (by omega) hV (by omega) (by omega) (by omega) (by omega) hq0 hq1 esh k2 Hq eu Hq2 hz1 hz2 hz3 hz4 hz5 hz6 hPe hz7
      · subst hq'; subst hr'
        have hk := (st (.inl hc)).2.1 hb
        have hk0 := (st (.inl hc)).1
        exact ⟨⟨hk.2.2.2.2.1, hk.2.2.2.2.2, hk.2.2.1, by omega⟩, hk, by omega⟩
      · rw [dig_prod l0 hc b11 b12] at hp
        subst hp; subst ht; subst ht'
        rw [wu64 (by have := (st (.inr hd)).1; omega) (by omega)] at hq'
        subst hq'; subst hr'
        have HQ := (st (.inr hd)).2.2 hb
        clear st hI hb hc hd l0 l1 l2 l3
        intro m1 hm1 m2 hm2 m3 hm3 u hu g hg m4 hm4 v hv
        obtain ⟨eu, hi2, u0, u1⟩ := div_mid b3 b4 b5 b6 b7 b8 b9 b10 b11 b12 (b1.trans esh.symm) HQ hm1 hm2 hm3 hu hg hm4 hv
        have Hq := HQ
        rw [b1, ← esh] at Hq
        clear hm1 hm2 hm3 hu hg hm4 hv
        refine ⟨dI u n0 y1 y0, dM, ⟨hi2.2.2.2.2.1, hi2.2.2.2.2.2, hi2.2.2.1, by have := hi2.2.2.2.1; omega⟩, hi2, ?_⟩
        clear hi2
        intro q2 l0 l1 r2 l2 l3 hJ
        simp only [dI, dM]
        have sj := fun hc => dig_step (n2 := u) (n1 := n0) hJ u1 b7 b8 b9 b10 b11 b12 hc
        refine ⟨fun hc q' hq' r' hr' => ⟨fun hb => ?_, fun hb => ?_⟩, fun hc p hp t ht t' ht' => ⟨fun hd q' hq' r' hr' => ⟨fun hb => ?_, fun hb => ?_⟩, fun hd => ?_⟩⟩
        · subst hq'; subst hr'
          have Hq2 := (sj (.inl hc)).2.2 hb
          rw [b1, ← esh] at Hq2
          intro z1 hz1 z2 hz2 z3 hz3 z4 hz4 z5 hz5 z6 hz6 z7 hz7
          exact div_final hP0 (by omega) hV (by omega) (by omega) (by omega) (by omega) hq0 hq1 esh k2 Hq eu Hq2 hz1 hz2 hz3 hz4 hz5 hz6 hPe hz7
        · subst hq'; subst hr'
          have hk := (sj (.inl hc)).2.1 hb
          have hk0 := (sj (.inl hc)).1
          exact ⟨⟨hk.2.2.2.2.1, hk.2.2.2.2.2, hk.2.2.1, by omega⟩, hk, by omega⟩
        · rw [dig_prod l0 hc b11 b12] at hp
          subst hp; subst ht
          rw [wu64 (by omega) (by omega)] at ht'
          subst ht'
          rw [wu64 (by have := (sj (.inr hd)).1; omega) (by omega)] at hq'
          subst hq'; subst hr'
          have Hq2 := (sj (.inr hd)).2.2 hb
          rw [b1, ← esh] at Hq2
          intro z1 hz1 z2 hz2 z3 hz3 z4 hz4 z5 hz5 z6 hz6 z7 hz7
          exact div_final hP0 (by omega) hV (by omega) (by omega) (by omega) (by omega) hq0 hq1 esh k2 Hq eu Hq2 hz1 hz2 hz3 hz4 hz5 hz6 hPe hz7
        · rw [dig_prod l0 hc b11 b12] at hp
          subst hp; subst ht
          rw [wu64 (by omega) (by omega)] at ht'
          subst ht'
          rw [wu64 (by have := (sj (.inr hd)).1; omega) (by omega)] at hq'
          subst hq'; subst hr'
          have hk := (sj (.inr hd)).2.1 hb
          have hk0 := (sj (.inr hd)).1
          exact ⟨⟨hk.2.2.2.2.1, hk.2.2.2.2.2, hk.2.2.1, by omega⟩, hk, by omega⟩
        · rw [dig_prod l0 hc b11 b12] at hp
          subst hp; subst ht
          rw [wu64 (by omega) (by omega)] at ht'
          subst ht'
          have Hq2 := dig_exit hJ b9 b11 (by omega)
          rw [b1, ← esh] at Hq2
          intro z1 hz1 z2 hz2 z3 hz3 z4 hz4 z5 hz5 z6 hz6 z7 hz7
          exact div_final hP0 (by omega) hV (by omega) (by omega) (by omega) (by omega) hq0 hq1 esh k2 Hq eu Hq2 hz1 hz2 hz3 hz4 hz5 hz6 hPe hz7
      · rw [dig_prod l0 hc b11 b12] at hp
        subst hp; subst ht; subst ht'
        rw [wu64 (by have := (st (.inr hd)).1; omega) (by omega)] at hq'
        subst hq'; subst hr'
        have hk := (st (.inr hd)).2.1 hb
        have hk0 := (st (.inr hd)).1
        exact ⟨⟨hk.2.2.2.2.1, hk.2.2.2.2.2, hk.2.2.1, by omega⟩, hk, by omega⟩
      · rw [dig_prod l0 hc b11 b12] at hp
        subst hp; subst ht; subst ht'
        have HQ := dig_exit hI b9 b11 (by omega)
        have hcq := hc
        have l0q := l0
        clear st hI hc hd l0 l1 l2 l3
        intro m1 hm1 m2 hm2 m3 hm3 u hu g hg m4 hm4 v hv
        obtain ⟨eu, hi2, u0, u1⟩ := div_mid b3 b4 b5 b6 b7 b8 b9 b10 b11 b12 (b1.trans esh.symm) HQ hm1 hm2 hm3 hu hg hm4 hv
        have Hq := HQ
        rw [b1, ← esh] at Hq
        clear hm1 hm2 hm3 hu hg hm4 hv
        refine ⟨dI u n0 y1 y0, dM, ⟨hi2.2.2.2.2.1, hi2.2.2.2.2.2, hi2.2.2.1, by have := hi2.2.2.2.1; omega⟩, hi2, ?_⟩
        clear hi2
        intro q2 l0 l1 r2 l2 l3 hJ
        simp only [dI, dM]
        have sj := fun hc => dig_step (n2 := u) (n1 := n0) hJ u1 b7 b8 b9 b10 b11 b12 hc
        refine ⟨fun hc q' hq' r' hr' => ⟨fun hb => ?_, fun hb => ?_⟩, fun hc p hp t ht t' ht' => ⟨fun hd q' hq' r' hr' => ⟨fun hb => ?_, fun hb => ?_⟩, fun hd => ?_⟩⟩
        · subst hq'; subst hr'
          have Hq2 := (sj (.inl hc)).2.2 hb
          rw [b1, ← esh] at Hq2
          intro z1 hz1 z2 hz2 z3 hz3 z4 hz4 z5 hz5 z6 hz6 z7 hz7
          exact div_final hP0 (by omega) hV (by omega) (by omega) (by omega) (by omega) hq0 hq1 esh k2 Hq eu Hq2 (hz1.trans (wu64 (by omega) (by omega)).symm) hz2 hz3 hz4 hz5 hz6 hPe hz7
        · subst hq'; subst hr'
          have hk := (sj (.inl hc)).2.1 hb
          have hk0 := (sj (.inl hc)).1
          exact ⟨⟨hk.2.2.2.2.1, hk.2.2.2.2.2, hk.2.2.1, by omega⟩, hk, by omega⟩
        · rw [dig_prod l0 hc b11 b12] at hp
          subst hp; subst ht
          rw [wu64 (by omega) (by omega)] at ht'
          subst ht'
          rw [wu64 (by have := (sj (.inr hd)).1; omega) (by omega)] at hq'
          subst hq'; subst hr'
          have Hq2 := (sj (.inr hd)).2.2 hb
          rw [b1, ← esh] at Hq2
          intro z1 hz1 z2 hz2 z3 hz3 z4 hz4 z5 hz5 z6 hz6 z7 hz7
          exact div_final hP0 (by omega) hV (by omega) (by omega) (by omega) (by omega) hq0 hq1 esh k2 Hq eu Hq2 (hz1.trans (wu64 (by omega) (by omega)).symm) hz2 hz3 hz4 hz5 hz6 hPe hz7
        · rw [dig_prod l0 hc b11 b12] at hp
          subst hp; subst ht
          rw [wu64 (by omega) (by omega)] at ht'
          subst ht'
          rw [wu64 (by have := (sj (.inr hd)).1; omega) (by omega)] at hq'
          subst hq'; subst hr'
          have hk := (sj (.inr hd)).2.1 hb
          have hk0 := (sj (.inr hd)).1
          exact ⟨⟨hk.2.2.2.2.1, hk.2.2.2.2.2, hk.2.2.1, by omega⟩, hk, by omega⟩
        · rw [dig_prod l0 hc b11 b12] at hp
          subst hp; subst ht
          rw [wu64 (by omega) (by omega)] at ht'
          subst ht'
          have Hq2 := dig_exit hJ b9 b11 (by omega)
          rw [b1, ← esh] at Hq2
          intro z1 hz1 z2 hz2 z3 hz3 z4 hz4 z5 hz5 z6 hz6 z7 hz7
          exact div_final hP0 (by omega) hV (by omega) (by omega) (by omega) (by omega) hq0 hq1 esh k2 Hq eu Hq2 (hz1.trans (wu64 (by omega) (by omega)).symm) (hz2.trans (wu64 (by omega) (by omega)).symm) hz3 hz4 hz5 hz6 hPe hz7
end Go.Proofs.YtglpelnaeipenaaGreat.X
