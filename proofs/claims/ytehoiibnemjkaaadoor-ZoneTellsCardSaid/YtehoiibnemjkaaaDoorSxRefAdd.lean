/-
  The contracts of the reference's numbers of 128 bits (package datumref01): sums, differences, products, for every input in range.
  (Printed by wip/sx/gen_ref.py.)
-/
import Derived.Test.YtehoiibnemjkaaaDoorSxMul
namespace Go.Proofs.YtehoiibnemjkaaaDoor.X
open Go Go.SX Go.RowKit
set_option linter.unusedVariables false
set_option linter.unusedSimpArgs false

theorem val_rng {h l : Int} (hh : IsU h) (hl : IsU l) : 0 ≤ val h l ∧ val h l < 340282366920938463463374607431768211456 := by
  obtain ⟨h1, h2⟩ := hh
  obtain ⟨h3, h4⟩ := hl
  unfold val; omega
theorem word4 {x q0 d0 q1 d1 q2 d2 q3 d3 : Int} (e0 : q0 = x / 1) (f0 : d0 = q0 % 65536) (e1 : q1 = x / 65536) (f1 : d1 = q1 % 65536) (e2 : q2 = x / 4294967296) (f2 : d2 = q2 % 65536) (e3 : q3 = x / 281474976710656) (f3 : d3 = q3 % 65536) (hx : IsU x) :
    x = d0 + 65536 * d1 + 4294967296 * d2 + 281474976710656 * d3 ∧ (0 ≤ d0 ∧ d0 < 65536) ∧ (0 ≤ d1 ∧ d1 < 65536) ∧ (0 ≤ d2 ∧ d2 < 65536) ∧ (0 ≤ d3 ∧ d3 < 65536) := by
  obtain ⟨h1, h2⟩ := hx
  omega
theorem add0 {n x y : Int} (e : n = x + y) (hx : 0 ≤ x ∧ x < 65536) (hy : 0 ≤ y ∧ y < 65536) : 0 ≤ n := by omega
theorem sub0 {n m x y : Int} (e : n = m - y) (f : m = x + 65535) (hx : 0 ≤ x ∧ x < 65536) (hy : 0 ≤ y ∧ y < 65536) : 0 ≤ n := by omega
theorem inc0 {n m : Int} (e : n = m + 1) (h : 0 ≤ m) : 0 ≤ n := by omega
theorem mul0 {n x y : Int} (e : n = x * y) (hx : 0 ≤ x ∧ x < 65536) (hy : 0 ≤ y ∧ y < 65536) : 0 ≤ n := by rw [e]; exact Int.mul_nonneg hx.1 hy.1
theorem zero_add0 {s p : Int} (e : s = 0 + p) (h : 0 ≤ p) : 0 ≤ s := by omega
theorem add00 {s t p : Int} (e : s = t + p) (h : 0 ≤ t) (h' : 0 ≤ p) : 0 ≤ s := by omega
theorem same {s s' c n : Int} (h1 : s = n) (h2 : s' = n) (h3 : c = s' / 65536) : c = s / 65536 := by rw [h3, h2, h1]
theorem step0 {s n d c : Int} (es : s = n + 0) (ed : d = s % 65536) (ec : c = s / 65536) (hn : 0 ≤ n) : n = d + 65536 * c ∧ 0 ≤ d ∧ d < 65536 ∧ 0 ≤ c := by omega
theorem step {s n k d c : Int} (es : s = n + k) (ed : d = s % 65536) (ec : c = s / 65536) (hn : 0 ≤ n) (hk : 0 ≤ k) : n + k = d + 65536 * c ∧ 0 ≤ d ∧ d < 65536 ∧ 0 ≤ c := by omega
theorem stepz {s k d c : Int} (es : s = 0 + k) (ed : d = s % 65536) (ec : c = s / 65536) (hk : 0 ≤ k) : k = d + 65536 * c ∧ 0 ≤ d ∧ d < 65536 ∧ 0 ≤ c := by omega
theorem whole8 {d0 d1 d2 d3 d4 d5 d6 d7 m0 l0 m4 h0 m1 l1 m5 h1 m2 l2 m6 h2 m3 l3 m7 h3 : Int} (a0 : m0 = d0 * 1) (a1 : l0 = 0 + m0) (a2 : m4 = d4 * 1) (a3 : h0 = 0 + m4) (a4 : m1 = d1 * 65536) (a5 : l1 = l0 + m1) (a6 : m5 = d5 * 65536) (a7 : h1 = h0 + m5)
    (b0 : m2 = d2 * 4294967296) (b1 : l2 = l1 + m2) (b2 : m6 = d6 * 4294967296) (b3 : h2 = h1 + m6) (b4 : m3 = d3 * 281474976710656) (b5 : l3 = l2 + m3) (b6 : m7 = d7 * 281474976710656) (b7 : h3 = h2 + m7) :
    l3 = d0 + 65536 * d1 + 4294967296 * d2 + 281474976710656 * d3 ∧ h3 = d4 + 65536 * d5 + 4294967296 * d6 + 281474976710656 * d7 := by omega
theorem chain8 {n0 d0 c1 n1 d1 c2 n2 d2 c3 n3 d3 c4 n4 d4 c5 n5 d5 c6 n6 d6 c7 n7 d7 c8 lo hi : Int} (s0 : n0 = d0 + 65536 * c1 ∧ 0 ≤ d0 ∧ d0 < 65536 ∧ 0 ≤ c1) (s1 : n1 + c1 = d1 + 65536 * c2 ∧ 0 ≤ d1 ∧ d1 < 65536 ∧ 0 ≤ c2) (s2 : n2 + c2 = d2 + 65536 * c3 ∧ 0 ≤ d2 ∧ d2 < 65536 ∧ 0 ≤ c3) (s3 : n3 + c3 = d3 + 65536 * c4 ∧ 0 ≤ d3 ∧ d3 < 65536 ∧ 0 ≤ c4) (s4 : n4 + c4 = d4 + 65536 * c5 ∧ 0 ≤ d4 ∧ d4 < 65536 ∧ 0 ≤ c5) (s5 : n5 + c5 = d5 + 65536 * c6 ∧ 0 ≤ d5 ∧ d5 < 65536 ∧ 0 ≤ c6) (s6 : n6 + c6 = d6 + 65536 * c7 ∧ 0 ≤ d6 ∧ d6 < 65536 ∧ 0 ≤ c7) (s7 : n7 + c7 = d7 + 65536 * c8 ∧ 0 ≤ d7 ∧ d7 < 65536 ∧ 0 ≤ c8)
    (w1 : lo = d0 + 65536 * d1 + 4294967296 * d2 + 281474976710656 * d3) (w2 : hi = d4 + 65536 * d5 + 4294967296 * d6 + 281474976710656 * d7) :
    n0 + 65536 * n1 + 4294967296 * n2 + 281474976710656 * n3 + 18446744073709551616 * n4 + 1208925819614629174706176 * n5 + 79228162514264337593543950336 * n6 + 5192296858534827628530496329220096 * n7 = lo + 18446744073709551616 * hi + 340282366920938463463374607431768211456 * c8 ∧ 0 ≤ lo ∧ lo < 18446744073709551616 ∧ 0 ≤ hi ∧ hi < 18446744073709551616 ∧ 0 ≤ c8 := by omega
theorem chain8c {c0 n0 d0 c1 n1 d1 c2 n2 d2 c3 n3 d3 c4 n4 d4 c5 n5 d5 c6 n6 d6 c7 d7 c8 : Int} (s0 : n0 + c0 = d0 + 65536 * c1 ∧ 0 ≤ d0 ∧ d0 < 65536 ∧ 0 ≤ c1) (s1 : n1 + c1 = d1 + 65536 * c2 ∧ 0 ≤ d1 ∧ d1 < 65536 ∧ 0 ≤ c2) (s2 : n2 + c2 = d2 + 65536 * c3 ∧ 0 ≤ d2 ∧ d2 < 65536 ∧ 0 ≤ c3) (s3 : n3 + c3 = d3 + 65536 * c4 ∧ 0 ≤ d3 ∧ d3 < 65536 ∧ 0 ≤ c4) (s4 : n4 + c4 = d4 + 65536 * c5 ∧ 0 ≤ d4 ∧ d4 < 65536 ∧ 0 ≤ c5) (s5 : n5 + c5 = d5 + 65536 * c6 ∧ 0 ≤ d5 ∧ d5 < 65536 ∧ 0 ≤ c6) (s6 : n6 + c6 = d6 + 65536 * c7 ∧ 0 ≤ d6 ∧ d6 < 65536 ∧ 0 ≤ c7) (s7 : c7 = d7 + 65536 * c8 ∧ 0 ≤ d7 ∧ d7 < 65536 ∧ 0 ≤ c8) :
    c0 + (n0 + 65536 * n1 + 4294967296 * n2 + 281474976710656 * n3 + 18446744073709551616 * n4 + 1208925819614629174706176 * n5 + 79228162514264337593543950336 * n6) = d0 + 65536 * d1 + 4294967296 * d2 + 281474976710656 * d3 + 18446744073709551616 * d4 + 1208925819614629174706176 * d5 + 79228162514264337593543950336 * d6 + 5192296858534827628530496329220096 * d7 + 340282366920938463463374607431768211456 * c8 ∧ (0 ≤ d0 ∧ 0 ≤ d1 ∧ 0 ≤ d2 ∧ 0 ≤ d3 ∧ 0 ≤ d4 ∧ 0 ≤ d5 ∧ 0 ≤ d6 ∧ 0 ≤ d7) ∧ 0 ≤ c8 := by omega
theorem fin_add {S v lo hi c8 : Int} (z : S = lo + 18446744073709551616 * hi + 340282366920938463463374607431768211456 * c8 ∧ 0 ≤ lo ∧ lo < 18446744073709551616 ∧ 0 ≤ hi ∧ hi < 18446744073709551616 ∧ 0 ≤ c8) (e : v = S) : hi = v / 18446744073709551616 % 18446744073709551616 ∧ lo = v % 18446744073709551616 ∧ (0 < c8 ↔ 340282366920938463463374607431768211456 ≤ v) := by omega
theorem fin_sub {S a b c d lo hi c8 : Int} (z : S = lo + 18446744073709551616 * hi + 340282366920938463463374607431768211456 * c8 ∧ 0 ≤ lo ∧ lo < 18446744073709551616 ∧ 0 ≤ hi ∧ hi < 18446744073709551616 ∧ 0 ≤ c8) (e : val a b - val c d + 340282366920938463463374607431768211456 = S) (hab : 0 ≤ val a b ∧ val a b < 340282366920938463463374607431768211456) (hcd : 0 ≤ val c d ∧ val c d < 340282366920938463463374607431768211456) (ha : IsU a) (hb : IsU b) (hc : IsU c) (hd : IsU d) :
    (¬ a = c → hi = (val a b - val c d) / 18446744073709551616 % 18446744073709551616 ∧ lo = (val a b - val c d) % 18446744073709551616 ∧ (a < c ↔ val a b < val c d)) ∧ (a = c → hi = (val a b - val c d) / 18446744073709551616 % 18446744073709551616 ∧ lo = (val a b - val c d) % 18446744073709551616 ∧ (b < d ↔ val a b < val c d)) := by
  obtain ⟨h1, h2⟩ := ha
  obtain ⟨h3, h4⟩ := hb
  obtain ⟨h5, h6⟩ := hc
  obtain ⟨h7, h8⟩ := hd
  unfold val at *
  omega
theorem prod_lt {x y : Int} (hx : 0 ≤ x ∧ x < 340282366920938463463374607431768211456) (hy : 0 ≤ y ∧ y < 340282366920938463463374607431768211456) : 0 ≤ x * y ∧ x * y < 115792089237316195423570985008687907853269984665640564039457584007913129639936 := by
  refine ⟨Int.mul_nonneg hx.1 hy.1, ?_⟩
  have := Int.mul_le_mul (show x ≤ 340282366920938463463374607431768211455 by omega) (show y ≤ 340282366920938463463374607431768211455 by omega) hy.1 (by omega)
  omega
theorem fin_times {n0 n1 n2 n3 n4 n5 n6 n7 n8 n9 n10 n11 n12 n13 n14 v lo hi c8 d8 d9 d10 d11 d12 d13 d14 d15 c16 : Int} (z : n0 + 65536 * n1 + 4294967296 * n2 + 281474976710656 * n3 + 18446744073709551616 * n4 + 1208925819614629174706176 * n5 + 79228162514264337593543950336 * n6 + 5192296858534827628530496329220096 * n7 = lo + 18446744073709551616 * hi + 340282366920938463463374607431768211456 * c8 ∧ 0 ≤ lo ∧ lo < 18446744073709551616 ∧ 0 ≤ hi ∧ hi < 18446744073709551616 ∧ 0 ≤ c8)
    (y : c8 + (n8 + 65536 * n9 + 4294967296 * n10 + 281474976710656 * n11 + 18446744073709551616 * n12 + 1208925819614629174706176 * n13 + 79228162514264337593543950336 * n14) = d8 + 65536 * d9 + 4294967296 * d10 + 281474976710656 * d11 + 18446744073709551616 * d12 + 1208925819614629174706176 * d13 + 79228162514264337593543950336 * d14 + 5192296858534827628530496329220096 * d15 + 340282366920938463463374607431768211456 * c16 ∧ (0 ≤ d8 ∧ 0 ≤ d9 ∧ 0 ≤ d10 ∧ 0 ≤ d11 ∧ 0 ≤ d12 ∧ 0 ≤ d13 ∧ 0 ≤ d14 ∧ 0 ≤ d15) ∧ 0 ≤ c16)
    (e : v = n0 + 65536 * n1 + 4294967296 * n2 + 281474976710656 * n3 + 18446744073709551616 * n4 + 1208925819614629174706176 * n5 + 79228162514264337593543950336 * n6 + 5192296858534827628530496329220096 * n7 + 340282366920938463463374607431768211456 * n8 + 22300745198530623141535718272648361505980416 * n9 + 1461501637330902918203684832716283019655932542976 * n10 + 95780971304118053647396689196894323976171195136475136 * n11 + 6277101735386680763835789423207666416102355444464034512896 * n12 + 411376139330301510538742295639337626245683966408394965837152256 * n13 + 26959946667150639794667015087019630673637144422540572481103610249216 * n14) (hv : 0 ≤ v ∧ v < 115792089237316195423570985008687907853269984665640564039457584007913129639936) : hi = v / 18446744073709551616 % 18446744073709551616 ∧ lo = v % 18446744073709551616 ∧ ((0 < d15 ∨ 0 < d14 ∨ 0 < d13 ∨ 0 < d12 ∨ 0 < d11 ∨ 0 < d10 ∨ 0 < d9 ∨ 0 < d8) ↔ 340282366920938463463374607431768211456 ≤ v) := by
  have k : v = lo + 18446744073709551616 * hi + 340282366920938463463374607431768211456 * (d8 + 65536 * d9 + 4294967296 * d10 + 281474976710656 * d11 + 18446744073709551616 * d12 + 1208925819614629174706176 * d13 + 79228162514264337593543950336 * d14 + 5192296858534827628530496329220096 * d15 + 340282366920938463463374607431768211456 * c16) := by omega
  obtain ⟨z1, z2, z3, z4, z5, z6⟩ := z
  obtain ⟨y1, ⟨y2, y3, y4, y5, y6, y7, y8, y9⟩, y10⟩ := y
  clear z1 e y1
  omega
theorem mul_val8 (x a b c d e f g h : Int) : x * (a + 65536 * (b + 65536 * (c + 65536 * (d + 65536 * (e + 65536 * (f + 65536 * (g + 65536 * h))))))) =
    x * a + 65536 * (x * b + 65536 * (x * c + 65536 * (x * d + 65536 * (x * e + 65536 * (x * f + 65536 * (x * g + 65536 * (x * h))))))) := by
  simp only [Int.mul_add, Int.mul_left_comm x 65536]
theorem val_dig {h l x0 x1 x2 x3 x4 x5 x6 x7 : Int} (e : l = x0 + 65536 * x1 + 4294967296 * x2 + 281474976710656 * x3) (f : h = x4 + 65536 * x5 + 4294967296 * x6 + 281474976710656 * x7) :
    val h l = x0 + 65536 * (x1 + 65536 * (x2 + 65536 * (x3 + 65536 * (x4 + 65536 * (x5 + 65536 * (x6 + 65536 * x7)))))) := by unfold val; omega
theorem prodV (x0 x1 x2 x3 x4 x5 x6 x7 y0 y1 y2 y3 y4 y5 y6 y7 : Int) : (x0 + 65536 * (x1 + 65536 * (x2 + 65536 * (x3 + 65536 * (x4 + 65536 * (x5 + 65536 * (x6 + 65536 * x7))))))) * (y0 + 65536 * (y1 + 65536 * (y2 + 65536 * (y3 + 65536 * (y4 + 65536 * (y5 + 65536 * (y6 + 65536 * y7))))))) =
    x0 * y0 + 65536 * (x0 * y1 + x1 * y0) + 4294967296 * (x0 * y2 + x1 * y1 + x2 * y0) + 281474976710656 * (x0 * y3 + x1 * y2 + x2 * y1 + x3 * y0) + 18446744073709551616 * (x0 * y4 + x1 * y3 + x2 * y2 + x3 * y1 + x4 * y0) + 1208925819614629174706176 * (x0 * y5 + x1 * y4 + x2 * y3 + x3 * y2 + x4 * y1 + x5 * y0) + 79228162514264337593543950336 * (x0 * y6 + x1 * y5 + x2 * y4 + x3 * y3 + x4 * y2 + x5 * y1 + x6 * y0) + 5192296858534827628530496329220096 * (x0 * y7 + x1 * y6 + x2 * y5 + x3 * y4 + x4 * y3 + x5 * y2 + x6 * y1 + x7 * y0) + 340282366920938463463374607431768211456 * (x1 * y7 + x2 * y6 + x3 * y5 + x4 * y4 + x5 * y3 + x6 * y2 + x7 * y1) + 22300745198530623141535718272648361505980416 * (x2 * y7 + x3 * y6 + x4 * y5 + x5 * y4 + x6 * y3 + x7 * y2) + 1461501637330902918203684832716283019655932542976 * (x3 * y7 + x4 * y6 + x5 * y5 + x6 * y4 + x7 * y3) + 95780971304118053647396689196894323976171195136475136 * (x4 * y7 + x5 * y6 + x6 * y5 + x7 * y4) + 6277101735386680763835789423207666416102355444464034512896 * (x5 * y7 + x6 * y6 + x7 * y5) + 411376139330301510538742295639337626245683966408394965837152256 * (x6 * y7 + x7 * y6) + 26959946667150639794667015087019630673637144422540572481103610249216 * (x7 * y7) := by
  rw [Int.add_mul, Int.mul_assoc, Int.add_mul, Int.mul_assoc, Int.add_mul, Int.mul_assoc, Int.add_mul, Int.mul_assoc, Int.add_mul, Int.mul_assoc, Int.add_mul, Int.mul_assoc, Int.add_mul, Int.mul_assoc]
  simp only [mul_val8]
  omega
theorem vsum {a b c d x0 x1 x2 x3 x4 x5 x6 x7 y0 y1 y2 y3 y4 y5 y6 y7 n0 n1 n2 n3 n4 n5 n6 n7 : Int} (P0 : a = x4 + 65536 * x5 + 4294967296 * x6 + 281474976710656 * x7) (P1 : b = x0 + 65536 * x1 + 4294967296 * x2 + 281474976710656 * x3) (P2 : c = y4 + 65536 * y5 + 4294967296 * y6 + 281474976710656 * y7) (P3 : d = y0 + 65536 * y1 + 4294967296 * y2 + 281474976710656 * y3)
    (e0 : n0 = x0 + y0) (e1 : n1 = x1 + y1) (e2 : n2 = x2 + y2) (e3 : n3 = x3 + y3) (e4 : n4 = x4 + y4) (e5 : n5 = x5 + y5) (e6 : n6 = x6 + y6) (e7 : n7 = x7 + y7) : val a b + val c d = n0 + 65536 * n1 + 4294967296 * n2 + 281474976710656 * n3 + 18446744073709551616 * n4 + 1208925819614629174706176 * n5 + 79228162514264337593543950336 * n6 + 5192296858534827628530496329220096 * n7 := by unfold val; omega
theorem vdif {a b c d x0 x1 x2 x3 x4 x5 x6 x7 y0 y1 y2 y3 y4 y5 y6 y7 n0 n1 n2 n3 n4 n5 n6 n7 m0 m1 m2 m3 m4 m5 m6 m7 k : Int} (P0 : a = x4 + 65536 * x5 + 4294967296 * x6 + 281474976710656 * x7) (P1 : b = x0 + 65536 * x1 + 4294967296 * x2 + 281474976710656 * x3) (P2 : c = y4 + 65536 * y5 + 4294967296 * y6 + 281474976710656 * y7) (P3 : d = y0 + 65536 * y1 + 4294967296 * y2 + 281474976710656 * y3)
    (ek : k = n0 + 1) (f0 : m0 = x0 + 65535) (e0 : n0 = m0 - y0) (f1 : m1 = x1 + 65535) (e1 : n1 = m1 - y1) (f2 : m2 = x2 + 65535) (e2 : n2 = m2 - y2) (f3 : m3 = x3 + 65535) (e3 : n3 = m3 - y3) (f4 : m4 = x4 + 65535) (e4 : n4 = m4 - y4) (f5 : m5 = x5 + 65535) (e5 : n5 = m5 - y5) (f6 : m6 = x6 + 65535) (e6 : n6 = m6 - y6) (f7 : m7 = x7 + 65535) (e7 : n7 = m7 - y7) : val a b - val c d + 340282366920938463463374607431768211456 = k + 65536 * n1 + 4294967296 * n2 + 281474976710656 * n3 + 18446744073709551616 * n4 + 1208925819614629174706176 * n5 + 79228162514264337593543950336 * n6 + 5192296858534827628530496329220096 * n7 := by unfold val; omega

def radd_sp : SpecSh := { args := [(.agg [(.int .u64 (.z 0)), (.int .u64 (.z 0))]), (.agg [(.int .u64 (.z 0)), (.int .u64 (.z 0))])], res := (.tup [(.agg [(.int .u64 (.z 0)), (.int .u64 (.z 0))]), (.bool .f)]), sh := [.i (some (0, 18446744073709551615)), .i (some (0, 18446744073709551615)), .b] }
set_option maxRecDepth 100000 in
def radd_tree : Tree :=
.lett (.div (.v 1) (.z 1)) <|
.lett (.mod (.v 4) (.z 65536)) <|
.lett (.div (.v 1) (.z 65536)) <|
.lett (.mod (.v 6) (.z 65536)) <|
.lett (.div (.v 1) (.z 4294967296)) <|
.lett (.mod (.v 8) (.z 65536)) <|
.lett (.div (.v 1) (.z 281474976710656)) <|
.lett (.mod (.v 10) (.z 65536)) <|
.lett (.div (.v 0) (.z 1)) <|
.lett (.mod (.v 12) (.z 65536)) <|
.lett (.div (.v 0) (.z 65536)) <|
.lett (.mod (.v 14) (.z 65536)) <|
.lett (.div (.v 0) (.z 4294967296)) <|
.lett (.mod (.v 16) (.z 65536)) <|
.lett (.div (.v 0) (.z 281474976710656)) <|
.lett (.mod (.v 18) (.z 65536)) <|
.lett (.div (.v 3) (.z 1)) <|
.lett (.mod (.v 20) (.z 65536)) <|
.lett (.div (.v 3) (.z 65536)) <|
.lett (.mod (.v 22) (.z 65536)) <|
.lett (.div (.v 3) (.z 4294967296)) <|
.lett (.mod (.v 24) (.z 65536)) <|
.lett (.div (.v 3) (.z 281474976710656)) <|
.lett (.mod (.v 26) (.z 65536)) <|
.lett (.div (.v 2) (.z 1)) <|
.lett (.mod (.v 28) (.z 65536)) <|
.lett (.div (.v 2) (.z 65536)) <|
.lett (.mod (.v 30) (.z 65536)) <|
.lett (.div (.v 2) (.z 4294967296)) <|
.lett (.mod (.v 32) (.z 65536)) <|
.lett (.div (.v 2) (.z 281474976710656)) <|
.lett (.mod (.v 34) (.z 65536)) <|
.lett (.add (.v 5) (.v 21)) <|
.lett (.add (.v 7) (.v 23)) <|
.lett (.add (.v 9) (.v 25)) <|
.lett (.add (.v 11) (.v 27)) <|
.lett (.add (.v 13) (.v 29)) <|
.lett (.add (.v 15) (.v 31)) <|
.lett (.add (.v 17) (.v 33)) <|
.lett (.add (.v 19) (.v 35)) <|
.lett (.add (.v 36) (.z 0)) <|
.lett (.mod (.v 44) (.z 65536)) <|
.lett (.add (.v 36) (.z 0)) <|
.lett (.div (.v 46) (.z 65536)) <|
.lett (.add (.v 37) (.v 47)) <|
.lett (.mod (.v 48) (.z 65536)) <|
.lett (.add (.v 37) (.v 47)) <|
.lett (.div (.v 50) (.z 65536)) <|
.lett (.add (.v 38) (.v 51)) <|
.lett (.mod (.v 52) (.z 65536)) <|
.lett (.add (.v 38) (.v 51)) <|
.lett (.div (.v 54) (.z 65536)) <|
.lett (.add (.v 39) (.v 55)) <|
.lett (.mod (.v 56) (.z 65536)) <|
.lett (.add (.v 39) (.v 55)) <|
.lett (.div (.v 58) (.z 65536)) <|
.lett (.add (.v 40) (.v 59)) <|
.lett (.mod (.v 60) (.z 65536)) <|
.lett (.add (.v 40) (.v 59)) <|
.lett (.div (.v 62) (.z 65536)) <|
.lett (.add (.v 41) (.v 63)) <|
.lett (.mod (.v 64) (.z 65536)) <|
.lett (.add (.v 41) (.v 63)) <|
.lett (.div (.v 66) (.z 65536)) <|
.lett (.add (.v 42) (.v 67)) <|
.lett (.mod (.v 68) (.z 65536)) <|
.lett (.add (.v 42) (.v 67)) <|
.lett (.div (.v 70) (.z 65536)) <|
.lett (.add (.v 43) (.v 71)) <|
.lett (.mod (.v 72) (.z 65536)) <|
.lett (.add (.v 43) (.v 71)) <|
.lett (.div (.v 74) (.z 65536)) <|
.lett (.mul (.v 45) (.z 1)) <|
.lett (.add (.z 0) (.v 76)) <|
.lett (.mul (.v 61) (.z 1)) <|
.lett (.add (.z 0) (.v 78)) <|
.lett (.mul (.v 49) (.z 65536)) <|
.lett (.add (.v 77) (.v 80)) <|
.lett (.mul (.v 65) (.z 65536)) <|
.lett (.add (.v 79) (.v 82)) <|
.lett (.mul (.v 53) (.z 4294967296)) <|
.lett (.add (.v 81) (.v 84)) <|
.lett (.mul (.v 69) (.z 4294967296)) <|
.lett (.add (.v 83) (.v 86)) <|
.lett (.mul (.v 57) (.z 281474976710656)) <|
.lett (.add (.v 85) (.v 88)) <|
.lett (.mul (.v 73) (.z 281474976710656)) <|
.lett (.add (.v 87) (.v 90)) <|
.ret (.tup [(.agg [(.int .u64 (.v 91)), (.int .u64 (.v 89))]), (.bool (.cmp .lt (.z 0) (.v 75)))])
noncomputable def radd_cx : Ctx := { tys := tys, fns := fns, mets := mets, sps := [], anns := [], trys := [] }
def radd_ivs : List (Option (Int × Int)) := [some (0, 18446744073709551615), some (0, 18446744073709551615), some (0, 18446744073709551615), some (0, 18446744073709551615)]
set_option maxRecDepth 100000 in
theorem radd_walk : runFn radd_cx 3000 39 Tryd.f39 radd_sp.args radd_ivs = radd_tree := by kernel_rfl
noncomputable def radd_M : Nat → SpecSem
  | _ => noSem
theorem radd_cxok : CxOK Tryd.prog radd_cx radd_M := ⟨tysOK, fnsOK, fun _ _ h => spNil h, mixedOK, fun _ _ h => trNil h, fun _ _ h => atNil h, metsOK⟩
set_option maxRecDepth 100000 in
def radd_tail : Tree :=
.ret (.tup [(.agg [(.int .u64 (.v 91)), (.int .u64 (.v 89))]), (.bool (.cmp .lt (.z 0) (.v 75)))])
set_option maxRecDepth 100000 in
theorem radd_den (M : Nat → SpecSem) (R RP : Value → Prop) (F : Ex → St → Js → Env → Prop) (J : Js) (x0 : Int) (x1 : Int) (x2 : Int) (x3 : Int) : Tree.den M R RP F radd_tree J [(.i x0), (.i x1), (.i x2), (.i x3)] = (
  ∀ x4 : Int, x4 = x1 / (1 : Int) →
  ∀ x5 : Int, x5 = x4 % (65536 : Int) →
  ∀ x6 : Int, x6 = x1 / (65536 : Int) →
  ∀ x7 : Int, x7 = x6 % (65536 : Int) →
  ∀ x8 : Int, x8 = x1 / (4294967296 : Int) →
  ∀ x9 : Int, x9 = x8 % (65536 : Int) →
  ∀ x10 : Int, x10 = x1 / (281474976710656 : Int) →
  ∀ x11 : Int, x11 = x10 % (65536 : Int) →
  ∀ x12 : Int, x12 = x0 / (1 : Int) →
  ∀ x13 : Int, x13 = x12 % (65536 : Int) →
  ∀ x14 : Int, x14 = x0 / (65536 : Int) →
  ∀ x15 : Int, x15 = x14 % (65536 : Int) →
  ∀ x16 : Int, x16 = x0 / (4294967296 : Int) →
  ∀ x17 : Int, x17 = x16 % (65536 : Int) →
  ∀ x18 : Int, x18 = x0 / (281474976710656 : Int) →
  ∀ x19 : Int, x19 = x18 % (65536 : Int) →
  ∀ x20 : Int, x20 = x3 / (1 : Int) →
  ∀ x21 : Int, x21 = x20 % (65536 : Int) →
  ∀ x22 : Int, x22 = x3 / (65536 : Int) →
  ∀ x23 : Int, x23 = x22 % (65536 : Int) →
  ∀ x24 : Int, x24 = x3 / (4294967296 : Int) →
  ∀ x25 : Int, x25 = x24 % (65536 : Int) →
  ∀ x26 : Int, x26 = x3 / (281474976710656 : Int) →
  ∀ x27 : Int, x27 = x26 % (65536 : Int) →
  ∀ x28 : Int, x28 = x2 / (1 : Int) →
  ∀ x29 : Int, x29 = x28 % (65536 : Int) →
  ∀ x30 : Int, x30 = x2 / (65536 : Int) →
  ∀ x31 : Int, x31 = x30 % (65536 : Int) →
  ∀ x32 : Int, x32 = x2 / (4294967296 : Int) →
  ∀ x33 : Int, x33 = x32 % (65536 : Int) →
  ∀ x34 : Int, x34 = x2 / (281474976710656 : Int) →
  ∀ x35 : Int, x35 = x34 % (65536 : Int) →
  ∀ x36 : Int, x36 = x5 + x21 →
  ∀ x37 : Int, x37 = x7 + x23 →
  ∀ x38 : Int, x38 = x9 + x25 →
  ∀ x39 : Int, x39 = x11 + x27 →
  ∀ x40 : Int, x40 = x13 + x29 →
  ∀ x41 : Int, x41 = x15 + x31 →
  ∀ x42 : Int, x42 = x17 + x33 →
  ∀ x43 : Int, x43 = x19 + x35 →
  ∀ x44 : Int, x44 = x36 + (0 : Int) →
  ∀ x45 : Int, x45 = x44 % (65536 : Int) →
  ∀ x46 : Int, x46 = x36 + (0 : Int) →
  ∀ x47 : Int, x47 = x46 / (65536 : Int) →
  ∀ x48 : Int, x48 = x37 + x47 →
  ∀ x49 : Int, x49 = x48 % (65536 : Int) →
  ∀ x50 : Int, x50 = x37 + x47 →
  ∀ x51 : Int, x51 = x50 / (65536 : Int) →
  ∀ x52 : Int, x52 = x38 + x51 →
  ∀ x53 : Int, x53 = x52 % (65536 : Int) →
  ∀ x54 : Int, x54 = x38 + x51 →
  ∀ x55 : Int, x55 = x54 / (65536 : Int) →
  ∀ x56 : Int, x56 = x39 + x55 →
  ∀ x57 : Int, x57 = x56 % (65536 : Int) →
  ∀ x58 : Int, x58 = x39 + x55 →
  ∀ x59 : Int, x59 = x58 / (65536 : Int) →
  ∀ x60 : Int, x60 = x40 + x59 →
  ∀ x61 : Int, x61 = x60 % (65536 : Int) →
  ∀ x62 : Int, x62 = x40 + x59 →
  ∀ x63 : Int, x63 = x62 / (65536 : Int) →
  ∀ x64 : Int, x64 = x41 + x63 →
  ∀ x65 : Int, x65 = x64 % (65536 : Int) →
  ∀ x66 : Int, x66 = x41 + x63 →
  ∀ x67 : Int, x67 = x66 / (65536 : Int) →
  ∀ x68 : Int, x68 = x42 + x67 →
  ∀ x69 : Int, x69 = x68 % (65536 : Int) →
  ∀ x70 : Int, x70 = x42 + x67 →
  ∀ x71 : Int, x71 = x70 / (65536 : Int) →
  ∀ x72 : Int, x72 = x43 + x71 →
  ∀ x73 : Int, x73 = x72 % (65536 : Int) →
  ∀ x74 : Int, x74 = x43 + x71 →
  ∀ x75 : Int, x75 = x74 / (65536 : Int) →
  ∀ x76 : Int, x76 = x45 * (1 : Int) →
  ∀ x77 : Int, x77 = (0 : Int) + x76 →
  ∀ x78 : Int, x78 = x61 * (1 : Int) →
  ∀ x79 : Int, x79 = (0 : Int) + x78 →
  ∀ x80 : Int, x80 = x49 * (65536 : Int) →
  ∀ x81 : Int, x81 = x77 + x80 →
  ∀ x82 : Int, x82 = x65 * (65536 : Int) →
  ∀ x83 : Int, x83 = x79 + x82 →
  ∀ x84 : Int, x84 = x53 * (4294967296 : Int) →
  ∀ x85 : Int, x85 = x81 + x84 →
  ∀ x86 : Int, x86 = x69 * (4294967296 : Int) →
  ∀ x87 : Int, x87 = x83 + x86 →
  ∀ x88 : Int, x88 = x57 * (281474976710656 : Int) →
  ∀ x89 : Int, x89 = x85 + x88 →
  ∀ x90 : Int, x90 = x73 * (281474976710656 : Int) →
  ∀ x91 : Int, x91 = x87 + x90 →
  Tree.den M R RP F radd_tail J [(.i x0), (.i x1), (.i x2), (.i x3), (.i x4), (.i x5), (.i x6), (.i x7), (.i x8), (.i x9), (.i x10), (.i x11), (.i x12), (.i x13), (.i x14), (.i x15), (.i x16), (.i x17), (.i x18), (.i x19), (.i x20), (.i x21), (.i x22), (.i x23), (.i x24), (.i x25), (.i x26), (.i x27), (.i x28), (.i x29), (.i x30), (.i x31), (.i x32), (.i x33), (.i x34), (.i x35), (.i x36), (.i x37), (.i x38), (.i x39), (.i x40), (.i x41), (.i x42), (.i x43), (.i x44), (.i x45), (.i x46), (.i x47), (.i x48), (.i x49), (.i x50), (.i x51), (.i x52), (.i x53), (.i x54), (.i x55), (.i x56), (.i x57), (.i x58), (.i x59), (.i x60), (.i x61), (.i x62), (.i x63), (.i x64), (.i x65), (.i x66), (.i x67), (.i x68), (.i x69), (.i x70), (.i x71), (.i x72), (.i x73), (.i x74), (.i x75), (.i x76), (.i x77), (.i x78), (.i x79), (.i x80), (.i x81), (.i x82), (.i x83), (.i x84), (.i x85), (.i x86), (.i x87), (.i x88), (.i x89), (.i x90), (.i x91)]) := by kernel_rfl

def radd_sem : SpecSem := { pre := fun cs => match cs with | [.i a, .i b, .i c, .i d] => IsU a ∧ IsU b ∧ IsU c ∧ IsU d | _ => False, out := fun cs => match cs with | [.i a, .i b, .i c, .i d] => [.i ((val a b + val c d) / 18446744073709551616 % 18446744073709551616), .i ((val a b + val c d) % 18446744073709551616), .b (decide (340282366920938463463374607431768211456 ≤ val a b + val c d))] | _ => [] }
set_option maxRecDepth 20000 in
theorem radd_ok : SpecOK Tryd.prog 39 radd_sp radd_sem := by
  refine spec_of_tree radd_cxok Tryd.func39 (by kernel_rfl) (by kernel_rfl) radd_walk rfl ?_
  intro cs hpre
  match cs, hpre with
  | [.i a, .i b, .i c, .i d], ⟨ha, hb, hc, hd⟩ =>
    have ha' := ha; have hb' := hb; have hc' := hc; have hd' := hd
    obtain ⟨h1, h2⟩ := ha'
    obtain ⟨h3, h4⟩ := hb'
    obtain ⟨h5, h6⟩ := hc'
    obtain ⟨h7, h8⟩ := hd'
    refine ⟨rfl, IvsB.ok (by simp only [radd_ivs, IvsB, Cv.int, and_true]; omega), ?_, ?_⟩
    · simp only [radd_sem, radd_sp, Fits, and_true]
      omega
    · have hab := val_rng ha hb
      have hcd := val_rng hc hd
      rw [radd_den]
      intro x4 e4 x5 e5 x6 e6 x7 e7 x8 e8 x9 e9 x10 e10 x11 e11 x12 e12 x13 e13 x14 e14 x15 e15 x16 e16 x17 e17 x18 e18 x19 e19 x20 e20 x21 e21 x22 e22 x23 e23 x24 e24 x25 e25 x26 e26 x27 e27 x28 e28 x29 e29 x30 e30 x31 e31 x32 e32 x33 e33 x34 e34 x35 e35 x36 e36 x37 e37 x38 e38 x39 e39 x40 e40 x41 e41 x42 e42 x43 e43 x44 e44 x45 e45 x46 e46 x47 e47 x48 e48 x49 e49 x50 e50 x51 e51 x52 e52 x53 e53 x54 e54 x55 e55 x56 e56 x57 e57 x58 e58 x59 e59 x60 e60 x61 e61 x62 e62 x63 e63 x64 e64 x65 e65 x66 e66 x67 e67 x68 e68 x69 e69 x70 e70 x71 e71 x72 e72 x73 e73 x74 e74 x75 e75 x76 e76 x77 e77 x78 e78 x79 e79 x80 e80 x81 e81 x82 e82 x83 e83 x84 e84 x85 e85 x86 e86 x87 e87 x88 e88 x89 e89 x90 e90 x91 e91
      have p1 := word4 e4 e5 e6 e7 e8 e9 e10 e11 hb
      obtain ⟨p1, b5, b7, b9, b11⟩ := p1
      have p0 := word4 e12 e13 e14 e15 e16 e17 e18 e19 ha
      obtain ⟨p0, b13, b15, b17, b19⟩ := p0
      have p3 := word4 e20 e21 e22 e23 e24 e25 e26 e27 hd
      obtain ⟨p3, b21, b23, b25, b27⟩ := p3
      have p2 := word4 e28 e29 e30 e31 e32 e33 e34 e35 hc
      obtain ⟨p2, b29, b31, b33, b35⟩ := p2
      have q36 := add0 e36 b5 b21
      have q37 := add0 e37 b7 b23
      have q38 := add0 e38 b9 b25
      have q39 := add0 e39 b11 b27
      have q40 := add0 e40 b13 b29
      have q41 := add0 e41 b15 b31
      have q42 := add0 e42 b17 b33
      have q43 := add0 e43 b19 b35
      have s44 := step0 e44 e45 (same e44 e46 e47) q36
      have s48 := step e48 e49 (same e48 e50 e51) q37 s44.2.2.2
      have s52 := step e52 e53 (same e52 e54 e55) q38 s48.2.2.2
      have s56 := step e56 e57 (same e56 e58 e59) q39 s52.2.2.2
      have s60 := step e60 e61 (same e60 e62 e63) q40 s56.2.2.2
      have s64 := step e64 e65 (same e64 e66 e67) q41 s60.2.2.2
      have s68 := step e68 e69 (same e68 e70 e71) q42 s64.2.2.2
      have s72 := step e72 e73 (same e72 e74 e75) q43 s68.2.2.2
      have w := whole8 e76 e77 e78 e79 e80 e81 e82 e83 e84 e85 e86 e87 e88 e89 e90 e91
      have z := chain8 s44 s48 s52 s56 s60 s64 s68 s72 w.1 w.2
      have v := vsum p0 p1 p2 p3 e36 e37 e38 e39 e40 e41 e42 e43
      simp only [radd_sem, radd_sp, radd_tree, radd_tail, Tree.den, LE.den, Cv.list, placeA, List.getElem?_cons_zero, List.getElem?_cons_succ, IE.den, BE.den, At.den, CA.den, Env.get, Cv.int, Cv.bool, List.cons_append, List.nil_append, List.map_cons, List.map_nil, bindRes, bindEq, Fits, SV.den, denL, place, placeL, eq_t, eq_f, lt_t, lt_f, le_t, le_f, beq_iff_eq, beq_eq_false_iff_ne, ne_eq, reduceCtorEq, b_dec, decide_eq_true_eq, decide_eq_false_iff_not, Bool.not_eq_false', Bool.or_eq_true, Bool.or_eq_false_iff, Bool.and_eq_false_iff, true_iff, false_iff, Bool.false_eq_true, Bool.not_eq_true', Bool.and_eq_true, Bool.not_true, Bool.not_false, List.cons.injEq, Cv.i.injEq, Cv.b.injEq, and_true, true_and, agg_inj, tup_inj, Value.int.injEq, Value.bool.injEq]
      obtain ⟨r1, r2, r3⟩ := fin_add z v
      exact ⟨⟨r1, r2⟩, r3⟩

end Go.Proofs.YtehoiibnemjkaaaDoor.X
