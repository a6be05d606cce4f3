/-
  The contracts of package zone, for every input.
-/
import Derived.Test.YtpgoekfmalpcdaaHtimes
import Derived.Test.YtpgoekfmalpcdaaXx2
namespace Go.Proofs.Ytpgoekfmalpcdaa.X
open Go.RowKit Go.Proofs.YtpgoekfmalpcdaaW.PrintWords
set_option linter.unusedSimpArgs false
set_option linter.unusedVariables false

def BoolIs (w : World) (b : Bool) (e : Ending) (w' : World) : Prop := e = .returned (.bool b) ∧ Below w.heap.size w w'
def IntIs (w : World) (k : IntKind) (b : Int) (e : Ending) (w' : World) : Prop := e = .returned (.int k b) ∧ Below w.heap.size w w'

theorem ret_bool {a b : Bool} (h : a = b) : Ending.returned (.bool a) = .returned (.bool b) := by rw [h]
theorem ret_int {k : IntKind} {a b : Int} (h : a = b) : Ending.returned (.int k a) = .returned (.int k b) := by rw [h]

theorem less_any (a0 a1 b0 b1 : Int) (h0 : 0 ≤ a1) (h1 : a1 < 18446744073709551616) (h2 : 0 ≤ b1) (h3 : b1 < 18446744073709551616) (w : World) :
    Calls Try.prog 5 #[.agg #[.int .u64 a0, .int .u64 a1], .agg #[.int .u64 b0, .int .u64 b1]] w
      (BoolIs w (decide (a0 * 18446744073709551616 + a1 < b0 * 18446744073709551616 + b1))) := by
  refine (wide_Less.calls a0 a1 b0 b1 (decide (a0 * 18446744073709551616 + a1 < b0 * 18446744073709551616 + b1)) w ?_).mono fun e w' h => h
  unfold wide_Less.f
  by_cases c1 : a0 < b0
  · rw [if_pos c1]; congr 1; exact (decide_eq_true (by omega)).symm
  · rw [if_neg c1]
    by_cases c2 : a0 = b0
    · rw [if_pos c2]; congr 1; subst c2; by_cases c3 : a1 < b1
      · rw [decide_eq_true c3]; exact (decide_eq_true (by omega)).symm
      · rw [decide_eq_false c3]; exact (decide_eq_false (by omega)).symm
    · rw [if_neg c2]; congr 1; exact (decide_eq_false (by omega)).symm

set_option maxHeartbeats 1000000 in
theorem beyond_any (k : Int) (vh vl sh sl : Int) (gv gs : Nat) (w : World) (hk : 0 ≤ k ∧ k ≤ 3) (h1 : 0 ≤ vh ∧ vh < 1152921504606846976) (h2 : 0 ≤ vl ∧ vl < 18446744073709551616) (h3 : 0 ≤ sl ∧ sl < 18446744073709551616)
    (hv : w.heap[gv]? = some (.cells #[.int .u64 vh, .int .u64 vl] 24 (0, 0))) (hs : w.heap[gs]? = some (.cells #[.int .u64 sh, .int .u64 sl] 24 (0, 0))) :
    Calls Try.prog 18 #[.int .u64 k, .pointer (some ⟨gv, 0, none⟩), .pointer (some ⟨gs, 0, none⟩)] w
      (BoolIs w (decide (k * k * (vh * 18446744073709551616 + vl) < sh * 18446744073709551616 + sl))) := by
  have hkk : 0 ≤ k * k ∧ k * k ≤ 9 := by
    have h4 : k = 0 ∨ k = 1 ∨ k = 2 ∨ k = 3 := by omega
    rcases h4 with rfl | rfl | rfl | rfl <;> decide
  obtain ⟨hk1, hk2⟩ := hkk
  generalize hv2 : k * k = kk at *
  have HV := Aside0.mk hv2; clear hv2
  have cv0 : w.cell? ⟨gv, 0, none⟩ = some (.int .u64 vh) := (blk_cell hv 0).trans rfl
  have cv1 : w.cell? ⟨gv, 1, none⟩ = some (.int .u64 vl) := (blk_cell hv 1).trans rfl
  have hpb : kk * (vh * 18446744073709551616 + vl) < 340282366920938463463374607431768211456 ∧ 0 ≤ kk * (vh * 18446744073709551616 + vl) := by
    have h9 : kk * (vh * 18446744073709551616 + vl) ≤ 9 * (vh * 18446744073709551616 + vl) := Int.mul_le_mul_of_nonneg_right hk2 (by omega)
    refine ⟨by omega, Int.mul_nonneg hk1 (by omega)⟩
  obtain ⟨hp1, hp2⟩ := hpb
  go_enter Try.func18, Try.ntmps18
  go_wp2_with (fail)
  rw [HV.out, u64_wrap (by omega) (by omega)]
  refine (times_to 0 kk vh vl (by omega) (by omega) (by omega) (by omega) w).mono ?_
  rintro e w' ⟨rfl, hB⟩
  have z1 := hB.size
  have hs1 := blk_below hs hB
  have cs0 : w'.cell? ⟨gs, 0, none⟩ = some (.int .u64 sh) := (blk_cell hs1 0).trans rfl
  have cs1 : w'.cell? ⟨gs, 1, none⟩ = some (.int .u64 sl) := (blk_cell hs1 1).trans rfl
  have ls := blk_lt hs1
  go_wp2_with (fail)
  refine (less_any _ _ _ _ (by omega) (by omega) (by omega) (by omega) _).mono ?_
  rintro e w2 ⟨rfl, hB2⟩
  go_wp2_with fail
  go_ret
  refine ⟨ret_bool ?_, ?_⟩
  · rw [Bool.eq_iff_iff]; simp only [decide_eq_true_eq]; omega
  · exact (hB.alloc z1 _).trans (hB2.mono (by simp; omega))

/-- how far: by the square of the deviation, and the variance -/
def stepsN (sq v : Int) : Nat → Int
  | 0 => 0
  | k + 1 => stepsN sq v k + (if ((k : Int) + 1) * ((k : Int) + 1) * v < sq then 1 else 0)
def zcls (dev v : Int) : Int := if dev = 0 then 0 else if dev < 0 then -(1 + stepsN (dev * dev) v 3) else 1 + stepsN (dev * dev) v 3

theorem stepsN_le (sq v : Int) (k : Nat) : 0 ≤ stepsN sq v k ∧ stepsN sq v k ≤ k := by
  induction k with
  | zero => simp [stepsN]
  | succ k ih => simp only [stepsN]; split <;> omega

set_option maxHeartbeats 400000 in
theorem zsize_any (x : Int) (h : -9223372036854775808 ≤ x ∧ x < 9223372036854775808) (w : World) :
    Calls Try.prog 17 #[.int .i64 x] w fun e w' => e = .returned (.int .u64 (x.natAbs : Nat)) ∧ w' = w := by
  by_cases h0 : x < 0
  · go_enter Try.func17, Try.ntmps17
    go_wp2
    go_ret
    exact ⟨ret_int (by rw [IntKind.wrap_u64, IntKind.wrap_u64]; omega), rfl⟩
  · go_enter Try.func17, Try.ntmps17
    go_wp2
    go_ret
    exact ⟨ret_int (by first | omega | (rw [IntKind.wrap_u64]; omega)), rfl⟩

set_option maxHeartbeats 1000000 in
theorem class_any (dev vh vl : Int) (h : -9223372036854775808 ≤ dev ∧ dev < 9223372036854775808) (h1 : 0 ≤ vh ∧ vh < 1152921504606846976) (h2 : 0 ≤ vl ∧ vl < 18446744073709551616) (w : World) :
    Calls Try.prog 12 #[.int .i64 dev, .agg #[.int .u64 vh, .int .u64 vl]] w (IntIs w .i64 (zcls dev (vh * 18446744073709551616 + vl))) := by
  have hmf : ∀ (fn : Fn) (first cap : Array Value) (w : World), (Instr.makeFunc fn first cap).run Try.prog w = .ok (.func fn first cap) w := fun _ _ _ _ => rfl
  have hn : dev.natAbs < 18446744073709551616 := by omega
  go_enter Try.func12, Try.ntmps12
  go_wp2_with (first | (go_at_call 17; refine (zsize_any _ h _).mono ?_; rintro e w' ⟨rfl, rfl⟩) | (go_at_call 16; refine (mul_any _ _ hn hn _).mono ?_; rintro e w' ⟨rfl, rfl⟩))
  go_loopw [7, 15] (fun v7 v15 wr => ∃ i : Nat, i ≤ 3 ∧ v15 = .int .i64 i ∧ v7 = .int .i64 (1 + stepsN (dev * dev) (vh * 18446744073709551616 + vl) i) ∧ wr.heap[w.heap.size]? = some (.cells #[.int .u64 vh, .int .u64 vl] 24 (0, 0)) ∧ wr.heap[w.heap.size + 1 + 1]? = some (.cells #[.int .u64 (dev * dev / 18446744073709551616), .int .u64 (dev * dev % 18446744073709551616)] 24 (0, 0)) ∧ Below w.heap.size w wr) (fun _ v15 _ => 3 - (intOf v15).toNat)
  case atStart => exact ⟨0, by omega, rfl, rfl, by (repeat (first | (refine blk_new' _ _ _ (by simp; done)) | apply blk_alloc)), by (repeat (first | (refine blk_new' _ _ _ (by simp; done)) | apply blk_alloc)), ((((Below.refl _ _).alloc (by simp) _).alloc (by simp) _).alloc (by simp; omega) _)⟩
  case round =>
    obtain ⟨i, hi, rfl, rfl, hv, hs, hB⟩ := hrel
    have hst := stepsN_le (dev * dev) (vh * 18446744073709551616 + vl) i
    have hz := hB.size
    by_cases hlt : i < 3
    · have hB3 := hB
      go_wp2_with (fail)
      refine (beyond_any ((i : Int) + 1) vh vl _ _ _ _ _ (by omega) h1 h2 (by omega) hv hs).mono ?_
      rintro e w2 ⟨rfl, hB2⟩
      have hv2 := blk_below hv hB2
      have hs2 := blk_below hs hB2
      have hB4 := hB3.trans (hB2.mono hz)
      have hsn : stepsN (dev * dev) (vh * 18446744073709551616 + vl) (i + 1) = stepsN (dev * dev) (vh * 18446744073709551616 + vl) i + (if ((i : Int) + 1) * ((i : Int) + 1) * (vh * 18446744073709551616 + vl) < dev * dev / 18446744073709551616 * 18446744073709551616 + dev * dev % 18446744073709551616 then 1 else 0) := by
        rw [show dev * dev / 18446744073709551616 * 18446744073709551616 + dev * dev % 18446744073709551616 = dev * dev from by omega]; rfl
      generalize dev * dev / 18446744073709551616 * 18446744073709551616 + dev * dev % 18446744073709551616 = sq2 at *
      generalize ((i : Int) + 1) * ((i : Int) + 1) * (vh * 18446744073709551616 + vl) = lhs at *
      generalize hnx : stepsN (dev * dev) (vh * 18446744073709551616 + vl) (i + 1) = nx at *
      have Hnx := Aside0.mk hnx; clear hnx
      have Hsn := Aside0.mk hsn; clear hsn
      by_cases t : lhs < sq2
      · go_wp2_with (fail)
        go_roundw
        case rel => exact ⟨i + 1, by omega, by go_num, by rw [Hnx.out, Hsn.out, if_pos t]; exact congrArg _ (by omega), hv2, hs2, hB4⟩
        case measure => simp [intOf]; omega
      · go_wp2_with (fail)
        go_roundw
        case rel => exact ⟨i + 1, by omega, by go_num, by rw [Hnx.out, Hsn.out, if_neg (by omega)]; exact congrArg _ (by omega), hv2, hs2, hB4⟩
        case measure => simp [intOf]; omega
    · obtain rfl : i = 3 := by omega
      by_cases t0 : dev = 0
      · go_wp2_with (fail)
        go_ret
        exact ⟨ret_int (by simp [zcls, t0]), hB⟩
      · by_cases t1 : dev < 0
        · go_wp2_with (fail)
          go_ret
          exact ⟨ret_int (by simp only [zcls]; rw [if_neg (by omega), if_pos (by omega)]), hB⟩
        · go_wp2_with (fail)
          go_ret
          exact ⟨ret_int (by simp only [zcls]; rw [if_neg (by omega), if_neg (by omega)]), hB⟩

/-- an int: 64 bits with a sign -/
def i64B (x : Int) : Bool := decide (-9223372036854775808 ≤ x ∧ x < 9223372036854775808)
theorem i64B_iff {x : Int} : i64B x = true ↔ -9223372036854775808 ≤ x ∧ x < 9223372036854775808 := by simp [i64B]

def zone_class.f (a0 a1 a2 : Int) : Option Int :=
  if i64B a0 && (decide (0 ≤ a1 ∧ a1 < 1152921504606846976) && u64B a2) then some (zcls a0 (a1 * 18446744073709551616 + a2)) else none

theorem zone_class.calls (a0 a1 a2 r : Int) (w : World) (h : zone_class.f a0 a1 a2 = some r) :
    Calls Try.prog 12 #[.int .i64 a0, .agg #[.int .u64 a1, .int .u64 a2]] w fun e w' => e = .returned (.int .i64 r) ∧ Below w.heap.size w w' := by
  unfold zone_class.f at h
  split at h
  · rename_i hb
    simp only [Bool.and_eq_true, u64B_iff, i64B_iff, decide_eq_true_eq] at hb
    obtain ⟨h0, h1, h2⟩ := hb
    injection h with h
    subst h
    exact class_any _ _ _ h0 h1 h2 w
  · cases h
end Go.Proofs.Ytpgoekfmalpcdaa.X
