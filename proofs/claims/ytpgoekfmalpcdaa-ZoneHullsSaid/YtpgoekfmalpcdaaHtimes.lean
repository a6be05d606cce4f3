/-
  The contract of wide.Times (a product of two numbers of 128 bits), for every input in range.
-/
import Derived.Test.YtpgoekfmalpcdaaHwide
namespace Go.Proofs.Ytpgoekfmalpcdaa.X
open Go.RowKit Go.Proofs.YtpgoekfmalpcdaaW.PrintWords
set_option linter.unusedSimpArgs false
set_option linter.unusedVariables false

theorem blk_new' (w : World) (o : Obj) (n : Nat) (h : n = w.heap.size) : (w.alloc o).heap[n]? = some o := by subst h; exact blk_new w o

/-- behind i rounds: the high word; and whether it was too much -/
def thi (h p q : Int) : Nat → Int
  | 0 => h
  | 1 => (h + p) % 18446744073709551616
  | _ => ((h + p) % 18446744073709551616 + q) % 18446744073709551616
def tov (o : Bool) (h ph p qh q : Int) : Nat → Bool
  | 0 => o
  | 1 => o || decide (0 < (h + p) / 18446744073709551616) || decide (0 < ph)
  | _ => (o || decide (0 < (h + p) / 18446744073709551616) || decide (0 < ph)) || decide (0 < ((h + p) % 18446744073709551616 + q) / 18446744073709551616) || decide (0 < qh)
def TimesIs (w : World) (hi lo : Int) (o : Bool) (e : Ending) (w' : World) : Prop :=
  e = .returned (.tuple #[.agg #[.int .u64 hi, .int .u64 lo], .bool o]) ∧ Below w.heap.size w w'

-- TIMES
set_option maxHeartbeats 4000000 in
theorem times_walk_a (ah al bh bl : Nat) (h1 : ah < 18446744073709551616) (h2 : al < 18446744073709551616) (h3 : bh < 18446744073709551616) (h4 : bl < 18446744073709551616)
    (d1 : decide (0 < ah) = false) (w : World) :
    Calls Try.prog 19 #[.agg #[.int .u64 ah, .int .u64 al], .agg #[.int .u64 bh, .int .u64 bl]] w
      (TimesIs w (thi ((al * bl / 18446744073709551616 : Nat) : Int) ((ah * bl % 18446744073709551616 : Nat) : Int) ((al * bh % 18446744073709551616 : Nat) : Int) 2) ((al * bl % 18446744073709551616 : Nat) : Int)
        (tov false ((al * bl / 18446744073709551616 : Nat) : Int) ((ah * bl / 18446744073709551616 : Nat) : Int) ((ah * bl % 18446744073709551616 : Nat) : Int) ((al * bh / 18446744073709551616 : Nat) : Int) ((al * bh % 18446744073709551616 : Nat) : Int) 2)) := by
  have hix0 : ∀ (a b c d : Value) (w : World), (Instr.index 54 (.agg #[a, b, c, d]) (.int .i64 0)).run Try.prog w = .ok (.agg #[a, b]) w := fun _ _ _ _ _ => by kernel_rfl
  have hix1 : ∀ (a b c d : Value) (w : World), (Instr.index 54 (.agg #[a, b, c, d]) (.int .i64 1)).run Try.prog w = .ok (.agg #[c, d]) w := fun _ _ _ _ _ => by kernel_rfl
  go_enter Try.func19, Try.ntmps19
  go_upto_region 3 with (first | (go_at_call 16; refine (mul_any _ _ (by omega) (by omega) _).mono ?_; rintro e w' ⟨rfl, rfl⟩))
  go_cut [4, 6, 35, 36] (fun s4 s6 s35 s36 W => ∃ g4 g6 : Nat, s4 = .pointer (some ⟨g4, 0, none⟩) ∧ s6 = .pointer (some ⟨g6, 0, none⟩) ∧ s35 = .agg #[.int .u64 ((ah * bl / 18446744073709551616 : Nat) : Int), .int .u64 ((ah * bl % 18446744073709551616 : Nat) : Int), .int .u64 ((al * bh / 18446744073709551616 : Nat) : Int), .int .u64 ((al * bh % 18446744073709551616 : Nat) : Int)] ∧ s36 = .int .i64 0 ∧ W.heap[g4]? = some (.cells #[.int .u64 0, .int .u64 0] 24 (0, 0)) ∧ W.heap[g6]? = some (.cells #[.int .u64 ((al * bl / 18446744073709551616 : Nat) : Int), .int .u64 ((al * bl % 18446744073709551616 : Nat) : Int)] 24 (0, 0)) ∧ w.heap.size ≤ g4 ∧ g4 < g6 ∧ Below w.heap.size w W)
  case first =>
    go_region_held3 (fun W => W.cell? ⟨w.heap.size, 0, none⟩ = some (.int .u64 ah) ∧ W.cell? ⟨w.heap.size, 1, none⟩ = some (.int .u64 al) ∧ W.cell? ⟨w.heap.size + 1, 0, none⟩ = some (.int .u64 bh) ∧ W.cell? ⟨w.heap.size + 1, 1, none⟩ = some (.int .u64 bl)) (first | (refine ⟨?_, ?_, ?_, ?_⟩ <;> go_simp; done) | (go_keep; done))
      (first | (go_at_call 16; refine (mul_any _ _ (by omega) (by omega) _).mono ?_; rintro e w' ⟨rfl, rfl⟩))
    go_wp2_with fail
    go_meet
    case rel => exact ⟨_, _, rfl, rfl, by simp, rfl, by (repeat (first | (refine blk_new' _ _ _ (by simp; done)) | apply blk_drew | apply blk_alloc)), by (repeat (first | (refine blk_new' _ _ _ (by simp; done)) | apply blk_drew | apply blk_alloc)), by omega, by omega, by repeat (first | exact Below.refl _ _ | apply Below.drew | (refine Below.alloc ?_ (by simp; try omega) _))⟩
  case rest =>
    obtain ⟨g4, g6, rfl, rfl, rfl, rfl, hg4, hg6, hle, hlt, hB⟩ := hcut
    have n1 : (0 : Int) ≤ ((ah * bl % 18446744073709551616 : Nat) : Int) := by omega
    have n2 : (0 : Int) ≤ ((al * bh % 18446744073709551616 : Nat) : Int) := by omega
    have n3 : (0 : Int) ≤ ((al * bl / 18446744073709551616 : Nat) : Int) := by omega
    generalize ((ah * bl / 18446744073709551616 : Nat) : Int) = ph at *
    generalize ((ah * bl % 18446744073709551616 : Nat) : Int) = p at *
    generalize ((al * bh / 18446744073709551616 : Nat) : Int) = qh at *
    generalize ((al * bh % 18446744073709551616 : Nat) : Int) = q at *
    generalize ((al * bl / 18446744073709551616 : Nat) : Int) = hw at *
    generalize ((al * bl % 18446744073709551616 : Nat) : Int) = lw at *
    go_wp2
    go_loopw [7, 36] (fun v7 v36 wr => ∃ (i : Nat) (j : Int), j = i ∧ i ≤ 2 ∧ v36 = .int .i64 j ∧ v7 = .bool (tov false hw ph p qh q i) ∧ wr.heap[g4]? = some (.cells #[.int .u64 0, .int .u64 0] 24 (0, 0)) ∧ wr.heap[g6]? = some (.cells #[.int .u64 (thi hw p q i), .int .u64 lw] 24 (0, 0)) ∧ Below w.heap.size w wr) (fun _ v36 _ => 2 - (intOf v36).toNat)
    case atStart => exact ⟨0, 0, rfl, by omega, rfl, rfl, hg4, hg6, hB⟩
    case round =>
      obtain ⟨i, j, hj, hi, rfl, rfl, hg4, hg6, hB⟩ := hrel
      have c0 : wr.cell? ⟨g6, 0, none⟩ = some (.int .u64 (thi hw p q i)) := (blk_cell hg6 0).trans rfl
      have f0 : wr.frozen? ⟨g6, 0, none⟩ = false := blk_frozen hg6 0
      have L6 := blk_lt hg6
      have hi3 : i = 0 ∨ i = 1 ∨ i = 2 := by omega
      rcases hi3 with rfl | rfl | rfl
      · obtain rfl : j = 0 := hj
        have hadd : ∀ W, (callFunc 25 #[.int .u64 hw, .int .u64 p, .int .u64 0]).run Try.prog W = .ok (.value (.tuple #[.int .u64 ((hw + p) % 18446744073709551616), .int .u64 ((hw + p) / 18446744073709551616)])) W := fun W => by simpa using add64_run hw p 0 n3 n1 (by omega) (by omega) W
        simp only [thi] at c0
        simp only [tov]
        by_cases t1 : decide (0 < (hw + p) / 18446744073709551616) = true
        · go_wp2
          go_region
          go_wp2
          go_roundw
          case rel => exact ⟨1, 1, rfl, by omega, rfl, by simp [tov, thi, t1], by (repeat (first | exact hg4 | (refine blk_far ?_ (by simp; omega) _) | apply blk_drew | apply blk_alloc)), by (repeat (first | exact blk_put hg6 0 _ rfl | apply blk_drew | apply blk_alloc)), by (repeat (first | exact hB | apply Below.drew | (refine Below.alloc ?_ (by simp; try omega) _) | (refine Below.setCell ?_ (by simp; omega) _)))⟩
          case measure => simp [intOf]
        · replace t1 : decide (0 < (hw + p) / 18446744073709551616) = false := by simpa using t1
          cases t2 : decide (0 < ph)
          · go_wp2
            go_region
            go_wp2
            go_roundw
            case rel => exact ⟨1, 1, rfl, by omega, rfl, by simp [tov, thi, t1, t2], by (repeat (first | exact hg4 | (refine blk_far ?_ (by simp; omega) _) | apply blk_drew | apply blk_alloc)), by (repeat (first | exact blk_put hg6 0 _ rfl | apply blk_drew | apply blk_alloc)), by (repeat (first | exact hB | apply Below.drew | (refine Below.alloc ?_ (by simp; try omega) _) | (refine Below.setCell ?_ (by simp; omega) _)))⟩
            case measure => simp [intOf]
          · go_wp2
            go_region
            go_wp2
            go_roundw
            case rel => exact ⟨1, 1, rfl, by omega, rfl, by simp [tov, thi, t1, t2], by (repeat (first | exact hg4 | (refine blk_far ?_ (by simp; omega) _) | apply blk_drew | apply blk_alloc)), by (repeat (first | exact blk_put hg6 0 _ rfl | apply blk_drew | apply blk_alloc)), by (repeat (first | exact hB | apply Below.drew | (refine Below.alloc ?_ (by simp; try omega) _) | (refine Below.setCell ?_ (by simp; omega) _)))⟩
            case measure => simp [intOf]
      · obtain rfl : j = 1 := hj
        have n4 : (0 : Int) ≤ (hw + p) % 18446744073709551616 := by omega
        simp only [thi] at c0
        simp only [tov]
        generalize hx : (hw + p) % 18446744073709551616 = x at *
        have Hx := Aside0.mk hx; clear hx
        generalize ho : (false || decide (0 < (hw + p) / 18446744073709551616) || decide (0 < ph)) = o at *
        have Ho := Aside0.mk ho; clear ho
        have hadd : ∀ W, (callFunc 25 #[.int .u64 x, .int .u64 q, .int .u64 0]).run Try.prog W = .ok (.value (.tuple #[.int .u64 ((x + q) % 18446744073709551616), .int .u64 ((x + q) / 18446744073709551616)])) W := fun W => by simpa using add64_run x q 0 n4 n2 (by omega) (by omega) W
        cases o
        · by_cases t1 : decide (0 < (x + q) / 18446744073709551616) = true
          · go_wp2
            go_region
            go_wp2
            go_roundw
            case rel => exact ⟨2, 2, rfl, by omega, rfl, by (have ho' := Ho.out; have hx' := Hx.out; (try simp only [tov, thi]); (try rw [ho']); (try rw [hx']); simp [t1]), by (repeat (first | exact hg4 | (refine blk_far ?_ (by simp; omega) _) | apply blk_drew | apply blk_alloc)), by (have hg6' := hg6; simp only [thi] at hg6' ⊢; rw [Hx.out] at hg6' ⊢; repeat (first | exact blk_put hg6' 0 _ rfl | apply blk_drew | apply blk_alloc)), by (repeat (first | exact hB | apply Below.drew | (refine Below.alloc ?_ (by simp; try omega) _) | (refine Below.setCell ?_ (by simp; omega) _)))⟩
            case measure => simp [intOf]
          · replace t1 : decide (0 < (x + q) / 18446744073709551616) = false := by simpa using t1
            cases t2 : decide (0 < qh)
            · go_wp2
              go_region
              go_wp2
              go_roundw
              case rel => exact ⟨2, 2, rfl, by omega, rfl, by (have ho' := Ho.out; have hx' := Hx.out; (try simp only [tov, thi]); (try rw [ho']); (try rw [hx']); simp [t1, t2]), by (repeat (first | exact hg4 | (refine blk_far ?_ (by simp; omega) _) | apply blk_drew | apply blk_alloc)), by (have hg6' := hg6; simp only [thi] at hg6' ⊢; rw [Hx.out] at hg6' ⊢; repeat (first | exact blk_put hg6' 0 _ rfl | apply blk_drew | apply blk_alloc)), by (repeat (first | exact hB | apply Below.drew | (refine Below.alloc ?_ (by simp; try omega) _) | (refine Below.setCell ?_ (by simp; omega) _)))⟩
              case measure => simp [intOf]
            · go_wp2
              go_region
              go_wp2
              go_roundw
              case rel => exact ⟨2, 2, rfl, by omega, rfl, by (have ho' := Ho.out; have hx' := Hx.out; (try simp only [tov, thi]); (try rw [ho']); (try rw [hx']); simp [t1, t2]), by (repeat (first | exact hg4 | (refine blk_far ?_ (by simp; omega) _) | apply blk_drew | apply blk_alloc)), by (have hg6' := hg6; simp only [thi] at hg6' ⊢; rw [Hx.out] at hg6' ⊢; repeat (first | exact blk_put hg6' 0 _ rfl | apply blk_drew | apply blk_alloc)), by (repeat (first | exact hB | apply Below.drew | (refine Below.alloc ?_ (by simp; try omega) _) | (refine Below.setCell ?_ (by simp; omega) _)))⟩
              case measure => simp [intOf]
        · go_wp2
          go_region
          go_wp2
          go_roundw
          case rel => exact ⟨2, 2, rfl, by omega, rfl, by (have ho' := Ho.out; have hx' := Hx.out; (try simp only [tov, thi]); (try rw [ho']); (try rw [hx']); simp), by (repeat (first | exact hg4 | (refine blk_far ?_ (by simp; omega) _) | apply blk_drew | apply blk_alloc)), by (have hg6' := hg6; simp only [thi] at hg6' ⊢; rw [Hx.out] at hg6' ⊢; repeat (first | exact blk_put hg6' 0 _ rfl | apply blk_drew | apply blk_alloc)), by (repeat (first | exact hB | apply Below.drew | (refine Below.alloc ?_ (by simp; try omega) _) | (refine Below.setCell ?_ (by simp; omega) _)))⟩
          case measure => simp [intOf]
      · obtain rfl : j = 2 := hj
        have c1 : wr.cell? ⟨g6, 1, none⟩ = some (.int .u64 lw) := (blk_cell hg6 1).trans rfl
        have c2 : wr.cell? ⟨g4, 0, none⟩ = some (.int .u64 0) := (blk_cell hg4 0).trans rfl
        have c3 : wr.cell? ⟨g4, 1, none⟩ = some (.int .u64 0) := (blk_cell hg4 1).trans rfl
        have f1 : wr.frozen? ⟨g4, 0, none⟩ = false := blk_frozen hg4 0
        have f2 : wr.frozen? ⟨g4, 1, none⟩ = false := blk_frozen hg4 1
        have s0 := blk_put hg4 0 (.int .u64 (thi hw p q 2)) (cs' := #[.int .u64 (thi hw p q 2), .int .u64 0]) rfl
        have s1 : (wr.setCell ⟨g4, 0, none⟩ (.int .u64 (thi hw p q 2))).cell? ⟨g4, 0, none⟩ = some (.int .u64 (thi hw p q 2)) := (blk_cell s0 0).trans rfl
        have s3 := blk_put s0 1 (.int .u64 lw) (cs' := #[.int .u64 (thi hw p q 2), .int .u64 lw]) rfl
        have s2 : ((wr.setCell ⟨g4, 0, none⟩ (.int .u64 (thi hw p q 2))).setCell ⟨g4, 1, none⟩ (.int .u64 lw)).cell? ⟨g4, 1, none⟩ = some (.int .u64 lw) := (blk_cell s3 1).trans rfl
        clear s0 s3
        go_wp2
        refine bodyPost_ret (v := .tuple #[.agg #[.int .u64 (thi hw p q 2), .int .u64 lw], .bool (tov false hw ph p qh q 2)]) (by simp [results, Try.results19, go_sem, s1, s2]) rfl ⟨rfl, ?_⟩
        repeat (first | exact hB | apply Below.drew | (refine Below.setCell ?_ (by simp; omega) _))

set_option maxHeartbeats 4000000 in
theorem times_walk_b (ah al bh bl : Nat) (h1 : ah < 18446744073709551616) (h2 : al < 18446744073709551616) (h3 : bh < 18446744073709551616) (h4 : bl < 18446744073709551616)
    (d1 : decide (0 < ah) = true) (d2 : decide (0 < bh) = false) (w : World) :
    Calls Try.prog 19 #[.agg #[.int .u64 ah, .int .u64 al], .agg #[.int .u64 bh, .int .u64 bl]] w
      (TimesIs w (thi ((al * bl / 18446744073709551616 : Nat) : Int) ((ah * bl % 18446744073709551616 : Nat) : Int) ((al * bh % 18446744073709551616 : Nat) : Int) 2) ((al * bl % 18446744073709551616 : Nat) : Int)
        (tov false ((al * bl / 18446744073709551616 : Nat) : Int) ((ah * bl / 18446744073709551616 : Nat) : Int) ((ah * bl % 18446744073709551616 : Nat) : Int) ((al * bh / 18446744073709551616 : Nat) : Int) ((al * bh % 18446744073709551616 : Nat) : Int) 2)) := by
  have hix0 : ∀ (a b c d : Value) (w : World), (Instr.index 54 (.agg #[a, b, c, d]) (.int .i64 0)).run Try.prog w = .ok (.agg #[a, b]) w := fun _ _ _ _ _ => by kernel_rfl
  have hix1 : ∀ (a b c d : Value) (w : World), (Instr.index 54 (.agg #[a, b, c, d]) (.int .i64 1)).run Try.prog w = .ok (.agg #[c, d]) w := fun _ _ _ _ _ => by kernel_rfl
  go_enter Try.func19, Try.ntmps19
  go_upto_region 3 with (first | (go_at_call 16; refine (mul_any _ _ (by omega) (by omega) _).mono ?_; rintro e w' ⟨rfl, rfl⟩))
  go_cut [4, 6, 35, 36] (fun s4 s6 s35 s36 W => ∃ g4 g6 : Nat, s4 = .pointer (some ⟨g4, 0, none⟩) ∧ s6 = .pointer (some ⟨g6, 0, none⟩) ∧ s35 = .agg #[.int .u64 ((ah * bl / 18446744073709551616 : Nat) : Int), .int .u64 ((ah * bl % 18446744073709551616 : Nat) : Int), .int .u64 ((al * bh / 18446744073709551616 : Nat) : Int), .int .u64 ((al * bh % 18446744073709551616 : Nat) : Int)] ∧ s36 = .int .i64 0 ∧ W.heap[g4]? = some (.cells #[.int .u64 0, .int .u64 0] 24 (0, 0)) ∧ W.heap[g6]? = some (.cells #[.int .u64 ((al * bl / 18446744073709551616 : Nat) : Int), .int .u64 ((al * bl % 18446744073709551616 : Nat) : Int)] 24 (0, 0)) ∧ w.heap.size ≤ g4 ∧ g4 < g6 ∧ Below w.heap.size w W)
  case first =>
    go_region_held3 (fun W => W.cell? ⟨w.heap.size, 0, none⟩ = some (.int .u64 ah) ∧ W.cell? ⟨w.heap.size, 1, none⟩ = some (.int .u64 al) ∧ W.cell? ⟨w.heap.size + 1, 0, none⟩ = some (.int .u64 bh) ∧ W.cell? ⟨w.heap.size + 1, 1, none⟩ = some (.int .u64 bl)) (first | (refine ⟨?_, ?_, ?_, ?_⟩ <;> go_simp; done) | (go_keep; done))
      (first | (go_at_call 16; refine (mul_any _ _ (by omega) (by omega) _).mono ?_; rintro e w' ⟨rfl, rfl⟩))
    go_wp2_with fail
    go_meet
    case rel => exact ⟨_, _, rfl, rfl, by simp, rfl, by (repeat (first | (refine blk_new' _ _ _ (by simp; done)) | apply blk_drew | apply blk_alloc)), by (repeat (first | (refine blk_new' _ _ _ (by simp; done)) | apply blk_drew | apply blk_alloc)), by omega, by omega, by repeat (first | exact Below.refl _ _ | apply Below.drew | (refine Below.alloc ?_ (by simp; try omega) _))⟩
  case rest =>
    obtain ⟨g4, g6, rfl, rfl, rfl, rfl, hg4, hg6, hle, hlt, hB⟩ := hcut
    have n1 : (0 : Int) ≤ ((ah * bl % 18446744073709551616 : Nat) : Int) := by omega
    have n2 : (0 : Int) ≤ ((al * bh % 18446744073709551616 : Nat) : Int) := by omega
    have n3 : (0 : Int) ≤ ((al * bl / 18446744073709551616 : Nat) : Int) := by omega
    generalize ((ah * bl / 18446744073709551616 : Nat) : Int) = ph at *
    generalize ((ah * bl % 18446744073709551616 : Nat) : Int) = p at *
    generalize ((al * bh / 18446744073709551616 : Nat) : Int) = qh at *
    generalize ((al * bh % 18446744073709551616 : Nat) : Int) = q at *
    generalize ((al * bl / 18446744073709551616 : Nat) : Int) = hw at *
    generalize ((al * bl % 18446744073709551616 : Nat) : Int) = lw at *
    go_wp2
    go_loopw [7, 36] (fun v7 v36 wr => ∃ (i : Nat) (j : Int), j = i ∧ i ≤ 2 ∧ v36 = .int .i64 j ∧ v7 = .bool (tov false hw ph p qh q i) ∧ wr.heap[g4]? = some (.cells #[.int .u64 0, .int .u64 0] 24 (0, 0)) ∧ wr.heap[g6]? = some (.cells #[.int .u64 (thi hw p q i), .int .u64 lw] 24 (0, 0)) ∧ Below w.heap.size w wr) (fun _ v36 _ => 2 - (intOf v36).toNat)
    case atStart => exact ⟨0, 0, rfl, by omega, rfl, rfl, hg4, hg6, hB⟩
    case round =>
      obtain ⟨i, j, hj, hi, rfl, rfl, hg4, hg6, hB⟩ := hrel
      have c0 : wr.cell? ⟨g6, 0, none⟩ = some (.int .u64 (thi hw p q i)) := (blk_cell hg6 0).trans rfl
      have f0 : wr.frozen? ⟨g6, 0, none⟩ = false := blk_frozen hg6 0
      have L6 := blk_lt hg6
      have hi3 : i = 0 ∨ i = 1 ∨ i = 2 := by omega
      rcases hi3 with rfl | rfl | rfl
      · obtain rfl : j = 0 := hj
        have hadd : ∀ W, (callFunc 25 #[.int .u64 hw, .int .u64 p, .int .u64 0]).run Try.prog W = .ok (.value (.tuple #[.int .u64 ((hw + p) % 18446744073709551616), .int .u64 ((hw + p) / 18446744073709551616)])) W := fun W => by simpa using add64_run hw p 0 n3 n1 (by omega) (by omega) W
        simp only [thi] at c0
        simp only [tov]
        by_cases t1 : decide (0 < (hw + p) / 18446744073709551616) = true
        · go_wp2
          go_region
          go_wp2
          go_roundw
          case rel => exact ⟨1, 1, rfl, by omega, rfl, by simp [tov, thi, t1], by (repeat (first | exact hg4 | (refine blk_far ?_ (by simp; omega) _) | apply blk_drew | apply blk_alloc)), by (repeat (first | exact blk_put hg6 0 _ rfl | apply blk_drew | apply blk_alloc)), by (repeat (first | exact hB | apply Below.drew | (refine Below.alloc ?_ (by simp; try omega) _) | (refine Below.setCell ?_ (by simp; omega) _)))⟩
          case measure => simp [intOf]
        · replace t1 : decide (0 < (hw + p) / 18446744073709551616) = false := by simpa using t1
          cases t2 : decide (0 < ph)
          · go_wp2
            go_region
            go_wp2
            go_roundw
            case rel => exact ⟨1, 1, rfl, by omega, rfl, by simp [tov, thi, t1, t2], by (repeat (first | exact hg4 | (refine blk_far ?_ (by simp; omega) _) | apply blk_drew | apply blk_alloc)), by (repeat (first | exact blk_put hg6 0 _ rfl | apply blk_drew | apply blk_alloc)), by (repeat (first | exact hB | apply Below.drew | (refine Below.alloc ?_ (by simp; try omega) _) | (refine Below.setCell ?_ (by simp; omega) _)))⟩
            case measure => simp [intOf]
          · go_wp2
            go_region
            go_wp2
            go_roundw
            case rel => exact ⟨1, 1, rfl, by omega, rfl, by simp [tov, thi, t1, t2], by (repeat (first | exact hg4 | (refine blk_far ?_ (by simp; omega) _) | apply blk_drew | apply blk_alloc)), by (repeat (first | exact blk_put hg6 0 _ rfl | apply blk_drew | apply blk_alloc)), by (repeat (first | exact hB | apply Below.drew | (refine Below.alloc ?_ (by simp; try omega) _) | (refine Below.setCell ?_ (by simp; omega) _)))⟩
            case measure => simp [intOf]
      · obtain rfl : j = 1 := hj
        have n4 : (0 : Int) ≤ (hw + p) % 18446744073709551616 := by omega
        simp only [thi] at c0
        simp only [tov]
        generalize hx : (hw + p) % 18446744073709551616 = x at *
        have Hx := Aside0.mk hx; clear hx
        generalize ho : (false || decide (0 < (hw + p) / 18446744073709551616) || decide (0 < ph)) = o at *
        have Ho := Aside0.mk ho; clear ho
        have hadd : ∀ W, (callFunc 25 #[.int .u64 x, .int .u64 q, .int .u64 0]).run Try.prog W = .ok (.value (.tuple #[.int .u64 ((x + q) % 18446744073709551616), .int .u64 ((x + q) / 18446744073709551616)])) W := fun W => by simpa using add64_run x q 0 n4 n2 (by omega) (by omega) W
        cases o
        · by_cases t1 : decide (0 < (x + q) / 18446744073709551616) = true
          · go_wp2
            go_region
            go_wp2
            go_roundw
            case rel => exact ⟨2, 2, rfl, by omega, rfl, by (have ho' := Ho.out; have hx' := Hx.out; (try simp only [tov, thi]); (try rw [ho']); (try rw [hx']); simp [t1]), by (repeat (first | exact hg4 | (refine blk_far ?_ (by simp; omega) _) | apply blk_drew | apply blk_alloc)), by (have hg6' := hg6; simp only [thi] at hg6' ⊢; rw [Hx.out] at hg6' ⊢; repeat (first | exact blk_put hg6' 0 _ rfl | apply blk_drew | apply blk_alloc)), by (repeat (first | exact hB | apply Below.drew | (refine Below.alloc ?_ (by simp; try omega) _) | (refine Below.setCell ?_ (by simp; omega) _)))⟩
            case measure => simp [intOf]
          · replace t1 : decide (0 < (x + q) / 18446744073709551616) = false := by simpa using t1
            cases t2 : decide (0 < qh)
            · go_wp2
              go_region
              go_wp2
              go_roundw
              case rel => exact ⟨2, 2, rfl, by omega, rfl, by (have ho' := Ho.out; have hx' := Hx.out; (try simp only [tov, thi]); (try rw [ho']); (try rw [hx']); simp [t1, t2]), by (repeat (first | exact hg4 | (refine blk_far ?_ (by simp; omega) _) | apply blk_drew | apply blk_alloc)), by (have hg6' := hg6; simp only [thi] at hg6' ⊢; rw [Hx.out] at hg6' ⊢; repeat (first | exact blk_put hg6' 0 _ rfl | apply blk_drew | apply blk_alloc)), by (repeat (first | exact hB | apply Below.drew | (refine Below.alloc ?_ (by simp; try omega) _) | (refine Below.setCell ?_ (by simp; omega) _)))⟩
              case measure => simp [intOf]
            · go_wp2
              go_region
              go_wp2
              go_roundw
              case rel => exact ⟨2, 2, rfl, by omega, rfl, by (have ho' := Ho.out; have hx' := Hx.out; (try simp only [tov, thi]); (try rw [ho']); (try rw [hx']); simp [t1, t2]), by (repeat (first | exact hg4 | (refine blk_far ?_ (by simp; omega) _) | apply blk_drew | apply blk_alloc)), by (have hg6' := hg6; simp only [thi] at hg6' ⊢; rw [Hx.out] at hg6' ⊢; repeat (first | exact blk_put hg6' 0 _ rfl | apply blk_drew | apply blk_alloc)), by (repeat (first | exact hB | apply Below.drew | (refine Below.alloc ?_ (by simp; try omega) _) | (refine Below.setCell ?_ (by simp; omega) _)))⟩
              case measure => simp [intOf]
        · go_wp2
          go_region
          go_wp2
          go_roundw
          case rel => exact ⟨2, 2, rfl, by omega, rfl, by (have ho' := Ho.out; have hx' := Hx.out; (try simp only [tov, thi]); (try rw [ho']); (try rw [hx']); simp), by (repeat (first | exact hg4 | (refine blk_far ?_ (by simp; omega) _) | apply blk_drew | apply blk_alloc)), by (have hg6' := hg6; simp only [thi] at hg6' ⊢; rw [Hx.out] at hg6' ⊢; repeat (first | exact blk_put hg6' 0 _ rfl | apply blk_drew | apply blk_alloc)), by (repeat (first | exact hB | apply Below.drew | (refine Below.alloc ?_ (by simp; try omega) _) | (refine Below.setCell ?_ (by simp; omega) _)))⟩
          case measure => simp [intOf]
      · obtain rfl : j = 2 := hj
        have c1 : wr.cell? ⟨g6, 1, none⟩ = some (.int .u64 lw) := (blk_cell hg6 1).trans rfl
        have c2 : wr.cell? ⟨g4, 0, none⟩ = some (.int .u64 0) := (blk_cell hg4 0).trans rfl
        have c3 : wr.cell? ⟨g4, 1, none⟩ = some (.int .u64 0) := (blk_cell hg4 1).trans rfl
        have f1 : wr.frozen? ⟨g4, 0, none⟩ = false := blk_frozen hg4 0
        have f2 : wr.frozen? ⟨g4, 1, none⟩ = false := blk_frozen hg4 1
        have s0 := blk_put hg4 0 (.int .u64 (thi hw p q 2)) (cs' := #[.int .u64 (thi hw p q 2), .int .u64 0]) rfl
        have s1 : (wr.setCell ⟨g4, 0, none⟩ (.int .u64 (thi hw p q 2))).cell? ⟨g4, 0, none⟩ = some (.int .u64 (thi hw p q 2)) := (blk_cell s0 0).trans rfl
        have s3 := blk_put s0 1 (.int .u64 lw) (cs' := #[.int .u64 (thi hw p q 2), .int .u64 lw]) rfl
        have s2 : ((wr.setCell ⟨g4, 0, none⟩ (.int .u64 (thi hw p q 2))).setCell ⟨g4, 1, none⟩ (.int .u64 lw)).cell? ⟨g4, 1, none⟩ = some (.int .u64 lw) := (blk_cell s3 1).trans rfl
        clear s0 s3
        go_wp2
        refine bodyPost_ret (v := .tuple #[.agg #[.int .u64 (thi hw p q 2), .int .u64 lw], .bool (tov false hw ph p qh q 2)]) (by simp [results, Try.results19, go_sem, s1, s2]) rfl ⟨rfl, ?_⟩
        repeat (first | exact hB | apply Below.drew | (refine Below.setCell ?_ (by simp; omega) _))

set_option maxHeartbeats 4000000 in
theorem times_walk_c (ah al bh bl : Nat) (h1 : ah < 18446744073709551616) (h2 : al < 18446744073709551616) (h3 : bh < 18446744073709551616) (h4 : bl < 18446744073709551616)
    (d1 : decide (0 < ah) = true) (d2 : decide (0 < bh) = true) (w : World) :
    Calls Try.prog 19 #[.agg #[.int .u64 ah, .int .u64 al], .agg #[.int .u64 bh, .int .u64 bl]] w
      (TimesIs w (thi ((al * bl / 18446744073709551616 : Nat) : Int) ((ah * bl % 18446744073709551616 : Nat) : Int) ((al * bh % 18446744073709551616 : Nat) : Int) 2) ((al * bl % 18446744073709551616 : Nat) : Int)
        (tov true ((al * bl / 18446744073709551616 : Nat) : Int) ((ah * bl / 18446744073709551616 : Nat) : Int) ((ah * bl % 18446744073709551616 : Nat) : Int) ((al * bh / 18446744073709551616 : Nat) : Int) ((al * bh % 18446744073709551616 : Nat) : Int) 2)) := by
  have hix0 : ∀ (a b c d : Value) (w : World), (Instr.index 54 (.agg #[a, b, c, d]) (.int .i64 0)).run Try.prog w = .ok (.agg #[a, b]) w := fun _ _ _ _ _ => by kernel_rfl
  have hix1 : ∀ (a b c d : Value) (w : World), (Instr.index 54 (.agg #[a, b, c, d]) (.int .i64 1)).run Try.prog w = .ok (.agg #[c, d]) w := fun _ _ _ _ _ => by kernel_rfl
  go_enter Try.func19, Try.ntmps19
  go_upto_region 3 with (first | (go_at_call 16; refine (mul_any _ _ (by omega) (by omega) _).mono ?_; rintro e w' ⟨rfl, rfl⟩))
  go_cut [4, 6, 35, 36] (fun s4 s6 s35 s36 W => ∃ g4 g6 : Nat, s4 = .pointer (some ⟨g4, 0, none⟩) ∧ s6 = .pointer (some ⟨g6, 0, none⟩) ∧ s35 = .agg #[.int .u64 ((ah * bl / 18446744073709551616 : Nat) : Int), .int .u64 ((ah * bl % 18446744073709551616 : Nat) : Int), .int .u64 ((al * bh / 18446744073709551616 : Nat) : Int), .int .u64 ((al * bh % 18446744073709551616 : Nat) : Int)] ∧ s36 = .int .i64 0 ∧ W.heap[g4]? = some (.cells #[.int .u64 0, .int .u64 0] 24 (0, 0)) ∧ W.heap[g6]? = some (.cells #[.int .u64 ((al * bl / 18446744073709551616 : Nat) : Int), .int .u64 ((al * bl % 18446744073709551616 : Nat) : Int)] 24 (0, 0)) ∧ w.heap.size ≤ g4 ∧ g4 < g6 ∧ Below w.heap.size w W)
  case first =>
    go_region_held3 (fun W => W.cell? ⟨w.heap.size, 0, none⟩ = some (.int .u64 ah) ∧ W.cell? ⟨w.heap.size, 1, none⟩ = some (.int .u64 al) ∧ W.cell? ⟨w.heap.size + 1, 0, none⟩ = some (.int .u64 bh) ∧ W.cell? ⟨w.heap.size + 1, 1, none⟩ = some (.int .u64 bl)) (first | (refine ⟨?_, ?_, ?_, ?_⟩ <;> go_simp; done) | (go_keep; done))
      (first | (go_at_call 16; refine (mul_any _ _ (by omega) (by omega) _).mono ?_; rintro e w' ⟨rfl, rfl⟩))
    go_wp2_with fail
    go_meet
    case rel => exact ⟨_, _, rfl, rfl, by simp, rfl, by (repeat (first | (refine blk_new' _ _ _ (by simp; done)) | apply blk_drew | apply blk_alloc)), by (repeat (first | (refine blk_new' _ _ _ (by simp; done)) | apply blk_drew | apply blk_alloc)), by omega, by omega, by repeat (first | exact Below.refl _ _ | apply Below.drew | (refine Below.alloc ?_ (by simp; try omega) _))⟩
  case rest =>
    obtain ⟨g4, g6, rfl, rfl, rfl, rfl, hg4, hg6, hle, hlt, hB⟩ := hcut
    have n1 : (0 : Int) ≤ ((ah * bl % 18446744073709551616 : Nat) : Int) := by omega
    have n2 : (0 : Int) ≤ ((al * bh % 18446744073709551616 : Nat) : Int) := by omega
    have n3 : (0 : Int) ≤ ((al * bl / 18446744073709551616 : Nat) : Int) := by omega
    generalize ((ah * bl / 18446744073709551616 : Nat) : Int) = ph at *
    generalize ((ah * bl % 18446744073709551616 : Nat) : Int) = p at *
    generalize ((al * bh / 18446744073709551616 : Nat) : Int) = qh at *
    generalize ((al * bh % 18446744073709551616 : Nat) : Int) = q at *
    generalize ((al * bl / 18446744073709551616 : Nat) : Int) = hw at *
    generalize ((al * bl % 18446744073709551616 : Nat) : Int) = lw at *
    go_wp2
    go_loopw [7, 36] (fun v7 v36 wr => ∃ (i : Nat) (j : Int), j = i ∧ i ≤ 2 ∧ v36 = .int .i64 j ∧ v7 = .bool (tov true hw ph p qh q i) ∧ wr.heap[g4]? = some (.cells #[.int .u64 0, .int .u64 0] 24 (0, 0)) ∧ wr.heap[g6]? = some (.cells #[.int .u64 (thi hw p q i), .int .u64 lw] 24 (0, 0)) ∧ Below w.heap.size w wr) (fun _ v36 _ => 2 - (intOf v36).toNat)
    case atStart => exact ⟨0, 0, rfl, by omega, rfl, rfl, hg4, hg6, hB⟩
    case round =>
      obtain ⟨i, j, hj, hi, rfl, rfl, hg4, hg6, hB⟩ := hrel
      have c0 : wr.cell? ⟨g6, 0, none⟩ = some (.int .u64 (thi hw p q i)) := (blk_cell hg6 0).trans rfl
      have f0 : wr.frozen? ⟨g6, 0, none⟩ = false := blk_frozen hg6 0
      have L6 := blk_lt hg6
      have hi3 : i = 0 ∨ i = 1 ∨ i = 2 := by omega
      rcases hi3 with rfl | rfl | rfl
      · obtain rfl : j = 0 := hj
        have hadd : ∀ W, (callFunc 25 #[.int .u64 hw, .int .u64 p, .int .u64 0]).run Try.prog W = .ok (.value (.tuple #[.int .u64 ((hw + p) % 18446744073709551616), .int .u64 ((hw + p) / 18446744073709551616)])) W := fun W => by simpa using add64_run hw p 0 n3 n1 (by omega) (by omega) W
        simp only [thi] at c0
        simp only [tov]
        by_cases t1 : decide (0 < (hw + p) / 18446744073709551616) = true
        · go_wp2
          go_region
          go_wp2
          go_roundw
          case rel => exact ⟨1, 1, rfl, by omega, rfl, by simp [tov, thi, t1], by (repeat (first | exact hg4 | (refine blk_far ?_ (by simp; omega) _) | apply blk_drew | apply blk_alloc)), by (repeat (first | exact blk_put hg6 0 _ rfl | apply blk_drew | apply blk_alloc)), by (repeat (first | exact hB | apply Below.drew | (refine Below.alloc ?_ (by simp; try omega) _) | (refine Below.setCell ?_ (by simp; omega) _)))⟩
          case measure => simp [intOf]
        · replace t1 : decide (0 < (hw + p) / 18446744073709551616) = false := by simpa using t1
          cases t2 : decide (0 < ph)
          · go_wp2
            go_region
            go_wp2
            go_roundw
            case rel => exact ⟨1, 1, rfl, by omega, rfl, by simp [tov, thi, t1, t2], by (repeat (first | exact hg4 | (refine blk_far ?_ (by simp; omega) _) | apply blk_drew | apply blk_alloc)), by (repeat (first | exact blk_put hg6 0 _ rfl | apply blk_drew | apply blk_alloc)), by (repeat (first | exact hB | apply Below.drew | (refine Below.alloc ?_ (by simp; try omega) _) | (refine Below.setCell ?_ (by simp; omega) _)))⟩
            case measure => simp [intOf]
          · go_wp2
            go_region
            go_wp2
            go_roundw
            case rel => exact ⟨1, 1, rfl, by omega, rfl, by simp [tov, thi, t1, t2], by (repeat (first | exact hg4 | (refine blk_far ?_ (by simp; omega) _) | apply blk_drew | apply blk_alloc)), by (repeat (first | exact blk_put hg6 0 _ rfl | apply blk_drew | apply blk_alloc)), by (repeat (first | exact hB | apply Below.drew | (refine Below.alloc ?_ (by simp; try omega) _) | (refine Below.setCell ?_ (by simp; omega) _)))⟩
            case measure => simp [intOf]
      · obtain rfl : j = 1 := hj
        have n4 : (0 : Int) ≤ (hw + p) % 18446744073709551616 := by omega
        simp only [thi] at c0
        simp only [tov]
        generalize hx : (hw + p) % 18446744073709551616 = x at *
        have Hx := Aside0.mk hx; clear hx
        generalize ho : (true || decide (0 < (hw + p) / 18446744073709551616) || decide (0 < ph)) = o at *
        have Ho := Aside0.mk ho; clear ho
        have hadd : ∀ W, (callFunc 25 #[.int .u64 x, .int .u64 q, .int .u64 0]).run Try.prog W = .ok (.value (.tuple #[.int .u64 ((x + q) % 18446744073709551616), .int .u64 ((x + q) / 18446744073709551616)])) W := fun W => by simpa using add64_run x q 0 n4 n2 (by omega) (by omega) W
        cases o
        · by_cases t1 : decide (0 < (x + q) / 18446744073709551616) = true
          · go_wp2
            go_region
            go_wp2
            go_roundw
            case rel => exact ⟨2, 2, rfl, by omega, rfl, by (have ho' := Ho.out; have hx' := Hx.out; (try simp only [tov, thi]); (try rw [ho']); (try rw [hx']); simp [t1]), by (repeat (first | exact hg4 | (refine blk_far ?_ (by simp; omega) _) | apply blk_drew | apply blk_alloc)), by (have hg6' := hg6; simp only [thi] at hg6' ⊢; rw [Hx.out] at hg6' ⊢; repeat (first | exact blk_put hg6' 0 _ rfl | apply blk_drew | apply blk_alloc)), by (repeat (first | exact hB | apply Below.drew | (refine Below.alloc ?_ (by simp; try omega) _) | (refine Below.setCell ?_ (by simp; omega) _)))⟩
            case measure => simp [intOf]
          · replace t1 : decide (0 < (x + q) / 18446744073709551616) = false := by simpa using t1
            cases t2 : decide (0 < qh)
            · go_wp2
              go_region
              go_wp2
              go_roundw
              case rel => exact ⟨2, 2, rfl, by omega, rfl, by (have ho' := Ho.out; have hx' := Hx.out; (try simp only [tov, thi]); (try rw [ho']); (try rw [hx']); simp [t1, t2]), by (repeat (first | exact hg4 | (refine blk_far ?_ (by simp; omega) _) | apply blk_drew | apply blk_alloc)), by (have hg6' := hg6; simp only [thi] at hg6' ⊢; rw [Hx.out] at hg6' ⊢; repeat (first | exact blk_put hg6' 0 _ rfl | apply blk_drew | apply blk_alloc)), by (repeat (first | exact hB | apply Below.drew | (refine Below.alloc ?_ (by simp; try omega) _) | (refine Below.setCell ?_ (by simp; omega) _)))⟩
              case measure => simp [intOf]
            · go_wp2
              go_region
              go_wp2
              go_roundw
              case rel => exact ⟨2, 2, rfl, by omega, rfl, by (have ho' := Ho.out; have hx' := Hx.out; (try simp only [tov, thi]); (try rw [ho']); (try rw [hx']); simp [t1, t2]), by (repeat (first | exact hg4 | (refine blk_far ?_ (by simp; omega) _) | apply blk_drew | apply blk_alloc)), by (have hg6' := hg6; simp only [thi] at hg6' ⊢; rw [Hx.out] at hg6' ⊢; repeat (first | exact blk_put hg6' 0 _ rfl | apply blk_drew | apply blk_alloc)), by (repeat (first | exact hB | apply Below.drew | (refine Below.alloc ?_ (by simp; try omega) _) | (refine Below.setCell ?_ (by simp; omega) _)))⟩
              case measure => simp [intOf]
        · go_wp2
          go_region
          go_wp2
          go_roundw
          case rel => exact ⟨2, 2, rfl, by omega, rfl, by (have ho' := Ho.out; have hx' := Hx.out; (try simp only [tov, thi]); (try rw [ho']); (try rw [hx']); simp), by (repeat (first | exact hg4 | (refine blk_far ?_ (by simp; omega) _) | apply blk_drew | apply blk_alloc)), by (have hg6' := hg6; simp only [thi] at hg6' ⊢; rw [Hx.out] at hg6' ⊢; repeat (first | exact blk_put hg6' 0 _ rfl | apply blk_drew | apply blk_alloc)), by (repeat (first | exact hB | apply Below.drew | (refine Below.alloc ?_ (by simp; try omega) _) | (refine Below.setCell ?_ (by simp; omega) _)))⟩
          case measure => simp [intOf]
      · obtain rfl : j = 2 := hj
        have c1 : wr.cell? ⟨g6, 1, none⟩ = some (.int .u64 lw) := (blk_cell hg6 1).trans rfl
        have c2 : wr.cell? ⟨g4, 0, none⟩ = some (.int .u64 0) := (blk_cell hg4 0).trans rfl
        have c3 : wr.cell? ⟨g4, 1, none⟩ = some (.int .u64 0) := (blk_cell hg4 1).trans rfl
        have f1 : wr.frozen? ⟨g4, 0, none⟩ = false := blk_frozen hg4 0
        have f2 : wr.frozen? ⟨g4, 1, none⟩ = false := blk_frozen hg4 1
        have s0 := blk_put hg4 0 (.int .u64 (thi hw p q 2)) (cs' := #[.int .u64 (thi hw p q 2), .int .u64 0]) rfl
        have s1 : (wr.setCell ⟨g4, 0, none⟩ (.int .u64 (thi hw p q 2))).cell? ⟨g4, 0, none⟩ = some (.int .u64 (thi hw p q 2)) := (blk_cell s0 0).trans rfl
        have s3 := blk_put s0 1 (.int .u64 lw) (cs' := #[.int .u64 (thi hw p q 2), .int .u64 lw]) rfl
        have s2 : ((wr.setCell ⟨g4, 0, none⟩ (.int .u64 (thi hw p q 2))).setCell ⟨g4, 1, none⟩ (.int .u64 lw)).cell? ⟨g4, 1, none⟩ = some (.int .u64 lw) := (blk_cell s3 1).trans rfl
        clear s0 s3
        go_wp2
        refine bodyPost_ret (v := .tuple #[.agg #[.int .u64 (thi hw p q 2), .int .u64 lw], .bool (tov true hw ph p qh q 2)]) (by simp [results, Try.results19, go_sem, s1, s2]) rfl ⟨rfl, ?_⟩
        repeat (first | exact hB | apply Below.drew | (refine Below.setCell ?_ (by simp; omega) _))

-- TIMES END
def wide_Times.f (a0 a1 b0 b1 : Int) : Option (Int × Int × Bool) :=
  if u64B a0 && u64B a1 && (u64B b0 && u64B b1) then some ((a0 * 18446744073709551616 + a1) * (b0 * 18446744073709551616 + b1) / 18446744073709551616 % 18446744073709551616, (a0 * 18446744073709551616 + a1) * (b0 * 18446744073709551616 + b1) % 18446744073709551616, decide (340282366920938463463374607431768211456 ≤ (a0 * 18446744073709551616 + a1) * (b0 * 18446744073709551616 + b1))) else none

theorem times_expand (a b c d : Int) : (a * 18446744073709551616 + b) * (c * 18446744073709551616 + d) = a * c * 340282366920938463463374607431768211456 + (a * d + b * c) * 18446744073709551616 + b * d := by grind

theorem times_math (ah al bh bl : Nat) (ov : Bool) (hov : ov = true ↔ 0 < ah ∧ 0 < bh) :
    (((ah : Int) * 18446744073709551616 + al) * ((bh : Int) * 18446744073709551616 + bl) / 18446744073709551616 % 18446744073709551616 = thi ((al * bl / 18446744073709551616 : Nat) : Int) ((ah * bl % 18446744073709551616 : Nat) : Int) ((al * bh % 18446744073709551616 : Nat) : Int) 2) ∧
    (((ah : Int) * 18446744073709551616 + al) * ((bh : Int) * 18446744073709551616 + bl) % 18446744073709551616 = ((al * bl % 18446744073709551616 : Nat) : Int)) ∧
    decide ((340282366920938463463374607431768211456 : Int) ≤ ((ah : Int) * 18446744073709551616 + al) * ((bh : Int) * 18446744073709551616 + bl)) = tov ov ((al * bl / 18446744073709551616 : Nat) : Int) ((ah * bl / 18446744073709551616 : Nat) : Int) ((ah * bl % 18446744073709551616 : Nat) : Int) ((al * bh / 18446744073709551616 : Nat) : Int) ((al * bh % 18446744073709551616 : Nat) : Int) 2 := by
  rw [times_expand]
  simp only [thi, tov]
  have hV : (0 < ah ∧ 0 < bh) ↔ 0 < ah * bh := by
    constructor
    · intro ⟨h1, h2⟩; exact Nat.mul_pos h1 h2
    · intro h; exact ⟨Nat.pos_of_ne_zero (fun e => by simp [e] at h), Nat.pos_of_ne_zero (fun e => by simp [e] at h)⟩
  rw [hV] at hov
  have e1 : (ah : Int) * bh = ((ah * bh : Nat) : Int) := by simp
  have e2 : (ah : Int) * bl = ((ah * bl : Nat) : Int) := by simp
  have e3 : (al : Int) * bh = ((al * bh : Nat) : Int) := by simp
  have e4 : (al : Int) * bl = ((al * bl : Nat) : Int) := by simp
  rw [e1, e2, e3, e4]
  generalize ah * bh = V at *
  generalize ah * bl = X at *
  generalize al * bh = Y at *
  generalize al * bl = Z at *
  clear e1 e2 e3 e4
  refine ⟨by omega, by omega, ?_⟩
  rw [Bool.eq_iff_iff]
  simp only [decide_eq_true_eq, Bool.or_eq_true]
  rw [hov]
  omega

theorem wide_Times.calls (a0 a1 b0 b1 r1 r2 : Int) (r3 : Bool) (w : World) (h : wide_Times.f a0 a1 b0 b1 = some (r1, r2, r3)) :
    Calls Try.prog 19 #[.agg #[.int .u64 a0, .int .u64 a1], .agg #[.int .u64 b0, .int .u64 b1]] w fun e w' => e = .returned (.tuple #[.agg #[.int .u64 r1, .int .u64 r2], .bool r3]) ∧ Below w.heap.size w w' := by
  unfold wide_Times.f at h
  split at h
  · rename_i hb
    simp only [Bool.and_eq_true, u64B_iff] at hb
    obtain ⟨⟨⟨h0, h1⟩, h2, h3⟩, ⟨h4, h5⟩, h6, h7⟩ := hb
    obtain ⟨ah, rfl⟩ := Int.eq_ofNat_of_zero_le h0
    obtain ⟨al, rfl⟩ := Int.eq_ofNat_of_zero_le h2
    obtain ⟨bh, rfl⟩ := Int.eq_ofNat_of_zero_le h4
    obtain ⟨bl, rfl⟩ := Int.eq_ofNat_of_zero_le h6
    injection h with h
    injection h with e1 e2
    injection e2 with e2 e3
    have key : ∀ ov : Bool, (ov = true ↔ 0 < ah ∧ 0 < bh) → TimesIs w r1 r2 r3 = TimesIs w (thi ((al * bl / 18446744073709551616 : Nat) : Int) ((ah * bl % 18446744073709551616 : Nat) : Int) ((al * bh % 18446744073709551616 : Nat) : Int) 2) ((al * bl % 18446744073709551616 : Nat) : Int)
        (tov ov ((al * bl / 18446744073709551616 : Nat) : Int) ((ah * bl / 18446744073709551616 : Nat) : Int) ((ah * bl % 18446744073709551616 : Nat) : Int) ((al * bh / 18446744073709551616 : Nat) : Int) ((al * bh % 18446744073709551616 : Nat) : Int) 2) := by
      intro ov hov
      obtain ⟨m1, m2, m3⟩ := times_math ah al bh bl ov hov
      rw [← m1, ← m2, ← m3, ← e1, ← e2, ← e3]
    show Calls _ _ _ w (TimesIs w r1 r2 r3)
    by_cases d1 : 0 < ah
    · by_cases d2 : 0 < bh
      · rw [key true (by simp [d1, d2])]
        exact times_walk_c ah al bh bl (by omega) (by omega) (by omega) (by omega) (by simpa using d1) (by simpa using d2) w
      · rw [key false (by simp [d2])]
        exact times_walk_b ah al bh bl (by omega) (by omega) (by omega) (by omega) (by simpa using d1) (by simpa using d2) w
    · rw [key false (by simp [d1])]
      exact times_walk_a ah al bh bl (by omega) (by omega) (by omega) (by omega) (by simpa using d1) w
  · cases h

theorem times_to (a0 a1 b0 b1 : Int) (h0 : 0 ≤ a0 ∧ a0 < 18446744073709551616) (h1 : 0 ≤ a1 ∧ a1 < 18446744073709551616) (h2 : 0 ≤ b0 ∧ b0 < 18446744073709551616) (h3 : 0 ≤ b1 ∧ b1 < 18446744073709551616) (w : World) :
    Calls Try.prog 19 #[.agg #[.int .u64 a0, .int .u64 a1], .agg #[.int .u64 b0, .int .u64 b1]] w
      (TimesIs w ((a0 * 18446744073709551616 + a1) * (b0 * 18446744073709551616 + b1) / 18446744073709551616 % 18446744073709551616) ((a0 * 18446744073709551616 + a1) * (b0 * 18446744073709551616 + b1) % 18446744073709551616) (decide (340282366920938463463374607431768211456 ≤ (a0 * 18446744073709551616 + a1) * (b0 * 18446744073709551616 + b1)))) :=
  wide_Times.calls _ _ _ _ _ _ _ w (by unfold wide_Times.f; rw [if_pos (by simp only [Bool.and_eq_true, u64B_iff]; exact ⟨⟨h0, h1⟩, h2, h3⟩)])
end Go.Proofs.Ytpgoekfmalpcdaa.X
