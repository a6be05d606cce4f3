-- Written by this session's own program pp.py out of the translation (a turned copy of the kit's print); Lean checks it.
import Derived.Test.YtpgoekfmalpcdaaXx0
import Derived.Test.YtpgoekfmalpcdaaXx2
import Derived.Test.YtpgoekfmalpcdaaHzone
namespace Go.Proofs.Ytpgoekfmalpcdaa.X
open Go.RowKit Go.Proofs.YtpgoekfmalpcdaaW.PrintWords Go.Proofs.YtpgoekfmalpcdaaW.PrintLast Go.Proofs.YtpgoekfmalpcdaaW.PrintMore
attribute [local go_sem] max2_int min2_int max_two min_two max_three min_three max_four min_four   -- for this text's walks alone
set_option linter.unusedVariables false
set_option linter.unusedSimpArgs false

/-! ### zone_Hull: function 8 -/
def zone_Hull.j0 : Nat → Bool → Int → Int → Int → Int → Int → Int → Option (Int × Int)
  | 0, _, _, _, _, _, _, _ => none
  | k + 1, x22, x131000, x131001, x132000, x132001, x133000, x133001 => if x22 = true then (some (0, 1)) else ((zone_class.f x131000 x132000 x132001).bind fun t135 => ((zone_class.f x131001 x132000 x132001).bind fun t136 => (if x131000 > 0 then ((zone_class.f x131000 x133000 x133001).bind fun t137 => (if x131001 < 0 then ((zone_class.f x131001 x133000 x133001).bind fun t138 => (if 0 ≤ (wrap64 ((wrap64 (t138 - t137)) + 1)) then (if 0 ≤ (wrap64 (t137 + 4)) then (some (shl .i64 (wrap64 ((shl .i64 1 (wrap64 ((wrap64 (t138 - t137)) + 1))) - 1)) (wrap64 (t137 + 4)), 0)) else (none)) else (none))) else (if 0 ≤ (wrap64 ((wrap64 (t136 - t137)) + 1)) then (if 0 ≤ (wrap64 (t137 + 4)) then (some (shl .i64 (wrap64 ((shl .i64 1 (wrap64 ((wrap64 (t136 - t137)) + 1))) - 1)) (wrap64 (t137 + 4)), 0)) else (none)) else (none)))) else (if x131001 < 0 then ((zone_class.f x131001 x133000 x133001).bind fun t139 => (if 0 ≤ (wrap64 ((wrap64 (t139 - t135)) + 1)) then (if 0 ≤ (wrap64 (t135 + 4)) then (some (shl .i64 (wrap64 ((shl .i64 1 (wrap64 ((wrap64 (t139 - t135)) + 1))) - 1)) (wrap64 (t135 + 4)), 0)) else (none)) else (none))) else (if 0 ≤ (wrap64 ((wrap64 (t136 - t135)) + 1)) then (if 0 ≤ (wrap64 (t135 + 4)) then (some (shl .i64 (wrap64 ((shl .i64 1 (wrap64 ((wrap64 (t136 - t135)) + 1))) - 1)) (wrap64 (t135 + 4)), 0)) else (none)) else (none))))))
def zone_Hull.f (k : Nat) (a0_0 : Int) (a0_1 : Int) (a1_0 : Int) (a1_1 : Int) (a2_0 : Int) (a2_1 : Int) : Option (Int × Int) := (span_Right.f a0_0 a0_1).bind fun t133 => (if t133 = true then ((wide_Less.f a2_0 a2_1 a1_0 a1_1).bind fun t134 => (if t134 = true then (zone_Hull.j0 k true a0_0 a0_1 a1_0 a1_1 a2_0 a2_1) else (zone_Hull.j0 k (decide (a2_0 ≥ 1152921504606846976)) a0_0 a0_1 a1_0 a1_1 a2_0 a2_1))) else (zone_Hull.j0 k true a0_0 a0_1 a1_0 a1_1 a2_0 a2_1))
theorem zone_Hull.mono_l : ∀ k, (∀ y0 y1 y2 y3 y4 y5 y6, LeO (zone_Hull.j0 k y0 y1 y2 y3 y4 y5 y6) (zone_Hull.j0 (k + 1) y0 y1 y2 y3 y4 y5 y6))
  | 0 => fun _ _ _ _ _ _ _ r h => by simp [zone_Hull.j0] at h
  | k + 1 => by
    have ih0 := zone_Hull.mono_l k
    · intro y0 y1 y2 y3 y4 y5 y6
      unfold zone_Hull.j0
      repeat' first
      | (with_reducible exact ih0 _ _ _ _ _ _ _)
      | (with_reducible exact LeO.refl _)
      | (with_reducible exact LeO.none _)
      | (with_reducible refine LeO.ite ?_ ?_)
      | (with_reducible refine LeO.bind ?_ (fun _ => ?_))
      | exact ih0 _ _ _ _ _ _ _
      | exact LeO.none _
      | refine LeO.ite ?_ ?_
      | refine LeO.bind ?_ (fun _ => ?_)
theorem zone_Hull.mono : ∀ a0 a1 a2 a3 a4 a5 k, LeO (zone_Hull.f k a0 a1 a2 a3 a4 a5) (zone_Hull.f (k + 1) a0 a1 a2 a3 a4 a5) := by
  intro a0 a1 a2 a3 a4 a5 k
  have ih0 := zone_Hull.mono_l k
  unfold zone_Hull.f
  repeat' first
      | (with_reducible exact ih0 _ _ _ _ _ _ _)
      | (with_reducible exact LeO.refl _)
      | (with_reducible exact LeO.none _)
      | (with_reducible refine LeO.ite ?_ ?_)
      | (with_reducible refine LeO.bind ?_ (fun _ => ?_))
      | exact ih0 _ _ _ _ _ _ _
      | exact LeO.none _
      | refine LeO.ite ?_ ?_
      | refine LeO.bind ?_ (fun _ => ?_)
def zone_Hull.T3 : Bool × List (List Nat × List Nat) := (true, [([], []), ([0], [0]), ([], []), ([1, 2], [1, 2]), ([], []), ([4], [4]), ([], []), ([5, 6, 3], [5, 6]), ([3, 7, 0, 1, 2, 3], [3]), ([7, 8, 0, 1, 2, 3, 4, 5, 6, 7, 8], [7])])
def zone_Hull.B3 : List Nat := [0, 1, 0, 7, 0, 16, 0, 127, 255, 511]
theorem zone_Hull.tab3 : rtab .any (opsOf Try.f8 3) = zone_Hull.T3 := by kernel_rfl
theorem zone_Hull.bits3 : waitsOk zone_Hull.T3.2 zone_Hull.B3 = true := by kernel_rfl
set_option maxHeartbeats 8000000 in
set_option maxRecDepth 100000 in
theorem zone_Hull.calls (k : Nat) (a0_0 : Int) (a0_1 : Int) (a1_0 : Int) (a1_1 : Int) (a2_0 : Int) (a2_1 : Int) (r1 : Int) (r2 : Int) (w : World) (h : zone_Hull.f k a0_0 a0_1 a1_0 a1_1 a2_0 a2_1 = some (r1, r2)) :
    Calls Try.prog 8 #[.agg #[.int .i64 a0_0, .int .i64 a0_1], .agg #[.int .u64 a1_0, .int .u64 a1_1], .agg #[.int .u64 a2_0, .int .u64 a2_1]] w fun e w' => e = .returned (.tuple #[.int .i64 r1, .int .i64 r2]) ∧ Below w.heap.size w w' := by
  have hu32 := Try.underlying32
  have hu24 := Try.underlying24
  have HB := Aside0.mk (Below.refl w.heap.size w)
  have H : ((span_Right.f a0_0 a0_1).bind fun t133 => (if t133 = true then ((wide_Less.f a2_0 a2_1 a1_0 a1_1).bind fun t134 => (if t134 = true then (zone_Hull.j0 k true a0_0 a0_1 a1_0 a1_1 a2_0 a2_1) else (zone_Hull.j0 k (decide (a2_0 ≥ 1152921504606846976)) a0_0 a0_1 a1_0 a1_1 a2_0 a2_1))) else (zone_Hull.j0 k true a0_0 a0_1 a1_0 a1_1 a2_0 a2_1))) = some (r1, r2) := h
  clear h
  have HC4 := Aside0.mk H
  clear H
  go_enter Try.func8, Try.ntmps8
  go_upto_region 1 with (first | ((with_reducible refine gate_dst (N := 3) rfl ?_); refine box_event ?hg (N := 3) ?hd (cs := #[.int .i64 a0_0, .int .i64 a0_1]) (t := 32) ?hr ?_; (case hd => rfl); (case hg => rfl); (case hr => first | (go_simp; done) | (go_simp; rfl)); intro gb130 hg w5 hbox hb; have n0_ := Aside0.mk (below_step (by repeat (first | (with_reducible first | exact HB.out | apply below_alloc | apply pw_below_drewN | apply below_drew1) | exact HB.out)) hb); have n1_ := Aside0.mk (hbox); have n2_ := Aside0.mk ((by rw [hg]; exact (below_size (by repeat (first | (with_reducible first | exact HB.out | apply below_alloc | apply pw_below_drewN | apply below_drew1) | exact HB.out))) : w.heap.size ≤ gb130)); have n3_ := Aside0.mk ((by rw [hg]; exact (below_size (by repeat (first | (with_reducible first | exact HB.out | apply below_alloc | apply pw_below_drewN | apply below_drew1) | exact HB.out))) : w.heap.size ≤ gb130)); clear HB; have HB := n0_; have BK130 := n1_; have GW130 := n2_; have GE130 := n3_; clear n0_ n1_ n2_ n3_; clear hb hbox hg) | ((with_reducible refine gate_dst (N := 4) rfl ?_); refine box_event ?hg (N := 4) ?hd (cs := #[.int .u64 a1_0, .int .u64 a1_1]) (t := 24) ?hr ?_; (case hd => rfl); (case hg => rfl); (case hr => first | (go_simp; done) | (go_simp; rfl)); intro gb131 hg w6 hbox hb; have n0_ := Aside0.mk (blk_below (g := gb130) (o := .cells #[.int .i64 a0_0, .int .i64 a0_1] 32 (0, 0)) (by (with_reducible repeat (first | refine blk_drewN ?_ _ | refine blk_drew ?_ | refine blk_alloc ?_ _)); exact BK130.out) hb); have n1_ := Aside0.mk (below_step (by repeat (first | (with_reducible first | exact HB.out | apply below_alloc | apply pw_below_drewN | apply below_drew1 | refine below_set ?_ GE130.out) | exact HB.out)) hb); have n2_ := Aside0.mk (hbox); have n3_ := Aside0.mk ((by rw [hg]; exact (below_size (by repeat (first | (with_reducible first | exact HB.out | apply below_alloc | apply pw_below_drewN | apply below_drew1 | refine below_set ?_ GE130.out) | exact HB.out))) : w.heap.size ≤ gb131)); have n4_ := Aside0.mk ((by rw [hg]; exact (below_size (by repeat (first | (with_reducible first | exact HB.out | apply below_alloc | apply pw_below_drewN | apply below_drew1 | refine below_set ?_ GE130.out) | exact HB.out))) : w.heap.size ≤ gb131)); have n5_ := Aside0.mk ((by rw [hg]; exact Nat.ne_of_lt (blk_lt (g := gb130) (o := .cells #[.int .i64 a0_0, .int .i64 a0_1] 32 (0, 0)) (by (with_reducible repeat (first | refine blk_drewN ?_ _ | refine blk_drew ?_ | refine blk_alloc ?_ _)); exact BK130.out)) : gb130 ≠ gb131)); have n6_ := Aside0.mk ((by rw [hg]; exact Nat.ne_of_gt (blk_lt (g := gb130) (o := .cells #[.int .i64 a0_0, .int .i64 a0_1] 32 (0, 0)) (by (with_reducible repeat (first | refine blk_drewN ?_ _ | refine blk_drew ?_ | refine blk_alloc ?_ _)); exact BK130.out)) : gb131 ≠ gb130)); clear BK130; clear HB; have BK130 := n0_; have HB := n1_; have BK131 := n2_; have GW131 := n3_; have GE131 := n4_; have NB130_131 := n5_; have NB131_130 := n6_; clear n0_ n1_ n2_ n3_ n4_ n5_ n6_; clear hb hbox hg) | ((with_reducible refine gate_dst (N := 5) rfl ?_); refine box_event ?hg (N := 5) ?hd (cs := #[.int .u64 a2_0, .int .u64 a2_1]) (t := 24) ?hr ?_; (case hd => rfl); (case hg => rfl); (case hr => first | (go_simp; done) | (go_simp; rfl)); intro gb132 hg w7 hbox hb; have n0_ := Aside0.mk (blk_below (g := gb130) (o := .cells #[.int .i64 a0_0, .int .i64 a0_1] 32 (0, 0)) (by (with_reducible repeat (first | refine blk_drewN ?_ _ | refine blk_drew ?_ | refine blk_alloc ?_ _)); exact BK130.out) hb); have n1_ := Aside0.mk (blk_below (g := gb131) (o := .cells #[.int .u64 a1_0, .int .u64 a1_1] 24 (0, 0)) (by (with_reducible repeat (first | refine blk_drewN ?_ _ | refine blk_drew ?_ | refine blk_alloc ?_ _)); exact BK131.out) hb); have n2_ := Aside0.mk (below_step (by repeat (first | (with_reducible first | exact HB.out | apply below_alloc | apply pw_below_drewN | apply below_drew1 | refine below_set ?_ GE130.out | refine below_set ?_ GE131.out) | exact HB.out)) hb); have n3_ := Aside0.mk (hbox); have n4_ := Aside0.mk ((by rw [hg]; exact (below_size (by repeat (first | (with_reducible first | exact HB.out | apply below_alloc | apply pw_below_drewN | apply below_drew1 | refine below_set ?_ GE130.out | refine below_set ?_ GE131.out) | exact HB.out))) : w.heap.size ≤ gb132)); have n5_ := Aside0.mk ((by rw [hg]; exact (below_size (by repeat (first | (with_reducible first | exact HB.out | apply below_alloc | apply pw_below_drewN | apply below_drew1 | refine below_set ?_ GE130.out | refine below_set ?_ GE131.out) | exact HB.out))) : w.heap.size ≤ gb132)); have n6_ := Aside0.mk ((by rw [hg]; exact Nat.ne_of_lt (blk_lt (g := gb130) (o := .cells #[.int .i64 a0_0, .int .i64 a0_1] 32 (0, 0)) (by (with_reducible repeat (first | refine blk_drewN ?_ _ | refine blk_drew ?_ | refine blk_alloc ?_ _)); exact BK130.out)) : gb130 ≠ gb132)); have n7_ := Aside0.mk ((by rw [hg]; exact Nat.ne_of_gt (blk_lt (g := gb130) (o := .cells #[.int .i64 a0_0, .int .i64 a0_1] 32 (0, 0)) (by (with_reducible repeat (first | refine blk_drewN ?_ _ | refine blk_drew ?_ | refine blk_alloc ?_ _)); exact BK130.out)) : gb132 ≠ gb130)); have n8_ := Aside0.mk ((by rw [hg]; exact Nat.ne_of_lt (blk_lt (g := gb131) (o := .cells #[.int .u64 a1_0, .int .u64 a1_1] 24 (0, 0)) (by (with_reducible repeat (first | refine blk_drewN ?_ _ | refine blk_drew ?_ | refine blk_alloc ?_ _)); exact BK131.out)) : gb131 ≠ gb132)); have n9_ := Aside0.mk ((by rw [hg]; exact Nat.ne_of_gt (blk_lt (g := gb131) (o := .cells #[.int .u64 a1_0, .int .u64 a1_1] 24 (0, 0)) (by (with_reducible repeat (first | refine blk_drewN ?_ _ | refine blk_drew ?_ | refine blk_alloc ?_ _)); exact BK131.out)) : gb132 ≠ gb131)); clear BK130; clear BK131; clear HB; have BK130 := n0_; have BK131 := n1_; have HB := n2_; have BK132 := n3_; have GW132 := n4_; have GE132 := n5_; have NB130_132 := n6_; have NB132_130 := n7_; have NB131_132 := n8_; have NB132_131 := n9_; clear n0_ n1_ n2_ n3_ n4_ n5_ n6_ n7_ n8_ n9_; clear hb hbox hg))
  (try simp only [Act.put, List.setIfInBounds_toArray, List.set_cons_zero, List.set_cons_succ])
  go_cut [22] (fun v22 wc => ∃ (kq : Nat) (x22_3 : Bool), v22 = .bool x22_3 ∧ Aside0 (zone_Hull.j0 kq x22_3 a0_0 a0_1 a1_0 a1_1 a2_0 a2_1 = some (r1, r2)) ∧ Aside0 (kq ≤ k) ∧ Aside0 (wc.heap[gb130]? = some (.cells #[.int .i64 a0_0, .int .i64 a0_1] 32 (0, 0))) ∧ Aside0 (wc.heap[gb131]? = some (.cells #[.int .u64 a1_0, .int .u64 a1_1] 24 (0, 0))) ∧ Aside0 (wc.heap[gb132]? = some (.cells #[.int .u64 a2_0, .int .u64 a2_1] 24 (0, 0))) ∧ Aside0 (Below w.heap.size w wc))
  case first =>
    have H := HC4.out
    clear HC4
    replace H := Option.bind_eq_some_iff.mp H
    obtain ⟨t133, A80, H⟩ := H
    replace H : (if t133 = true then ((wide_Less.f a2_0 a2_1 a1_0 a1_1).bind fun t134 => (if t134 = true then (zone_Hull.j0 k true a0_0 a0_1 a1_0 a1_1 a2_0 a2_1) else (zone_Hull.j0 k (decide (a2_0 ≥ 1152921504606846976)) a0_0 a0_1 a1_0 a1_1 a2_0 a2_1))) else (zone_Hull.j0 k true a0_0 a0_1 a1_0 a1_1 a2_0 a2_1)) = some (r1, r2) := H
    have A8 := Aside0.mk A80
    clear A80
    by_cases c9 : t133 = true
    · subst c9
      have H1 : ((wide_Less.f a2_0 a2_1 a1_0 a1_1).bind fun t134 => (if t134 = true then (zone_Hull.j0 k true a0_0 a0_1 a1_0 a1_1 a2_0 a2_1) else (zone_Hull.j0 k (decide (a2_0 ≥ 1152921504606846976)) a0_0 a0_1 a1_0 a1_1 a2_0 a2_1))) = some (r1, r2) := by rw [if_pos rfl] at H; exact H
      clear H
      have H := H1
      clear H1
      replace H := Option.bind_eq_some_iff.mp H
      obtain ⟨t134, A100, H⟩ := H
      replace H : (if t134 = true then (zone_Hull.j0 k true a0_0 a0_1 a1_0 a1_1 a2_0 a2_1) else (zone_Hull.j0 k (decide (a2_0 ≥ 1152921504606846976)) a0_0 a0_1 a1_0 a1_1 a2_0 a2_1)) = some (r1, r2) := H
      have A10 := Aside0.mk A100
      clear A100
      by_cases c11 : t134 = true
      · subst c11
        have H1 : (zone_Hull.j0 k true a0_0 a0_1 a1_0 a1_1 a2_0 a2_1) = some (r1, r2) := by rw [if_pos rfl] at H; exact H
        clear H
        have H := H1
        clear H1
        have H' := Aside0.mk H
        clear H
        have hnb12 := NB130_131.out
        have hnc12 := NB131_130.out
        have hnb13 := NB130_132.out
        have hnc13 := NB132_130.out
        have hcz14_0 : w7.cell? ⟨gb130, 0, none⟩ = some (.int .i64 a0_0) := (blk_cell BK130.out 0).trans rfl
        have hcz14_1 : w7.cell? ⟨gb130, 1, none⟩ = some (.int .i64 a0_1) := (blk_cell BK130.out 1).trans rfl
        have hfz14_0 := blk_frozen BK130.out 0
        have hfz14_1 := blk_frozen BK130.out 1
        go_wp2_with (first | ((with_reducible refine gate_callee (f := 13) rfl ?_); refine goesL_ (some 11) rfl rfl Try.func13 (by kernel_rfl) rfl #[.agg #[.int .i64 a0_0, .int .i64 a0_1]] rfl (by (try simp only [List.map_toArray, List.map_cons, List.map_nil]); first | done | rfl | (simp only [List.length_drop, List.length_take]; rfl)) ?_; (with_reducible refine (span_Right.calls a0_0 a0_1 true _ A8.out).mono ?_); rintro e w15 ⟨rfl, hb⟩; refine ⟨_, rfl, ?_⟩; have n0_ := Aside0.mk (blk_below (g := gb130) (o := .cells #[.int .i64 a0_0, .int .i64 a0_1] 32 (0, 0)) (by (with_reducible repeat (first | refine blk_drewN ?_ _ | refine blk_drew ?_ | refine blk_alloc ?_ _)); exact BK130.out) hb); have n1_ := Aside0.mk (blk_below (g := gb131) (o := .cells #[.int .u64 a1_0, .int .u64 a1_1] 24 (0, 0)) (by (with_reducible repeat (first | refine blk_drewN ?_ _ | refine blk_drew ?_ | refine blk_alloc ?_ _)); exact BK131.out) hb); have n2_ := Aside0.mk (blk_below (g := gb132) (o := .cells #[.int .u64 a2_0, .int .u64 a2_1] 24 (0, 0)) (by (with_reducible repeat (first | refine blk_drewN ?_ _ | refine blk_drew ?_ | refine blk_alloc ?_ _)); exact BK132.out) hb); have n3_ := Aside0.mk (below_step (by repeat (first | (with_reducible first | exact HB.out | apply below_alloc | apply pw_below_drewN | apply below_drew1 | refine below_set ?_ GE130.out | refine below_set ?_ GE131.out | refine below_set ?_ GE132.out) | exact HB.out)) hb); clear BK130; clear BK131; clear BK132; clear HB; have BK130 := n0_; have BK131 := n1_; have BK132 := n2_; have HB := n3_; clear n0_ n1_ n2_ n3_; (try clear hb); (try clear hb2); (try clear hk); (try clear hi); have hnb16 := NB132_131.out; have hnc16 := NB131_132.out; have hcz17_0 : w15.cell? ⟨gb132, 0, none⟩ = some (.int .u64 a2_0) := (blk_cell BK132.out 0).trans rfl; have hcz17_1 : w15.cell? ⟨gb132, 1, none⟩ = some (.int .u64 a2_1) := (blk_cell BK132.out 1).trans rfl; have hfz17_0 := blk_frozen BK132.out 0; have hfz17_1 := blk_frozen BK132.out 1; have hcz18_0 : w15.cell? ⟨gb131, 0, none⟩ = some (.int .u64 a1_0) := (blk_cell BK131.out 0).trans rfl; have hcz18_1 : w15.cell? ⟨gb131, 1, none⟩ = some (.int .u64 a1_1) := (blk_cell BK131.out 1).trans rfl; have hfz18_0 := blk_frozen BK131.out 0; have hfz18_1 := blk_frozen BK131.out 1) | (go_at_call 5; (with_reducible refine (wide_Less.calls a2_0 a2_1 a1_0 a1_1 true _ A10.out).mono ?_); rintro e w19 ⟨rfl, hb⟩; have n0_ := Aside0.mk (blk_below (g := gb130) (o := .cells #[.int .i64 a0_0, .int .i64 a0_1] 32 (0, 0)) (by (with_reducible repeat (first | refine blk_drewN ?_ _ | refine blk_drew ?_ | refine blk_alloc ?_ _)); exact BK130.out) hb); have n1_ := Aside0.mk (blk_below (g := gb131) (o := .cells #[.int .u64 a1_0, .int .u64 a1_1] 24 (0, 0)) (by (with_reducible repeat (first | refine blk_drewN ?_ _ | refine blk_drew ?_ | refine blk_alloc ?_ _)); exact BK131.out) hb); have n2_ := Aside0.mk (blk_below (g := gb132) (o := .cells #[.int .u64 a2_0, .int .u64 a2_1] 24 (0, 0)) (by (with_reducible repeat (first | refine blk_drewN ?_ _ | refine blk_drew ?_ | refine blk_alloc ?_ _)); exact BK132.out) hb); have n3_ := Aside0.mk (below_step (by repeat (first | (with_reducible first | exact HB.out | apply below_alloc | apply pw_below_drewN | apply below_drew1 | refine below_set ?_ GE130.out | refine below_set ?_ GE131.out | refine below_set ?_ GE132.out) | exact HB.out)) hb); clear BK130; clear BK131; clear BK132; clear HB; have BK130 := n0_; have BK131 := n1_; have BK132 := n2_; have HB := n3_; clear n0_ n1_ n2_ n3_; (try clear hb); (try clear hb2); (try clear hk); (try clear hi)))
        go_meet
        case rel => exact ⟨_, (true), (by first | rfl | (simp; done) | (simp [*]; done)), H', ⟨by first | omega | exact Nat.le_refl _⟩, ⟨by (with_reducible repeat (first | refine blk_drewN ?_ _ | refine blk_drew ?_ | refine blk_alloc ?_ _)); exact BK130.out⟩, ⟨by (with_reducible repeat (first | refine blk_drewN ?_ _ | refine blk_drew ?_ | refine blk_alloc ?_ _)); exact BK131.out⟩, ⟨by (with_reducible repeat (first | refine blk_drewN ?_ _ | refine blk_drew ?_ | refine blk_alloc ?_ _)); exact BK132.out⟩, ⟨by repeat (first | (with_reducible first | exact HB.out | apply below_alloc | apply pw_below_drewN | apply below_drew1 | refine below_set ?_ GE130.out | refine below_set ?_ GE131.out | refine below_set ?_ GE132.out) | exact HB.out)⟩⟩
      · replace c11 := Bool.eq_false_iff.mpr c11
        subst c11
        have H1 : (zone_Hull.j0 k (decide (a2_0 ≥ 1152921504606846976)) a0_0 a0_1 a1_0 a1_1 a2_0 a2_1) = some (r1, r2) := by rw [if_neg (show ¬ (false = true) by decide)] at H; exact H
        clear H
        have H := H1
        clear H1
        have H' := Aside0.mk H
        clear H
        have hnb20 := NB130_131.out
        have hnc20 := NB131_130.out
        have hnb21 := NB130_132.out
        have hnc21 := NB132_130.out
        have hcz22_0 : w7.cell? ⟨gb130, 0, none⟩ = some (.int .i64 a0_0) := (blk_cell BK130.out 0).trans rfl
        have hcz22_1 : w7.cell? ⟨gb130, 1, none⟩ = some (.int .i64 a0_1) := (blk_cell BK130.out 1).trans rfl
        have hfz22_0 := blk_frozen BK130.out 0
        have hfz22_1 := blk_frozen BK130.out 1
        go_wp2_with (first | ((with_reducible refine gate_callee (f := 13) rfl ?_); refine goesL_ (some 11) rfl rfl Try.func13 (by kernel_rfl) rfl #[.agg #[.int .i64 a0_0, .int .i64 a0_1]] rfl (by (try simp only [List.map_toArray, List.map_cons, List.map_nil]); first | done | rfl | (simp only [List.length_drop, List.length_take]; rfl)) ?_; (with_reducible refine (span_Right.calls a0_0 a0_1 true _ A8.out).mono ?_); rintro e w23 ⟨rfl, hb⟩; refine ⟨_, rfl, ?_⟩; have n0_ := Aside0.mk (blk_below (g := gb130) (o := .cells #[.int .i64 a0_0, .int .i64 a0_1] 32 (0, 0)) (by (with_reducible repeat (first | refine blk_drewN ?_ _ | refine blk_drew ?_ | refine blk_alloc ?_ _)); exact BK130.out) hb); have n1_ := Aside0.mk (blk_below (g := gb131) (o := .cells #[.int .u64 a1_0, .int .u64 a1_1] 24 (0, 0)) (by (with_reducible repeat (first | refine blk_drewN ?_ _ | refine blk_drew ?_ | refine blk_alloc ?_ _)); exact BK131.out) hb); have n2_ := Aside0.mk (blk_below (g := gb132) (o := .cells #[.int .u64 a2_0, .int .u64 a2_1] 24 (0, 0)) (by (with_reducible repeat (first | refine blk_drewN ?_ _ | refine blk_drew ?_ | refine blk_alloc ?_ _)); exact BK132.out) hb); have n3_ := Aside0.mk (below_step (by repeat (first | (with_reducible first | exact HB.out | apply below_alloc | apply pw_below_drewN | apply below_drew1 | refine below_set ?_ GE130.out | refine below_set ?_ GE131.out | refine below_set ?_ GE132.out) | exact HB.out)) hb); clear BK130; clear BK131; clear BK132; clear HB; have BK130 := n0_; have BK131 := n1_; have BK132 := n2_; have HB := n3_; clear n0_ n1_ n2_ n3_; (try clear hb); (try clear hb2); (try clear hk); (try clear hi); have hnb24 := NB132_131.out; have hnc24 := NB131_132.out; have hcz25_0 : w23.cell? ⟨gb132, 0, none⟩ = some (.int .u64 a2_0) := (blk_cell BK132.out 0).trans rfl; have hcz25_1 : w23.cell? ⟨gb132, 1, none⟩ = some (.int .u64 a2_1) := (blk_cell BK132.out 1).trans rfl; have hfz25_0 := blk_frozen BK132.out 0; have hfz25_1 := blk_frozen BK132.out 1; have hcz26_0 : w23.cell? ⟨gb131, 0, none⟩ = some (.int .u64 a1_0) := (blk_cell BK131.out 0).trans rfl; have hcz26_1 : w23.cell? ⟨gb131, 1, none⟩ = some (.int .u64 a1_1) := (blk_cell BK131.out 1).trans rfl; have hfz26_0 := blk_frozen BK131.out 0; have hfz26_1 := blk_frozen BK131.out 1) | (go_at_call 5; (with_reducible refine (wide_Less.calls a2_0 a2_1 a1_0 a1_1 false _ A10.out).mono ?_); rintro e w27 ⟨rfl, hb⟩; have n0_ := Aside0.mk (blk_below (g := gb130) (o := .cells #[.int .i64 a0_0, .int .i64 a0_1] 32 (0, 0)) (by (with_reducible repeat (first | refine blk_drewN ?_ _ | refine blk_drew ?_ | refine blk_alloc ?_ _)); exact BK130.out) hb); have n1_ := Aside0.mk (blk_below (g := gb131) (o := .cells #[.int .u64 a1_0, .int .u64 a1_1] 24 (0, 0)) (by (with_reducible repeat (first | refine blk_drewN ?_ _ | refine blk_drew ?_ | refine blk_alloc ?_ _)); exact BK131.out) hb); have n2_ := Aside0.mk (blk_below (g := gb132) (o := .cells #[.int .u64 a2_0, .int .u64 a2_1] 24 (0, 0)) (by (with_reducible repeat (first | refine blk_drewN ?_ _ | refine blk_drew ?_ | refine blk_alloc ?_ _)); exact BK132.out) hb); have n3_ := Aside0.mk (below_step (by repeat (first | (with_reducible first | exact HB.out | apply below_alloc | apply pw_below_drewN | apply below_drew1 | refine below_set ?_ GE130.out | refine below_set ?_ GE131.out | refine below_set ?_ GE132.out) | exact HB.out)) hb); clear BK130; clear BK131; clear BK132; clear HB; have BK130 := n0_; have BK131 := n1_; have BK132 := n2_; have HB := n3_; clear n0_ n1_ n2_ n3_; (try clear hb); (try clear hb2); (try clear hk); (try clear hi); have hcz28_0 : w27.cell? ⟨gb132, 0, none⟩ = some (.int .u64 a2_0) := (blk_cell BK132.out 0).trans rfl; have hcz28_1 : w27.cell? ⟨gb132, 1, none⟩ = some (.int .u64 a2_1) := (blk_cell BK132.out 1).trans rfl; have hfz28_0 := blk_frozen BK132.out 0; have hfz28_1 := blk_frozen BK132.out 1))
        go_meet
        case rel => exact ⟨_, (decide (a2_0 ≥ 1152921504606846976)), (by first | rfl | (simp; done) | (simp [*]; done)), H', ⟨by first | omega | exact Nat.le_refl _⟩, ⟨by (with_reducible repeat (first | refine blk_drewN ?_ _ | refine blk_drew ?_ | refine blk_alloc ?_ _)); exact BK130.out⟩, ⟨by (with_reducible repeat (first | refine blk_drewN ?_ _ | refine blk_drew ?_ | refine blk_alloc ?_ _)); exact BK131.out⟩, ⟨by (with_reducible repeat (first | refine blk_drewN ?_ _ | refine blk_drew ?_ | refine blk_alloc ?_ _)); exact BK132.out⟩, ⟨by repeat (first | (with_reducible first | exact HB.out | apply below_alloc | apply pw_below_drewN | apply below_drew1 | refine below_set ?_ GE130.out | refine below_set ?_ GE131.out | refine below_set ?_ GE132.out) | exact HB.out)⟩⟩
    · replace c9 := Bool.eq_false_iff.mpr c9
      subst c9
      have H1 : (zone_Hull.j0 k true a0_0 a0_1 a1_0 a1_1 a2_0 a2_1) = some (r1, r2) := by rw [if_neg (show ¬ (false = true) by decide)] at H; exact H
      clear H
      have H := H1
      clear H1
      have H' := Aside0.mk H
      clear H
      have hnb29 := NB130_131.out
      have hnc29 := NB131_130.out
      have hnb30 := NB130_132.out
      have hnc30 := NB132_130.out
      have hcz31_0 : w7.cell? ⟨gb130, 0, none⟩ = some (.int .i64 a0_0) := (blk_cell BK130.out 0).trans rfl
      have hcz31_1 : w7.cell? ⟨gb130, 1, none⟩ = some (.int .i64 a0_1) := (blk_cell BK130.out 1).trans rfl
      have hfz31_0 := blk_frozen BK130.out 0
      have hfz31_1 := blk_frozen BK130.out 1
      go_wp2_with (first | ((with_reducible refine gate_callee (f := 13) rfl ?_); refine goesL_ (some 11) rfl rfl Try.func13 (by kernel_rfl) rfl #[.agg #[.int .i64 a0_0, .int .i64 a0_1]] rfl (by (try simp only [List.map_toArray, List.map_cons, List.map_nil]); first | done | rfl | (simp only [List.length_drop, List.length_take]; rfl)) ?_; (with_reducible refine (span_Right.calls a0_0 a0_1 false _ A8.out).mono ?_); rintro e w32 ⟨rfl, hb⟩; refine ⟨_, rfl, ?_⟩; have n0_ := Aside0.mk (blk_below (g := gb130) (o := .cells #[.int .i64 a0_0, .int .i64 a0_1] 32 (0, 0)) (by (with_reducible repeat (first | refine blk_drewN ?_ _ | refine blk_drew ?_ | refine blk_alloc ?_ _)); exact BK130.out) hb); have n1_ := Aside0.mk (blk_below (g := gb131) (o := .cells #[.int .u64 a1_0, .int .u64 a1_1] 24 (0, 0)) (by (with_reducible repeat (first | refine blk_drewN ?_ _ | refine blk_drew ?_ | refine blk_alloc ?_ _)); exact BK131.out) hb); have n2_ := Aside0.mk (blk_below (g := gb132) (o := .cells #[.int .u64 a2_0, .int .u64 a2_1] 24 (0, 0)) (by (with_reducible repeat (first | refine blk_drewN ?_ _ | refine blk_drew ?_ | refine blk_alloc ?_ _)); exact BK132.out) hb); have n3_ := Aside0.mk (below_step (by repeat (first | (with_reducible first | exact HB.out | apply below_alloc | apply pw_below_drewN | apply below_drew1 | refine below_set ?_ GE130.out | refine below_set ?_ GE131.out | refine below_set ?_ GE132.out) | exact HB.out)) hb); clear BK130; clear BK131; clear BK132; clear HB; have BK130 := n0_; have BK131 := n1_; have BK132 := n2_; have HB := n3_; clear n0_ n1_ n2_ n3_; (try clear hb); (try clear hb2); (try clear hk); (try clear hi)))
      go_meet
      case rel => exact ⟨_, (true), (by first | rfl | (simp; done) | (simp [*]; done)), H', ⟨by first | omega | exact Nat.le_refl _⟩, ⟨by (with_reducible repeat (first | refine blk_drewN ?_ _ | refine blk_drew ?_ | refine blk_alloc ?_ _)); exact BK130.out⟩, ⟨by (with_reducible repeat (first | refine blk_drewN ?_ _ | refine blk_drew ?_ | refine blk_alloc ?_ _)); exact BK131.out⟩, ⟨by (with_reducible repeat (first | refine blk_drewN ?_ _ | refine blk_drew ?_ | refine blk_alloc ?_ _)); exact BK132.out⟩, ⟨by repeat (first | (with_reducible first | exact HB.out | apply below_alloc | apply pw_below_drewN | apply below_drew1 | refine below_set ?_ GE130.out | refine below_set ?_ GE131.out | refine below_set ?_ GE132.out) | exact HB.out)⟩⟩
  case rest =>
    clear HC4
    try clear c1
    try clear c2
    try clear p2
    try clear c3
    try clear c8
    try clear c9
    try clear c11
    try clear c12
    try clear c13
    try clear c16
    try clear c20
    try clear c21
    try clear c24
    try clear c29
    try clear c30
    try clear hcz14_0
    try clear hcz14_1
    try clear hcz17_0
    try clear hcz17_1
    try clear hcz18_0
    try clear hcz18_1
    try clear hcz22_0
    try clear hcz22_1
    try clear hcz25_0
    try clear hcz25_1
    try clear hcz26_0
    try clear hcz26_1
    try clear hcz28_0
    try clear hcz28_1
    try clear hcz31_0
    try clear hcz31_1
    try clear hfz14_0
    try clear hfz14_1
    try clear hfz17_0
    try clear hfz17_1
    try clear hfz18_0
    try clear hfz18_1
    try clear hfz22_0
    try clear hfz22_1
    try clear hfz25_0
    try clear hfz25_1
    try clear hfz26_0
    try clear hfz26_1
    try clear hfz28_0
    try clear hfz28_1
    try clear hfz31_0
    try clear hfz31_1
    obtain ⟨kq, x22_3, rfl, HA, HJ3, BK130, BK131, BK132, HB⟩ := hcut
    cases kq with
    | zero => exact absurd HA.out (by simp [zone_Hull.j0])
    | succ kj3 =>
      have H := HA.out
      clear HA
      simp only [zone_Hull.j0] at H
      by_cases c33 : x22_3 = true
      · subst c33
        have H1 : (some (0, 1)) = some (r1, r2) := by rw [if_pos rfl] at H; exact H
        clear H
        have H := H1
        clear H1
        simp only [Option.some.injEq, Prod.mk.injEq] at H
        obtain ⟨rfl, rfl⟩ := H
        go_wp2
        go_ret2
        exact ⟨by first | rfl | (simp [errW_none, errW_some] <;> rfl) | (simp [*, errW_none, errW_some] <;> rfl), by repeat (first | (with_reducible first | exact HB.out | apply below_alloc | apply pw_below_drewN | apply below_drew1 | refine below_set ?_ GE130.out | refine below_set ?_ GE131.out | refine below_set ?_ GE132.out) | exact HB.out)⟩
      · replace c33 := Bool.eq_false_iff.mpr c33
        subst c33
        have H1 : ((zone_class.f a0_0 a1_0 a1_1).bind fun t135 => ((zone_class.f a0_1 a1_0 a1_1).bind fun t136 => (if a0_0 > 0 then ((zone_class.f a0_0 a2_0 a2_1).bind fun t137 => (if a0_1 < 0 then ((zone_class.f a0_1 a2_0 a2_1).bind fun t138 => (if 0 ≤ (wrap64 ((wrap64 (t138 - t137)) + 1)) then (if 0 ≤ (wrap64 (t137 + 4)) then (some (shl .i64 (wrap64 ((shl .i64 1 (wrap64 ((wrap64 (t138 - t137)) + 1))) - 1)) (wrap64 (t137 + 4)), 0)) else (none)) else (none))) else (if 0 ≤ (wrap64 ((wrap64 (t136 - t137)) + 1)) then (if 0 ≤ (wrap64 (t137 + 4)) then (some (shl .i64 (wrap64 ((shl .i64 1 (wrap64 ((wrap64 (t136 - t137)) + 1))) - 1)) (wrap64 (t137 + 4)), 0)) else (none)) else (none)))) else (if a0_1 < 0 then ((zone_class.f a0_1 a2_0 a2_1).bind fun t139 => (if 0 ≤ (wrap64 ((wrap64 (t139 - t135)) + 1)) then (if 0 ≤ (wrap64 (t135 + 4)) then (some (shl .i64 (wrap64 ((shl .i64 1 (wrap64 ((wrap64 (t139 - t135)) + 1))) - 1)) (wrap64 (t135 + 4)), 0)) else (none)) else (none))) else (if 0 ≤ (wrap64 ((wrap64 (t136 - t135)) + 1)) then (if 0 ≤ (wrap64 (t135 + 4)) then (some (shl .i64 (wrap64 ((shl .i64 1 (wrap64 ((wrap64 (t136 - t135)) + 1))) - 1)) (wrap64 (t135 + 4)), 0)) else (none)) else (none)))))) = some (r1, r2) := by rw [if_neg (show ¬ (false = true) by decide)] at H; exact H
        clear H
        have H := H1
        clear H1
        replace H := Option.bind_eq_some_iff.mp H
        obtain ⟨t135, A340, H⟩ := H
        replace H : ((zone_class.f a0_1 a1_0 a1_1).bind fun t136 => (if a0_0 > 0 then ((zone_class.f a0_0 a2_0 a2_1).bind fun t137 => (if a0_1 < 0 then ((zone_class.f a0_1 a2_0 a2_1).bind fun t138 => (if 0 ≤ (wrap64 ((wrap64 (t138 - t137)) + 1)) then (if 0 ≤ (wrap64 (t137 + 4)) then (some (shl .i64 (wrap64 ((shl .i64 1 (wrap64 ((wrap64 (t138 - t137)) + 1))) - 1)) (wrap64 (t137 + 4)), 0)) else (none)) else (none))) else (if 0 ≤ (wrap64 ((wrap64 (t136 - t137)) + 1)) then (if 0 ≤ (wrap64 (t137 + 4)) then (some (shl .i64 (wrap64 ((shl .i64 1 (wrap64 ((wrap64 (t136 - t137)) + 1))) - 1)) (wrap64 (t137 + 4)), 0)) else (none)) else (none)))) else (if a0_1 < 0 then ((zone_class.f a0_1 a2_0 a2_1).bind fun t139 => (if 0 ≤ (wrap64 ((wrap64 (t139 - t135)) + 1)) then (if 0 ≤ (wrap64 (t135 + 4)) then (some (shl .i64 (wrap64 ((shl .i64 1 (wrap64 ((wrap64 (t139 - t135)) + 1))) - 1)) (wrap64 (t135 + 4)), 0)) else (none)) else (none))) else (if 0 ≤ (wrap64 ((wrap64 (t136 - t135)) + 1)) then (if 0 ≤ (wrap64 (t135 + 4)) then (some (shl .i64 (wrap64 ((shl .i64 1 (wrap64 ((wrap64 (t136 - t135)) + 1))) - 1)) (wrap64 (t135 + 4)), 0)) else (none)) else (none))))) = some (r1, r2) := H
        have A34 := Aside0.mk A340
        clear A340
        replace H := Option.bind_eq_some_iff.mp H
        obtain ⟨t136, A350, H⟩ := H
        replace H : (if a0_0 > 0 then ((zone_class.f a0_0 a2_0 a2_1).bind fun t137 => (if a0_1 < 0 then ((zone_class.f a0_1 a2_0 a2_1).bind fun t138 => (if 0 ≤ (wrap64 ((wrap64 (t138 - t137)) + 1)) then (if 0 ≤ (wrap64 (t137 + 4)) then (some (shl .i64 (wrap64 ((shl .i64 1 (wrap64 ((wrap64 (t138 - t137)) + 1))) - 1)) (wrap64 (t137 + 4)), 0)) else (none)) else (none))) else (if 0 ≤ (wrap64 ((wrap64 (t136 - t137)) + 1)) then (if 0 ≤ (wrap64 (t137 + 4)) then (some (shl .i64 (wrap64 ((shl .i64 1 (wrap64 ((wrap64 (t136 - t137)) + 1))) - 1)) (wrap64 (t137 + 4)), 0)) else (none)) else (none)))) else (if a0_1 < 0 then ((zone_class.f a0_1 a2_0 a2_1).bind fun t139 => (if 0 ≤ (wrap64 ((wrap64 (t139 - t135)) + 1)) then (if 0 ≤ (wrap64 (t135 + 4)) then (some (shl .i64 (wrap64 ((shl .i64 1 (wrap64 ((wrap64 (t139 - t135)) + 1))) - 1)) (wrap64 (t135 + 4)), 0)) else (none)) else (none))) else (if 0 ≤ (wrap64 ((wrap64 (t136 - t135)) + 1)) then (if 0 ≤ (wrap64 (t135 + 4)) then (some (shl .i64 (wrap64 ((shl .i64 1 (wrap64 ((wrap64 (t136 - t135)) + 1))) - 1)) (wrap64 (t135 + 4)), 0)) else (none)) else (none)))) = some (r1, r2) := H
        have A35 := Aside0.mk A350
        clear A350
        by_cases c36 : a0_0 > 0
        · rw [if_pos c36] at H
          have c36b0 : decide (0 < a0_0) = true := decide_eq_true c36
          clear c36
          replace H := Option.bind_eq_some_iff.mp H
          obtain ⟨t137, A370, H⟩ := H
          replace H : (if a0_1 < 0 then ((zone_class.f a0_1 a2_0 a2_1).bind fun t138 => (if 0 ≤ (wrap64 ((wrap64 (t138 - t137)) + 1)) then (if 0 ≤ (wrap64 (t137 + 4)) then (some (shl .i64 (wrap64 ((shl .i64 1 (wrap64 ((wrap64 (t138 - t137)) + 1))) - 1)) (wrap64 (t137 + 4)), 0)) else (none)) else (none))) else (if 0 ≤ (wrap64 ((wrap64 (t136 - t137)) + 1)) then (if 0 ≤ (wrap64 (t137 + 4)) then (some (shl .i64 (wrap64 ((shl .i64 1 (wrap64 ((wrap64 (t136 - t137)) + 1))) - 1)) (wrap64 (t137 + 4)), 0)) else (none)) else (none))) = some (r1, r2) := H
          have A37 := Aside0.mk A370
          clear A370
          by_cases c38 : a0_1 < 0
          · rw [if_pos c38] at H
            have c38b0 : decide (a0_1 < 0) = true := decide_eq_true c38
            clear c38
            replace H := Option.bind_eq_some_iff.mp H
            obtain ⟨t138, A390, H⟩ := H
            replace H : (if 0 ≤ (wrap64 ((wrap64 (t138 - t137)) + 1)) then (if 0 ≤ (wrap64 (t137 + 4)) then (some (shl .i64 (wrap64 ((shl .i64 1 (wrap64 ((wrap64 (t138 - t137)) + 1))) - 1)) (wrap64 (t137 + 4)), 0)) else (none)) else (none)) = some (r1, r2) := H
            have A39 := Aside0.mk A390
            clear A390
            obtain ⟨ji40, hji40⟩ : ∃ j_ : Int, (wrap64 ((wrap64 (t138 - t137)) + 1)) = j_ := ⟨_, rfl⟩
            replace H : (if 0 ≤ (ji40) then (if 0 ≤ (wrap64 (t137 + 4)) then (some (shl .i64 (wrap64 ((shl .i64 1 (ji40)) - 1)) (wrap64 (t137 + 4)), 0)) else (none)) else (none)) = some (r1, r2) := by first | (rw [hji40] at H; exact H) | (simp only [hji40] at H ⊢; exact H)
            (try rw [hji40] at A34)
            (try rw [hji40] at A35)
            (try rw [hji40] at A37)
            (try rw [hji40] at A39)
            have hji40w : (IntKind.i64.wrap ((wrap64 (t138 - t137)) + 1)) = ji40 := (i64_w _).trans hji40
            by_cases c41 : 0 ≤ (ji40)
            · rw [if_pos c41] at H
              have c41b0 := eq_true c41
              have c41b1 : decide (0 ≤ (ji40)) = true := decide_eq_true c41
              clear c41
              obtain ⟨ji42, hji42⟩ : ∃ j_ : Int, (shl .i64 1 (ji40)) = j_ := ⟨_, rfl⟩
              replace H : (if 0 ≤ (wrap64 (t137 + 4)) then (some (shl .i64 (wrap64 ((ji42) - 1)) (wrap64 (t137 + 4)), 0)) else (none)) = some (r1, r2) := by first | (rw [hji42] at H; exact H) | (simp only [hji42] at H ⊢; exact H)
              (try rw [hji42] at A34)
              (try rw [hji42] at A35)
              (try rw [hji42] at A37)
              (try rw [hji42] at A39)
              have hji42_ : (IntKind.i64.wrap (1 * 2 ^ min (ji40).toNat 64)) = ji42 := hji42
              have hji42z : (ji40) ≤ 64 → (IntKind.i64.wrap (1 * 2 ^ (ji40).toNat)) = ji42 := shl_small hji42
              have hji42u : (IntKind.i64.wrap (2 ^ min (ji40).toNat 64)) = ji42 := by have h_ := hji42_; rw [Int.one_mul] at h_; exact h_
              have hji42v : (ji40) ≤ 64 → (IntKind.i64.wrap (2 ^ (ji40).toNat)) = ji42 := fun hle_ => by have h_ := hji42z hle_; rw [Int.one_mul] at h_; exact h_
              have hji42y : (wrap64 (1 * 2 ^ min (ji40).toNat 64)) = ji42 := (i64_w _).symm.trans hji42_
              have hji42x : (ji40) ≤ 64 → (wrap64 (1 * 2 ^ (ji40).toNat)) = ji42 := fun h_ => (i64_w _).symm.trans (hji42z h_)
              obtain ⟨ji43, hji43⟩ : ∃ j_ : Int, (wrap64 (t137 + 4)) = j_ := ⟨_, rfl⟩
              replace H : (if 0 ≤ (ji43) then (some (shl .i64 (wrap64 ((ji42) - 1)) (ji43), 0)) else (none)) = some (r1, r2) := by first | (rw [hji43] at H; exact H) | (simp only [hji43] at H ⊢; exact H)
              (try rw [hji43] at A34)
              (try rw [hji43] at A35)
              (try rw [hji43] at A37)
              (try rw [hji43] at A39)
              have hji43w : (IntKind.i64.wrap (t137 + 4)) = ji43 := (i64_w _).trans hji43
              by_cases c44 : 0 ≤ (ji43)
              · rw [if_pos c44] at H
                have c44b0 := eq_true c44
                have c44b1 : decide (0 ≤ (ji43)) = true := decide_eq_true c44
                clear c44
                obtain ⟨ji45, hji45⟩ : ∃ j_ : Int, (shl .i64 (wrap64 ((ji42) - 1)) (ji43)) = j_ := ⟨_, rfl⟩
                replace H : (some (ji45, 0)) = some (r1, r2) := by first | (rw [hji45] at H; exact H) | (simp only [hji45] at H ⊢; exact H)
                (try rw [hji45] at A34)
                (try rw [hji45] at A35)
                (try rw [hji45] at A37)
                (try rw [hji45] at A39)
                have hji45_ : (IntKind.i64.wrap ((wrap64 ((ji42) - 1)) * 2 ^ min (ji43).toNat 64)) = ji45 := hji45
                have hji45z : (ji43) ≤ 64 → (IntKind.i64.wrap ((wrap64 ((ji42) - 1)) * 2 ^ (ji43).toNat)) = ji45 := shl_small hji45
                have hji45y : (wrap64 ((wrap64 ((ji42) - 1)) * 2 ^ min (ji43).toNat 64)) = ji45 := (i64_w _).symm.trans hji45_
                have hji45x : (ji43) ≤ 64 → (wrap64 ((wrap64 ((ji42) - 1)) * 2 ^ (ji43).toNat)) = ji45 := fun h_ => (i64_w _).symm.trans (hji45z h_)
                simp only [Option.some.injEq, Prod.mk.injEq] at H
                obtain ⟨rfl, rfl⟩ := H
                try go_wp2
                have n0_ := Aside0.mk (blk_drew BK130.out)
                have n1_ := Aside0.mk (blk_drew BK131.out)
                have n2_ := Aside0.mk (blk_drew BK132.out)
                have n3_ := Aside0.mk (below_drew1 HB.out)
                clear BK130
                clear BK131
                clear BK132
                clear HB
                have BK130 := n0_
                have BK131 := n1_
                have BK132 := n2_
                have HB := n3_
                clear n0_ n1_ n2_ n3_
                refine start_ (n := 10) (S := fun w' => w'.cell? ⟨gb130, 0, none⟩ = some (.int .i64 a0_0) ∧ w'.cell? ⟨gb130, 1, none⟩ = some (.int .i64 a0_1) ∧ w'.cell? ⟨gb131, 0, none⟩ = some (.int .u64 a1_0) ∧ w'.cell? ⟨gb131, 1, none⟩ = some (.int .u64 a1_1)) (ds := []) #[false, false, false, false, false, false, false, false, false, false] (by kernel_rfl) rfl rfl ⟨(blk_cell BK130.out 0).trans rfl, (blk_cell BK130.out 1).trans rfl, (blk_cell BK131.out 0).trans rfl, (blk_cell BK131.out 1).trans rfl⟩ (fun hHeld => ?_); refine with_tabW zone_Hull.tab3 zone_Hull.bits3 (fun HT_ HW_ => ?_)
                generalize wc.drew = w46 at BK130 BK131 BK132 HB hHeld ⊢
                refine pure_ (i := 0) (N := some 23) (v := ?_) (a' := ?_) #[true, false, false, false, false, false, false, false, false, false] rfl rfl (any_of HT_.out (by kernel_rfl)) (fun _ _ _ h => h) (Or.inl ⟨by rfl, ?_⟩) ?_ ?_
                rotate_left
                · intro w'
                  go_simp
                  with_reducible rfl
                rotate_left
                · simp only [Act.put, List.setIfInBounds_toArray, List.set_cons_zero, List.set_cons_succ, i64_w, i32_w]
                  rfl
                refine pure_ (i := 4) (N := some 27) (v := ?_) (a' := ?_) #[true, false, false, false, true, false, false, false, false, false] rfl rfl (any_of HT_.out (by kernel_rfl)) (fun _ _ _ h => h) (Or.inl ⟨by rfl, ?_⟩) ?_ ?_
                rotate_left
                · intro w'
                  go_simp
                  with_reducible rfl
                rotate_left
                · simp only [Act.put, List.setIfInBounds_toArray, List.set_cons_zero, List.set_cons_succ, i64_w, i32_w]
                  rfl
                refine take_ (i := 1) (N := some 24) (v := ?_) (a' := ?_) #[true, true, false, false, true, false, false, false, false, false] rfl rfl (take_ofW HT_.out HW_.out (by kernel_rfl)) (fun _ _ _ h => h) (Or.inl ⟨by rfl, ?_⟩) hHeld ?_ ?_
                rotate_left
                · rintro w' ⟨s0, s1, s2, s3⟩
                  go_simp
                  with_reducible rfl
                rotate_left
                · simp only [Act.put, List.setIfInBounds_toArray, List.set_cons_zero, List.set_cons_succ, i64_w, i32_w]
                  rfl
                refine take_ (i := 2) (N := some 25) (v := ?_) (a' := ?_) #[true, true, true, false, true, false, false, false, false, false] rfl rfl (take_ofW HT_.out HW_.out (by kernel_rfl)) (fun _ _ _ h => h) (Or.inl ⟨by rfl, ?_⟩) hHeld ?_ ?_
                rotate_left
                · rintro w' ⟨s0, s1, s2, s3⟩
                  go_simp
                  with_reducible rfl
                rotate_left
                · simp only [Act.put, List.setIfInBounds_toArray, List.set_cons_zero, List.set_cons_succ, i64_w, i32_w]
                  rfl
                refine take_ (i := 5) (N := some 28) (v := ?_) (a' := ?_) #[true, true, true, false, true, true, false, false, false, false] rfl rfl (take_ofW HT_.out HW_.out (by kernel_rfl)) (fun _ _ _ h => h) (Or.inl ⟨by rfl, ?_⟩) hHeld ?_ ?_
                rotate_left
                · rintro w' ⟨s0, s1, s2, s3⟩
                  go_simp
                  with_reducible rfl
                rotate_left
                · simp only [Act.put, List.setIfInBounds_toArray, List.set_cons_zero, List.set_cons_succ, i64_w, i32_w]
                  rfl
                refine take_ (i := 6) (N := some 29) (v := ?_) (a' := ?_) #[true, true, true, false, true, true, true, false, false, false] rfl rfl (take_ofW HT_.out HW_.out (by kernel_rfl)) (fun _ _ _ h => h) (Or.inl ⟨by rfl, ?_⟩) hHeld ?_ ?_
                rotate_left
                · rintro w' ⟨s0, s1, s2, s3⟩
                  go_simp
                  with_reducible rfl
                rotate_left
                · simp only [Act.put, List.setIfInBounds_toArray, List.set_cons_zero, List.set_cons_succ, i64_w, i32_w]
                  rfl
                refine one_ (i := 3) (N := some 26) #[true, true, true, true, true, true, true, false, false, false] rfl rfl (one_of HT_.out (by kernel_rfl)) (by decide) (fun K hK => ?_)
                refine goes_ Try.func12 (by kernel_rfl) rfl #[.int .i64 a0_0, .agg #[.int .u64 a1_0, .int .u64 a1_1]] (by rfl) rfl rfl (by (try simp only [List.map_toArray, List.map_cons, List.map_nil]); first | done | rfl | (simp only [List.length_drop, List.length_take]; rfl)) ?_
                with_reducible refine (zone_class.calls a0_0 a1_0 a1_1 t135 _ A34.out).mono ?_
                rintro e w47 ⟨rfl, hb⟩
                refine ⟨_, rfl, ?_⟩
                have n0_ := Aside0.mk (blk_below (g := gb130) (o := .cells #[.int .i64 a0_0, .int .i64 a0_1] 32 (0, 0)) (by (with_reducible repeat (first | refine blk_drewN ?_ _ | refine blk_drew ?_ | refine blk_alloc ?_ _)); exact BK130.out) hb)
                have n1_ := Aside0.mk (blk_below (g := gb131) (o := .cells #[.int .u64 a1_0, .int .u64 a1_1] 24 (0, 0)) (by (with_reducible repeat (first | refine blk_drewN ?_ _ | refine blk_drew ?_ | refine blk_alloc ?_ _)); exact BK131.out) hb)
                have n2_ := Aside0.mk (blk_below (g := gb132) (o := .cells #[.int .u64 a2_0, .int .u64 a2_1] 24 (0, 0)) (by (with_reducible repeat (first | refine blk_drewN ?_ _ | refine blk_drew ?_ | refine blk_alloc ?_ _)); exact BK132.out) hb)
                have n3_ := Aside0.mk (below_step (by repeat (first | (with_reducible first | exact HB.out | apply below_alloc | apply pw_below_drewN | apply below_drew1 | refine below_set ?_ GE130.out | refine below_set ?_ GE131.out | refine below_set ?_ GE132.out) | exact HB.out)) hb)
                clear BK130
                clear BK131
                clear BK132
                clear HB
                have BK130 := n0_
                have BK131 := n1_
                have BK132 := n2_
                have HB := n3_
                clear n0_ n1_ n2_ n3_
                (try clear hb)
                (try clear hb2)
                (try clear hk)
                (try clear hi)
                refine hK.out _ _ ⟨(blk_cell BK130.out 0).trans rfl, (blk_cell BK130.out 1).trans rfl, (blk_cell BK131.out 0).trans rfl, (blk_cell BK131.out 1).trans rfl⟩ (fun hHeld => ?_)
                clear hK K
                refine norm_ (a' := ?_) ?_ ?_
                rotate_left
                · show Act.put _ (some 26) _ = _
                  simp only [Act.put, List.setIfInBounds_toArray, List.set_cons_zero, List.set_cons_succ, i64_w, i32_w]
                  rfl
                refine one_ (i := 7) (N := some 30) #[true, true, true, true, true, true, true, true, false, false] rfl rfl (one_of HT_.out (by kernel_rfl)) (by decide) (fun K hK => ?_)
                refine goes_ Try.func12 (by kernel_rfl) rfl #[.int .i64 a0_1, .agg #[.int .u64 a1_0, .int .u64 a1_1]] (by rfl) rfl rfl (by (try simp only [List.map_toArray, List.map_cons, List.map_nil]); first | done | rfl | (simp only [List.length_drop, List.length_take]; rfl)) ?_
                with_reducible refine (zone_class.calls a0_1 a1_0 a1_1 t136 _ A35.out).mono ?_
                rintro e w48 ⟨rfl, hb⟩
                refine ⟨_, rfl, ?_⟩
                have n0_ := Aside0.mk (blk_below (g := gb130) (o := .cells #[.int .i64 a0_0, .int .i64 a0_1] 32 (0, 0)) (by (with_reducible repeat (first | refine blk_drewN ?_ _ | refine blk_drew ?_ | refine blk_alloc ?_ _)); exact BK130.out) hb)
                have n1_ := Aside0.mk (blk_below (g := gb131) (o := .cells #[.int .u64 a1_0, .int .u64 a1_1] 24 (0, 0)) (by (with_reducible repeat (first | refine blk_drewN ?_ _ | refine blk_drew ?_ | refine blk_alloc ?_ _)); exact BK131.out) hb)
                have n2_ := Aside0.mk (blk_below (g := gb132) (o := .cells #[.int .u64 a2_0, .int .u64 a2_1] 24 (0, 0)) (by (with_reducible repeat (first | refine blk_drewN ?_ _ | refine blk_drew ?_ | refine blk_alloc ?_ _)); exact BK132.out) hb)
                have n3_ := Aside0.mk (below_step (by repeat (first | (with_reducible first | exact HB.out | apply below_alloc | apply pw_below_drewN | apply below_drew1 | refine below_set ?_ GE130.out | refine below_set ?_ GE131.out | refine below_set ?_ GE132.out) | exact HB.out)) hb)
                clear BK130
                clear BK131
                clear BK132
                clear HB
                have BK130 := n0_
                have BK131 := n1_
                have BK132 := n2_
                have HB := n3_
                clear n0_ n1_ n2_ n3_
                (try clear hb)
                (try clear hb2)
                (try clear hk)
                (try clear hi)
                refine hK.out _ _ ⟨(blk_cell BK130.out 0).trans rfl, (blk_cell BK130.out 1).trans rfl, (blk_cell BK131.out 0).trans rfl, (blk_cell BK131.out 1).trans rfl⟩ (fun hHeld => ?_)
                clear hK K
                refine norm_ (a' := ?_) ?_ ?_
                rotate_left
                · show Act.put _ (some 30) _ = _
                  simp only [Act.put, List.setIfInBounds_toArray, List.set_cons_zero, List.set_cons_succ, i64_w, i32_w]
                  rfl
                refine pure_ (i := 8) (N := some 8) (v := ?_) (a' := ?_) #[true, true, true, true, true, true, true, true, true, false] rfl rfl (any_of HT_.out (by kernel_rfl)) (fun _ _ _ h => h) (Or.inl ⟨by rfl, ?_⟩) ?_ ?_
                rotate_left
                · intro w'
                  go_simp
                  with_reducible rfl
                rotate_left
                · simp only [Act.put, List.setIfInBounds_toArray, List.set_cons_zero, List.set_cons_succ, i64_w, i32_w]
                  rfl
                refine pure_ (i := 9) (N := some 9) (v := ?_) (a' := ?_) #[true, true, true, true, true, true, true, true, true, true] rfl rfl (any_of HT_.out (by kernel_rfl)) (fun _ _ _ h => h) (Or.inl ⟨by rfl, ?_⟩) ?_ ?_
                rotate_left
                · intro w'
                  go_simp
                  with_reducible rfl
                rotate_left
                · simp only [Act.put, List.setIfInBounds_toArray, List.set_cons_zero, List.set_cons_succ, i64_w, i32_w]
                  rfl
                refine done_ (done_of HT_.out (by kernel_rfl)) ?_
                have hnb49 := NB130_131.out
                have hnc49 := NB131_130.out
                have hnb50 := NB130_132.out
                have hnc50 := NB132_130.out
                have hcz51_0 : w48.cell? ⟨gb130, 0, none⟩ = some (.int .i64 a0_0) := (blk_cell BK130.out 0).trans rfl
                have hcz51_1 : w48.cell? ⟨gb130, 1, none⟩ = some (.int .i64 a0_1) := (blk_cell BK130.out 1).trans rfl
                have hfz51_0 := blk_frozen BK130.out 0
                have hfz51_1 := blk_frozen BK130.out 1
                have hnb52 := NB132_131.out
                have hnc52 := NB131_132.out
                have hcz53_0 : w48.cell? ⟨gb132, 0, none⟩ = some (.int .u64 a2_0) := (blk_cell BK132.out 0).trans rfl
                have hcz53_1 : w48.cell? ⟨gb132, 1, none⟩ = some (.int .u64 a2_1) := (blk_cell BK132.out 1).trans rfl
                have hfz53_0 := blk_frozen BK132.out 0
                have hfz53_1 := blk_frozen BK132.out 1
                try go_wp2_with (first | ((with_reducible refine gate_callee (f := 12) rfl ?_); refine goesL_ (some 37) rfl rfl Try.func12 (by kernel_rfl) rfl #[.int .i64 a0_0, .agg #[.int .u64 a2_0, .int .u64 a2_1]] rfl (by (try simp only [List.map_toArray, List.map_cons, List.map_nil]); first | done | rfl | (simp only [List.length_drop, List.length_take]; rfl)) ?_; (with_reducible refine (zone_class.calls a0_0 a2_0 a2_1 t137 _ A37.out).mono ?_); rintro e w54 ⟨rfl, hb⟩; refine ⟨_, rfl, ?_⟩; have n0_ := Aside0.mk (blk_below (g := gb130) (o := .cells #[.int .i64 a0_0, .int .i64 a0_1] 32 (0, 0)) (by (with_reducible repeat (first | refine blk_drewN ?_ _ | refine blk_drew ?_ | refine blk_alloc ?_ _)); exact BK130.out) hb); have n1_ := Aside0.mk (blk_below (g := gb131) (o := .cells #[.int .u64 a1_0, .int .u64 a1_1] 24 (0, 0)) (by (with_reducible repeat (first | refine blk_drewN ?_ _ | refine blk_drew ?_ | refine blk_alloc ?_ _)); exact BK131.out) hb); have n2_ := Aside0.mk (blk_below (g := gb132) (o := .cells #[.int .u64 a2_0, .int .u64 a2_1] 24 (0, 0)) (by (with_reducible repeat (first | refine blk_drewN ?_ _ | refine blk_drew ?_ | refine blk_alloc ?_ _)); exact BK132.out) hb); have n3_ := Aside0.mk (below_step (by repeat (first | (with_reducible first | exact HB.out | apply below_alloc | apply pw_below_drewN | apply below_drew1 | refine below_set ?_ GE130.out | refine below_set ?_ GE131.out | refine below_set ?_ GE132.out) | exact HB.out)) hb); clear BK130; clear BK131; clear BK132; clear HB; have BK130 := n0_; have BK131 := n1_; have BK132 := n2_; have HB := n3_; clear n0_ n1_ n2_ n3_; (try clear hb); (try clear hb2); (try clear hk); (try clear hi); have hcz55_0 : w54.cell? ⟨gb130, 0, none⟩ = some (.int .i64 a0_0) := (blk_cell BK130.out 0).trans rfl; have hcz55_1 : w54.cell? ⟨gb130, 1, none⟩ = some (.int .i64 a0_1) := (blk_cell BK130.out 1).trans rfl; have hfz55_0 := blk_frozen BK130.out 0; have hfz55_1 := blk_frozen BK130.out 1; have hcz56_0 : w54.cell? ⟨gb132, 0, none⟩ = some (.int .u64 a2_0) := (blk_cell BK132.out 0).trans rfl; have hcz56_1 : w54.cell? ⟨gb132, 1, none⟩ = some (.int .u64 a2_1) := (blk_cell BK132.out 1).trans rfl; have hfz56_0 := blk_frozen BK132.out 0; have hfz56_1 := blk_frozen BK132.out 1) | ((with_reducible refine gate_callee (f := 12) rfl ?_); refine goesL_ (some 44) rfl rfl Try.func12 (by kernel_rfl) rfl #[.int .i64 a0_1, .agg #[.int .u64 a2_0, .int .u64 a2_1]] rfl (by (try simp only [List.map_toArray, List.map_cons, List.map_nil]); first | done | rfl | (simp only [List.length_drop, List.length_take]; rfl)) ?_; (with_reducible refine (zone_class.calls a0_1 a2_0 a2_1 t138 _ A39.out).mono ?_); rintro e w57 ⟨rfl, hb⟩; refine ⟨_, rfl, ?_⟩; have n0_ := Aside0.mk (blk_below (g := gb130) (o := .cells #[.int .i64 a0_0, .int .i64 a0_1] 32 (0, 0)) (by (with_reducible repeat (first | refine blk_drewN ?_ _ | refine blk_drew ?_ | refine blk_alloc ?_ _)); exact BK130.out) hb); have n1_ := Aside0.mk (blk_below (g := gb131) (o := .cells #[.int .u64 a1_0, .int .u64 a1_1] 24 (0, 0)) (by (with_reducible repeat (first | refine blk_drewN ?_ _ | refine blk_drew ?_ | refine blk_alloc ?_ _)); exact BK131.out) hb); have n2_ := Aside0.mk (blk_below (g := gb132) (o := .cells #[.int .u64 a2_0, .int .u64 a2_1] 24 (0, 0)) (by (with_reducible repeat (first | refine blk_drewN ?_ _ | refine blk_drew ?_ | refine blk_alloc ?_ _)); exact BK132.out) hb); have n3_ := Aside0.mk (below_step (by repeat (first | (with_reducible first | exact HB.out | apply below_alloc | apply pw_below_drewN | apply below_drew1 | refine below_set ?_ GE130.out | refine below_set ?_ GE131.out | refine below_set ?_ GE132.out) | exact HB.out)) hb); clear BK130; clear BK131; clear BK132; clear HB; have BK130 := n0_; have BK131 := n1_; have BK132 := n2_; have HB := n3_; clear n0_ n1_ n2_ n3_; (try clear hb); (try clear hb2); (try clear hk); (try clear hi)))
                go_ret2
                exact ⟨by first | rfl | (simp [errW_none, errW_some] <;> rfl) | (simp only [← hji40, ← hji42, ← hji43, ← hji45]; first | rfl | (simp [errW_none, errW_some] <;> rfl)) | (simp [*, errW_none, errW_some] <;> rfl), by repeat (first | (with_reducible first | exact HB.out | apply below_alloc | apply pw_below_drewN | apply below_drew1 | refine below_set ?_ GE130.out | refine below_set ?_ GE131.out | refine below_set ?_ GE132.out) | exact HB.out)⟩
              · rw [if_neg c44] at H
                exact absurd H (by simp)
            · rw [if_neg c41] at H
              exact absurd H (by simp)
          · rw [if_neg c38] at H
            have c38b0 : decide (a0_1 < 0) = false := decide_eq_false c38
            clear c38
            obtain ⟨ji58, hji58⟩ : ∃ j_ : Int, (wrap64 ((wrap64 (t136 - t137)) + 1)) = j_ := ⟨_, rfl⟩
            replace H : (if 0 ≤ (ji58) then (if 0 ≤ (wrap64 (t137 + 4)) then (some (shl .i64 (wrap64 ((shl .i64 1 (ji58)) - 1)) (wrap64 (t137 + 4)), 0)) else (none)) else (none)) = some (r1, r2) := by first | (rw [hji58] at H; exact H) | (simp only [hji58] at H ⊢; exact H)
            (try rw [hji58] at A34)
            (try rw [hji58] at A35)
            (try rw [hji58] at A37)
            have hji58w : (IntKind.i64.wrap ((wrap64 (t136 - t137)) + 1)) = ji58 := (i64_w _).trans hji58
            by_cases c59 : 0 ≤ (ji58)
            · rw [if_pos c59] at H
              have c59b0 := eq_true c59
              have c59b1 : decide (0 ≤ (ji58)) = true := decide_eq_true c59
              clear c59
              obtain ⟨ji60, hji60⟩ : ∃ j_ : Int, (shl .i64 1 (ji58)) = j_ := ⟨_, rfl⟩
              replace H : (if 0 ≤ (wrap64 (t137 + 4)) then (some (shl .i64 (wrap64 ((ji60) - 1)) (wrap64 (t137 + 4)), 0)) else (none)) = some (r1, r2) := by first | (rw [hji60] at H; exact H) | (simp only [hji60] at H ⊢; exact H)
              (try rw [hji60] at A34)
              (try rw [hji60] at A35)
              (try rw [hji60] at A37)
              have hji60_ : (IntKind.i64.wrap (1 * 2 ^ min (ji58).toNat 64)) = ji60 := hji60
              have hji60z : (ji58) ≤ 64 → (IntKind.i64.wrap (1 * 2 ^ (ji58).toNat)) = ji60 := shl_small hji60
              have hji60u : (IntKind.i64.wrap (2 ^ min (ji58).toNat 64)) = ji60 := by have h_ := hji60_; rw [Int.one_mul] at h_; exact h_
              have hji60v : (ji58) ≤ 64 → (IntKind.i64.wrap (2 ^ (ji58).toNat)) = ji60 := fun hle_ => by have h_ := hji60z hle_; rw [Int.one_mul] at h_; exact h_
              have hji60y : (wrap64 (1 * 2 ^ min (ji58).toNat 64)) = ji60 := (i64_w _).symm.trans hji60_
              have hji60x : (ji58) ≤ 64 → (wrap64 (1 * 2 ^ (ji58).toNat)) = ji60 := fun h_ => (i64_w _).symm.trans (hji60z h_)
              obtain ⟨ji61, hji61⟩ : ∃ j_ : Int, (wrap64 (t137 + 4)) = j_ := ⟨_, rfl⟩
              replace H : (if 0 ≤ (ji61) then (some (shl .i64 (wrap64 ((ji60) - 1)) (ji61), 0)) else (none)) = some (r1, r2) := by first | (rw [hji61] at H; exact H) | (simp only [hji61] at H ⊢; exact H)
              (try rw [hji61] at A34)
              (try rw [hji61] at A35)
              (try rw [hji61] at A37)
              have hji61w : (IntKind.i64.wrap (t137 + 4)) = ji61 := (i64_w _).trans hji61
              by_cases c62 : 0 ≤ (ji61)
              · rw [if_pos c62] at H
                have c62b0 := eq_true c62
                have c62b1 : decide (0 ≤ (ji61)) = true := decide_eq_true c62
                clear c62
                obtain ⟨ji63, hji63⟩ : ∃ j_ : Int, (shl .i64 (wrap64 ((ji60) - 1)) (ji61)) = j_ := ⟨_, rfl⟩
                replace H : (some (ji63, 0)) = some (r1, r2) := by first | (rw [hji63] at H; exact H) | (simp only [hji63] at H ⊢; exact H)
                (try rw [hji63] at A34)
                (try rw [hji63] at A35)
                (try rw [hji63] at A37)
                have hji63_ : (IntKind.i64.wrap ((wrap64 ((ji60) - 1)) * 2 ^ min (ji61).toNat 64)) = ji63 := hji63
                have hji63z : (ji61) ≤ 64 → (IntKind.i64.wrap ((wrap64 ((ji60) - 1)) * 2 ^ (ji61).toNat)) = ji63 := shl_small hji63
                have hji63y : (wrap64 ((wrap64 ((ji60) - 1)) * 2 ^ min (ji61).toNat 64)) = ji63 := (i64_w _).symm.trans hji63_
                have hji63x : (ji61) ≤ 64 → (wrap64 ((wrap64 ((ji60) - 1)) * 2 ^ (ji61).toNat)) = ji63 := fun h_ => (i64_w _).symm.trans (hji63z h_)
                simp only [Option.some.injEq, Prod.mk.injEq] at H
                obtain ⟨rfl, rfl⟩ := H
                try go_wp2
                have n0_ := Aside0.mk (blk_drew BK130.out)
                have n1_ := Aside0.mk (blk_drew BK131.out)
                have n2_ := Aside0.mk (blk_drew BK132.out)
                have n3_ := Aside0.mk (below_drew1 HB.out)
                clear BK130
                clear BK131
                clear BK132
                clear HB
                have BK130 := n0_
                have BK131 := n1_
                have BK132 := n2_
                have HB := n3_
                clear n0_ n1_ n2_ n3_
                refine start_ (n := 10) (S := fun w' => w'.cell? ⟨gb130, 0, none⟩ = some (.int .i64 a0_0) ∧ w'.cell? ⟨gb130, 1, none⟩ = some (.int .i64 a0_1) ∧ w'.cell? ⟨gb131, 0, none⟩ = some (.int .u64 a1_0) ∧ w'.cell? ⟨gb131, 1, none⟩ = some (.int .u64 a1_1)) (ds := []) #[false, false, false, false, false, false, false, false, false, false] (by kernel_rfl) rfl rfl ⟨(blk_cell BK130.out 0).trans rfl, (blk_cell BK130.out 1).trans rfl, (blk_cell BK131.out 0).trans rfl, (blk_cell BK131.out 1).trans rfl⟩ (fun hHeld => ?_); refine with_tabW zone_Hull.tab3 zone_Hull.bits3 (fun HT_ HW_ => ?_)
                generalize wc.drew = w64 at BK130 BK131 BK132 HB hHeld ⊢
                refine pure_ (i := 0) (N := some 23) (v := ?_) (a' := ?_) #[true, false, false, false, false, false, false, false, false, false] rfl rfl (any_of HT_.out (by kernel_rfl)) (fun _ _ _ h => h) (Or.inl ⟨by rfl, ?_⟩) ?_ ?_
                rotate_left
                · intro w'
                  go_simp
                  with_reducible rfl
                rotate_left
                · simp only [Act.put, List.setIfInBounds_toArray, List.set_cons_zero, List.set_cons_succ, i64_w, i32_w]
                  rfl
                refine pure_ (i := 4) (N := some 27) (v := ?_) (a' := ?_) #[true, false, false, false, true, false, false, false, false, false] rfl rfl (any_of HT_.out (by kernel_rfl)) (fun _ _ _ h => h) (Or.inl ⟨by rfl, ?_⟩) ?_ ?_
                rotate_left
                · intro w'
                  go_simp
                  with_reducible rfl
                rotate_left
                · simp only [Act.put, List.setIfInBounds_toArray, List.set_cons_zero, List.set_cons_succ, i64_w, i32_w]
                  rfl
                refine take_ (i := 1) (N := some 24) (v := ?_) (a' := ?_) #[true, true, false, false, true, false, false, false, false, false] rfl rfl (take_ofW HT_.out HW_.out (by kernel_rfl)) (fun _ _ _ h => h) (Or.inl ⟨by rfl, ?_⟩) hHeld ?_ ?_
                rotate_left
                · rintro w' ⟨s0, s1, s2, s3⟩
                  go_simp
                  with_reducible rfl
                rotate_left
                · simp only [Act.put, List.setIfInBounds_toArray, List.set_cons_zero, List.set_cons_succ, i64_w, i32_w]
                  rfl
                refine take_ (i := 2) (N := some 25) (v := ?_) (a' := ?_) #[true, true, true, false, true, false, false, false, false, false] rfl rfl (take_ofW HT_.out HW_.out (by kernel_rfl)) (fun _ _ _ h => h) (Or.inl ⟨by rfl, ?_⟩) hHeld ?_ ?_
                rotate_left
                · rintro w' ⟨s0, s1, s2, s3⟩
                  go_simp
                  with_reducible rfl
                rotate_left
                · simp only [Act.put, List.setIfInBounds_toArray, List.set_cons_zero, List.set_cons_succ, i64_w, i32_w]
                  rfl
                refine take_ (i := 5) (N := some 28) (v := ?_) (a' := ?_) #[true, true, true, false, true, true, false, false, false, false] rfl rfl (take_ofW HT_.out HW_.out (by kernel_rfl)) (fun _ _ _ h => h) (Or.inl ⟨by rfl, ?_⟩) hHeld ?_ ?_
                rotate_left
                · rintro w' ⟨s0, s1, s2, s3⟩
                  go_simp
                  with_reducible rfl
                rotate_left
                · simp only [Act.put, List.setIfInBounds_toArray, List.set_cons_zero, List.set_cons_succ, i64_w, i32_w]
                  rfl
                refine take_ (i := 6) (N := some 29) (v := ?_) (a' := ?_) #[true, true, true, false, true, true, true, false, false, false] rfl rfl (take_ofW HT_.out HW_.out (by kernel_rfl)) (fun _ _ _ h => h) (Or.inl ⟨by rfl, ?_⟩) hHeld ?_ ?_
                rotate_left
                · rintro w' ⟨s0, s1, s2, s3⟩
                  go_simp
                  with_reducible rfl
                rotate_left
                · simp only [Act.put, List.setIfInBounds_toArray, List.set_cons_zero, List.set_cons_succ, i64_w, i32_w]
                  rfl
                refine one_ (i := 3) (N := some 26) #[true, true, true, true, true, true, true, false, false, false] rfl rfl (one_of HT_.out (by kernel_rfl)) (by decide) (fun K hK => ?_)
                refine goes_ Try.func12 (by kernel_rfl) rfl #[.int .i64 a0_0, .agg #[.int .u64 a1_0, .int .u64 a1_1]] (by rfl) rfl rfl (by (try simp only [List.map_toArray, List.map_cons, List.map_nil]); first | done | rfl | (simp only [List.length_drop, List.length_take]; rfl)) ?_
                with_reducible refine (zone_class.calls a0_0 a1_0 a1_1 t135 _ A34.out).mono ?_
                rintro e w65 ⟨rfl, hb⟩
                refine ⟨_, rfl, ?_⟩
                have n0_ := Aside0.mk (blk_below (g := gb130) (o := .cells #[.int .i64 a0_0, .int .i64 a0_1] 32 (0, 0)) (by (with_reducible repeat (first | refine blk_drewN ?_ _ | refine blk_drew ?_ | refine blk_alloc ?_ _)); exact BK130.out) hb)
                have n1_ := Aside0.mk (blk_below (g := gb131) (o := .cells #[.int .u64 a1_0, .int .u64 a1_1] 24 (0, 0)) (by (with_reducible repeat (first | refine blk_drewN ?_ _ | refine blk_drew ?_ | refine blk_alloc ?_ _)); exact BK131.out) hb)
                have n2_ := Aside0.mk (blk_below (g := gb132) (o := .cells #[.int .u64 a2_0, .int .u64 a2_1] 24 (0, 0)) (by (with_reducible repeat (first | refine blk_drewN ?_ _ | refine blk_drew ?_ | refine blk_alloc ?_ _)); exact BK132.out) hb)
                have n3_ := Aside0.mk (below_step (by repeat (first | (with_reducible first | exact HB.out | apply below_alloc | apply pw_below_drewN | apply below_drew1 | refine below_set ?_ GE130.out | refine below_set ?_ GE131.out | refine below_set ?_ GE132.out) | exact HB.out)) hb)
                clear BK130
                clear BK131
                clear BK132
                clear HB
                have BK130 := n0_
                have BK131 := n1_
                have BK132 := n2_
                have HB := n3_
                clear n0_ n1_ n2_ n3_
                (try clear hb)
                (try clear hb2)
                (try clear hk)
                (try clear hi)
                refine hK.out _ _ ⟨(blk_cell BK130.out 0).trans rfl, (blk_cell BK130.out 1).trans rfl, (blk_cell BK131.out 0).trans rfl, (blk_cell BK131.out 1).trans rfl⟩ (fun hHeld => ?_)
                clear hK K
                refine norm_ (a' := ?_) ?_ ?_
                rotate_left
                · show Act.put _ (some 26) _ = _
                  simp only [Act.put, List.setIfInBounds_toArray, List.set_cons_zero, List.set_cons_succ, i64_w, i32_w]
                  rfl
                refine one_ (i := 7) (N := some 30) #[true, true, true, true, true, true, true, true, false, false] rfl rfl (one_of HT_.out (by kernel_rfl)) (by decide) (fun K hK => ?_)
                refine goes_ Try.func12 (by kernel_rfl) rfl #[.int .i64 a0_1, .agg #[.int .u64 a1_0, .int .u64 a1_1]] (by rfl) rfl rfl (by (try simp only [List.map_toArray, List.map_cons, List.map_nil]); first | done | rfl | (simp only [List.length_drop, List.length_take]; rfl)) ?_
                with_reducible refine (zone_class.calls a0_1 a1_0 a1_1 t136 _ A35.out).mono ?_
                rintro e w66 ⟨rfl, hb⟩
                refine ⟨_, rfl, ?_⟩
                have n0_ := Aside0.mk (blk_below (g := gb130) (o := .cells #[.int .i64 a0_0, .int .i64 a0_1] 32 (0, 0)) (by (with_reducible repeat (first | refine blk_drewN ?_ _ | refine blk_drew ?_ | refine blk_alloc ?_ _)); exact BK130.out) hb)
                have n1_ := Aside0.mk (blk_below (g := gb131) (o := .cells #[.int .u64 a1_0, .int .u64 a1_1] 24 (0, 0)) (by (with_reducible repeat (first | refine blk_drewN ?_ _ | refine blk_drew ?_ | refine blk_alloc ?_ _)); exact BK131.out) hb)
                have n2_ := Aside0.mk (blk_below (g := gb132) (o := .cells #[.int .u64 a2_0, .int .u64 a2_1] 24 (0, 0)) (by (with_reducible repeat (first | refine blk_drewN ?_ _ | refine blk_drew ?_ | refine blk_alloc ?_ _)); exact BK132.out) hb)
                have n3_ := Aside0.mk (below_step (by repeat (first | (with_reducible first | exact HB.out | apply below_alloc | apply pw_below_drewN | apply below_drew1 | refine below_set ?_ GE130.out | refine below_set ?_ GE131.out | refine below_set ?_ GE132.out) | exact HB.out)) hb)
                clear BK130
                clear BK131
                clear BK132
                clear HB
                have BK130 := n0_
                have BK131 := n1_
                have BK132 := n2_
                have HB := n3_
                clear n0_ n1_ n2_ n3_
                (try clear hb)
                (try clear hb2)
                (try clear hk)
                (try clear hi)
                refine hK.out _ _ ⟨(blk_cell BK130.out 0).trans rfl, (blk_cell BK130.out 1).trans rfl, (blk_cell BK131.out 0).trans rfl, (blk_cell BK131.out 1).trans rfl⟩ (fun hHeld => ?_)
                clear hK K
                refine norm_ (a' := ?_) ?_ ?_
                rotate_left
                · show Act.put _ (some 30) _ = _
                  simp only [Act.put, List.setIfInBounds_toArray, List.set_cons_zero, List.set_cons_succ, i64_w, i32_w]
                  rfl
                refine pure_ (i := 8) (N := some 8) (v := ?_) (a' := ?_) #[true, true, true, true, true, true, true, true, true, false] rfl rfl (any_of HT_.out (by kernel_rfl)) (fun _ _ _ h => h) (Or.inl ⟨by rfl, ?_⟩) ?_ ?_
                rotate_left
                · intro w'
                  go_simp
                  with_reducible rfl
                rotate_left
                · simp only [Act.put, List.setIfInBounds_toArray, List.set_cons_zero, List.set_cons_succ, i64_w, i32_w]
                  rfl
                refine pure_ (i := 9) (N := some 9) (v := ?_) (a' := ?_) #[true, true, true, true, true, true, true, true, true, true] rfl rfl (any_of HT_.out (by kernel_rfl)) (fun _ _ _ h => h) (Or.inl ⟨by rfl, ?_⟩) ?_ ?_
                rotate_left
                · intro w'
                  go_simp
                  with_reducible rfl
                rotate_left
                · simp only [Act.put, List.setIfInBounds_toArray, List.set_cons_zero, List.set_cons_succ, i64_w, i32_w]
                  rfl
                refine done_ (done_of HT_.out (by kernel_rfl)) ?_
                have hnb67 := NB130_131.out
                have hnc67 := NB131_130.out
                have hnb68 := NB130_132.out
                have hnc68 := NB132_130.out
                have hcz69_0 : w66.cell? ⟨gb130, 0, none⟩ = some (.int .i64 a0_0) := (blk_cell BK130.out 0).trans rfl
                have hcz69_1 : w66.cell? ⟨gb130, 1, none⟩ = some (.int .i64 a0_1) := (blk_cell BK130.out 1).trans rfl
                have hfz69_0 := blk_frozen BK130.out 0
                have hfz69_1 := blk_frozen BK130.out 1
                have hnb70 := NB132_131.out
                have hnc70 := NB131_132.out
                have hcz71_0 : w66.cell? ⟨gb132, 0, none⟩ = some (.int .u64 a2_0) := (blk_cell BK132.out 0).trans rfl
                have hcz71_1 : w66.cell? ⟨gb132, 1, none⟩ = some (.int .u64 a2_1) := (blk_cell BK132.out 1).trans rfl
                have hfz71_0 := blk_frozen BK132.out 0
                have hfz71_1 := blk_frozen BK132.out 1
                try go_wp2_with (first | ((with_reducible refine gate_callee (f := 12) rfl ?_); refine goesL_ (some 37) rfl rfl Try.func12 (by kernel_rfl) rfl #[.int .i64 a0_0, .agg #[.int .u64 a2_0, .int .u64 a2_1]] rfl (by (try simp only [List.map_toArray, List.map_cons, List.map_nil]); first | done | rfl | (simp only [List.length_drop, List.length_take]; rfl)) ?_; (with_reducible refine (zone_class.calls a0_0 a2_0 a2_1 t137 _ A37.out).mono ?_); rintro e w72 ⟨rfl, hb⟩; refine ⟨_, rfl, ?_⟩; have n0_ := Aside0.mk (blk_below (g := gb130) (o := .cells #[.int .i64 a0_0, .int .i64 a0_1] 32 (0, 0)) (by (with_reducible repeat (first | refine blk_drewN ?_ _ | refine blk_drew ?_ | refine blk_alloc ?_ _)); exact BK130.out) hb); have n1_ := Aside0.mk (blk_below (g := gb131) (o := .cells #[.int .u64 a1_0, .int .u64 a1_1] 24 (0, 0)) (by (with_reducible repeat (first | refine blk_drewN ?_ _ | refine blk_drew ?_ | refine blk_alloc ?_ _)); exact BK131.out) hb); have n2_ := Aside0.mk (blk_below (g := gb132) (o := .cells #[.int .u64 a2_0, .int .u64 a2_1] 24 (0, 0)) (by (with_reducible repeat (first | refine blk_drewN ?_ _ | refine blk_drew ?_ | refine blk_alloc ?_ _)); exact BK132.out) hb); have n3_ := Aside0.mk (below_step (by repeat (first | (with_reducible first | exact HB.out | apply below_alloc | apply pw_below_drewN | apply below_drew1 | refine below_set ?_ GE130.out | refine below_set ?_ GE131.out | refine below_set ?_ GE132.out) | exact HB.out)) hb); clear BK130; clear BK131; clear BK132; clear HB; have BK130 := n0_; have BK131 := n1_; have BK132 := n2_; have HB := n3_; clear n0_ n1_ n2_ n3_; (try clear hb); (try clear hb2); (try clear hk); (try clear hi); have hcz73_0 : w72.cell? ⟨gb130, 0, none⟩ = some (.int .i64 a0_0) := (blk_cell BK130.out 0).trans rfl; have hcz73_1 : w72.cell? ⟨gb130, 1, none⟩ = some (.int .i64 a0_1) := (blk_cell BK130.out 1).trans rfl; have hfz73_0 := blk_frozen BK130.out 0; have hfz73_1 := blk_frozen BK130.out 1))
                go_ret2
                exact ⟨by first | rfl | (simp [errW_none, errW_some] <;> rfl) | (simp only [← hji58, ← hji60, ← hji61, ← hji63]; first | rfl | (simp [errW_none, errW_some] <;> rfl)) | (simp [*, errW_none, errW_some] <;> rfl), by repeat (first | (with_reducible first | exact HB.out | apply below_alloc | apply pw_below_drewN | apply below_drew1 | refine below_set ?_ GE130.out | refine below_set ?_ GE131.out | refine below_set ?_ GE132.out) | exact HB.out)⟩
              · rw [if_neg c62] at H
                exact absurd H (by simp)
            · rw [if_neg c59] at H
              exact absurd H (by simp)
        · rw [if_neg c36] at H
          have c36b0 : decide (0 < a0_0) = false := decide_eq_false c36
          clear c36
          by_cases c74 : a0_1 < 0
          · rw [if_pos c74] at H
            have c74b0 : decide (a0_1 < 0) = true := decide_eq_true c74
            clear c74
            replace H := Option.bind_eq_some_iff.mp H
            obtain ⟨t139, A750, H⟩ := H
            replace H : (if 0 ≤ (wrap64 ((wrap64 (t139 - t135)) + 1)) then (if 0 ≤ (wrap64 (t135 + 4)) then (some (shl .i64 (wrap64 ((shl .i64 1 (wrap64 ((wrap64 (t139 - t135)) + 1))) - 1)) (wrap64 (t135 + 4)), 0)) else (none)) else (none)) = some (r1, r2) := H
            have A75 := Aside0.mk A750
            clear A750
            obtain ⟨ji76, hji76⟩ : ∃ j_ : Int, (wrap64 ((wrap64 (t139 - t135)) + 1)) = j_ := ⟨_, rfl⟩
            replace H : (if 0 ≤ (ji76) then (if 0 ≤ (wrap64 (t135 + 4)) then (some (shl .i64 (wrap64 ((shl .i64 1 (ji76)) - 1)) (wrap64 (t135 + 4)), 0)) else (none)) else (none)) = some (r1, r2) := by first | (rw [hji76] at H; exact H) | (simp only [hji76] at H ⊢; exact H)
            (try rw [hji76] at A34)
            (try rw [hji76] at A35)
            (try rw [hji76] at A75)
            have hji76w : (IntKind.i64.wrap ((wrap64 (t139 - t135)) + 1)) = ji76 := (i64_w _).trans hji76
            by_cases c77 : 0 ≤ (ji76)
            · rw [if_pos c77] at H
              have c77b0 := eq_true c77
              have c77b1 : decide (0 ≤ (ji76)) = true := decide_eq_true c77
              clear c77
              obtain ⟨ji78, hji78⟩ : ∃ j_ : Int, (shl .i64 1 (ji76)) = j_ := ⟨_, rfl⟩
              replace H : (if 0 ≤ (wrap64 (t135 + 4)) then (some (shl .i64 (wrap64 ((ji78) - 1)) (wrap64 (t135 + 4)), 0)) else (none)) = some (r1, r2) := by first | (rw [hji78] at H; exact H) | (simp only [hji78] at H ⊢; exact H)
              (try rw [hji78] at A34)
              (try rw [hji78] at A35)
              (try rw [hji78] at A75)
              have hji78_ : (IntKind.i64.wrap (1 * 2 ^ min (ji76).toNat 64)) = ji78 := hji78
              have hji78z : (ji76) ≤ 64 → (IntKind.i64.wrap (1 * 2 ^ (ji76).toNat)) = ji78 := shl_small hji78
              have hji78u : (IntKind.i64.wrap (2 ^ min (ji76).toNat 64)) = ji78 := by have h_ := hji78_; rw [Int.one_mul] at h_; exact h_
              have hji78v : (ji76) ≤ 64 → (IntKind.i64.wrap (2 ^ (ji76).toNat)) = ji78 := fun hle_ => by have h_ := hji78z hle_; rw [Int.one_mul] at h_; exact h_
              have hji78y : (wrap64 (1 * 2 ^ min (ji76).toNat 64)) = ji78 := (i64_w _).symm.trans hji78_
              have hji78x : (ji76) ≤ 64 → (wrap64 (1 * 2 ^ (ji76).toNat)) = ji78 := fun h_ => (i64_w _).symm.trans (hji78z h_)
              obtain ⟨ji79, hji79⟩ : ∃ j_ : Int, (wrap64 (t135 + 4)) = j_ := ⟨_, rfl⟩
              replace H : (if 0 ≤ (ji79) then (some (shl .i64 (wrap64 ((ji78) - 1)) (ji79), 0)) else (none)) = some (r1, r2) := by first | (rw [hji79] at H; exact H) | (simp only [hji79] at H ⊢; exact H)
              (try rw [hji79] at A34)
              (try rw [hji79] at A35)
              (try rw [hji79] at A75)
              have hji79w : (IntKind.i64.wrap (t135 + 4)) = ji79 := (i64_w _).trans hji79
              by_cases c80 : 0 ≤ (ji79)
              · rw [if_pos c80] at H
                have c80b0 := eq_true c80
                have c80b1 : decide (0 ≤ (ji79)) = true := decide_eq_true c80
                clear c80
                obtain ⟨ji81, hji81⟩ : ∃ j_ : Int, (shl .i64 (wrap64 ((ji78) - 1)) (ji79)) = j_ := ⟨_, rfl⟩
                replace H : (some (ji81, 0)) = some (r1, r2) := by first | (rw [hji81] at H; exact H) | (simp only [hji81] at H ⊢; exact H)
                (try rw [hji81] at A34)
                (try rw [hji81] at A35)
                (try rw [hji81] at A75)
                have hji81_ : (IntKind.i64.wrap ((wrap64 ((ji78) - 1)) * 2 ^ min (ji79).toNat 64)) = ji81 := hji81
                have hji81z : (ji79) ≤ 64 → (IntKind.i64.wrap ((wrap64 ((ji78) - 1)) * 2 ^ (ji79).toNat)) = ji81 := shl_small hji81
                have hji81y : (wrap64 ((wrap64 ((ji78) - 1)) * 2 ^ min (ji79).toNat 64)) = ji81 := (i64_w _).symm.trans hji81_
                have hji81x : (ji79) ≤ 64 → (wrap64 ((wrap64 ((ji78) - 1)) * 2 ^ (ji79).toNat)) = ji81 := fun h_ => (i64_w _).symm.trans (hji81z h_)
                simp only [Option.some.injEq, Prod.mk.injEq] at H
                obtain ⟨rfl, rfl⟩ := H
                try go_wp2
                have n0_ := Aside0.mk (blk_drew BK130.out)
                have n1_ := Aside0.mk (blk_drew BK131.out)
                have n2_ := Aside0.mk (blk_drew BK132.out)
                have n3_ := Aside0.mk (below_drew1 HB.out)
                clear BK130
                clear BK131
                clear BK132
                clear HB
                have BK130 := n0_
                have BK131 := n1_
                have BK132 := n2_
                have HB := n3_
                clear n0_ n1_ n2_ n3_
                refine start_ (n := 10) (S := fun w' => w'.cell? ⟨gb130, 0, none⟩ = some (.int .i64 a0_0) ∧ w'.cell? ⟨gb130, 1, none⟩ = some (.int .i64 a0_1) ∧ w'.cell? ⟨gb131, 0, none⟩ = some (.int .u64 a1_0) ∧ w'.cell? ⟨gb131, 1, none⟩ = some (.int .u64 a1_1)) (ds := []) #[false, false, false, false, false, false, false, false, false, false] (by kernel_rfl) rfl rfl ⟨(blk_cell BK130.out 0).trans rfl, (blk_cell BK130.out 1).trans rfl, (blk_cell BK131.out 0).trans rfl, (blk_cell BK131.out 1).trans rfl⟩ (fun hHeld => ?_); refine with_tabW zone_Hull.tab3 zone_Hull.bits3 (fun HT_ HW_ => ?_)
                generalize wc.drew = w82 at BK130 BK131 BK132 HB hHeld ⊢
                refine pure_ (i := 0) (N := some 23) (v := ?_) (a' := ?_) #[true, false, false, false, false, false, false, false, false, false] rfl rfl (any_of HT_.out (by kernel_rfl)) (fun _ _ _ h => h) (Or.inl ⟨by rfl, ?_⟩) ?_ ?_
                rotate_left
                · intro w'
                  go_simp
                  with_reducible rfl
                rotate_left
                · simp only [Act.put, List.setIfInBounds_toArray, List.set_cons_zero, List.set_cons_succ, i64_w, i32_w]
                  rfl
                refine pure_ (i := 4) (N := some 27) (v := ?_) (a' := ?_) #[true, false, false, false, true, false, false, false, false, false] rfl rfl (any_of HT_.out (by kernel_rfl)) (fun _ _ _ h => h) (Or.inl ⟨by rfl, ?_⟩) ?_ ?_
                rotate_left
                · intro w'
                  go_simp
                  with_reducible rfl
                rotate_left
                · simp only [Act.put, List.setIfInBounds_toArray, List.set_cons_zero, List.set_cons_succ, i64_w, i32_w]
                  rfl
                refine take_ (i := 1) (N := some 24) (v := ?_) (a' := ?_) #[true, true, false, false, true, false, false, false, false, false] rfl rfl (take_ofW HT_.out HW_.out (by kernel_rfl)) (fun _ _ _ h => h) (Or.inl ⟨by rfl, ?_⟩) hHeld ?_ ?_
                rotate_left
                · rintro w' ⟨s0, s1, s2, s3⟩
                  go_simp
                  with_reducible rfl
                rotate_left
                · simp only [Act.put, List.setIfInBounds_toArray, List.set_cons_zero, List.set_cons_succ, i64_w, i32_w]
                  rfl
                refine take_ (i := 2) (N := some 25) (v := ?_) (a' := ?_) #[true, true, true, false, true, false, false, false, false, false] rfl rfl (take_ofW HT_.out HW_.out (by kernel_rfl)) (fun _ _ _ h => h) (Or.inl ⟨by rfl, ?_⟩) hHeld ?_ ?_
                rotate_left
                · rintro w' ⟨s0, s1, s2, s3⟩
                  go_simp
                  with_reducible rfl
                rotate_left
                · simp only [Act.put, List.setIfInBounds_toArray, List.set_cons_zero, List.set_cons_succ, i64_w, i32_w]
                  rfl
                refine take_ (i := 5) (N := some 28) (v := ?_) (a' := ?_) #[true, true, true, false, true, true, false, false, false, false] rfl rfl (take_ofW HT_.out HW_.out (by kernel_rfl)) (fun _ _ _ h => h) (Or.inl ⟨by rfl, ?_⟩) hHeld ?_ ?_
                rotate_left
                · rintro w' ⟨s0, s1, s2, s3⟩
                  go_simp
                  with_reducible rfl
                rotate_left
                · simp only [Act.put, List.setIfInBounds_toArray, List.set_cons_zero, List.set_cons_succ, i64_w, i32_w]
                  rfl
                refine take_ (i := 6) (N := some 29) (v := ?_) (a' := ?_) #[true, true, true, false, true, true, true, false, false, false] rfl rfl (take_ofW HT_.out HW_.out (by kernel_rfl)) (fun _ _ _ h => h) (Or.inl ⟨by rfl, ?_⟩) hHeld ?_ ?_
                rotate_left
                · rintro w' ⟨s0, s1, s2, s3⟩
                  go_simp
                  with_reducible rfl
                rotate_left
                · simp only [Act.put, List.setIfInBounds_toArray, List.set_cons_zero, List.set_cons_succ, i64_w, i32_w]
                  rfl
                refine one_ (i := 3) (N := some 26) #[true, true, true, true, true, true, true, false, false, false] rfl rfl (one_of HT_.out (by kernel_rfl)) (by decide) (fun K hK => ?_)
                refine goes_ Try.func12 (by kernel_rfl) rfl #[.int .i64 a0_0, .agg #[.int .u64 a1_0, .int .u64 a1_1]] (by rfl) rfl rfl (by (try simp only [List.map_toArray, List.map_cons, List.map_nil]); first | done | rfl | (simp only [List.length_drop, List.length_take]; rfl)) ?_
                with_reducible refine (zone_class.calls a0_0 a1_0 a1_1 t135 _ A34.out).mono ?_
                rintro e w83 ⟨rfl, hb⟩
                refine ⟨_, rfl, ?_⟩
                have n0_ := Aside0.mk (blk_below (g := gb130) (o := .cells #[.int .i64 a0_0, .int .i64 a0_1] 32 (0, 0)) (by (with_reducible repeat (first | refine blk_drewN ?_ _ | refine blk_drew ?_ | refine blk_alloc ?_ _)); exact BK130.out) hb)
                have n1_ := Aside0.mk (blk_below (g := gb131) (o := .cells #[.int .u64 a1_0, .int .u64 a1_1] 24 (0, 0)) (by (with_reducible repeat (first | refine blk_drewN ?_ _ | refine blk_drew ?_ | refine blk_alloc ?_ _)); exact BK131.out) hb)
                have n2_ := Aside0.mk (blk_below (g := gb132) (o := .cells #[.int .u64 a2_0, .int .u64 a2_1] 24 (0, 0)) (by (with_reducible repeat (first | refine blk_drewN ?_ _ | refine blk_drew ?_ | refine blk_alloc ?_ _)); exact BK132.out) hb)
                have n3_ := Aside0.mk (below_step (by repeat (first | (with_reducible first | exact HB.out | apply below_alloc | apply pw_below_drewN | apply below_drew1 | refine below_set ?_ GE130.out | refine below_set ?_ GE131.out | refine below_set ?_ GE132.out) | exact HB.out)) hb)
                clear BK130
                clear BK131
                clear BK132
                clear HB
                have BK130 := n0_
                have BK131 := n1_
                have BK132 := n2_
                have HB := n3_
                clear n0_ n1_ n2_ n3_
                (try clear hb)
                (try clear hb2)
                (try clear hk)
                (try clear hi)
                refine hK.out _ _ ⟨(blk_cell BK130.out 0).trans rfl, (blk_cell BK130.out 1).trans rfl, (blk_cell BK131.out 0).trans rfl, (blk_cell BK131.out 1).trans rfl⟩ (fun hHeld => ?_)
                clear hK K
                refine norm_ (a' := ?_) ?_ ?_
                rotate_left
                · show Act.put _ (some 26) _ = _
                  simp only [Act.put, List.setIfInBounds_toArray, List.set_cons_zero, List.set_cons_succ, i64_w, i32_w]
                  rfl
                refine one_ (i := 7) (N := some 30) #[true, true, true, true, true, true, true, true, false, false] rfl rfl (one_of HT_.out (by kernel_rfl)) (by decide) (fun K hK => ?_)
                refine goes_ Try.func12 (by kernel_rfl) rfl #[.int .i64 a0_1, .agg #[.int .u64 a1_0, .int .u64 a1_1]] (by rfl) rfl rfl (by (try simp only [List.map_toArray, List.map_cons, List.map_nil]); first | done | rfl | (simp only [List.length_drop, List.length_take]; rfl)) ?_
                with_reducible refine (zone_class.calls a0_1 a1_0 a1_1 t136 _ A35.out).mono ?_
                rintro e w84 ⟨rfl, hb⟩
                refine ⟨_, rfl, ?_⟩
                have n0_ := Aside0.mk (blk_below (g := gb130) (o := .cells #[.int .i64 a0_0, .int .i64 a0_1] 32 (0, 0)) (by (with_reducible repeat (first | refine blk_drewN ?_ _ | refine blk_drew ?_ | refine blk_alloc ?_ _)); exact BK130.out) hb)
                have n1_ := Aside0.mk (blk_below (g := gb131) (o := .cells #[.int .u64 a1_0, .int .u64 a1_1] 24 (0, 0)) (by (with_reducible repeat (first | refine blk_drewN ?_ _ | refine blk_drew ?_ | refine blk_alloc ?_ _)); exact BK131.out) hb)
                have n2_ := Aside0.mk (blk_below (g := gb132) (o := .cells #[.int .u64 a2_0, .int .u64 a2_1] 24 (0, 0)) (by (with_reducible repeat (first | refine blk_drewN ?_ _ | refine blk_drew ?_ | refine blk_alloc ?_ _)); exact BK132.out) hb)
                have n3_ := Aside0.mk (below_step (by repeat (first | (with_reducible first | exact HB.out | apply below_alloc | apply pw_below_drewN | apply below_drew1 | refine below_set ?_ GE130.out | refine below_set ?_ GE131.out | refine below_set ?_ GE132.out) | exact HB.out)) hb)
                clear BK130
                clear BK131
                clear BK132
                clear HB
                have BK130 := n0_
                have BK131 := n1_
                have BK132 := n2_
                have HB := n3_
                clear n0_ n1_ n2_ n3_
                (try clear hb)
                (try clear hb2)
                (try clear hk)
                (try clear hi)
                refine hK.out _ _ ⟨(blk_cell BK130.out 0).trans rfl, (blk_cell BK130.out 1).trans rfl, (blk_cell BK131.out 0).trans rfl, (blk_cell BK131.out 1).trans rfl⟩ (fun hHeld => ?_)
                clear hK K
                refine norm_ (a' := ?_) ?_ ?_
                rotate_left
                · show Act.put _ (some 30) _ = _
                  simp only [Act.put, List.setIfInBounds_toArray, List.set_cons_zero, List.set_cons_succ, i64_w, i32_w]
                  rfl
                refine pure_ (i := 8) (N := some 8) (v := ?_) (a' := ?_) #[true, true, true, true, true, true, true, true, true, false] rfl rfl (any_of HT_.out (by kernel_rfl)) (fun _ _ _ h => h) (Or.inl ⟨by rfl, ?_⟩) ?_ ?_
                rotate_left
                · intro w'
                  go_simp
                  with_reducible rfl
                rotate_left
                · simp only [Act.put, List.setIfInBounds_toArray, List.set_cons_zero, List.set_cons_succ, i64_w, i32_w]
                  rfl
                refine pure_ (i := 9) (N := some 9) (v := ?_) (a' := ?_) #[true, true, true, true, true, true, true, true, true, true] rfl rfl (any_of HT_.out (by kernel_rfl)) (fun _ _ _ h => h) (Or.inl ⟨by rfl, ?_⟩) ?_ ?_
                rotate_left
                · intro w'
                  go_simp
                  with_reducible rfl
                rotate_left
                · simp only [Act.put, List.setIfInBounds_toArray, List.set_cons_zero, List.set_cons_succ, i64_w, i32_w]
                  rfl
                refine done_ (done_of HT_.out (by kernel_rfl)) ?_
                have hnb85 := NB130_131.out
                have hnc85 := NB131_130.out
                have hnb86 := NB130_132.out
                have hnc86 := NB132_130.out
                have hcz87_0 : w84.cell? ⟨gb130, 0, none⟩ = some (.int .i64 a0_0) := (blk_cell BK130.out 0).trans rfl
                have hcz87_1 : w84.cell? ⟨gb130, 1, none⟩ = some (.int .i64 a0_1) := (blk_cell BK130.out 1).trans rfl
                have hfz87_0 := blk_frozen BK130.out 0
                have hfz87_1 := blk_frozen BK130.out 1
                have hnb88 := NB132_131.out
                have hnc88 := NB131_132.out
                have hcz89_0 : w84.cell? ⟨gb132, 0, none⟩ = some (.int .u64 a2_0) := (blk_cell BK132.out 0).trans rfl
                have hcz89_1 : w84.cell? ⟨gb132, 1, none⟩ = some (.int .u64 a2_1) := (blk_cell BK132.out 1).trans rfl
                have hfz89_0 := blk_frozen BK132.out 0
                have hfz89_1 := blk_frozen BK132.out 1
                try go_wp2_with (first | ((with_reducible refine gate_callee (f := 12) rfl ?_); refine goesL_ (some 44) rfl rfl Try.func12 (by kernel_rfl) rfl #[.int .i64 a0_1, .agg #[.int .u64 a2_0, .int .u64 a2_1]] rfl (by (try simp only [List.map_toArray, List.map_cons, List.map_nil]); first | done | rfl | (simp only [List.length_drop, List.length_take]; rfl)) ?_; (with_reducible refine (zone_class.calls a0_1 a2_0 a2_1 t139 _ A75.out).mono ?_); rintro e w90 ⟨rfl, hb⟩; refine ⟨_, rfl, ?_⟩; have n0_ := Aside0.mk (blk_below (g := gb130) (o := .cells #[.int .i64 a0_0, .int .i64 a0_1] 32 (0, 0)) (by (with_reducible repeat (first | refine blk_drewN ?_ _ | refine blk_drew ?_ | refine blk_alloc ?_ _)); exact BK130.out) hb); have n1_ := Aside0.mk (blk_below (g := gb131) (o := .cells #[.int .u64 a1_0, .int .u64 a1_1] 24 (0, 0)) (by (with_reducible repeat (first | refine blk_drewN ?_ _ | refine blk_drew ?_ | refine blk_alloc ?_ _)); exact BK131.out) hb); have n2_ := Aside0.mk (blk_below (g := gb132) (o := .cells #[.int .u64 a2_0, .int .u64 a2_1] 24 (0, 0)) (by (with_reducible repeat (first | refine blk_drewN ?_ _ | refine blk_drew ?_ | refine blk_alloc ?_ _)); exact BK132.out) hb); have n3_ := Aside0.mk (below_step (by repeat (first | (with_reducible first | exact HB.out | apply below_alloc | apply pw_below_drewN | apply below_drew1 | refine below_set ?_ GE130.out | refine below_set ?_ GE131.out | refine below_set ?_ GE132.out) | exact HB.out)) hb); clear BK130; clear BK131; clear BK132; clear HB; have BK130 := n0_; have BK131 := n1_; have BK132 := n2_; have HB := n3_; clear n0_ n1_ n2_ n3_; (try clear hb); (try clear hb2); (try clear hk); (try clear hi)))
                go_ret2
                exact ⟨by first | rfl | (simp [errW_none, errW_some] <;> rfl) | (simp only [← hji76, ← hji78, ← hji79, ← hji81]; first | rfl | (simp [errW_none, errW_some] <;> rfl)) | (simp [*, errW_none, errW_some] <;> rfl), by repeat (first | (with_reducible first | exact HB.out | apply below_alloc | apply pw_below_drewN | apply below_drew1 | refine below_set ?_ GE130.out | refine below_set ?_ GE131.out | refine below_set ?_ GE132.out) | exact HB.out)⟩
              · rw [if_neg c80] at H
                exact absurd H (by simp)
            · rw [if_neg c77] at H
              exact absurd H (by simp)
          · rw [if_neg c74] at H
            have c74b0 : decide (a0_1 < 0) = false := decide_eq_false c74
            clear c74
            obtain ⟨ji91, hji91⟩ : ∃ j_ : Int, (wrap64 ((wrap64 (t136 - t135)) + 1)) = j_ := ⟨_, rfl⟩
            replace H : (if 0 ≤ (ji91) then (if 0 ≤ (wrap64 (t135 + 4)) then (some (shl .i64 (wrap64 ((shl .i64 1 (ji91)) - 1)) (wrap64 (t135 + 4)), 0)) else (none)) else (none)) = some (r1, r2) := by first | (rw [hji91] at H; exact H) | (simp only [hji91] at H ⊢; exact H)
            (try rw [hji91] at A34)
            (try rw [hji91] at A35)
            have hji91w : (IntKind.i64.wrap ((wrap64 (t136 - t135)) + 1)) = ji91 := (i64_w _).trans hji91
            by_cases c92 : 0 ≤ (ji91)
            · rw [if_pos c92] at H
              have c92b0 := eq_true c92
              have c92b1 : decide (0 ≤ (ji91)) = true := decide_eq_true c92
              clear c92
              obtain ⟨ji93, hji93⟩ : ∃ j_ : Int, (shl .i64 1 (ji91)) = j_ := ⟨_, rfl⟩
              replace H : (if 0 ≤ (wrap64 (t135 + 4)) then (some (shl .i64 (wrap64 ((ji93) - 1)) (wrap64 (t135 + 4)), 0)) else (none)) = some (r1, r2) := by first | (rw [hji93] at H; exact H) | (simp only [hji93] at H ⊢; exact H)
              (try rw [hji93] at A34)
              (try rw [hji93] at A35)
              have hji93_ : (IntKind.i64.wrap (1 * 2 ^ min (ji91).toNat 64)) = ji93 := hji93
              have hji93z : (ji91) ≤ 64 → (IntKind.i64.wrap (1 * 2 ^ (ji91).toNat)) = ji93 := shl_small hji93
              have hji93u : (IntKind.i64.wrap (2 ^ min (ji91).toNat 64)) = ji93 := by have h_ := hji93_; rw [Int.one_mul] at h_; exact h_
              have hji93v : (ji91) ≤ 64 → (IntKind.i64.wrap (2 ^ (ji91).toNat)) = ji93 := fun hle_ => by have h_ := hji93z hle_; rw [Int.one_mul] at h_; exact h_
              have hji93y : (wrap64 (1 * 2 ^ min (ji91).toNat 64)) = ji93 := (i64_w _).symm.trans hji93_
              have hji93x : (ji91) ≤ 64 → (wrap64 (1 * 2 ^ (ji91).toNat)) = ji93 := fun h_ => (i64_w _).symm.trans (hji93z h_)
              obtain ⟨ji94, hji94⟩ : ∃ j_ : Int, (wrap64 (t135 + 4)) = j_ := ⟨_, rfl⟩
              replace H : (if 0 ≤ (ji94) then (some (shl .i64 (wrap64 ((ji93) - 1)) (ji94), 0)) else (none)) = some (r1, r2) := by first | (rw [hji94] at H; exact H) | (simp only [hji94] at H ⊢; exact H)
              (try rw [hji94] at A34)
              (try rw [hji94] at A35)
              have hji94w : (IntKind.i64.wrap (t135 + 4)) = ji94 := (i64_w _).trans hji94
              by_cases c95 : 0 ≤ (ji94)
              · rw [if_pos c95] at H
                have c95b0 := eq_true c95
                have c95b1 : decide (0 ≤ (ji94)) = true := decide_eq_true c95
                clear c95
                obtain ⟨ji96, hji96⟩ : ∃ j_ : Int, (shl .i64 (wrap64 ((ji93) - 1)) (ji94)) = j_ := ⟨_, rfl⟩
                replace H : (some (ji96, 0)) = some (r1, r2) := by first | (rw [hji96] at H; exact H) | (simp only [hji96] at H ⊢; exact H)
                (try rw [hji96] at A34)
                (try rw [hji96] at A35)
                have hji96_ : (IntKind.i64.wrap ((wrap64 ((ji93) - 1)) * 2 ^ min (ji94).toNat 64)) = ji96 := hji96
                have hji96z : (ji94) ≤ 64 → (IntKind.i64.wrap ((wrap64 ((ji93) - 1)) * 2 ^ (ji94).toNat)) = ji96 := shl_small hji96
                have hji96y : (wrap64 ((wrap64 ((ji93) - 1)) * 2 ^ min (ji94).toNat 64)) = ji96 := (i64_w _).symm.trans hji96_
                have hji96x : (ji94) ≤ 64 → (wrap64 ((wrap64 ((ji93) - 1)) * 2 ^ (ji94).toNat)) = ji96 := fun h_ => (i64_w _).symm.trans (hji96z h_)
                simp only [Option.some.injEq, Prod.mk.injEq] at H
                obtain ⟨rfl, rfl⟩ := H
                try go_wp2
                have n0_ := Aside0.mk (blk_drew BK130.out)
                have n1_ := Aside0.mk (blk_drew BK131.out)
                have n2_ := Aside0.mk (blk_drew BK132.out)
                have n3_ := Aside0.mk (below_drew1 HB.out)
                clear BK130
                clear BK131
                clear BK132
                clear HB
                have BK130 := n0_
                have BK131 := n1_
                have BK132 := n2_
                have HB := n3_
                clear n0_ n1_ n2_ n3_
                refine start_ (n := 10) (S := fun w' => w'.cell? ⟨gb130, 0, none⟩ = some (.int .i64 a0_0) ∧ w'.cell? ⟨gb130, 1, none⟩ = some (.int .i64 a0_1) ∧ w'.cell? ⟨gb131, 0, none⟩ = some (.int .u64 a1_0) ∧ w'.cell? ⟨gb131, 1, none⟩ = some (.int .u64 a1_1)) (ds := []) #[false, false, false, false, false, false, false, false, false, false] (by kernel_rfl) rfl rfl ⟨(blk_cell BK130.out 0).trans rfl, (blk_cell BK130.out 1).trans rfl, (blk_cell BK131.out 0).trans rfl, (blk_cell BK131.out 1).trans rfl⟩ (fun hHeld => ?_); refine with_tabW zone_Hull.tab3 zone_Hull.bits3 (fun HT_ HW_ => ?_)
                generalize wc.drew = w97 at BK130 BK131 BK132 HB hHeld ⊢
                refine pure_ (i := 0) (N := some 23) (v := ?_) (a' := ?_) #[true, false, false, false, false, false, false, false, false, false] rfl rfl (any_of HT_.out (by kernel_rfl)) (fun _ _ _ h => h) (Or.inl ⟨by rfl, ?_⟩) ?_ ?_
                rotate_left
                · intro w'
                  go_simp
                  with_reducible rfl
                rotate_left
                · simp only [Act.put, List.setIfInBounds_toArray, List.set_cons_zero, List.set_cons_succ, i64_w, i32_w]
                  rfl
                refine pure_ (i := 4) (N := some 27) (v := ?_) (a' := ?_) #[true, false, false, false, true, false, false, false, false, false] rfl rfl (any_of HT_.out (by kernel_rfl)) (fun _ _ _ h => h) (Or.inl ⟨by rfl, ?_⟩) ?_ ?_
                rotate_left
                · intro w'
                  go_simp
                  with_reducible rfl
                rotate_left
                · simp only [Act.put, List.setIfInBounds_toArray, List.set_cons_zero, List.set_cons_succ, i64_w, i32_w]
                  rfl
                refine take_ (i := 1) (N := some 24) (v := ?_) (a' := ?_) #[true, true, false, false, true, false, false, false, false, false] rfl rfl (take_ofW HT_.out HW_.out (by kernel_rfl)) (fun _ _ _ h => h) (Or.inl ⟨by rfl, ?_⟩) hHeld ?_ ?_
                rotate_left
                · rintro w' ⟨s0, s1, s2, s3⟩
                  go_simp
                  with_reducible rfl
                rotate_left
                · simp only [Act.put, List.setIfInBounds_toArray, List.set_cons_zero, List.set_cons_succ, i64_w, i32_w]
                  rfl
                refine take_ (i := 2) (N := some 25) (v := ?_) (a' := ?_) #[true, true, true, false, true, false, false, false, false, false] rfl rfl (take_ofW HT_.out HW_.out (by kernel_rfl)) (fun _ _ _ h => h) (Or.inl ⟨by rfl, ?_⟩) hHeld ?_ ?_
                rotate_left
                · rintro w' ⟨s0, s1, s2, s3⟩
                  go_simp
                  with_reducible rfl
                rotate_left
                · simp only [Act.put, List.setIfInBounds_toArray, List.set_cons_zero, List.set_cons_succ, i64_w, i32_w]
                  rfl
                refine take_ (i := 5) (N := some 28) (v := ?_) (a' := ?_) #[true, true, true, false, true, true, false, false, false, false] rfl rfl (take_ofW HT_.out HW_.out (by kernel_rfl)) (fun _ _ _ h => h) (Or.inl ⟨by rfl, ?_⟩) hHeld ?_ ?_
                rotate_left
                · rintro w' ⟨s0, s1, s2, s3⟩
                  go_simp
                  with_reducible rfl
                rotate_left
                · simp only [Act.put, List.setIfInBounds_toArray, List.set_cons_zero, List.set_cons_succ, i64_w, i32_w]
                  rfl
                refine take_ (i := 6) (N := some 29) (v := ?_) (a' := ?_) #[true, true, true, false, true, true, true, false, false, false] rfl rfl (take_ofW HT_.out HW_.out (by kernel_rfl)) (fun _ _ _ h => h) (Or.inl ⟨by rfl, ?_⟩) hHeld ?_ ?_
                rotate_left
                · rintro w' ⟨s0, s1, s2, s3⟩
                  go_simp
                  with_reducible rfl
                rotate_left
                · simp only [Act.put, List.setIfInBounds_toArray, List.set_cons_zero, List.set_cons_succ, i64_w, i32_w]
                  rfl
                refine one_ (i := 3) (N := some 26) #[true, true, true, true, true, true, true, false, false, false] rfl rfl (one_of HT_.out (by kernel_rfl)) (by decide) (fun K hK => ?_)
                refine goes_ Try.func12 (by kernel_rfl) rfl #[.int .i64 a0_0, .agg #[.int .u64 a1_0, .int .u64 a1_1]] (by rfl) rfl rfl (by (try simp only [List.map_toArray, List.map_cons, List.map_nil]); first | done | rfl | (simp only [List.length_drop, List.length_take]; rfl)) ?_
                with_reducible refine (zone_class.calls a0_0 a1_0 a1_1 t135 _ A34.out).mono ?_
                rintro e w98 ⟨rfl, hb⟩
                refine ⟨_, rfl, ?_⟩
                have n0_ := Aside0.mk (blk_below (g := gb130) (o := .cells #[.int .i64 a0_0, .int .i64 a0_1] 32 (0, 0)) (by (with_reducible repeat (first | refine blk_drewN ?_ _ | refine blk_drew ?_ | refine blk_alloc ?_ _)); exact BK130.out) hb)
                have n1_ := Aside0.mk (blk_below (g := gb131) (o := .cells #[.int .u64 a1_0, .int .u64 a1_1] 24 (0, 0)) (by (with_reducible repeat (first | refine blk_drewN ?_ _ | refine blk_drew ?_ | refine blk_alloc ?_ _)); exact BK131.out) hb)
                have n2_ := Aside0.mk (blk_below (g := gb132) (o := .cells #[.int .u64 a2_0, .int .u64 a2_1] 24 (0, 0)) (by (with_reducible repeat (first | refine blk_drewN ?_ _ | refine blk_drew ?_ | refine blk_alloc ?_ _)); exact BK132.out) hb)
                have n3_ := Aside0.mk (below_step (by repeat (first | (with_reducible first | exact HB.out | apply below_alloc | apply pw_below_drewN | apply below_drew1 | refine below_set ?_ GE130.out | refine below_set ?_ GE131.out | refine below_set ?_ GE132.out) | exact HB.out)) hb)
                clear BK130
                clear BK131
                clear BK132
                clear HB
                have BK130 := n0_
                have BK131 := n1_
                have BK132 := n2_
                have HB := n3_
                clear n0_ n1_ n2_ n3_
                (try clear hb)
                (try clear hb2)
                (try clear hk)
                (try clear hi)
                refine hK.out _ _ ⟨(blk_cell BK130.out 0).trans rfl, (blk_cell BK130.out 1).trans rfl, (blk_cell BK131.out 0).trans rfl, (blk_cell BK131.out 1).trans rfl⟩ (fun hHeld => ?_)
                clear hK K
                refine norm_ (a' := ?_) ?_ ?_
                rotate_left
                · show Act.put _ (some 26) _ = _
                  simp only [Act.put, List.setIfInBounds_toArray, List.set_cons_zero, List.set_cons_succ, i64_w, i32_w]
                  rfl
                refine one_ (i := 7) (N := some 30) #[true, true, true, true, true, true, true, true, false, false] rfl rfl (one_of HT_.out (by kernel_rfl)) (by decide) (fun K hK => ?_)
                refine goes_ Try.func12 (by kernel_rfl) rfl #[.int .i64 a0_1, .agg #[.int .u64 a1_0, .int .u64 a1_1]] (by rfl) rfl rfl (by (try simp only [List.map_toArray, List.map_cons, List.map_nil]); first | done | rfl | (simp only [List.length_drop, List.length_take]; rfl)) ?_
                with_reducible refine (zone_class.calls a0_1 a1_0 a1_1 t136 _ A35.out).mono ?_
                rintro e w99 ⟨rfl, hb⟩
                refine ⟨_, rfl, ?_⟩
                have n0_ := Aside0.mk (blk_below (g := gb130) (o := .cells #[.int .i64 a0_0, .int .i64 a0_1] 32 (0, 0)) (by (with_reducible repeat (first | refine blk_drewN ?_ _ | refine blk_drew ?_ | refine blk_alloc ?_ _)); exact BK130.out) hb)
                have n1_ := Aside0.mk (blk_below (g := gb131) (o := .cells #[.int .u64 a1_0, .int .u64 a1_1] 24 (0, 0)) (by (with_reducible repeat (first | refine blk_drewN ?_ _ | refine blk_drew ?_ | refine blk_alloc ?_ _)); exact BK131.out) hb)
                have n2_ := Aside0.mk (blk_below (g := gb132) (o := .cells #[.int .u64 a2_0, .int .u64 a2_1] 24 (0, 0)) (by (with_reducible repeat (first | refine blk_drewN ?_ _ | refine blk_drew ?_ | refine blk_alloc ?_ _)); exact BK132.out) hb)
                have n3_ := Aside0.mk (below_step (by repeat (first | (with_reducible first | exact HB.out | apply below_alloc | apply pw_below_drewN | apply below_drew1 | refine below_set ?_ GE130.out | refine below_set ?_ GE131.out | refine below_set ?_ GE132.out) | exact HB.out)) hb)
                clear BK130
                clear BK131
                clear BK132
                clear HB
                have BK130 := n0_
                have BK131 := n1_
                have BK132 := n2_
                have HB := n3_
                clear n0_ n1_ n2_ n3_
                (try clear hb)
                (try clear hb2)
                (try clear hk)
                (try clear hi)
                refine hK.out _ _ ⟨(blk_cell BK130.out 0).trans rfl, (blk_cell BK130.out 1).trans rfl, (blk_cell BK131.out 0).trans rfl, (blk_cell BK131.out 1).trans rfl⟩ (fun hHeld => ?_)
                clear hK K
                refine norm_ (a' := ?_) ?_ ?_
                rotate_left
                · show Act.put _ (some 30) _ = _
                  simp only [Act.put, List.setIfInBounds_toArray, List.set_cons_zero, List.set_cons_succ, i64_w, i32_w]
                  rfl
                refine pure_ (i := 8) (N := some 8) (v := ?_) (a' := ?_) #[true, true, true, true, true, true, true, true, true, false] rfl rfl (any_of HT_.out (by kernel_rfl)) (fun _ _ _ h => h) (Or.inl ⟨by rfl, ?_⟩) ?_ ?_
                rotate_left
                · intro w'
                  go_simp
                  with_reducible rfl
                rotate_left
                · simp only [Act.put, List.setIfInBounds_toArray, List.set_cons_zero, List.set_cons_succ, i64_w, i32_w]
                  rfl
                refine pure_ (i := 9) (N := some 9) (v := ?_) (a' := ?_) #[true, true, true, true, true, true, true, true, true, true] rfl rfl (any_of HT_.out (by kernel_rfl)) (fun _ _ _ h => h) (Or.inl ⟨by rfl, ?_⟩) ?_ ?_
                rotate_left
                · intro w'
                  go_simp
                  with_reducible rfl
                rotate_left
                · simp only [Act.put, List.setIfInBounds_toArray, List.set_cons_zero, List.set_cons_succ, i64_w, i32_w]
                  rfl
                refine done_ (done_of HT_.out (by kernel_rfl)) ?_
                have hnb100 := NB130_131.out
                have hnc100 := NB131_130.out
                have hnb101 := NB130_132.out
                have hnc101 := NB132_130.out
                have hcz102_0 : w99.cell? ⟨gb130, 0, none⟩ = some (.int .i64 a0_0) := (blk_cell BK130.out 0).trans rfl
                have hcz102_1 : w99.cell? ⟨gb130, 1, none⟩ = some (.int .i64 a0_1) := (blk_cell BK130.out 1).trans rfl
                have hfz102_0 := blk_frozen BK130.out 0
                have hfz102_1 := blk_frozen BK130.out 1
                try go_wp2
                go_ret2
                exact ⟨by first | rfl | (simp [errW_none, errW_some] <;> rfl) | (simp only [← hji91, ← hji93, ← hji94, ← hji96]; first | rfl | (simp [errW_none, errW_some] <;> rfl)) | (simp [*, errW_none, errW_some] <;> rfl), by repeat (first | (with_reducible first | exact HB.out | apply below_alloc | apply pw_below_drewN | apply below_drew1 | refine below_set ?_ GE130.out | refine below_set ?_ GE131.out | refine below_set ?_ GE132.out) | exact HB.out)⟩
              · rw [if_neg c95] at H
                exact absurd H (by simp)
            · rw [if_neg c92] at H
              exact absurd H (by simp)

end Go.Proofs.Ytpgoekfmalpcdaa.X
