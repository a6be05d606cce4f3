-- Written by this session's own program pp.py out of the translation (a turned copy of the kit's print); Lean checks it.
import Derived.Test.YtpgoekfmalpcdaaXx0
import Derived.Test.YtpgoekfmalpcdaaXx2
import Derived.Test.YtpgoekfmalpcdaaHzone
namespace Go.Proofs.Ytpgoekfmalpcdaa.X
open Go.RowKit Go.Proofs.YtpgoekfmalpcdaaW.PrintWords Go.Proofs.YtpgoekfmalpcdaaW.PrintLast Go.Proofs.YtpgoekfmalpcdaaW.PrintMore
attribute [local go_sem] max2_int min2_int max_two min_two max_three min_three max_four min_four   -- for this text's walks alone
set_option linter.unusedVariables false
set_option linter.unusedSimpArgs false

/-! ### zone_Class: function 6 -/
def zone_Class.f (a0 : Int) (a1_0 : Int) (a1_1 : Int) : Option (Int × Int) := if a1_0 ≥ 1152921504606846976 then (some (0, 1)) else ((zone_class.f a0 a1_0 a1_1).bind fun t104 => (some (t104, 0)))
set_option maxHeartbeats 8000000 in
set_option maxRecDepth 100000 in
theorem zone_Class.calls (a0 : Int) (a1_0 : Int) (a1_1 : Int) (r1 : Int) (r2 : Int) (w : World) (h : zone_Class.f a0 a1_0 a1_1 = some (r1, r2)) :
    Calls Try.prog 6 #[.int .i64 a0, .agg #[.int .u64 a1_0, .int .u64 a1_1]] w fun e w' => e = .returned (.tuple #[.int .i64 r1, .int .i64 r2]) ∧ Below w.heap.size w w' := by
  have hu24 := Try.underlying24
  have HB := Aside0.mk (Below.refl w.heap.size w)
  have H : (if a1_0 ≥ 1152921504606846976 then (some (0, 1)) else ((zone_class.f a0 a1_0 a1_1).bind fun t104 => (some (t104, 0)))) = some (r1, r2) := h
  clear h
  by_cases c3 : a1_0 ≥ 1152921504606846976
  · rw [if_pos c3] at H
    have c3b0 : decide (1152921504606846976 ≤ a1_0) = true := decide_eq_true c3
    clear c3
    simp only [Option.some.injEq, Prod.mk.injEq] at H
    obtain ⟨rfl, rfl⟩ := H
    go_enter Try.func6, Try.ntmps6
    go_wp2_with (first | ((with_reducible refine gate_dst (N := 3) rfl ?_); refine box_event ?hg (N := 3) ?hd (cs := #[.int .u64 a1_0, .int .u64 a1_1]) (t := 24) ?hr ?_; (case hd => rfl); (case hg => rfl); (case hr => first | (go_simp; done) | (go_simp; rfl)); intro gb103 hg w4 hbox hb; have n0_ := Aside0.mk (below_step (by repeat (first | (with_reducible first | exact HB.out | apply below_alloc | apply pw_below_drewN | apply below_drew1) | exact HB.out)) hb); have n1_ := Aside0.mk (hbox); have n2_ := Aside0.mk ((by rw [hg]; exact (below_size (by repeat (first | (with_reducible first | exact HB.out | apply below_alloc | apply pw_below_drewN | apply below_drew1) | exact HB.out))) : w.heap.size ≤ gb103)); have n3_ := Aside0.mk ((by rw [hg]; exact (below_size (by repeat (first | (with_reducible first | exact HB.out | apply below_alloc | apply pw_below_drewN | apply below_drew1) | exact HB.out))) : w.heap.size ≤ gb103)); clear HB; have HB := n0_; have BK103 := n1_; have GW103 := n2_; have GE103 := n3_; clear n0_ n1_ n2_ n3_; clear hb hbox hg; have hcz5_0 : w4.cell? ⟨gb103, 0, none⟩ = some (.int .u64 a1_0) := (blk_cell BK103.out 0).trans rfl; have hcz5_1 : w4.cell? ⟨gb103, 1, none⟩ = some (.int .u64 a1_1) := (blk_cell BK103.out 1).trans rfl; have hfz5_0 := blk_frozen BK103.out 0; have hfz5_1 := blk_frozen BK103.out 1))
    go_ret2
    exact ⟨by first | rfl | (simp [errW_none, errW_some] <;> rfl) | (simp [*, errW_none, errW_some] <;> rfl), by repeat (first | (with_reducible first | exact HB.out | apply below_alloc | apply pw_below_drewN | apply below_drew1 | refine below_set ?_ GE103.out) | exact HB.out)⟩
  · rw [if_neg c3] at H
    have c3b0 : decide (1152921504606846976 ≤ a1_0) = false := decide_eq_false c3
    clear c3
    replace H := Option.bind_eq_some_iff.mp H
    obtain ⟨t104, A60, H⟩ := H
    replace H : (some (t104, 0)) = some (r1, r2) := H
    have A6 := Aside0.mk A60
    clear A60
    simp only [Option.some.injEq, Prod.mk.injEq] at H
    obtain ⟨rfl, rfl⟩ := H
    go_enter Try.func6, Try.ntmps6
    go_wp2_with (first | ((with_reducible refine gate_dst (N := 3) rfl ?_); refine box_event ?hg (N := 3) ?hd (cs := #[.int .u64 a1_0, .int .u64 a1_1]) (t := 24) ?hr ?_; (case hd => rfl); (case hg => rfl); (case hr => first | (go_simp; done) | (go_simp; rfl)); intro gb103 hg w7 hbox hb; have n0_ := Aside0.mk (below_step (by repeat (first | (with_reducible first | exact HB.out | apply below_alloc | apply pw_below_drewN | apply below_drew1) | exact HB.out)) hb); have n1_ := Aside0.mk (hbox); have n2_ := Aside0.mk ((by rw [hg]; exact (below_size (by repeat (first | (with_reducible first | exact HB.out | apply below_alloc | apply pw_below_drewN | apply below_drew1) | exact HB.out))) : w.heap.size ≤ gb103)); have n3_ := Aside0.mk ((by rw [hg]; exact (below_size (by repeat (first | (with_reducible first | exact HB.out | apply below_alloc | apply pw_below_drewN | apply below_drew1) | exact HB.out))) : w.heap.size ≤ gb103)); clear HB; have HB := n0_; have BK103 := n1_; have GW103 := n2_; have GE103 := n3_; clear n0_ n1_ n2_ n3_; clear hb hbox hg; have hcz8_0 : w7.cell? ⟨gb103, 0, none⟩ = some (.int .u64 a1_0) := (blk_cell BK103.out 0).trans rfl; have hcz8_1 : w7.cell? ⟨gb103, 1, none⟩ = some (.int .u64 a1_1) := (blk_cell BK103.out 1).trans rfl; have hfz8_0 := blk_frozen BK103.out 0; have hfz8_1 := blk_frozen BK103.out 1) | ((with_reducible refine gate_callee (f := 12) rfl ?_); refine goesL_ (some 11) rfl rfl Try.func12 (by kernel_rfl) rfl #[.int .i64 a0, .agg #[.int .u64 a1_0, .int .u64 a1_1]] rfl (by (try simp only [List.map_toArray, List.map_cons, List.map_nil]); first | done | rfl | (simp only [List.length_drop, List.length_take]; rfl)) ?_; (with_reducible refine (zone_class.calls a0 a1_0 a1_1 t104 _ A6.out).mono ?_); rintro e w9 ⟨rfl, hb⟩; refine ⟨_, rfl, ?_⟩; have n0_ := Aside0.mk (blk_below (g := gb103) (o := .cells #[.int .u64 a1_0, .int .u64 a1_1] 24 (0, 0)) (by (with_reducible repeat (first | refine blk_drewN ?_ _ | refine blk_drew ?_ | refine blk_alloc ?_ _)); exact BK103.out) hb); have n1_ := Aside0.mk (below_step (by repeat (first | (with_reducible first | exact HB.out | apply below_alloc | apply pw_below_drewN | apply below_drew1 | refine below_set ?_ GE103.out) | exact HB.out)) hb); clear BK103; clear HB; have BK103 := n0_; have HB := n1_; clear n0_ n1_; (try clear hb); (try clear hb2); (try clear hk); (try clear hi)))
    go_ret2
    exact ⟨by first | rfl | (simp [errW_none, errW_some] <;> rfl) | (simp [*, errW_none, errW_some] <;> rfl), by repeat (first | (with_reducible first | exact HB.out | apply below_alloc | apply pw_below_drewN | apply below_drew1 | refine below_set ?_ GE103.out) | exact HB.out)⟩

/-! ### datumlaw13_alive: function 7 -/
def datumlaw13_alive.f  : Option (Bool) := (zone_Class.f 6 0 9).bind fun bt105 => ((zone_Class.f 7 0 9).bind fun bt107 => ((zone_Class.f (-10) 0 9).bind fun bt109 => (if bt105.2 = 0 then (if bt107.2 = 0 then (if bt109.2 = 0 then (if bt105.1 = 2 then (if bt107.1 = 3 then (some (bt109.1 == (-4))) else (some false)) else (some false)) else (some false)) else (some false)) else (some false))))
set_option maxHeartbeats 8000000 in
set_option maxRecDepth 100000 in
theorem datumlaw13_alive.calls  (r : Bool) (w : World) (h : datumlaw13_alive.f  = some r) :
    Calls Try.prog 7 #[] w fun e w' => e = .returned (.bool r) ∧ Below w.heap.size w w' := by
  have hu24 := Try.underlying24
  have HB := Aside0.mk (Below.refl w.heap.size w)
  have H : ((zone_Class.f 6 0 9).bind fun bt105 => ((zone_Class.f 7 0 9).bind fun bt107 => ((zone_Class.f (-10) 0 9).bind fun bt109 => (if bt105.2 = 0 then (if bt107.2 = 0 then (if bt109.2 = 0 then (if bt105.1 = 2 then (if bt107.1 = 3 then (some (bt109.1 == (-4))) else (some false)) else (some false)) else (some false)) else (some false)) else (some false))))) = some r := h
  clear h
  replace H := Option.bind_eq_some_iff.mp H
  obtain ⟨⟨t105, t106⟩, A10, H⟩ := H
  replace H : ((zone_Class.f 7 0 9).bind fun bt107 => ((zone_Class.f (-10) 0 9).bind fun bt109 => (if t106 = 0 then (if bt107.2 = 0 then (if bt109.2 = 0 then (if t105 = 2 then (if bt107.1 = 3 then (some (bt109.1 == (-4))) else (some false)) else (some false)) else (some false)) else (some false)) else (some false)))) = some r := H
  have A1 := Aside0.mk A10
  clear A10
  replace H := Option.bind_eq_some_iff.mp H
  obtain ⟨⟨t107, t108⟩, A20, H⟩ := H
  replace H : ((zone_Class.f (-10) 0 9).bind fun bt109 => (if t106 = 0 then (if t108 = 0 then (if bt109.2 = 0 then (if t105 = 2 then (if t107 = 3 then (some (bt109.1 == (-4))) else (some false)) else (some false)) else (some false)) else (some false)) else (some false))) = some r := H
  have A2 := Aside0.mk A20
  clear A20
  replace H := Option.bind_eq_some_iff.mp H
  obtain ⟨⟨t109, t110⟩, A30, H⟩ := H
  replace H : (if t106 = 0 then (if t108 = 0 then (if t110 = 0 then (if t105 = 2 then (if t107 = 3 then (some (t109 == (-4))) else (some false)) else (some false)) else (some false)) else (some false)) else (some false)) = some r := H
  have A3 := Aside0.mk A30
  clear A30
  by_cases c4 : t106 = 0
  · rw [if_pos c4] at H
    have c4b0 : (t106 == 0) = true := beq_iff_eq.mpr c4
    have c4b1 : (t106 != 0) = false := bne_eq_false_iff_eq.mpr c4
    clear c4
    by_cases c5 : t108 = 0
    · rw [if_pos c5] at H
      have c5b0 : (t108 == 0) = true := beq_iff_eq.mpr c5
      have c5b1 : (t108 != 0) = false := bne_eq_false_iff_eq.mpr c5
      clear c5
      by_cases c6 : t110 = 0
      · rw [if_pos c6] at H
        have c6b0 : (t110 == 0) = true := beq_iff_eq.mpr c6
        have c6b1 : (t110 != 0) = false := bne_eq_false_iff_eq.mpr c6
        clear c6
        by_cases c7 : t105 = 2
        · rw [if_pos c7] at H
          have c7b0 : (t105 == 2) = true := beq_iff_eq.mpr c7
          have c7b1 : (t105 != 2) = false := bne_eq_false_iff_eq.mpr c7
          clear c7
          by_cases c8 : t107 = 3
          · rw [if_pos c8] at H
            have c8b0 : (t107 == 3) = true := beq_iff_eq.mpr c8
            have c8b1 : (t107 != 3) = false := bne_eq_false_iff_eq.mpr c8
            clear c8
            obtain rfl := Option.some.inj H
            go_enter Try.func7, Try.ntmps7
            go_wp2_with (first | ((with_reducible refine gate_callee (f := 6) rfl ?_); refine goesL_ (some 9) rfl rfl Try.func6 (by kernel_rfl) rfl #[.int .i64 6, .agg #[.int .u64 0, .int .u64 9]] rfl (by (try simp only [List.map_toArray, List.map_cons, List.map_nil]); first | done | rfl | (simp only [List.length_drop, List.length_take]; rfl)) ?_; (with_reducible refine (zone_Class.calls 6 0 9 t105 t106 _ A1.out).mono ?_); rintro e w9 ⟨rfl, hb⟩; refine ⟨_, rfl, ?_⟩; have n0_ := Aside0.mk (below_step (by repeat (first | (with_reducible first | exact HB.out | apply below_alloc | apply pw_below_drewN | apply below_drew1) | exact HB.out)) hb); clear HB; have HB := n0_; clear n0_; (try clear hb); (try clear hb2); (try clear hk); (try clear hi)) | ((with_reducible refine gate_callee (f := 6) rfl ?_); refine goesL_ (some 14) rfl rfl Try.func6 (by kernel_rfl) rfl #[.int .i64 7, .agg #[.int .u64 0, .int .u64 9]] rfl (by (try simp only [List.map_toArray, List.map_cons, List.map_nil]); first | done | rfl | (simp only [List.length_drop, List.length_take]; rfl)) ?_; (with_reducible refine (zone_Class.calls 7 0 9 t107 t108 _ A2.out).mono ?_); rintro e w10 ⟨rfl, hb⟩; refine ⟨_, rfl, ?_⟩; have n0_ := Aside0.mk (below_step (by repeat (first | (with_reducible first | exact HB.out | apply below_alloc | apply pw_below_drewN | apply below_drew1) | exact HB.out)) hb); clear HB; have HB := n0_; clear n0_; (try clear hb); (try clear hb2); (try clear hk); (try clear hi)) | ((with_reducible refine gate_callee (f := 6) rfl ?_); refine goesL_ (some 19) rfl rfl Try.func6 (by kernel_rfl) rfl #[.int .i64 (-10), .agg #[.int .u64 0, .int .u64 9]] rfl (by (try simp only [List.map_toArray, List.map_cons, List.map_nil]); first | done | rfl | (simp only [List.length_drop, List.length_take]; rfl)) ?_; (with_reducible refine (zone_Class.calls (-10) 0 9 t109 t110 _ A3.out).mono ?_); rintro e w11 ⟨rfl, hb⟩; refine ⟨_, rfl, ?_⟩; have n0_ := Aside0.mk (below_step (by repeat (first | (with_reducible first | exact HB.out | apply below_alloc | apply pw_below_drewN | apply below_drew1) | exact HB.out)) hb); clear HB; have HB := n0_; clear n0_; (try clear hb); (try clear hb2); (try clear hk); (try clear hi)))
            go_ret
            exact ⟨by first | rfl | (simp [errW_none, errW_some] <;> rfl) | (simp [*, errW_none, errW_some] <;> rfl), by repeat (first | (with_reducible first | exact HB.out | apply below_alloc | apply pw_below_drewN | apply below_drew1) | exact HB.out)⟩
          · rw [if_neg c8] at H
            have c8b0 : (t107 == 3) = false := beq_eq_false_iff_ne.mpr c8
            have c8b1 : (t107 != 3) = true := bne_iff_ne.mpr c8
            obtain rfl := Option.some.inj H
            go_enter Try.func7, Try.ntmps7
            go_wp2_with (first | ((with_reducible refine gate_callee (f := 6) rfl ?_); refine goesL_ (some 9) rfl rfl Try.func6 (by kernel_rfl) rfl #[.int .i64 6, .agg #[.int .u64 0, .int .u64 9]] rfl (by (try simp only [List.map_toArray, List.map_cons, List.map_nil]); first | done | rfl | (simp only [List.length_drop, List.length_take]; rfl)) ?_; (with_reducible refine (zone_Class.calls 6 0 9 t105 t106 _ A1.out).mono ?_); rintro e w12 ⟨rfl, hb⟩; refine ⟨_, rfl, ?_⟩; have n0_ := Aside0.mk (below_step (by repeat (first | (with_reducible first | exact HB.out | apply below_alloc | apply pw_below_drewN | apply below_drew1) | exact HB.out)) hb); clear HB; have HB := n0_; clear n0_; (try clear hb); (try clear hb2); (try clear hk); (try clear hi)) | ((with_reducible refine gate_callee (f := 6) rfl ?_); refine goesL_ (some 14) rfl rfl Try.func6 (by kernel_rfl) rfl #[.int .i64 7, .agg #[.int .u64 0, .int .u64 9]] rfl (by (try simp only [List.map_toArray, List.map_cons, List.map_nil]); first | done | rfl | (simp only [List.length_drop, List.length_take]; rfl)) ?_; (with_reducible refine (zone_Class.calls 7 0 9 t107 t108 _ A2.out).mono ?_); rintro e w13 ⟨rfl, hb⟩; refine ⟨_, rfl, ?_⟩; have n0_ := Aside0.mk (below_step (by repeat (first | (with_reducible first | exact HB.out | apply below_alloc | apply pw_below_drewN | apply below_drew1) | exact HB.out)) hb); clear HB; have HB := n0_; clear n0_; (try clear hb); (try clear hb2); (try clear hk); (try clear hi)) | ((with_reducible refine gate_callee (f := 6) rfl ?_); refine goesL_ (some 19) rfl rfl Try.func6 (by kernel_rfl) rfl #[.int .i64 (-10), .agg #[.int .u64 0, .int .u64 9]] rfl (by (try simp only [List.map_toArray, List.map_cons, List.map_nil]); first | done | rfl | (simp only [List.length_drop, List.length_take]; rfl)) ?_; (with_reducible refine (zone_Class.calls (-10) 0 9 t109 t110 _ A3.out).mono ?_); rintro e w14 ⟨rfl, hb⟩; refine ⟨_, rfl, ?_⟩; have n0_ := Aside0.mk (below_step (by repeat (first | (with_reducible first | exact HB.out | apply below_alloc | apply pw_below_drewN | apply below_drew1) | exact HB.out)) hb); clear HB; have HB := n0_; clear n0_; (try clear hb); (try clear hb2); (try clear hk); (try clear hi)))
            go_ret
            exact ⟨by first | rfl | (simp [errW_none, errW_some] <;> rfl) | (simp [*, errW_none, errW_some] <;> rfl), by repeat (first | (with_reducible first | exact HB.out | apply below_alloc | apply pw_below_drewN | apply below_drew1) | exact HB.out)⟩
        · rw [if_neg c7] at H
          have c7b0 : (t105 == 2) = false := beq_eq_false_iff_ne.mpr c7
          have c7b1 : (t105 != 2) = true := bne_iff_ne.mpr c7
          obtain rfl := Option.some.inj H
          go_enter Try.func7, Try.ntmps7
          go_wp2_with (first | ((with_reducible refine gate_callee (f := 6) rfl ?_); refine goesL_ (some 9) rfl rfl Try.func6 (by kernel_rfl) rfl #[.int .i64 6, .agg #[.int .u64 0, .int .u64 9]] rfl (by (try simp only [List.map_toArray, List.map_cons, List.map_nil]); first | done | rfl | (simp only [List.length_drop, List.length_take]; rfl)) ?_; (with_reducible refine (zone_Class.calls 6 0 9 t105 t106 _ A1.out).mono ?_); rintro e w15 ⟨rfl, hb⟩; refine ⟨_, rfl, ?_⟩; have n0_ := Aside0.mk (below_step (by repeat (first | (with_reducible first | exact HB.out | apply below_alloc | apply pw_below_drewN | apply below_drew1) | exact HB.out)) hb); clear HB; have HB := n0_; clear n0_; (try clear hb); (try clear hb2); (try clear hk); (try clear hi)) | ((with_reducible refine gate_callee (f := 6) rfl ?_); refine goesL_ (some 14) rfl rfl Try.func6 (by kernel_rfl) rfl #[.int .i64 7, .agg #[.int .u64 0, .int .u64 9]] rfl (by (try simp only [List.map_toArray, List.map_cons, List.map_nil]); first | done | rfl | (simp only [List.length_drop, List.length_take]; rfl)) ?_; (with_reducible refine (zone_Class.calls 7 0 9 t107 t108 _ A2.out).mono ?_); rintro e w16 ⟨rfl, hb⟩; refine ⟨_, rfl, ?_⟩; have n0_ := Aside0.mk (below_step (by repeat (first | (with_reducible first | exact HB.out | apply below_alloc | apply pw_below_drewN | apply below_drew1) | exact HB.out)) hb); clear HB; have HB := n0_; clear n0_; (try clear hb); (try clear hb2); (try clear hk); (try clear hi)) | ((with_reducible refine gate_callee (f := 6) rfl ?_); refine goesL_ (some 19) rfl rfl Try.func6 (by kernel_rfl) rfl #[.int .i64 (-10), .agg #[.int .u64 0, .int .u64 9]] rfl (by (try simp only [List.map_toArray, List.map_cons, List.map_nil]); first | done | rfl | (simp only [List.length_drop, List.length_take]; rfl)) ?_; (with_reducible refine (zone_Class.calls (-10) 0 9 t109 t110 _ A3.out).mono ?_); rintro e w17 ⟨rfl, hb⟩; refine ⟨_, rfl, ?_⟩; have n0_ := Aside0.mk (below_step (by repeat (first | (with_reducible first | exact HB.out | apply below_alloc | apply pw_below_drewN | apply below_drew1) | exact HB.out)) hb); clear HB; have HB := n0_; clear n0_; (try clear hb); (try clear hb2); (try clear hk); (try clear hi)))
          go_ret
          exact ⟨by first | rfl | (simp [errW_none, errW_some] <;> rfl) | (simp [*, errW_none, errW_some] <;> rfl), by repeat (first | (with_reducible first | exact HB.out | apply below_alloc | apply pw_below_drewN | apply below_drew1) | exact HB.out)⟩
      · rw [if_neg c6] at H
        have c6b0 : (t110 == 0) = false := beq_eq_false_iff_ne.mpr c6
        have c6b1 : (t110 != 0) = true := bne_iff_ne.mpr c6
        obtain rfl := Option.some.inj H
        go_enter Try.func7, Try.ntmps7
        go_wp2_with (first | ((with_reducible refine gate_callee (f := 6) rfl ?_); refine goesL_ (some 9) rfl rfl Try.func6 (by kernel_rfl) rfl #[.int .i64 6, .agg #[.int .u64 0, .int .u64 9]] rfl (by (try simp only [List.map_toArray, List.map_cons, List.map_nil]); first | done | rfl | (simp only [List.length_drop, List.length_take]; rfl)) ?_; (with_reducible refine (zone_Class.calls 6 0 9 t105 t106 _ A1.out).mono ?_); rintro e w18 ⟨rfl, hb⟩; refine ⟨_, rfl, ?_⟩; have n0_ := Aside0.mk (below_step (by repeat (first | (with_reducible first | exact HB.out | apply below_alloc | apply pw_below_drewN | apply below_drew1) | exact HB.out)) hb); clear HB; have HB := n0_; clear n0_; (try clear hb); (try clear hb2); (try clear hk); (try clear hi)) | ((with_reducible refine gate_callee (f := 6) rfl ?_); refine goesL_ (some 14) rfl rfl Try.func6 (by kernel_rfl) rfl #[.int .i64 7, .agg #[.int .u64 0, .int .u64 9]] rfl (by (try simp only [List.map_toArray, List.map_cons, List.map_nil]); first | done | rfl | (simp only [List.length_drop, List.length_take]; rfl)) ?_; (with_reducible refine (zone_Class.calls 7 0 9 t107 t108 _ A2.out).mono ?_); rintro e w19 ⟨rfl, hb⟩; refine ⟨_, rfl, ?_⟩; have n0_ := Aside0.mk (below_step (by repeat (first | (with_reducible first | exact HB.out | apply below_alloc | apply pw_below_drewN | apply below_drew1) | exact HB.out)) hb); clear HB; have HB := n0_; clear n0_; (try clear hb); (try clear hb2); (try clear hk); (try clear hi)) | ((with_reducible refine gate_callee (f := 6) rfl ?_); refine goesL_ (some 19) rfl rfl Try.func6 (by kernel_rfl) rfl #[.int .i64 (-10), .agg #[.int .u64 0, .int .u64 9]] rfl (by (try simp only [List.map_toArray, List.map_cons, List.map_nil]); first | done | rfl | (simp only [List.length_drop, List.length_take]; rfl)) ?_; (with_reducible refine (zone_Class.calls (-10) 0 9 t109 t110 _ A3.out).mono ?_); rintro e w20 ⟨rfl, hb⟩; refine ⟨_, rfl, ?_⟩; have n0_ := Aside0.mk (below_step (by repeat (first | (with_reducible first | exact HB.out | apply below_alloc | apply pw_below_drewN | apply below_drew1) | exact HB.out)) hb); clear HB; have HB := n0_; clear n0_; (try clear hb); (try clear hb2); (try clear hk); (try clear hi)))
        go_ret
        exact ⟨by first | rfl | (simp [errW_none, errW_some] <;> rfl) | (simp [*, errW_none, errW_some] <;> rfl), by repeat (first | (with_reducible first | exact HB.out | apply below_alloc | apply pw_below_drewN | apply below_drew1) | exact HB.out)⟩
    · rw [if_neg c5] at H
      have c5b0 : (t108 == 0) = false := beq_eq_false_iff_ne.mpr c5
      have c5b1 : (t108 != 0) = true := bne_iff_ne.mpr c5
      obtain rfl := Option.some.inj H
      go_enter Try.func7, Try.ntmps7
      go_wp2_with (first | ((with_reducible refine gate_callee (f := 6) rfl ?_); refine goesL_ (some 9) rfl rfl Try.func6 (by kernel_rfl) rfl #[.int .i64 6, .agg #[.int .u64 0, .int .u64 9]] rfl (by (try simp only [List.map_toArray, List.map_cons, List.map_nil]); first | done | rfl | (simp only [List.length_drop, List.length_take]; rfl)) ?_; (with_reducible refine (zone_Class.calls 6 0 9 t105 t106 _ A1.out).mono ?_); rintro e w21 ⟨rfl, hb⟩; refine ⟨_, rfl, ?_⟩; have n0_ := Aside0.mk (below_step (by repeat (first | (with_reducible first | exact HB.out | apply below_alloc | apply pw_below_drewN | apply below_drew1) | exact HB.out)) hb); clear HB; have HB := n0_; clear n0_; (try clear hb); (try clear hb2); (try clear hk); (try clear hi)) | ((with_reducible refine gate_callee (f := 6) rfl ?_); refine goesL_ (some 14) rfl rfl Try.func6 (by kernel_rfl) rfl #[.int .i64 7, .agg #[.int .u64 0, .int .u64 9]] rfl (by (try simp only [List.map_toArray, List.map_cons, List.map_nil]); first | done | rfl | (simp only [List.length_drop, List.length_take]; rfl)) ?_; (with_reducible refine (zone_Class.calls 7 0 9 t107 t108 _ A2.out).mono ?_); rintro e w22 ⟨rfl, hb⟩; refine ⟨_, rfl, ?_⟩; have n0_ := Aside0.mk (below_step (by repeat (first | (with_reducible first | exact HB.out | apply below_alloc | apply pw_below_drewN | apply below_drew1) | exact HB.out)) hb); clear HB; have HB := n0_; clear n0_; (try clear hb); (try clear hb2); (try clear hk); (try clear hi)) | ((with_reducible refine gate_callee (f := 6) rfl ?_); refine goesL_ (some 19) rfl rfl Try.func6 (by kernel_rfl) rfl #[.int .i64 (-10), .agg #[.int .u64 0, .int .u64 9]] rfl (by (try simp only [List.map_toArray, List.map_cons, List.map_nil]); first | done | rfl | (simp only [List.length_drop, List.length_take]; rfl)) ?_; (with_reducible refine (zone_Class.calls (-10) 0 9 t109 t110 _ A3.out).mono ?_); rintro e w23 ⟨rfl, hb⟩; refine ⟨_, rfl, ?_⟩; have n0_ := Aside0.mk (below_step (by repeat (first | (with_reducible first | exact HB.out | apply below_alloc | apply pw_below_drewN | apply below_drew1) | exact HB.out)) hb); clear HB; have HB := n0_; clear n0_; (try clear hb); (try clear hb2); (try clear hk); (try clear hi)))
      go_ret
      exact ⟨by first | rfl | (simp [errW_none, errW_some] <;> rfl) | (simp [*, errW_none, errW_some] <;> rfl), by repeat (first | (with_reducible first | exact HB.out | apply below_alloc | apply pw_below_drewN | apply below_drew1) | exact HB.out)⟩
  · rw [if_neg c4] at H
    have c4b0 : (t106 == 0) = false := beq_eq_false_iff_ne.mpr c4
    have c4b1 : (t106 != 0) = true := bne_iff_ne.mpr c4
    obtain rfl := Option.some.inj H
    go_enter Try.func7, Try.ntmps7
    go_wp2_with (first | ((with_reducible refine gate_callee (f := 6) rfl ?_); refine goesL_ (some 9) rfl rfl Try.func6 (by kernel_rfl) rfl #[.int .i64 6, .agg #[.int .u64 0, .int .u64 9]] rfl (by (try simp only [List.map_toArray, List.map_cons, List.map_nil]); first | done | rfl | (simp only [List.length_drop, List.length_take]; rfl)) ?_; (with_reducible refine (zone_Class.calls 6 0 9 t105 t106 _ A1.out).mono ?_); rintro e w24 ⟨rfl, hb⟩; refine ⟨_, rfl, ?_⟩; have n0_ := Aside0.mk (below_step (by repeat (first | (with_reducible first | exact HB.out | apply below_alloc | apply pw_below_drewN | apply below_drew1) | exact HB.out)) hb); clear HB; have HB := n0_; clear n0_; (try clear hb); (try clear hb2); (try clear hk); (try clear hi)) | ((with_reducible refine gate_callee (f := 6) rfl ?_); refine goesL_ (some 14) rfl rfl Try.func6 (by kernel_rfl) rfl #[.int .i64 7, .agg #[.int .u64 0, .int .u64 9]] rfl (by (try simp only [List.map_toArray, List.map_cons, List.map_nil]); first | done | rfl | (simp only [List.length_drop, List.length_take]; rfl)) ?_; (with_reducible refine (zone_Class.calls 7 0 9 t107 t108 _ A2.out).mono ?_); rintro e w25 ⟨rfl, hb⟩; refine ⟨_, rfl, ?_⟩; have n0_ := Aside0.mk (below_step (by repeat (first | (with_reducible first | exact HB.out | apply below_alloc | apply pw_below_drewN | apply below_drew1) | exact HB.out)) hb); clear HB; have HB := n0_; clear n0_; (try clear hb); (try clear hb2); (try clear hk); (try clear hi)) | ((with_reducible refine gate_callee (f := 6) rfl ?_); refine goesL_ (some 19) rfl rfl Try.func6 (by kernel_rfl) rfl #[.int .i64 (-10), .agg #[.int .u64 0, .int .u64 9]] rfl (by (try simp only [List.map_toArray, List.map_cons, List.map_nil]); first | done | rfl | (simp only [List.length_drop, List.length_take]; rfl)) ?_; (with_reducible refine (zone_Class.calls (-10) 0 9 t109 t110 _ A3.out).mono ?_); rintro e w26 ⟨rfl, hb⟩; refine ⟨_, rfl, ?_⟩; have n0_ := Aside0.mk (below_step (by repeat (first | (with_reducible first | exact HB.out | apply below_alloc | apply pw_below_drewN | apply below_drew1) | exact HB.out)) hb); clear HB; have HB := n0_; clear n0_; (try clear hb); (try clear hb2); (try clear hk); (try clear hi)))
    go_ret
    exact ⟨by first | rfl | (simp [errW_none, errW_some] <;> rfl) | (simp [*, errW_none, errW_some] <;> rfl), by repeat (first | (with_reducible first | exact HB.out | apply below_alloc | apply pw_below_drewN | apply below_drew1) | exact HB.out)⟩

/-! ### datumlaw13_ZoneRises: function 3 -/
mutual
def datumlaw13_ZoneRises.j0 : Nat → Int → Int → Int → Int → Int → Int → Option (Bool)
  | 0, _, _, _, _, _, _ => none
  | k + 1, x0, x1, x112000, x112001, x113000, x113001 => (wide_Less.f x113000 x113001 x112000 x112001).bind fun t113 => (if t113 = true then (datumlaw13_ZoneRises.j1 k x0 x1 x113000 x113001 x112000 x112001) else (datumlaw13_ZoneRises.j1 k x0 x1 x112000 x112001 x113000 x113001))
def datumlaw13_ZoneRises.j1 : Nat → Int → Int → Int → Int → Int → Int → Option (Bool)
  | 0, _, _, _, _, _, _ => none
  | k + 1, x0, x1, x112000, x112001, x113000, x113001 => (zone_Class.f x0 x113000 x113001).bind fun bt114 => ((zone_Class.f x1 x113000 x113001).bind fun bt116 => ((zone_Class.f x1 x112000 x112001).bind fun bt118 => (if bt114.2 = 0 then (if bt116.2 = 0 then (if bt118.2 = 0 then (if bt114.1 > bt116.1 then (datumlaw13_ZoneRises.j2 k x1 true x113000 x113001) else (if bt114.1 < (-4) then (datumlaw13_ZoneRises.j2 k x1 true x113000 x113001) else (if bt116.1 > 4 then (datumlaw13_ZoneRises.j2 k x1 true x113000 x113001) else (if ((bt116.1 == 0) != (x1 == 0)) = true then (datumlaw13_ZoneRises.j2 k x1 true x113000 x113001) else (if x1 ≥ 0 then (if bt118.1 < bt116.1 then (datumlaw13_ZoneRises.j2 k x1 true x113000 x113001) else (if x1 ≤ 0 then (if bt118.1 > bt116.1 then (datumlaw13_ZoneRises.j2 k x1 true x113000 x113001) else ((datumlaw13_alive.f).bind fun t121 => (datumlaw13_ZoneRises.j2 k x1 (!t121) x113000 x113001))) else ((datumlaw13_alive.f).bind fun t122 => (datumlaw13_ZoneRises.j2 k x1 (!t122) x113000 x113001)))) else (if x1 ≤ 0 then (if bt118.1 > bt116.1 then (datumlaw13_ZoneRises.j2 k x1 true x113000 x113001) else ((datumlaw13_alive.f).bind fun t123 => (datumlaw13_ZoneRises.j2 k x1 (!t123) x113000 x113001))) else ((datumlaw13_alive.f).bind fun t124 => (datumlaw13_ZoneRises.j2 k x1 (!t124) x113000 x113001)))))))) else (datumlaw13_ZoneRises.j2 k x1 true x113000 x113001)) else (datumlaw13_ZoneRises.j2 k x1 true x113000 x113001)) else ((datumlaw13_alive.f).bind fun t120 => (if t120 = true then (if bt114.2 = 1 then (some (bt116.2 == 1)) else (some false)) else (some false))))))
def datumlaw13_ZoneRises.j2 : Nat → Int → Bool → Int → Int → Option (Bool)
  | 0, _, _, _, _ => none
  | k + 1, x1, x105, x113000, x113001 => if x105 = true then (some false) else ((zone_Class.f (mx x1 (-9223372036854775807)) x113000 x113001).bind fun bt125 => ((zone_Class.f (wrap64 (-(mx x1 (-9223372036854775807)))) x113000 x113001).bind fun bt127 => (if bt125.2 = 0 then (if bt127.2 = 0 then (some (bt127.1 == (wrap64 (-bt125.1)))) else (some false)) else (some false))))
end
def datumlaw13_ZoneRises.f (k : Nat) (a0 : Int) (a1 : Int) (a2_0 : Int) (a2_1 : Int) (a3_0 : Int) (a3_1 : Int) : Option (Bool) := if a0 > a1 then (datumlaw13_ZoneRises.j0 k a1 a0 a2_0 a2_1 a3_0 a3_1) else (datumlaw13_ZoneRises.j0 k a0 a1 a2_0 a2_1 a3_0 a3_1)
theorem datumlaw13_ZoneRises.mono_l : ∀ k, (∀ y0 y1 y2 y3 y4 y5, LeO (datumlaw13_ZoneRises.j0 k y0 y1 y2 y3 y4 y5) (datumlaw13_ZoneRises.j0 (k + 1) y0 y1 y2 y3 y4 y5)) ∧ (∀ y0 y1 y2 y3 y4 y5, LeO (datumlaw13_ZoneRises.j1 k y0 y1 y2 y3 y4 y5) (datumlaw13_ZoneRises.j1 (k + 1) y0 y1 y2 y3 y4 y5)) ∧ (∀ y0 y1 y2 y3, LeO (datumlaw13_ZoneRises.j2 k y0 y1 y2 y3) (datumlaw13_ZoneRises.j2 (k + 1) y0 y1 y2 y3))
  | 0 => ⟨fun _ _ _ _ _ _ r h => by simp [datumlaw13_ZoneRises.j0] at h, fun _ _ _ _ _ _ r h => by simp [datumlaw13_ZoneRises.j1] at h, fun _ _ _ _ r h => by simp [datumlaw13_ZoneRises.j2] at h⟩
  | k + 1 => by
    obtain ⟨ih0, ih1, ih2⟩ := datumlaw13_ZoneRises.mono_l k
    refine ⟨?_, ?_, ?_⟩
    · intro y0 y1 y2 y3 y4 y5
      unfold datumlaw13_ZoneRises.j0
      repeat' first
      | (with_reducible exact ih0 _ _ _ _ _ _)
      | (with_reducible exact ih1 _ _ _ _ _ _)
      | (with_reducible exact ih2 _ _ _ _)
      | (with_reducible exact LeO.refl _)
      | (with_reducible exact LeO.none _)
      | (with_reducible refine LeO.ite ?_ ?_)
      | (with_reducible refine LeO.bind ?_ (fun _ => ?_))
      | exact ih0 _ _ _ _ _ _
      | exact ih1 _ _ _ _ _ _
      | exact ih2 _ _ _ _
      | exact LeO.none _
      | refine LeO.ite ?_ ?_
      | refine LeO.bind ?_ (fun _ => ?_)
    · intro y0 y1 y2 y3 y4 y5
      unfold datumlaw13_ZoneRises.j1
      repeat' first
      | (with_reducible exact ih0 _ _ _ _ _ _)
      | (with_reducible exact ih1 _ _ _ _ _ _)
      | (with_reducible exact ih2 _ _ _ _)
      | (with_reducible exact LeO.refl _)
      | (with_reducible exact LeO.none _)
      | (with_reducible refine LeO.ite ?_ ?_)
      | (with_reducible refine LeO.bind ?_ (fun _ => ?_))
      | exact ih0 _ _ _ _ _ _
      | exact ih1 _ _ _ _ _ _
      | exact ih2 _ _ _ _
      | exact LeO.none _
      | refine LeO.ite ?_ ?_
      | refine LeO.bind ?_ (fun _ => ?_)
    · intro y0 y1 y2 y3
      unfold datumlaw13_ZoneRises.j2
      repeat' first
      | (with_reducible exact ih0 _ _ _ _ _ _)
      | (with_reducible exact ih1 _ _ _ _ _ _)
      | (with_reducible exact ih2 _ _ _ _)
      | (with_reducible exact LeO.refl _)
      | (with_reducible exact LeO.none _)
      | (with_reducible refine LeO.ite ?_ ?_)
      | (with_reducible refine LeO.bind ?_ (fun _ => ?_))
      | exact ih0 _ _ _ _ _ _
      | exact ih1 _ _ _ _ _ _
      | exact ih2 _ _ _ _
      | exact LeO.none _
      | refine LeO.ite ?_ ?_
      | refine LeO.bind ?_ (fun _ => ?_)
theorem datumlaw13_ZoneRises.mono : ∀ a0 a1 a2 a3 a4 a5 k, LeO (datumlaw13_ZoneRises.f k a0 a1 a2 a3 a4 a5) (datumlaw13_ZoneRises.f (k + 1) a0 a1 a2 a3 a4 a5) := by
  intro a0 a1 a2 a3 a4 a5 k
  obtain ⟨ih0, ih1, ih2⟩ := datumlaw13_ZoneRises.mono_l k
  unfold datumlaw13_ZoneRises.f
  repeat' first
      | (with_reducible exact ih0 _ _ _ _ _ _)
      | (with_reducible exact ih1 _ _ _ _ _ _)
      | (with_reducible exact ih2 _ _ _ _)
      | (with_reducible exact LeO.refl _)
      | (with_reducible exact LeO.none _)
      | (with_reducible refine LeO.ite ?_ ?_)
      | (with_reducible refine LeO.bind ?_ (fun _ => ?_))
      | exact ih0 _ _ _ _ _ _
      | exact ih1 _ _ _ _ _ _
      | exact ih2 _ _ _ _
      | exact LeO.none _
      | refine LeO.ite ?_ ?_
      | refine LeO.bind ?_ (fun _ => ?_)
set_option maxHeartbeats 8000000 in
set_option maxRecDepth 100000 in
theorem datumlaw13_ZoneRises.calls (k : Nat) (a0 : Int) (a1 : Int) (a2_0 : Int) (a2_1 : Int) (a3_0 : Int) (a3_1 : Int) (r : Bool) (w : World) (h : datumlaw13_ZoneRises.f k a0 a1 a2_0 a2_1 a3_0 a3_1 = some r) :
    Calls Try.prog 3 #[.int .i64 a0, .int .i64 a1, .agg #[.int .u64 a2_0, .int .u64 a2_1], .agg #[.int .u64 a3_0, .int .u64 a3_1]] w fun e w' => e = .returned (.bool r) ∧ Below w.heap.size w w' := by
  have hu24 := Try.underlying24
  have HB := Aside0.mk (Below.refl w.heap.size w)
  have H : (if a0 > a1 then (datumlaw13_ZoneRises.j0 k a1 a0 a2_0 a2_1 a3_0 a3_1) else (datumlaw13_ZoneRises.j0 k a0 a1 a2_0 a2_1 a3_0 a3_1)) = some r := h
  clear h
  have HC5 := Aside0.mk H
  clear H
  go_enter Try.func3, Try.ntmps3
  go_upto_if 21 with (first | ((with_reducible refine gate_dst (N := 6) rfl ?_); refine box_event ?hg (N := 6) ?hd (cs := #[.int .u64 a2_0, .int .u64 a2_1]) (t := 24) ?hr ?_; (case hd => rfl); (case hg => rfl); (case hr => first | (go_simp; done) | (go_simp; rfl)); intro gb111 hg w6 hbox hb; have n0_ := Aside0.mk (below_step (by repeat (first | (with_reducible first | exact HB.out | apply below_alloc | apply pw_below_drewN | apply below_drew1) | exact HB.out)) hb); have n1_ := Aside0.mk (hbox); have n2_ := Aside0.mk ((by rw [hg]; exact (below_size (by repeat (first | (with_reducible first | exact HB.out | apply below_alloc | apply pw_below_drewN | apply below_drew1) | exact HB.out))) : w.heap.size ≤ gb111)); have n3_ := Aside0.mk ((by rw [hg]; exact (below_size (by repeat (first | (with_reducible first | exact HB.out | apply below_alloc | apply pw_below_drewN | apply below_drew1) | exact HB.out))) : w.heap.size ≤ gb111)); clear HB; have HB := n0_; have BK111 := n1_; have GW111 := n2_; have GE111 := n3_; clear n0_ n1_ n2_ n3_; clear hb hbox hg) | ((with_reducible refine gate_dst (N := 7) rfl ?_); refine box_event ?hg (N := 7) ?hd (cs := #[.int .u64 a3_0, .int .u64 a3_1]) (t := 24) ?hr ?_; (case hd => rfl); (case hg => rfl); (case hr => first | (go_simp; done) | (go_simp; rfl)); intro gb112 hg w7 hbox hb; have n0_ := Aside0.mk (blk_below (g := gb111) (o := .cells #[.int .u64 a2_0, .int .u64 a2_1] 24 (0, 0)) (by (with_reducible repeat (first | refine blk_drewN ?_ _ | refine blk_drew ?_ | refine blk_alloc ?_ _)); exact BK111.out) hb); have n1_ := Aside0.mk (below_step (by repeat (first | (with_reducible first | exact HB.out | apply below_alloc | apply pw_below_drewN | apply below_drew1 | refine below_set ?_ GE111.out) | exact HB.out)) hb); have n2_ := Aside0.mk (hbox); have n3_ := Aside0.mk ((by rw [hg]; exact (below_size (by repeat (first | (with_reducible first | exact HB.out | apply below_alloc | apply pw_below_drewN | apply below_drew1 | refine below_set ?_ GE111.out) | exact HB.out))) : w.heap.size ≤ gb112)); have n4_ := Aside0.mk ((by rw [hg]; exact (below_size (by repeat (first | (with_reducible first | exact HB.out | apply below_alloc | apply pw_below_drewN | apply below_drew1 | refine below_set ?_ GE111.out) | exact HB.out))) : w.heap.size ≤ gb112)); have n5_ := Aside0.mk ((by rw [hg]; exact Nat.ne_of_lt (blk_lt (g := gb111) (o := .cells #[.int .u64 a2_0, .int .u64 a2_1] 24 (0, 0)) (by (with_reducible repeat (first | refine blk_drewN ?_ _ | refine blk_drew ?_ | refine blk_alloc ?_ _)); exact BK111.out)) : gb111 ≠ gb112)); have n6_ := Aside0.mk ((by rw [hg]; exact Nat.ne_of_gt (blk_lt (g := gb111) (o := .cells #[.int .u64 a2_0, .int .u64 a2_1] 24 (0, 0)) (by (with_reducible repeat (first | refine blk_drewN ?_ _ | refine blk_drew ?_ | refine blk_alloc ?_ _)); exact BK111.out)) : gb112 ≠ gb111)); clear BK111; clear HB; have BK111 := n0_; have HB := n1_; have BK112 := n2_; have GW112 := n3_; have GE112 := n4_; have NB111_112 := n5_; have NB112_111 := n6_; clear n0_ n1_ n2_ n3_ n4_ n5_ n6_; clear hb hbox hg))
  (try simp only [Act.put, List.setIfInBounds_toArray, List.set_cons_zero, List.set_cons_succ])
  go_cut [0, 1] (fun v0 v1 wc => ∃ (kq : Nat) (x0_4 : Int) (x1_4 : Int), v0 = .int .i64 x0_4 ∧ v1 = .int .i64 x1_4 ∧ Aside0 (datumlaw13_ZoneRises.j0 kq x0_4 x1_4 a2_0 a2_1 a3_0 a3_1 = some r) ∧ Aside0 (kq ≤ k) ∧ Aside0 (wc.heap[gb111]? = some (.cells #[.int .u64 a2_0, .int .u64 a2_1] 24 (0, 0))) ∧ Aside0 (wc.heap[gb112]? = some (.cells #[.int .u64 a3_0, .int .u64 a3_1] 24 (0, 0))) ∧ Aside0 (Below w.heap.size w wc))
  case first =>
    have H := HC5.out
    clear HC5
    by_cases c8 : a0 > a1
    · rw [if_pos c8] at H
      have c8b0 : decide (a1 < a0) = true := decide_eq_true c8
      clear c8
      (first | rw [c8b0] | (simp only [i64_w, i32_w]; rw [c8b0]) | skip)
      have H' := Aside0.mk H
      clear H
      go_wp2
      go_meet
      case rel => exact ⟨_, (a1), (a0), (by first | rfl | (simp; done) | (simp [*]; done)), (by first | rfl | (simp; done) | (simp [*]; done)), H', ⟨by first | omega | exact Nat.le_refl _⟩, ⟨by (with_reducible repeat (first | refine blk_drewN ?_ _ | refine blk_drew ?_ | refine blk_alloc ?_ _)); exact BK111.out⟩, ⟨by (with_reducible repeat (first | refine blk_drewN ?_ _ | refine blk_drew ?_ | refine blk_alloc ?_ _)); exact BK112.out⟩, ⟨by repeat (first | (with_reducible first | exact HB.out | apply below_alloc | apply pw_below_drewN | apply below_drew1 | refine below_set ?_ GE111.out | refine below_set ?_ GE112.out) | exact HB.out)⟩⟩
    · rw [if_neg c8] at H
      have c8b0 : decide (a1 < a0) = false := decide_eq_false c8
      clear c8
      (first | rw [c8b0] | (simp only [i64_w, i32_w]; rw [c8b0]) | skip)
      have H' := Aside0.mk H
      clear H
      go_wp2
      go_meet
      case rel => exact ⟨_, (a0), (a1), (by first | rfl | (simp; done) | (simp [*]; done)), (by first | rfl | (simp; done) | (simp [*]; done)), H', ⟨by first | omega | exact Nat.le_refl _⟩, ⟨by (with_reducible repeat (first | refine blk_drewN ?_ _ | refine blk_drew ?_ | refine blk_alloc ?_ _)); exact BK111.out⟩, ⟨by (with_reducible repeat (first | refine blk_drewN ?_ _ | refine blk_drew ?_ | refine blk_alloc ?_ _)); exact BK112.out⟩, ⟨by repeat (first | (with_reducible first | exact HB.out | apply below_alloc | apply pw_below_drewN | apply below_drew1 | refine below_set ?_ GE111.out | refine below_set ?_ GE112.out) | exact HB.out)⟩⟩
  case rest =>
    clear HC5
    try clear p2
    try clear c3
    try clear c8
    try clear c8b0
    obtain ⟨kq, x0_4, x1_4, rfl, rfl, HA, HJ4, BK111, BK112, HB⟩ := hcut
    cases kq with
    | zero => exact absurd HA.out (by simp [datumlaw13_ZoneRises.j0])
    | succ kj4 =>
      have H := HA.out
      clear HA
      simp only [datumlaw13_ZoneRises.j0] at H
      replace H := Option.bind_eq_some_iff.mp H
      obtain ⟨t113, A90, H⟩ := H
      replace H : (if t113 = true then (datumlaw13_ZoneRises.j1 kj4 x0_4 x1_4 a3_0 a3_1 a2_0 a2_1) else (datumlaw13_ZoneRises.j1 kj4 x0_4 x1_4 a2_0 a2_1 a3_0 a3_1)) = some r := H
      have A9 := Aside0.mk A90
      clear A90
      have HC10 := Aside0.mk H
      clear H
      have hnb11 := NB112_111.out
      have hnc11 := NB111_112.out
      have hcz12_0 : wc.cell? ⟨gb112, 0, none⟩ = some (.int .u64 a3_0) := (blk_cell BK112.out 0).trans rfl
      have hcz12_1 : wc.cell? ⟨gb112, 1, none⟩ = some (.int .u64 a3_1) := (blk_cell BK112.out 1).trans rfl
      have hfz12_0 := blk_frozen BK112.out 0
      have hfz12_1 := blk_frozen BK112.out 1
      have hcz13_0 : wc.cell? ⟨gb111, 0, none⟩ = some (.int .u64 a2_0) := (blk_cell BK111.out 0).trans rfl
      have hcz13_1 : wc.cell? ⟨gb111, 1, none⟩ = some (.int .u64 a2_1) := (blk_cell BK111.out 1).trans rfl
      have hfz13_0 := blk_frozen BK111.out 0
      have hfz13_1 := blk_frozen BK111.out 1
      go_upto_if 26 with (first | ((with_reducible refine gate_callee (f := 5) rfl ?_); refine goesL_ (some 26) rfl rfl Try.func5 (by kernel_rfl) rfl #[.agg #[.int .u64 a3_0, .int .u64 a3_1], .agg #[.int .u64 a2_0, .int .u64 a2_1]] rfl (by (try simp only [List.map_toArray, List.map_cons, List.map_nil]); first | done | rfl | (simp only [List.length_drop, List.length_take]; rfl)) ?_; (with_reducible refine (wide_Less.calls a3_0 a3_1 a2_0 a2_1 t113 _ A9.out).mono ?_); rintro e w14 ⟨rfl, hb⟩; refine ⟨_, rfl, ?_⟩; have n0_ := Aside0.mk (blk_below (g := gb111) (o := .cells #[.int .u64 a2_0, .int .u64 a2_1] 24 (0, 0)) (by (with_reducible repeat (first | refine blk_drewN ?_ _ | refine blk_drew ?_ | refine blk_alloc ?_ _)); exact BK111.out) hb); have n1_ := Aside0.mk (blk_below (g := gb112) (o := .cells #[.int .u64 a3_0, .int .u64 a3_1] 24 (0, 0)) (by (with_reducible repeat (first | refine blk_drewN ?_ _ | refine blk_drew ?_ | refine blk_alloc ?_ _)); exact BK112.out) hb); have n2_ := Aside0.mk (below_step (by repeat (first | (with_reducible first | exact HB.out | apply below_alloc | apply pw_below_drewN | apply below_drew1 | refine below_set ?_ GE111.out | refine below_set ?_ GE112.out) | exact HB.out)) hb); clear BK111; clear BK112; clear HB; have BK111 := n0_; have BK112 := n1_; have HB := n2_; clear n0_ n1_ n2_; (try clear hb); (try clear hb2); (try clear hk); (try clear hi)))
      (try simp only [Act.put, List.setIfInBounds_toArray, List.set_cons_zero, List.set_cons_succ])
      go_cut [] (fun wc => ∃ (kq : Nat) (x112000_9 : Int) (x112001_9 : Int) (x113000_9 : Int) (x113001_9 : Int), Aside0 (datumlaw13_ZoneRises.j1 kq x0_4 x1_4 x112000_9 x112001_9 x113000_9 x113001_9 = some r) ∧ Aside0 (kq ≤ kj4) ∧ Aside0 (wc.heap[gb111]? = some (.cells #[.int .u64 x112000_9, .int .u64 x112001_9] 24 (0, 0))) ∧ Aside0 (wc.heap[gb112]? = some (.cells #[.int .u64 x113000_9, .int .u64 x113001_9] 24 (0, 0))) ∧ Aside0 (Below w.heap.size w wc))
      case first =>
        have H := HC10.out
        clear HC10
        by_cases c15 : t113 = true
        · subst c15
          have H1 : (datumlaw13_ZoneRises.j1 kj4 x0_4 x1_4 a3_0 a3_1 a2_0 a2_1) = some r := by rw [if_pos rfl] at H; exact H
          clear H
          have H := H1
          clear H1
          have H' := Aside0.mk H
          clear H
          have hnb16 := NB112_111.out
          have hnc16 := NB111_112.out
          have hcz17_0 : w14.cell? ⟨gb112, 0, none⟩ = some (.int .u64 a3_0) := (blk_cell BK112.out 0).trans rfl
          have hcz17_1 : w14.cell? ⟨gb112, 1, none⟩ = some (.int .u64 a3_1) := (blk_cell BK112.out 1).trans rfl
          have hfz17_0 := blk_frozen BK112.out 0
          have hfz17_1 := blk_frozen BK112.out 1
          have hcz18_0 : w14.cell? ⟨gb111, 0, none⟩ = some (.int .u64 a2_0) := (blk_cell BK111.out 0).trans rfl
          have hcz18_1 : w14.cell? ⟨gb111, 1, none⟩ = some (.int .u64 a2_1) := (blk_cell BK111.out 1).trans rfl
          have hfz18_0 := blk_frozen BK111.out 0
          have hfz18_1 := blk_frozen BK111.out 1
          go_wp2
          go_meet
          case rel => exact ⟨_, (a3_0), (a3_1), (a2_0), (a2_1), H', ⟨by have := HJ4.out; first | omega | exact Nat.le_refl _⟩, ⟨by (with_reducible repeat (first | refine blk_drewN ?_ _ | refine blk_drew ?_ | refine blk_alloc ?_ _)); refine blk_far ?_ NB111_112.out _; (with_reducible repeat (first | refine blk_drewN ?_ _ | refine blk_drew ?_ | refine blk_alloc ?_ _)); refine blk_far ?_ NB111_112.out _; (with_reducible repeat (first | refine blk_drewN ?_ _ | refine blk_drew ?_ | refine blk_alloc ?_ _)); refine blk_put (cs := #[.int .u64 a3_0, .int .u64 a2_1]) ?_ 1 _ rfl; (with_reducible repeat (first | refine blk_drewN ?_ _ | refine blk_drew ?_ | refine blk_alloc ?_ _)); refine blk_put (cs := #[.int .u64 a2_0, .int .u64 a2_1]) ?_ 0 _ rfl; (with_reducible repeat (first | refine blk_drewN ?_ _ | refine blk_drew ?_ | refine blk_alloc ?_ _)); exact BK111.out⟩, ⟨by (with_reducible repeat (first | refine blk_drewN ?_ _ | refine blk_drew ?_ | refine blk_alloc ?_ _)); refine blk_put (cs := #[.int .u64 a2_0, .int .u64 a3_1]) ?_ 1 _ rfl; (with_reducible repeat (first | refine blk_drewN ?_ _ | refine blk_drew ?_ | refine blk_alloc ?_ _)); refine blk_put (cs := #[.int .u64 a3_0, .int .u64 a3_1]) ?_ 0 _ rfl; (with_reducible repeat (first | refine blk_drewN ?_ _ | refine blk_drew ?_ | refine blk_alloc ?_ _)); refine blk_far ?_ NB112_111.out _; (with_reducible repeat (first | refine blk_drewN ?_ _ | refine blk_drew ?_ | refine blk_alloc ?_ _)); refine blk_far ?_ NB112_111.out _; (with_reducible repeat (first | refine blk_drewN ?_ _ | refine blk_drew ?_ | refine blk_alloc ?_ _)); exact BK112.out⟩, ⟨by repeat (first | (with_reducible first | exact HB.out | apply below_alloc | apply pw_below_drewN | apply below_drew1 | refine below_set ?_ GE111.out | refine below_set ?_ GE112.out) | exact HB.out)⟩⟩
        · replace c15 := Bool.eq_false_iff.mpr c15
          subst c15
          have H1 : (datumlaw13_ZoneRises.j1 kj4 x0_4 x1_4 a2_0 a2_1 a3_0 a3_1) = some r := by rw [if_neg (show ¬ (false = true) by decide)] at H; exact H
          clear H
          have H := H1
          clear H1
          have H' := Aside0.mk H
          clear H
          go_wp2
          go_meet
          case rel => exact ⟨_, (a2_0), (a2_1), (a3_0), (a3_1), H', ⟨by have := HJ4.out; first | omega | exact Nat.le_refl _⟩, ⟨by (with_reducible repeat (first | refine blk_drewN ?_ _ | refine blk_drew ?_ | refine blk_alloc ?_ _)); exact BK111.out⟩, ⟨by (with_reducible repeat (first | refine blk_drewN ?_ _ | refine blk_drew ?_ | refine blk_alloc ?_ _)); exact BK112.out⟩, ⟨by repeat (first | (with_reducible first | exact HB.out | apply below_alloc | apply pw_below_drewN | apply below_drew1 | refine below_set ?_ GE111.out | refine below_set ?_ GE112.out) | exact HB.out)⟩⟩
      case rest =>
        clear HC10
        try clear c1
        try clear p2
        try clear c3
        try clear c5
        try clear c8
        try clear c8b0
        try clear c11
        try clear c15
        try clear c16
        try clear hcz12_0
        try clear hcz12_1
        try clear hcz13_0
        try clear hcz13_1
        try clear hcz17_0
        try clear hcz17_1
        try clear hcz18_0
        try clear hcz18_1
        try clear hfz12_0
        try clear hfz12_1
        try clear hfz13_0
        try clear hfz13_1
        try clear hfz17_0
        try clear hfz17_1
        try clear hfz18_0
        try clear hfz18_1
        try clear p2
        obtain ⟨kq, x112000_9, x112001_9, x113000_9, x113001_9, HA, HJ9, BK111, BK112, HB⟩ := hcut
        cases kq with
        | zero => exact absurd HA.out (by simp [datumlaw13_ZoneRises.j1])
        | succ kj9 =>
          have H := HA.out
          clear HA
          simp only [datumlaw13_ZoneRises.j1] at H
          replace H := Option.bind_eq_some_iff.mp H
          obtain ⟨⟨t114, t115⟩, A190, H⟩ := H
          replace H : ((zone_Class.f x1_4 x113000_9 x113001_9).bind fun bt116 => ((zone_Class.f x1_4 x112000_9 x112001_9).bind fun bt118 => (if t115 = 0 then (if bt116.2 = 0 then (if bt118.2 = 0 then (if t114 > bt116.1 then (datumlaw13_ZoneRises.j2 kj9 x1_4 true x113000_9 x113001_9) else (if t114 < (-4) then (datumlaw13_ZoneRises.j2 kj9 x1_4 true x113000_9 x113001_9) else (if bt116.1 > 4 then (datumlaw13_ZoneRises.j2 kj9 x1_4 true x113000_9 x113001_9) else (if ((bt116.1 == 0) != (x1_4 == 0)) = true then (datumlaw13_ZoneRises.j2 kj9 x1_4 true x113000_9 x113001_9) else (if x1_4 ≥ 0 then (if bt118.1 < bt116.1 then (datumlaw13_ZoneRises.j2 kj9 x1_4 true x113000_9 x113001_9) else (if x1_4 ≤ 0 then (if bt118.1 > bt116.1 then (datumlaw13_ZoneRises.j2 kj9 x1_4 true x113000_9 x113001_9) else ((datumlaw13_alive.f).bind fun t121 => (datumlaw13_ZoneRises.j2 kj9 x1_4 (!t121) x113000_9 x113001_9))) else ((datumlaw13_alive.f).bind fun t122 => (datumlaw13_ZoneRises.j2 kj9 x1_4 (!t122) x113000_9 x113001_9)))) else (if x1_4 ≤ 0 then (if bt118.1 > bt116.1 then (datumlaw13_ZoneRises.j2 kj9 x1_4 true x113000_9 x113001_9) else ((datumlaw13_alive.f).bind fun t123 => (datumlaw13_ZoneRises.j2 kj9 x1_4 (!t123) x113000_9 x113001_9))) else ((datumlaw13_alive.f).bind fun t124 => (datumlaw13_ZoneRises.j2 kj9 x1_4 (!t124) x113000_9 x113001_9)))))))) else (datumlaw13_ZoneRises.j2 kj9 x1_4 true x113000_9 x113001_9)) else (datumlaw13_ZoneRises.j2 kj9 x1_4 true x113000_9 x113001_9)) else ((datumlaw13_alive.f).bind fun t120 => (if t120 = true then (if t115 = 1 then (some (bt116.2 == 1)) else (some false)) else (some false)))))) = some r := H
          have A19 := Aside0.mk A190
          clear A190
          replace H := Option.bind_eq_some_iff.mp H
          obtain ⟨⟨t116, t117⟩, A200, H⟩ := H
          replace H : ((zone_Class.f x1_4 x112000_9 x112001_9).bind fun bt118 => (if t115 = 0 then (if t117 = 0 then (if bt118.2 = 0 then (if t114 > t116 then (datumlaw13_ZoneRises.j2 kj9 x1_4 true x113000_9 x113001_9) else (if t114 < (-4) then (datumlaw13_ZoneRises.j2 kj9 x1_4 true x113000_9 x113001_9) else (if t116 > 4 then (datumlaw13_ZoneRises.j2 kj9 x1_4 true x113000_9 x113001_9) else (if ((t116 == 0) != (x1_4 == 0)) = true then (datumlaw13_ZoneRises.j2 kj9 x1_4 true x113000_9 x113001_9) else (if x1_4 ≥ 0 then (if bt118.1 < t116 then (datumlaw13_ZoneRises.j2 kj9 x1_4 true x113000_9 x113001_9) else (if x1_4 ≤ 0 then (if bt118.1 > t116 then (datumlaw13_ZoneRises.j2 kj9 x1_4 true x113000_9 x113001_9) else ((datumlaw13_alive.f).bind fun t121 => (datumlaw13_ZoneRises.j2 kj9 x1_4 (!t121) x113000_9 x113001_9))) else ((datumlaw13_alive.f).bind fun t122 => (datumlaw13_ZoneRises.j2 kj9 x1_4 (!t122) x113000_9 x113001_9)))) else (if x1_4 ≤ 0 then (if bt118.1 > t116 then (datumlaw13_ZoneRises.j2 kj9 x1_4 true x113000_9 x113001_9) else ((datumlaw13_alive.f).bind fun t123 => (datumlaw13_ZoneRises.j2 kj9 x1_4 (!t123) x113000_9 x113001_9))) else ((datumlaw13_alive.f).bind fun t124 => (datumlaw13_ZoneRises.j2 kj9 x1_4 (!t124) x113000_9 x113001_9)))))))) else (datumlaw13_ZoneRises.j2 kj9 x1_4 true x113000_9 x113001_9)) else (datumlaw13_ZoneRises.j2 kj9 x1_4 true x113000_9 x113001_9)) else ((datumlaw13_alive.f).bind fun t120 => (if t120 = true then (if t115 = 1 then (some (t117 == 1)) else (some false)) else (some false))))) = some r := H
          have A20 := Aside0.mk A200
          clear A200
          replace H := Option.bind_eq_some_iff.mp H
          obtain ⟨⟨t118, t119⟩, A210, H⟩ := H
          replace H : (if t115 = 0 then (if t117 = 0 then (if t119 = 0 then (if t114 > t116 then (datumlaw13_ZoneRises.j2 kj9 x1_4 true x113000_9 x113001_9) else (if t114 < (-4) then (datumlaw13_ZoneRises.j2 kj9 x1_4 true x113000_9 x113001_9) else (if t116 > 4 then (datumlaw13_ZoneRises.j2 kj9 x1_4 true x113000_9 x113001_9) else (if ((t116 == 0) != (x1_4 == 0)) = true then (datumlaw13_ZoneRises.j2 kj9 x1_4 true x113000_9 x113001_9) else (if x1_4 ≥ 0 then (if t118 < t116 then (datumlaw13_ZoneRises.j2 kj9 x1_4 true x113000_9 x113001_9) else (if x1_4 ≤ 0 then (if t118 > t116 then (datumlaw13_ZoneRises.j2 kj9 x1_4 true x113000_9 x113001_9) else ((datumlaw13_alive.f).bind fun t121 => (datumlaw13_ZoneRises.j2 kj9 x1_4 (!t121) x113000_9 x113001_9))) else ((datumlaw13_alive.f).bind fun t122 => (datumlaw13_ZoneRises.j2 kj9 x1_4 (!t122) x113000_9 x113001_9)))) else (if x1_4 ≤ 0 then (if t118 > t116 then (datumlaw13_ZoneRises.j2 kj9 x1_4 true x113000_9 x113001_9) else ((datumlaw13_alive.f).bind fun t123 => (datumlaw13_ZoneRises.j2 kj9 x1_4 (!t123) x113000_9 x113001_9))) else ((datumlaw13_alive.f).bind fun t124 => (datumlaw13_ZoneRises.j2 kj9 x1_4 (!t124) x113000_9 x113001_9)))))))) else (datumlaw13_ZoneRises.j2 kj9 x1_4 true x113000_9 x113001_9)) else (datumlaw13_ZoneRises.j2 kj9 x1_4 true x113000_9 x113001_9)) else ((datumlaw13_alive.f).bind fun t120 => (if t120 = true then (if t115 = 1 then (some (t117 == 1)) else (some false)) else (some false)))) = some r := H
          have A21 := Aside0.mk A210
          clear A210
          by_cases c22 : t115 = 0
          · rw [if_pos c22] at H
            have c22b0 : (t115 == 0) = true := beq_iff_eq.mpr c22
            have c22b1 : (t115 != 0) = false := bne_eq_false_iff_eq.mpr c22
            clear c22
            have HC23 := Aside0.mk H
            clear H
            have hnb24 := NB112_111.out
            have hnc24 := NB111_112.out
            have hcz25_0 : wc.cell? ⟨gb112, 0, none⟩ = some (.int .u64 x113000_9) := (blk_cell BK112.out 0).trans rfl
            have hcz25_1 : wc.cell? ⟨gb112, 1, none⟩ = some (.int .u64 x113001_9) := (blk_cell BK112.out 1).trans rfl
            have hfz25_0 := blk_frozen BK112.out 0
            have hfz25_1 := blk_frozen BK112.out 1
            go_upto_region 10 with (first | ((with_reducible refine gate_callee (f := 6) rfl ?_); refine goesL_ (some 32) rfl rfl Try.func6 (by kernel_rfl) rfl #[.int .i64 x0_4, .agg #[.int .u64 x113000_9, .int .u64 x113001_9]] rfl (by (try simp only [List.map_toArray, List.map_cons, List.map_nil]); first | done | rfl | (simp only [List.length_drop, List.length_take]; rfl)) ?_; (with_reducible refine (zone_Class.calls x0_4 x113000_9 x113001_9 t114 t115 _ A19.out).mono ?_); rintro e w26 ⟨rfl, hb⟩; refine ⟨_, rfl, ?_⟩; have n0_ := Aside0.mk (blk_below (g := gb111) (o := .cells #[.int .u64 x112000_9, .int .u64 x112001_9] 24 (0, 0)) (by (with_reducible repeat (first | refine blk_drewN ?_ _ | refine blk_drew ?_ | refine blk_alloc ?_ _)); exact BK111.out) hb); have n1_ := Aside0.mk (blk_below (g := gb112) (o := .cells #[.int .u64 x113000_9, .int .u64 x113001_9] 24 (0, 0)) (by (with_reducible repeat (first | refine blk_drewN ?_ _ | refine blk_drew ?_ | refine blk_alloc ?_ _)); exact BK112.out) hb); have n2_ := Aside0.mk (below_step (by repeat (first | (with_reducible first | exact HB.out | apply below_alloc | apply pw_below_drewN | apply below_drew1 | refine below_set ?_ GE111.out | refine below_set ?_ GE112.out) | exact HB.out)) hb); clear BK111; clear BK112; clear HB; have BK111 := n0_; have BK112 := n1_; have HB := n2_; clear n0_ n1_ n2_; (try clear hb); (try clear hb2); (try clear hk); (try clear hi); have hcz27_0 : w26.cell? ⟨gb112, 0, none⟩ = some (.int .u64 x113000_9) := (blk_cell BK112.out 0).trans rfl; have hcz27_1 : w26.cell? ⟨gb112, 1, none⟩ = some (.int .u64 x113001_9) := (blk_cell BK112.out 1).trans rfl; have hfz27_0 := blk_frozen BK112.out 0; have hfz27_1 := blk_frozen BK112.out 1) | ((with_reducible refine gate_callee (f := 6) rfl ?_); refine goesL_ (some 38) rfl rfl Try.func6 (by kernel_rfl) rfl #[.int .i64 x1_4, .agg #[.int .u64 x113000_9, .int .u64 x113001_9]] rfl (by (try simp only [List.map_toArray, List.map_cons, List.map_nil]); first | done | rfl | (simp only [List.length_drop, List.length_take]; rfl)) ?_; (with_reducible refine (zone_Class.calls x1_4 x113000_9 x113001_9 t116 t117 _ A20.out).mono ?_); rintro e w28 ⟨rfl, hb⟩; refine ⟨_, rfl, ?_⟩; have n0_ := Aside0.mk (blk_below (g := gb111) (o := .cells #[.int .u64 x112000_9, .int .u64 x112001_9] 24 (0, 0)) (by (with_reducible repeat (first | refine blk_drewN ?_ _ | refine blk_drew ?_ | refine blk_alloc ?_ _)); exact BK111.out) hb); have n1_ := Aside0.mk (blk_below (g := gb112) (o := .cells #[.int .u64 x113000_9, .int .u64 x113001_9] 24 (0, 0)) (by (with_reducible repeat (first | refine blk_drewN ?_ _ | refine blk_drew ?_ | refine blk_alloc ?_ _)); exact BK112.out) hb); have n2_ := Aside0.mk (below_step (by repeat (first | (with_reducible first | exact HB.out | apply below_alloc | apply pw_below_drewN | apply below_drew1 | refine below_set ?_ GE111.out | refine below_set ?_ GE112.out) | exact HB.out)) hb); clear BK111; clear BK112; clear HB; have BK111 := n0_; have BK112 := n1_; have HB := n2_; clear n0_ n1_ n2_; (try clear hb); (try clear hb2); (try clear hk); (try clear hi); have hcz29_0 : w28.cell? ⟨gb111, 0, none⟩ = some (.int .u64 x112000_9) := (blk_cell BK111.out 0).trans rfl; have hcz29_1 : w28.cell? ⟨gb111, 1, none⟩ = some (.int .u64 x112001_9) := (blk_cell BK111.out 1).trans rfl; have hfz29_0 := blk_frozen BK111.out 0; have hfz29_1 := blk_frozen BK111.out 1) | ((with_reducible refine gate_callee (f := 6) rfl ?_); refine goesL_ (some 44) rfl rfl Try.func6 (by kernel_rfl) rfl #[.int .i64 x1_4, .agg #[.int .u64 x112000_9, .int .u64 x112001_9]] rfl (by (try simp only [List.map_toArray, List.map_cons, List.map_nil]); first | done | rfl | (simp only [List.length_drop, List.length_take]; rfl)) ?_; (with_reducible refine (zone_Class.calls x1_4 x112000_9 x112001_9 t118 t119 _ A21.out).mono ?_); rintro e w30 ⟨rfl, hb⟩; refine ⟨_, rfl, ?_⟩; have n0_ := Aside0.mk (blk_below (g := gb111) (o := .cells #[.int .u64 x112000_9, .int .u64 x112001_9] 24 (0, 0)) (by (with_reducible repeat (first | refine blk_drewN ?_ _ | refine blk_drew ?_ | refine blk_alloc ?_ _)); exact BK111.out) hb); have n1_ := Aside0.mk (blk_below (g := gb112) (o := .cells #[.int .u64 x113000_9, .int .u64 x113001_9] 24 (0, 0)) (by (with_reducible repeat (first | refine blk_drewN ?_ _ | refine blk_drew ?_ | refine blk_alloc ?_ _)); exact BK112.out) hb); have n2_ := Aside0.mk (below_step (by repeat (first | (with_reducible first | exact HB.out | apply below_alloc | apply pw_below_drewN | apply below_drew1 | refine below_set ?_ GE111.out | refine below_set ?_ GE112.out) | exact HB.out)) hb); clear BK111; clear BK112; clear HB; have BK111 := n0_; have BK112 := n1_; have HB := n2_; clear n0_ n1_ n2_; (try clear hb); (try clear hb2); (try clear hk); (try clear hi)))
            (try simp only [Act.put, List.setIfInBounds_toArray, List.set_cons_zero, List.set_cons_succ])
            go_cut [105] (fun v105 wc => ∃ (kq : Nat) (x105_22 : Bool), v105 = .bool x105_22 ∧ Aside0 (datumlaw13_ZoneRises.j2 kq x1_4 x105_22 x113000_9 x113001_9 = some r) ∧ Aside0 (kq ≤ kj9) ∧ Aside0 (wc.heap[gb111]? = some (.cells #[.int .u64 x112000_9, .int .u64 x112001_9] 24 (0, 0))) ∧ Aside0 (wc.heap[gb112]? = some (.cells #[.int .u64 x113000_9, .int .u64 x113001_9] 24 (0, 0))) ∧ Aside0 (Below w.heap.size w wc))
            case first =>
              have H := HC23.out
              clear HC23
              by_cases c31 : t117 = 0
              · rw [if_pos c31] at H
                have c31b0 : (t117 == 0) = true := beq_iff_eq.mpr c31
                have c31b1 : (t117 != 0) = false := bne_eq_false_iff_eq.mpr c31
                clear c31
                (first | rw [c31b0] | (simp only [i64_w, i32_w]; rw [c31b0]) | skip)
                by_cases c32 : t119 = 0
                · rw [if_pos c32] at H
                  have c32b0 : (t119 == 0) = true := beq_iff_eq.mpr c32
                  have c32b1 : (t119 != 0) = false := bne_eq_false_iff_eq.mpr c32
                  clear c32
                  by_cases c33 : t114 > t116
                  · rw [if_pos c33] at H
                    have c33b0 : decide (t116 < t114) = true := decide_eq_true c33
                    clear c33
                    have H' := Aside0.mk H
                    clear H
                    go_wp2
                    go_meet
                    case rel => exact ⟨_, (true), (by first | rfl | (simp; done) | (simp [*]; done)), H', ⟨by have := HJ4.out; have := HJ9.out; first | omega | exact Nat.le_refl _⟩, ⟨by (with_reducible repeat (first | refine blk_drewN ?_ _ | refine blk_drew ?_ | refine blk_alloc ?_ _)); exact BK111.out⟩, ⟨by (with_reducible repeat (first | refine blk_drewN ?_ _ | refine blk_drew ?_ | refine blk_alloc ?_ _)); exact BK112.out⟩, ⟨by repeat (first | (with_reducible first | exact HB.out | apply below_alloc | apply pw_below_drewN | apply below_drew1 | refine below_set ?_ GE111.out | refine below_set ?_ GE112.out) | exact HB.out)⟩⟩
                  · rw [if_neg c33] at H
                    have c33b0 : decide (t116 < t114) = false := decide_eq_false c33
                    clear c33
                    by_cases c34 : t114 < (-4)
                    · rw [if_pos c34] at H
                      have c34b0 : decide (t114 < (-4)) = true := decide_eq_true c34
                      clear c34
                      have H' := Aside0.mk H
                      clear H
                      go_wp2
                      go_meet
                      case rel => exact ⟨_, (true), (by first | rfl | (simp; done) | (simp [*]; done)), H', ⟨by have := HJ4.out; have := HJ9.out; first | omega | exact Nat.le_refl _⟩, ⟨by (with_reducible repeat (first | refine blk_drewN ?_ _ | refine blk_drew ?_ | refine blk_alloc ?_ _)); exact BK111.out⟩, ⟨by (with_reducible repeat (first | refine blk_drewN ?_ _ | refine blk_drew ?_ | refine blk_alloc ?_ _)); exact BK112.out⟩, ⟨by repeat (first | (with_reducible first | exact HB.out | apply below_alloc | apply pw_below_drewN | apply below_drew1 | refine below_set ?_ GE111.out | refine below_set ?_ GE112.out) | exact HB.out)⟩⟩
                    · rw [if_neg c34] at H
                      have c34b0 : decide (t114 < (-4)) = false := decide_eq_false c34
                      clear c34
                      by_cases c35 : t116 > 4
                      · rw [if_pos c35] at H
                        have c35b0 : decide (4 < t116) = true := decide_eq_true c35
                        clear c35
                        have H' := Aside0.mk H
                        clear H
                        go_wp2
                        go_meet
                        case rel => exact ⟨_, (true), (by first | rfl | (simp; done) | (simp [*]; done)), H', ⟨by have := HJ4.out; have := HJ9.out; first | omega | exact Nat.le_refl _⟩, ⟨by (with_reducible repeat (first | refine blk_drewN ?_ _ | refine blk_drew ?_ | refine blk_alloc ?_ _)); exact BK111.out⟩, ⟨by (with_reducible repeat (first | refine blk_drewN ?_ _ | refine blk_drew ?_ | refine blk_alloc ?_ _)); exact BK112.out⟩, ⟨by repeat (first | (with_reducible first | exact HB.out | apply below_alloc | apply pw_below_drewN | apply below_drew1 | refine below_set ?_ GE111.out | refine below_set ?_ GE112.out) | exact HB.out)⟩⟩
                      · rw [if_neg c35] at H
                        have c35b0 : decide (4 < t116) = false := decide_eq_false c35
                        clear c35
                        by_cases c36 : ((t116 == 0) != (x1_4 == 0)) = true
                        · rw [if_pos c36] at H
                          have c36b0 : ((t116 == 0) != (x1_4 == 0)) = true := c36
                          (try (have c36b1 : decide ((t116 == 0) = (x1_4 == 0)) = false := by simpa using c36))
                          (try (have c36b2 : ((t116 == 0) == (x1_4 == 0)) = false := by simpa using c36))
                          (try (have c36b3 : ¬ ((t116 == 0) = (x1_4 == 0)) := by simpa using c36))
                          clear c36
                          have H' := Aside0.mk H
                          clear H
                          go_wp2
                          go_meet
                          case rel => exact ⟨_, (true), (by first | rfl | (simp; done) | (simp [*]; done)), H', ⟨by have := HJ4.out; have := HJ9.out; first | omega | exact Nat.le_refl _⟩, ⟨by (with_reducible repeat (first | refine blk_drewN ?_ _ | refine blk_drew ?_ | refine blk_alloc ?_ _)); exact BK111.out⟩, ⟨by (with_reducible repeat (first | refine blk_drewN ?_ _ | refine blk_drew ?_ | refine blk_alloc ?_ _)); exact BK112.out⟩, ⟨by repeat (first | (with_reducible first | exact HB.out | apply below_alloc | apply pw_below_drewN | apply below_drew1 | refine below_set ?_ GE111.out | refine below_set ?_ GE112.out) | exact HB.out)⟩⟩
                        · rw [if_neg c36] at H
                          have c36b0 : ((t116 == 0) != (x1_4 == 0)) = false := by simpa using c36
                          (try (have c36b1 : decide ((t116 == 0) = (x1_4 == 0)) = true := by simpa using c36))
                          (try (have c36b2 : ((t116 == 0) == (x1_4 == 0)) = true := by simpa using c36))
                          clear c36
                          by_cases c37 : x1_4 ≥ 0
                          · rw [if_pos c37] at H
                            have c37b0 : decide (0 ≤ x1_4) = true := decide_eq_true c37
                            clear c37
                            by_cases c38 : t118 < t116
                            · rw [if_pos c38] at H
                              have c38b0 : decide (t118 < t116) = true := decide_eq_true c38
                              clear c38
                              have H' := Aside0.mk H
                              clear H
                              go_wp2
                              go_meet
                              case rel => exact ⟨_, (true), (by first | rfl | (simp; done) | (simp [*]; done)), H', ⟨by have := HJ4.out; have := HJ9.out; first | omega | exact Nat.le_refl _⟩, ⟨by (with_reducible repeat (first | refine blk_drewN ?_ _ | refine blk_drew ?_ | refine blk_alloc ?_ _)); exact BK111.out⟩, ⟨by (with_reducible repeat (first | refine blk_drewN ?_ _ | refine blk_drew ?_ | refine blk_alloc ?_ _)); exact BK112.out⟩, ⟨by repeat (first | (with_reducible first | exact HB.out | apply below_alloc | apply pw_below_drewN | apply below_drew1 | refine below_set ?_ GE111.out | refine below_set ?_ GE112.out) | exact HB.out)⟩⟩
                            · rw [if_neg c38] at H
                              have c38b0 : decide (t118 < t116) = false := decide_eq_false c38
                              clear c38
                              by_cases c39 : x1_4 ≤ 0
                              · rw [if_pos c39] at H
                                have c39b0 : decide (x1_4 ≤ 0) = true := decide_eq_true c39
                                clear c39
                                by_cases c40 : t118 > t116
                                · rw [if_pos c40] at H
                                  have c40b0 : decide (t116 < t118) = true := decide_eq_true c40
                                  clear c40
                                  have H' := Aside0.mk H
                                  clear H
                                  go_wp2
                                  go_meet
                                  case rel => exact ⟨_, (true), (by first | rfl | (simp; done) | (simp [*]; done)), H', ⟨by have := HJ4.out; have := HJ9.out; first | omega | exact Nat.le_refl _⟩, ⟨by (with_reducible repeat (first | refine blk_drewN ?_ _ | refine blk_drew ?_ | refine blk_alloc ?_ _)); exact BK111.out⟩, ⟨by (with_reducible repeat (first | refine blk_drewN ?_ _ | refine blk_drew ?_ | refine blk_alloc ?_ _)); exact BK112.out⟩, ⟨by repeat (first | (with_reducible first | exact HB.out | apply below_alloc | apply pw_below_drewN | apply below_drew1 | refine below_set ?_ GE111.out | refine below_set ?_ GE112.out) | exact HB.out)⟩⟩
                                · rw [if_neg c40] at H
                                  have c40b0 : decide (t116 < t118) = false := decide_eq_false c40
                                  clear c40
                                  replace H := Option.bind_eq_some_iff.mp H
                                  obtain ⟨t121, A410, H⟩ := H
                                  replace H : (datumlaw13_ZoneRises.j2 kj9 x1_4 (!t121) x113000_9 x113001_9) = some r := H
                                  have A41 := Aside0.mk A410
                                  clear A410
                                  have H' := Aside0.mk H
                                  clear H
                                  go_wp2_with (first | (go_at_call 7; (with_reducible refine (datumlaw13_alive.calls  t121 _ A41.out).mono ?_); rintro e w42 ⟨rfl, hb⟩; have n0_ := Aside0.mk (blk_below (g := gb111) (o := .cells #[.int .u64 x112000_9, .int .u64 x112001_9] 24 (0, 0)) (by (with_reducible repeat (first | refine blk_drewN ?_ _ | refine blk_drew ?_ | refine blk_alloc ?_ _)); exact BK111.out) hb); have n1_ := Aside0.mk (blk_below (g := gb112) (o := .cells #[.int .u64 x113000_9, .int .u64 x113001_9] 24 (0, 0)) (by (with_reducible repeat (first | refine blk_drewN ?_ _ | refine blk_drew ?_ | refine blk_alloc ?_ _)); exact BK112.out) hb); have n2_ := Aside0.mk (below_step (by repeat (first | (with_reducible first | exact HB.out | apply below_alloc | apply pw_below_drewN | apply below_drew1 | refine below_set ?_ GE111.out | refine below_set ?_ GE112.out) | exact HB.out)) hb); clear BK111; clear BK112; clear HB; have BK111 := n0_; have BK112 := n1_; have HB := n2_; clear n0_ n1_ n2_; (try clear hb); (try clear hb2); (try clear hk); (try clear hi)))
                                  go_meet
                                  case rel => exact ⟨_, (!t121), (by first | rfl | (simp; done) | (simp [*]; done)), H', ⟨by have := HJ4.out; have := HJ9.out; first | omega | exact Nat.le_refl _⟩, ⟨by (with_reducible repeat (first | refine blk_drewN ?_ _ | refine blk_drew ?_ | refine blk_alloc ?_ _)); exact BK111.out⟩, ⟨by (with_reducible repeat (first | refine blk_drewN ?_ _ | refine blk_drew ?_ | refine blk_alloc ?_ _)); exact BK112.out⟩, ⟨by repeat (first | (with_reducible first | exact HB.out | apply below_alloc | apply pw_below_drewN | apply below_drew1 | refine below_set ?_ GE111.out | refine below_set ?_ GE112.out) | exact HB.out)⟩⟩
                              · rw [if_neg c39] at H
                                have c39b0 : decide (x1_4 ≤ 0) = false := decide_eq_false c39
                                clear c39
                                replace H := Option.bind_eq_some_iff.mp H
                                obtain ⟨t122, A430, H⟩ := H
                                replace H : (datumlaw13_ZoneRises.j2 kj9 x1_4 (!t122) x113000_9 x113001_9) = some r := H
                                have A43 := Aside0.mk A430
                                clear A430
                                have H' := Aside0.mk H
                                clear H
                                go_wp2_with (first | (go_at_call 7; (with_reducible refine (datumlaw13_alive.calls  t122 _ A43.out).mono ?_); rintro e w44 ⟨rfl, hb⟩; have n0_ := Aside0.mk (blk_below (g := gb111) (o := .cells #[.int .u64 x112000_9, .int .u64 x112001_9] 24 (0, 0)) (by (with_reducible repeat (first | refine blk_drewN ?_ _ | refine blk_drew ?_ | refine blk_alloc ?_ _)); exact BK111.out) hb); have n1_ := Aside0.mk (blk_below (g := gb112) (o := .cells #[.int .u64 x113000_9, .int .u64 x113001_9] 24 (0, 0)) (by (with_reducible repeat (first | refine blk_drewN ?_ _ | refine blk_drew ?_ | refine blk_alloc ?_ _)); exact BK112.out) hb); have n2_ := Aside0.mk (below_step (by repeat (first | (with_reducible first | exact HB.out | apply below_alloc | apply pw_below_drewN | apply below_drew1 | refine below_set ?_ GE111.out | refine below_set ?_ GE112.out) | exact HB.out)) hb); clear BK111; clear BK112; clear HB; have BK111 := n0_; have BK112 := n1_; have HB := n2_; clear n0_ n1_ n2_; (try clear hb); (try clear hb2); (try clear hk); (try clear hi)))
                                go_meet
                                case rel => exact ⟨_, (!t122), (by first | rfl | (simp; done) | (simp [*]; done)), H', ⟨by have := HJ4.out; have := HJ9.out; first | omega | exact Nat.le_refl _⟩, ⟨by (with_reducible repeat (first | refine blk_drewN ?_ _ | refine blk_drew ?_ | refine blk_alloc ?_ _)); exact BK111.out⟩, ⟨by (with_reducible repeat (first | refine blk_drewN ?_ _ | refine blk_drew ?_ | refine blk_alloc ?_ _)); exact BK112.out⟩, ⟨by repeat (first | (with_reducible first | exact HB.out | apply below_alloc | apply pw_below_drewN | apply below_drew1 | refine below_set ?_ GE111.out | refine below_set ?_ GE112.out) | exact HB.out)⟩⟩
                          · rw [if_neg c37] at H
                            have c37b0 : decide (0 ≤ x1_4) = false := decide_eq_false c37
                            clear c37
                            by_cases c45 : x1_4 ≤ 0
                            · rw [if_pos c45] at H
                              have c45b0 : decide (x1_4 ≤ 0) = true := decide_eq_true c45
                              clear c45
                              by_cases c46 : t118 > t116
                              · rw [if_pos c46] at H
                                have c46b0 : decide (t116 < t118) = true := decide_eq_true c46
                                clear c46
                                have H' := Aside0.mk H
                                clear H
                                go_wp2
                                go_meet
                                case rel => exact ⟨_, (true), (by first | rfl | (simp; done) | (simp [*]; done)), H', ⟨by have := HJ4.out; have := HJ9.out; first | omega | exact Nat.le_refl _⟩, ⟨by (with_reducible repeat (first | refine blk_drewN ?_ _ | refine blk_drew ?_ | refine blk_alloc ?_ _)); exact BK111.out⟩, ⟨by (with_reducible repeat (first | refine blk_drewN ?_ _ | refine blk_drew ?_ | refine blk_alloc ?_ _)); exact BK112.out⟩, ⟨by repeat (first | (with_reducible first | exact HB.out | apply below_alloc | apply pw_below_drewN | apply below_drew1 | refine below_set ?_ GE111.out | refine below_set ?_ GE112.out) | exact HB.out)⟩⟩
                              · rw [if_neg c46] at H
                                have c46b0 : decide (t116 < t118) = false := decide_eq_false c46
                                clear c46
                                replace H := Option.bind_eq_some_iff.mp H
                                obtain ⟨t123, A470, H⟩ := H
                                replace H : (datumlaw13_ZoneRises.j2 kj9 x1_4 (!t123) x113000_9 x113001_9) = some r := H
                                have A47 := Aside0.mk A470
                                clear A470
                                have H' := Aside0.mk H
                                clear H
                                go_wp2_with (first | (go_at_call 7; (with_reducible refine (datumlaw13_alive.calls  t123 _ A47.out).mono ?_); rintro e w48 ⟨rfl, hb⟩; have n0_ := Aside0.mk (blk_below (g := gb111) (o := .cells #[.int .u64 x112000_9, .int .u64 x112001_9] 24 (0, 0)) (by (with_reducible repeat (first | refine blk_drewN ?_ _ | refine blk_drew ?_ | refine blk_alloc ?_ _)); exact BK111.out) hb); have n1_ := Aside0.mk (blk_below (g := gb112) (o := .cells #[.int .u64 x113000_9, .int .u64 x113001_9] 24 (0, 0)) (by (with_reducible repeat (first | refine blk_drewN ?_ _ | refine blk_drew ?_ | refine blk_alloc ?_ _)); exact BK112.out) hb); have n2_ := Aside0.mk (below_step (by repeat (first | (with_reducible first | exact HB.out | apply below_alloc | apply pw_below_drewN | apply below_drew1 | refine below_set ?_ GE111.out | refine below_set ?_ GE112.out) | exact HB.out)) hb); clear BK111; clear BK112; clear HB; have BK111 := n0_; have BK112 := n1_; have HB := n2_; clear n0_ n1_ n2_; (try clear hb); (try clear hb2); (try clear hk); (try clear hi)))
                                go_meet
                                case rel => exact ⟨_, (!t123), (by first | rfl | (simp; done) | (simp [*]; done)), H', ⟨by have := HJ4.out; have := HJ9.out; first | omega | exact Nat.le_refl _⟩, ⟨by (with_reducible repeat (first | refine blk_drewN ?_ _ | refine blk_drew ?_ | refine blk_alloc ?_ _)); exact BK111.out⟩, ⟨by (with_reducible repeat (first | refine blk_drewN ?_ _ | refine blk_drew ?_ | refine blk_alloc ?_ _)); exact BK112.out⟩, ⟨by repeat (first | (with_reducible first | exact HB.out | apply below_alloc | apply pw_below_drewN | apply below_drew1 | refine below_set ?_ GE111.out | refine below_set ?_ GE112.out) | exact HB.out)⟩⟩
                            · rw [if_neg c45] at H
                              have c45b0 : decide (x1_4 ≤ 0) = false := decide_eq_false c45
                              clear c45
                              replace H := Option.bind_eq_some_iff.mp H
                              obtain ⟨t124, A490, H⟩ := H
                              replace H : (datumlaw13_ZoneRises.j2 kj9 x1_4 (!t124) x113000_9 x113001_9) = some r := H
                              have A49 := Aside0.mk A490
                              clear A490
                              have H' := Aside0.mk H
                              clear H
                              go_wp2_with (first | (go_at_call 7; (with_reducible refine (datumlaw13_alive.calls  t124 _ A49.out).mono ?_); rintro e w50 ⟨rfl, hb⟩; have n0_ := Aside0.mk (blk_below (g := gb111) (o := .cells #[.int .u64 x112000_9, .int .u64 x112001_9] 24 (0, 0)) (by (with_reducible repeat (first | refine blk_drewN ?_ _ | refine blk_drew ?_ | refine blk_alloc ?_ _)); exact BK111.out) hb); have n1_ := Aside0.mk (blk_below (g := gb112) (o := .cells #[.int .u64 x113000_9, .int .u64 x113001_9] 24 (0, 0)) (by (with_reducible repeat (first | refine blk_drewN ?_ _ | refine blk_drew ?_ | refine blk_alloc ?_ _)); exact BK112.out) hb); have n2_ := Aside0.mk (below_step (by repeat (first | (with_reducible first | exact HB.out | apply below_alloc | apply pw_below_drewN | apply below_drew1 | refine below_set ?_ GE111.out | refine below_set ?_ GE112.out) | exact HB.out)) hb); clear BK111; clear BK112; clear HB; have BK111 := n0_; have BK112 := n1_; have HB := n2_; clear n0_ n1_ n2_; (try clear hb); (try clear hb2); (try clear hk); (try clear hi)))
                              go_meet
                              case rel => exact ⟨_, (!t124), (by first | rfl | (simp; done) | (simp [*]; done)), H', ⟨by have := HJ4.out; have := HJ9.out; first | omega | exact Nat.le_refl _⟩, ⟨by (with_reducible repeat (first | refine blk_drewN ?_ _ | refine blk_drew ?_ | refine blk_alloc ?_ _)); exact BK111.out⟩, ⟨by (with_reducible repeat (first | refine blk_drewN ?_ _ | refine blk_drew ?_ | refine blk_alloc ?_ _)); exact BK112.out⟩, ⟨by repeat (first | (with_reducible first | exact HB.out | apply below_alloc | apply pw_below_drewN | apply below_drew1 | refine below_set ?_ GE111.out | refine below_set ?_ GE112.out) | exact HB.out)⟩⟩
                · rw [if_neg c32] at H
                  have c32b0 : (t119 == 0) = false := beq_eq_false_iff_ne.mpr c32
                  have c32b1 : (t119 != 0) = true := bne_iff_ne.mpr c32
                  have H' := Aside0.mk H
                  clear H
                  go_wp2
                  go_meet
                  case rel => exact ⟨_, (true), (by first | rfl | (simp; done) | (simp [*]; done)), H', ⟨by have := HJ4.out; have := HJ9.out; first | omega | exact Nat.le_refl _⟩, ⟨by (with_reducible repeat (first | refine blk_drewN ?_ _ | refine blk_drew ?_ | refine blk_alloc ?_ _)); exact BK111.out⟩, ⟨by (with_reducible repeat (first | refine blk_drewN ?_ _ | refine blk_drew ?_ | refine blk_alloc ?_ _)); exact BK112.out⟩, ⟨by repeat (first | (with_reducible first | exact HB.out | apply below_alloc | apply pw_below_drewN | apply below_drew1 | refine below_set ?_ GE111.out | refine below_set ?_ GE112.out) | exact HB.out)⟩⟩
              · rw [if_neg c31] at H
                have c31b0 : (t117 == 0) = false := beq_eq_false_iff_ne.mpr c31
                have c31b1 : (t117 != 0) = true := bne_iff_ne.mpr c31
                (first | rw [c31b0] | (simp only [i64_w, i32_w]; rw [c31b0]) | skip)
                have H' := Aside0.mk H
                clear H
                go_wp2
                go_meet
                case rel => exact ⟨_, (true), (by first | rfl | (simp; done) | (simp [*]; done)), H', ⟨by have := HJ4.out; have := HJ9.out; first | omega | exact Nat.le_refl _⟩, ⟨by (with_reducible repeat (first | refine blk_drewN ?_ _ | refine blk_drew ?_ | refine blk_alloc ?_ _)); exact BK111.out⟩, ⟨by (with_reducible repeat (first | refine blk_drewN ?_ _ | refine blk_drew ?_ | refine blk_alloc ?_ _)); exact BK112.out⟩, ⟨by repeat (first | (with_reducible first | exact HB.out | apply below_alloc | apply pw_below_drewN | apply below_drew1 | refine below_set ?_ GE111.out | refine below_set ?_ GE112.out) | exact HB.out)⟩⟩
            case rest =>
              clear HC23
              try clear c1
              try clear c2
              try clear p2
              try clear c3
              try clear c4
              try clear c5
              try clear c6
              try clear c8
              try clear c8b0
              try clear c11
              try clear c15
              try clear c16
              try clear c22
              try clear c22b0
              try clear c22b1
              try clear c24
              try clear c31
              try clear c31b0
              try clear c31b1
              try clear c32
              try clear c32b0
              try clear c32b1
              try clear c33
              try clear c33b0
              try clear c34
              try clear c34b0
              try clear c35
              try clear c35b0
              try clear c36
              try clear c36b0
              try clear c36b1
              try clear c36b2
              try clear c37
              try clear c37b0
              try clear c38
              try clear c38b0
              try clear c39
              try clear c39b0
              try clear c40
              try clear c40b0
              try clear c45
              try clear c45b0
              try clear c46
              try clear c46b0
              try clear hcz12_0
              try clear hcz12_1
              try clear hcz13_0
              try clear hcz13_1
              try clear hcz17_0
              try clear hcz17_1
              try clear hcz18_0
              try clear hcz18_1
              try clear hcz25_0
              try clear hcz25_1
              try clear hcz27_0
              try clear hcz27_1
              try clear hcz29_0
              try clear hcz29_1
              try clear hfz12_0
              try clear hfz12_1
              try clear hfz13_0
              try clear hfz13_1
              try clear hfz17_0
              try clear hfz17_1
              try clear hfz18_0
              try clear hfz18_1
              try clear hfz25_0
              try clear hfz25_1
              try clear hfz27_0
              try clear hfz27_1
              try clear hfz29_0
              try clear hfz29_1
              try clear p2
              obtain ⟨kq, x105_22, rfl, HA, HJ22, BK111, BK112, HB⟩ := hcut
              cases kq with
              | zero => exact absurd HA.out (by simp [datumlaw13_ZoneRises.j2])
              | succ kj22 =>
                have H := HA.out
                clear HA
                simp only [datumlaw13_ZoneRises.j2] at H
                by_cases c51 : x105_22 = true
                · subst c51
                  have H1 : (some false) = some r := by rw [if_pos rfl] at H; exact H
                  clear H
                  have H := H1
                  clear H1
                  obtain rfl := Option.some.inj H
                  go_wp2
                  go_ret
                  exact ⟨by first | rfl | (simp [errW_none, errW_some] <;> rfl) | (simp [*, errW_none, errW_some] <;> rfl), by repeat (first | (with_reducible first | exact HB.out | apply below_alloc | apply pw_below_drewN | apply below_drew1 | refine below_set ?_ GE111.out | refine below_set ?_ GE112.out) | exact HB.out)⟩
                · replace c51 := Bool.eq_false_iff.mpr c51
                  subst c51
                  have H1 : ((zone_Class.f (mx x1_4 (-9223372036854775807)) x113000_9 x113001_9).bind fun bt125 => ((zone_Class.f (wrap64 (-(mx x1_4 (-9223372036854775807)))) x113000_9 x113001_9).bind fun bt127 => (if bt125.2 = 0 then (if bt127.2 = 0 then (some (bt127.1 == (wrap64 (-bt125.1)))) else (some false)) else (some false)))) = some r := by rw [if_neg (show ¬ (false = true) by decide)] at H; exact H
                  clear H
                  have H := H1
                  clear H1
                  obtain ⟨ji52, hji52⟩ : ∃ j_ : Int, (mx x1_4 (-9223372036854775807)) = j_ := ⟨_, rfl⟩
                  replace H : ((zone_Class.f (ji52) x113000_9 x113001_9).bind fun bt125 => ((zone_Class.f (wrap64 (-(ji52))) x113000_9 x113001_9).bind fun bt127 => (if bt125.2 = 0 then (if bt127.2 = 0 then (some (bt127.1 == (wrap64 (-bt125.1)))) else (some false)) else (some false)))) = some r := by first | (rw [hji52] at H; exact H) | (simp only [hji52] at H ⊢; exact H)
                  have hji52_ : (if x1_4 < (-9223372036854775807) then (-9223372036854775807) else x1_4) = ji52 := hji52
                  replace H := Option.bind_eq_some_iff.mp H
                  obtain ⟨⟨t125, t126⟩, A530, H⟩ := H
                  replace H : ((zone_Class.f (wrap64 (-(ji52))) x113000_9 x113001_9).bind fun bt127 => (if t126 = 0 then (if bt127.2 = 0 then (some (bt127.1 == (wrap64 (-t125)))) else (some false)) else (some false))) = some r := H
                  have A53 := Aside0.mk A530
                  clear A530
                  replace H := Option.bind_eq_some_iff.mp H
                  obtain ⟨⟨t127, t128⟩, A550, H⟩ := H
                  replace H : (if t126 = 0 then (if t128 = 0 then (some (t127 == (wrap64 (-t125)))) else (some false)) else (some false)) = some r := H
                  have A55 := Aside0.mk A550
                  clear A550
                  by_cases c56 : t126 = 0
                  · rw [if_pos c56] at H
                    have c56b0 : (t126 == 0) = true := beq_iff_eq.mpr c56
                    have c56b1 : (t126 != 0) = false := bne_eq_false_iff_eq.mpr c56
                    clear c56
                    by_cases c57 : t128 = 0
                    · rw [if_pos c57] at H
                      have c57b0 : (t128 == 0) = true := beq_iff_eq.mpr c57
                      have c57b1 : (t128 != 0) = false := bne_eq_false_iff_eq.mpr c57
                      clear c57
                      obtain rfl := Option.some.inj H
                      have hnb58 := NB112_111.out
                      have hnc58 := NB111_112.out
                      have hcz59_0 : wc.cell? ⟨gb112, 0, none⟩ = some (.int .u64 x113000_9) := (blk_cell BK112.out 0).trans rfl
                      have hcz59_1 : wc.cell? ⟨gb112, 1, none⟩ = some (.int .u64 x113001_9) := (blk_cell BK112.out 1).trans rfl
                      have hfz59_0 := blk_frozen BK112.out 0
                      have hfz59_1 := blk_frozen BK112.out 1
                      go_wp2_with (first | ((with_reducible refine gate_callee (f := 6) rfl ?_); refine goesL_ (some 110) rfl rfl Try.func6 (by kernel_rfl) rfl #[.int .i64 ji52, .agg #[.int .u64 x113000_9, .int .u64 x113001_9]] rfl (by (try simp only [List.map_toArray, List.map_cons, List.map_nil]); first | done | (simp only [hji52]; rfl) | rfl | (simp only [List.length_drop, List.length_take]; rfl)) ?_; (with_reducible refine (zone_Class.calls ji52 x113000_9 x113001_9 t125 t126 _ A53.out).mono ?_); rintro e w60 ⟨rfl, hb⟩; refine ⟨_, rfl, ?_⟩; have n0_ := Aside0.mk (blk_below (g := gb111) (o := .cells #[.int .u64 x112000_9, .int .u64 x112001_9] 24 (0, 0)) (by (with_reducible repeat (first | refine blk_drewN ?_ _ | refine blk_drew ?_ | refine blk_alloc ?_ _)); exact BK111.out) hb); have n1_ := Aside0.mk (blk_below (g := gb112) (o := .cells #[.int .u64 x113000_9, .int .u64 x113001_9] 24 (0, 0)) (by (with_reducible repeat (first | refine blk_drewN ?_ _ | refine blk_drew ?_ | refine blk_alloc ?_ _)); exact BK112.out) hb); have n2_ := Aside0.mk (below_step (by repeat (first | (with_reducible first | exact HB.out | apply below_alloc | apply pw_below_drewN | apply below_drew1 | refine below_set ?_ GE111.out | refine below_set ?_ GE112.out) | exact HB.out)) hb); clear BK111; clear BK112; clear HB; have BK111 := n0_; have BK112 := n1_; have HB := n2_; clear n0_ n1_ n2_; (try clear hb); (try clear hb2); (try clear hk); (try clear hi); have hcz61_0 : w60.cell? ⟨gb112, 0, none⟩ = some (.int .u64 x113000_9) := (blk_cell BK112.out 0).trans rfl; have hcz61_1 : w60.cell? ⟨gb112, 1, none⟩ = some (.int .u64 x113001_9) := (blk_cell BK112.out 1).trans rfl; have hfz61_0 := blk_frozen BK112.out 0; have hfz61_1 := blk_frozen BK112.out 1) | ((with_reducible refine gate_callee (f := 6) rfl ?_); refine goesL_ (some 118) rfl rfl Try.func6 (by kernel_rfl) rfl #[.int .i64 (wrap64 (-(ji52))), .agg #[.int .u64 x113000_9, .int .u64 x113001_9]] rfl (by (try simp only [List.map_toArray, List.map_cons, List.map_nil]); first | done | (simp only [hji52]; rfl) | rfl | (simp only [List.length_drop, List.length_take]; rfl)) ?_; (with_reducible refine (zone_Class.calls (wrap64 (-(ji52))) x113000_9 x113001_9 t127 t128 _ A55.out).mono ?_); rintro e w62 ⟨rfl, hb⟩; refine ⟨_, rfl, ?_⟩; have n0_ := Aside0.mk (blk_below (g := gb111) (o := .cells #[.int .u64 x112000_9, .int .u64 x112001_9] 24 (0, 0)) (by (with_reducible repeat (first | refine blk_drewN ?_ _ | refine blk_drew ?_ | refine blk_alloc ?_ _)); exact BK111.out) hb); have n1_ := Aside0.mk (blk_below (g := gb112) (o := .cells #[.int .u64 x113000_9, .int .u64 x113001_9] 24 (0, 0)) (by (with_reducible repeat (first | refine blk_drewN ?_ _ | refine blk_drew ?_ | refine blk_alloc ?_ _)); exact BK112.out) hb); have n2_ := Aside0.mk (below_step (by repeat (first | (with_reducible first | exact HB.out | apply below_alloc | apply pw_below_drewN | apply below_drew1 | refine below_set ?_ GE111.out | refine below_set ?_ GE112.out) | exact HB.out)) hb); clear BK111; clear BK112; clear HB; have BK111 := n0_; have BK112 := n1_; have HB := n2_; clear n0_ n1_ n2_; (try clear hb); (try clear hb2); (try clear hk); (try clear hi)))
                      go_ret
                      exact ⟨by first | rfl | (simp [errW_none, errW_some] <;> rfl) | (simp only [← hji52]; first | rfl | (simp [errW_none, errW_some] <;> rfl)) | (simp [*, errW_none, errW_some] <;> rfl), by repeat (first | (with_reducible first | exact HB.out | apply below_alloc | apply pw_below_drewN | apply below_drew1 | refine below_set ?_ GE111.out | refine below_set ?_ GE112.out) | exact HB.out)⟩
                    · rw [if_neg c57] at H
                      have c57b0 : (t128 == 0) = false := beq_eq_false_iff_ne.mpr c57
                      have c57b1 : (t128 != 0) = true := bne_iff_ne.mpr c57
                      obtain rfl := Option.some.inj H
                      have hnb63 := NB112_111.out
                      have hnc63 := NB111_112.out
                      have hcz64_0 : wc.cell? ⟨gb112, 0, none⟩ = some (.int .u64 x113000_9) := (blk_cell BK112.out 0).trans rfl
                      have hcz64_1 : wc.cell? ⟨gb112, 1, none⟩ = some (.int .u64 x113001_9) := (blk_cell BK112.out 1).trans rfl
                      have hfz64_0 := blk_frozen BK112.out 0
                      have hfz64_1 := blk_frozen BK112.out 1
                      go_wp2_with (first | ((with_reducible refine gate_callee (f := 6) rfl ?_); refine goesL_ (some 110) rfl rfl Try.func6 (by kernel_rfl) rfl #[.int .i64 ji52, .agg #[.int .u64 x113000_9, .int .u64 x113001_9]] rfl (by (try simp only [List.map_toArray, List.map_cons, List.map_nil]); first | done | (simp only [hji52]; rfl) | rfl | (simp only [List.length_drop, List.length_take]; rfl)) ?_; (with_reducible refine (zone_Class.calls ji52 x113000_9 x113001_9 t125 t126 _ A53.out).mono ?_); rintro e w65 ⟨rfl, hb⟩; refine ⟨_, rfl, ?_⟩; have n0_ := Aside0.mk (blk_below (g := gb111) (o := .cells #[.int .u64 x112000_9, .int .u64 x112001_9] 24 (0, 0)) (by (with_reducible repeat (first | refine blk_drewN ?_ _ | refine blk_drew ?_ | refine blk_alloc ?_ _)); exact BK111.out) hb); have n1_ := Aside0.mk (blk_below (g := gb112) (o := .cells #[.int .u64 x113000_9, .int .u64 x113001_9] 24 (0, 0)) (by (with_reducible repeat (first | refine blk_drewN ?_ _ | refine blk_drew ?_ | refine blk_alloc ?_ _)); exact BK112.out) hb); have n2_ := Aside0.mk (below_step (by repeat (first | (with_reducible first | exact HB.out | apply below_alloc | apply pw_below_drewN | apply below_drew1 | refine below_set ?_ GE111.out | refine below_set ?_ GE112.out) | exact HB.out)) hb); clear BK111; clear BK112; clear HB; have BK111 := n0_; have BK112 := n1_; have HB := n2_; clear n0_ n1_ n2_; (try clear hb); (try clear hb2); (try clear hk); (try clear hi); have hcz66_0 : w65.cell? ⟨gb112, 0, none⟩ = some (.int .u64 x113000_9) := (blk_cell BK112.out 0).trans rfl; have hcz66_1 : w65.cell? ⟨gb112, 1, none⟩ = some (.int .u64 x113001_9) := (blk_cell BK112.out 1).trans rfl; have hfz66_0 := blk_frozen BK112.out 0; have hfz66_1 := blk_frozen BK112.out 1) | ((with_reducible refine gate_callee (f := 6) rfl ?_); refine goesL_ (some 118) rfl rfl Try.func6 (by kernel_rfl) rfl #[.int .i64 (wrap64 (-(ji52))), .agg #[.int .u64 x113000_9, .int .u64 x113001_9]] rfl (by (try simp only [List.map_toArray, List.map_cons, List.map_nil]); first | done | (simp only [hji52]; rfl) | rfl | (simp only [List.length_drop, List.length_take]; rfl)) ?_; (with_reducible refine (zone_Class.calls (wrap64 (-(ji52))) x113000_9 x113001_9 t127 t128 _ A55.out).mono ?_); rintro e w67 ⟨rfl, hb⟩; refine ⟨_, rfl, ?_⟩; have n0_ := Aside0.mk (blk_below (g := gb111) (o := .cells #[.int .u64 x112000_9, .int .u64 x112001_9] 24 (0, 0)) (by (with_reducible repeat (first | refine blk_drewN ?_ _ | refine blk_drew ?_ | refine blk_alloc ?_ _)); exact BK111.out) hb); have n1_ := Aside0.mk (blk_below (g := gb112) (o := .cells #[.int .u64 x113000_9, .int .u64 x113001_9] 24 (0, 0)) (by (with_reducible repeat (first | refine blk_drewN ?_ _ | refine blk_drew ?_ | refine blk_alloc ?_ _)); exact BK112.out) hb); have n2_ := Aside0.mk (below_step (by repeat (first | (with_reducible first | exact HB.out | apply below_alloc | apply pw_below_drewN | apply below_drew1 | refine below_set ?_ GE111.out | refine below_set ?_ GE112.out) | exact HB.out)) hb); clear BK111; clear BK112; clear HB; have BK111 := n0_; have BK112 := n1_; have HB := n2_; clear n0_ n1_ n2_; (try clear hb); (try clear hb2); (try clear hk); (try clear hi)))
                      go_ret
                      exact ⟨by first | rfl | (simp [errW_none, errW_some] <;> rfl) | (simp only [← hji52]; first | rfl | (simp [errW_none, errW_some] <;> rfl)) | (simp [*, errW_none, errW_some] <;> rfl), by repeat (first | (with_reducible first | exact HB.out | apply below_alloc | apply pw_below_drewN | apply below_drew1 | refine below_set ?_ GE111.out | refine below_set ?_ GE112.out) | exact HB.out)⟩
                  · rw [if_neg c56] at H
                    have c56b0 : (t126 == 0) = false := beq_eq_false_iff_ne.mpr c56
                    have c56b1 : (t126 != 0) = true := bne_iff_ne.mpr c56
                    obtain rfl := Option.some.inj H
                    have hnb68 := NB112_111.out
                    have hnc68 := NB111_112.out
                    have hcz69_0 : wc.cell? ⟨gb112, 0, none⟩ = some (.int .u64 x113000_9) := (blk_cell BK112.out 0).trans rfl
                    have hcz69_1 : wc.cell? ⟨gb112, 1, none⟩ = some (.int .u64 x113001_9) := (blk_cell BK112.out 1).trans rfl
                    have hfz69_0 := blk_frozen BK112.out 0
                    have hfz69_1 := blk_frozen BK112.out 1
                    go_wp2_with (first | ((with_reducible refine gate_callee (f := 6) rfl ?_); refine goesL_ (some 110) rfl rfl Try.func6 (by kernel_rfl) rfl #[.int .i64 ji52, .agg #[.int .u64 x113000_9, .int .u64 x113001_9]] rfl (by (try simp only [List.map_toArray, List.map_cons, List.map_nil]); first | done | (simp only [hji52]; rfl) | rfl | (simp only [List.length_drop, List.length_take]; rfl)) ?_; (with_reducible refine (zone_Class.calls ji52 x113000_9 x113001_9 t125 t126 _ A53.out).mono ?_); rintro e w70 ⟨rfl, hb⟩; refine ⟨_, rfl, ?_⟩; have n0_ := Aside0.mk (blk_below (g := gb111) (o := .cells #[.int .u64 x112000_9, .int .u64 x112001_9] 24 (0, 0)) (by (with_reducible repeat (first | refine blk_drewN ?_ _ | refine blk_drew ?_ | refine blk_alloc ?_ _)); exact BK111.out) hb); have n1_ := Aside0.mk (blk_below (g := gb112) (o := .cells #[.int .u64 x113000_9, .int .u64 x113001_9] 24 (0, 0)) (by (with_reducible repeat (first | refine blk_drewN ?_ _ | refine blk_drew ?_ | refine blk_alloc ?_ _)); exact BK112.out) hb); have n2_ := Aside0.mk (below_step (by repeat (first | (with_reducible first | exact HB.out | apply below_alloc | apply pw_below_drewN | apply below_drew1 | refine below_set ?_ GE111.out | refine below_set ?_ GE112.out) | exact HB.out)) hb); clear BK111; clear BK112; clear HB; have BK111 := n0_; have BK112 := n1_; have HB := n2_; clear n0_ n1_ n2_; (try clear hb); (try clear hb2); (try clear hk); (try clear hi); have hcz71_0 : w70.cell? ⟨gb112, 0, none⟩ = some (.int .u64 x113000_9) := (blk_cell BK112.out 0).trans rfl; have hcz71_1 : w70.cell? ⟨gb112, 1, none⟩ = some (.int .u64 x113001_9) := (blk_cell BK112.out 1).trans rfl; have hfz71_0 := blk_frozen BK112.out 0; have hfz71_1 := blk_frozen BK112.out 1) | ((with_reducible refine gate_callee (f := 6) rfl ?_); refine goesL_ (some 118) rfl rfl Try.func6 (by kernel_rfl) rfl #[.int .i64 (wrap64 (-(ji52))), .agg #[.int .u64 x113000_9, .int .u64 x113001_9]] rfl (by (try simp only [List.map_toArray, List.map_cons, List.map_nil]); first | done | (simp only [hji52]; rfl) | rfl | (simp only [List.length_drop, List.length_take]; rfl)) ?_; (with_reducible refine (zone_Class.calls (wrap64 (-(ji52))) x113000_9 x113001_9 t127 t128 _ A55.out).mono ?_); rintro e w72 ⟨rfl, hb⟩; refine ⟨_, rfl, ?_⟩; have n0_ := Aside0.mk (blk_below (g := gb111) (o := .cells #[.int .u64 x112000_9, .int .u64 x112001_9] 24 (0, 0)) (by (with_reducible repeat (first | refine blk_drewN ?_ _ | refine blk_drew ?_ | refine blk_alloc ?_ _)); exact BK111.out) hb); have n1_ := Aside0.mk (blk_below (g := gb112) (o := .cells #[.int .u64 x113000_9, .int .u64 x113001_9] 24 (0, 0)) (by (with_reducible repeat (first | refine blk_drewN ?_ _ | refine blk_drew ?_ | refine blk_alloc ?_ _)); exact BK112.out) hb); have n2_ := Aside0.mk (below_step (by repeat (first | (with_reducible first | exact HB.out | apply below_alloc | apply pw_below_drewN | apply below_drew1 | refine below_set ?_ GE111.out | refine below_set ?_ GE112.out) | exact HB.out)) hb); clear BK111; clear BK112; clear HB; have BK111 := n0_; have BK112 := n1_; have HB := n2_; clear n0_ n1_ n2_; (try clear hb); (try clear hb2); (try clear hk); (try clear hi)))
                    go_ret
                    exact ⟨by first | rfl | (simp [errW_none, errW_some] <;> rfl) | (simp only [← hji52]; first | rfl | (simp [errW_none, errW_some] <;> rfl)) | (simp [*, errW_none, errW_some] <;> rfl), by repeat (first | (with_reducible first | exact HB.out | apply below_alloc | apply pw_below_drewN | apply below_drew1 | refine below_set ?_ GE111.out | refine below_set ?_ GE112.out) | exact HB.out)⟩
          · rw [if_neg c22] at H
            have c22b0 : (t115 == 0) = false := beq_eq_false_iff_ne.mpr c22
            have c22b1 : (t115 != 0) = true := bne_iff_ne.mpr c22
            replace H := Option.bind_eq_some_iff.mp H
            obtain ⟨t120, A730, H⟩ := H
            replace H : (if t120 = true then (if t115 = 1 then (some (t117 == 1)) else (some false)) else (some false)) = some r := H
            have A73 := Aside0.mk A730
            clear A730
            by_cases c74 : t120 = true
            · subst c74
              have H1 : (if t115 = 1 then (some (t117 == 1)) else (some false)) = some r := by rw [if_pos rfl] at H; exact H
              clear H
              have H := H1
              clear H1
              by_cases c75 : t115 = 1
              · rw [if_pos c75] at H
                have c75b0 : (t115 == 1) = true := beq_iff_eq.mpr c75
                have c75b1 : (t115 != 1) = false := bne_eq_false_iff_eq.mpr c75
                clear c75
                obtain rfl := Option.some.inj H
                have hnb76 := NB112_111.out
                have hnc76 := NB111_112.out
                have hcz77_0 : wc.cell? ⟨gb112, 0, none⟩ = some (.int .u64 x113000_9) := (blk_cell BK112.out 0).trans rfl
                have hcz77_1 : wc.cell? ⟨gb112, 1, none⟩ = some (.int .u64 x113001_9) := (blk_cell BK112.out 1).trans rfl
                have hfz77_0 := blk_frozen BK112.out 0
                have hfz77_1 := blk_frozen BK112.out 1
                go_wp2_with (first | ((with_reducible refine gate_callee (f := 6) rfl ?_); refine goesL_ (some 32) rfl rfl Try.func6 (by kernel_rfl) rfl #[.int .i64 x0_4, .agg #[.int .u64 x113000_9, .int .u64 x113001_9]] rfl (by (try simp only [List.map_toArray, List.map_cons, List.map_nil]); first | done | rfl | (simp only [List.length_drop, List.length_take]; rfl)) ?_; (with_reducible refine (zone_Class.calls x0_4 x113000_9 x113001_9 t114 t115 _ A19.out).mono ?_); rintro e w78 ⟨rfl, hb⟩; refine ⟨_, rfl, ?_⟩; have n0_ := Aside0.mk (blk_below (g := gb111) (o := .cells #[.int .u64 x112000_9, .int .u64 x112001_9] 24 (0, 0)) (by (with_reducible repeat (first | refine blk_drewN ?_ _ | refine blk_drew ?_ | refine blk_alloc ?_ _)); exact BK111.out) hb); have n1_ := Aside0.mk (blk_below (g := gb112) (o := .cells #[.int .u64 x113000_9, .int .u64 x113001_9] 24 (0, 0)) (by (with_reducible repeat (first | refine blk_drewN ?_ _ | refine blk_drew ?_ | refine blk_alloc ?_ _)); exact BK112.out) hb); have n2_ := Aside0.mk (below_step (by repeat (first | (with_reducible first | exact HB.out | apply below_alloc | apply pw_below_drewN | apply below_drew1 | refine below_set ?_ GE111.out | refine below_set ?_ GE112.out) | exact HB.out)) hb); clear BK111; clear BK112; clear HB; have BK111 := n0_; have BK112 := n1_; have HB := n2_; clear n0_ n1_ n2_; (try clear hb); (try clear hb2); (try clear hk); (try clear hi); have hcz79_0 : w78.cell? ⟨gb112, 0, none⟩ = some (.int .u64 x113000_9) := (blk_cell BK112.out 0).trans rfl; have hcz79_1 : w78.cell? ⟨gb112, 1, none⟩ = some (.int .u64 x113001_9) := (blk_cell BK112.out 1).trans rfl; have hfz79_0 := blk_frozen BK112.out 0; have hfz79_1 := blk_frozen BK112.out 1) | ((with_reducible refine gate_callee (f := 6) rfl ?_); refine goesL_ (some 38) rfl rfl Try.func6 (by kernel_rfl) rfl #[.int .i64 x1_4, .agg #[.int .u64 x113000_9, .int .u64 x113001_9]] rfl (by (try simp only [List.map_toArray, List.map_cons, List.map_nil]); first | done | rfl | (simp only [List.length_drop, List.length_take]; rfl)) ?_; (with_reducible refine (zone_Class.calls x1_4 x113000_9 x113001_9 t116 t117 _ A20.out).mono ?_); rintro e w80 ⟨rfl, hb⟩; refine ⟨_, rfl, ?_⟩; have n0_ := Aside0.mk (blk_below (g := gb111) (o := .cells #[.int .u64 x112000_9, .int .u64 x112001_9] 24 (0, 0)) (by (with_reducible repeat (first | refine blk_drewN ?_ _ | refine blk_drew ?_ | refine blk_alloc ?_ _)); exact BK111.out) hb); have n1_ := Aside0.mk (blk_below (g := gb112) (o := .cells #[.int .u64 x113000_9, .int .u64 x113001_9] 24 (0, 0)) (by (with_reducible repeat (first | refine blk_drewN ?_ _ | refine blk_drew ?_ | refine blk_alloc ?_ _)); exact BK112.out) hb); have n2_ := Aside0.mk (below_step (by repeat (first | (with_reducible first | exact HB.out | apply below_alloc | apply pw_below_drewN | apply below_drew1 | refine below_set ?_ GE111.out | refine below_set ?_ GE112.out) | exact HB.out)) hb); clear BK111; clear BK112; clear HB; have BK111 := n0_; have BK112 := n1_; have HB := n2_; clear n0_ n1_ n2_; (try clear hb); (try clear hb2); (try clear hk); (try clear hi); have hcz81_0 : w80.cell? ⟨gb111, 0, none⟩ = some (.int .u64 x112000_9) := (blk_cell BK111.out 0).trans rfl; have hcz81_1 : w80.cell? ⟨gb111, 1, none⟩ = some (.int .u64 x112001_9) := (blk_cell BK111.out 1).trans rfl; have hfz81_0 := blk_frozen BK111.out 0; have hfz81_1 := blk_frozen BK111.out 1) | ((with_reducible refine gate_callee (f := 6) rfl ?_); refine goesL_ (some 44) rfl rfl Try.func6 (by kernel_rfl) rfl #[.int .i64 x1_4, .agg #[.int .u64 x112000_9, .int .u64 x112001_9]] rfl (by (try simp only [List.map_toArray, List.map_cons, List.map_nil]); first | done | rfl | (simp only [List.length_drop, List.length_take]; rfl)) ?_; (with_reducible refine (zone_Class.calls x1_4 x112000_9 x112001_9 t118 t119 _ A21.out).mono ?_); rintro e w82 ⟨rfl, hb⟩; refine ⟨_, rfl, ?_⟩; have n0_ := Aside0.mk (blk_below (g := gb111) (o := .cells #[.int .u64 x112000_9, .int .u64 x112001_9] 24 (0, 0)) (by (with_reducible repeat (first | refine blk_drewN ?_ _ | refine blk_drew ?_ | refine blk_alloc ?_ _)); exact BK111.out) hb); have n1_ := Aside0.mk (blk_below (g := gb112) (o := .cells #[.int .u64 x113000_9, .int .u64 x113001_9] 24 (0, 0)) (by (with_reducible repeat (first | refine blk_drewN ?_ _ | refine blk_drew ?_ | refine blk_alloc ?_ _)); exact BK112.out) hb); have n2_ := Aside0.mk (below_step (by repeat (first | (with_reducible first | exact HB.out | apply below_alloc | apply pw_below_drewN | apply below_drew1 | refine below_set ?_ GE111.out | refine below_set ?_ GE112.out) | exact HB.out)) hb); clear BK111; clear BK112; clear HB; have BK111 := n0_; have BK112 := n1_; have HB := n2_; clear n0_ n1_ n2_; (try clear hb); (try clear hb2); (try clear hk); (try clear hi)) | ((with_reducible refine gate_callee (f := 7) rfl ?_); refine goesL_ (some 49) rfl rfl Try.func7 (by kernel_rfl) rfl #[] rfl (by (try simp only [List.map_toArray, List.map_cons, List.map_nil]); first | done | rfl | (simp only [List.length_drop, List.length_take]; rfl)) ?_; (with_reducible refine (datumlaw13_alive.calls  true _ A73.out).mono ?_); rintro e w83 ⟨rfl, hb⟩; refine ⟨_, rfl, ?_⟩; have n0_ := Aside0.mk (blk_below (g := gb111) (o := .cells #[.int .u64 x112000_9, .int .u64 x112001_9] 24 (0, 0)) (by (with_reducible repeat (first | refine blk_drewN ?_ _ | refine blk_drew ?_ | refine blk_alloc ?_ _)); exact BK111.out) hb); have n1_ := Aside0.mk (blk_below (g := gb112) (o := .cells #[.int .u64 x113000_9, .int .u64 x113001_9] 24 (0, 0)) (by (with_reducible repeat (first | refine blk_drewN ?_ _ | refine blk_drew ?_ | refine blk_alloc ?_ _)); exact BK112.out) hb); have n2_ := Aside0.mk (below_step (by repeat (first | (with_reducible first | exact HB.out | apply below_alloc | apply pw_below_drewN | apply below_drew1 | refine below_set ?_ GE111.out | refine below_set ?_ GE112.out) | exact HB.out)) hb); clear BK111; clear BK112; clear HB; have BK111 := n0_; have BK112 := n1_; have HB := n2_; clear n0_ n1_ n2_; (try clear hb); (try clear hb2); (try clear hk); (try clear hi)))
                go_ret
                exact ⟨by first | rfl | (simp [errW_none, errW_some] <;> rfl) | (simp [*, errW_none, errW_some] <;> rfl), by repeat (first | (with_reducible first | exact HB.out | apply below_alloc | apply pw_below_drewN | apply below_drew1 | refine below_set ?_ GE111.out | refine below_set ?_ GE112.out) | exact HB.out)⟩
              · rw [if_neg c75] at H
                have c75b0 : (t115 == 1) = false := beq_eq_false_iff_ne.mpr c75
                have c75b1 : (t115 != 1) = true := bne_iff_ne.mpr c75
                obtain rfl := Option.some.inj H
                have hnb84 := NB112_111.out
                have hnc84 := NB111_112.out
                have hcz85_0 : wc.cell? ⟨gb112, 0, none⟩ = some (.int .u64 x113000_9) := (blk_cell BK112.out 0).trans rfl
                have hcz85_1 : wc.cell? ⟨gb112, 1, none⟩ = some (.int .u64 x113001_9) := (blk_cell BK112.out 1).trans rfl
                have hfz85_0 := blk_frozen BK112.out 0
                have hfz85_1 := blk_frozen BK112.out 1
                go_wp2_with (first | ((with_reducible refine gate_callee (f := 6) rfl ?_); refine goesL_ (some 32) rfl rfl Try.func6 (by kernel_rfl) rfl #[.int .i64 x0_4, .agg #[.int .u64 x113000_9, .int .u64 x113001_9]] rfl (by (try simp only [List.map_toArray, List.map_cons, List.map_nil]); first | done | rfl | (simp only [List.length_drop, List.length_take]; rfl)) ?_; (with_reducible refine (zone_Class.calls x0_4 x113000_9 x113001_9 t114 t115 _ A19.out).mono ?_); rintro e w86 ⟨rfl, hb⟩; refine ⟨_, rfl, ?_⟩; have n0_ := Aside0.mk (blk_below (g := gb111) (o := .cells #[.int .u64 x112000_9, .int .u64 x112001_9] 24 (0, 0)) (by (with_reducible repeat (first | refine blk_drewN ?_ _ | refine blk_drew ?_ | refine blk_alloc ?_ _)); exact BK111.out) hb); have n1_ := Aside0.mk (blk_below (g := gb112) (o := .cells #[.int .u64 x113000_9, .int .u64 x113001_9] 24 (0, 0)) (by (with_reducible repeat (first | refine blk_drewN ?_ _ | refine blk_drew ?_ | refine blk_alloc ?_ _)); exact BK112.out) hb); have n2_ := Aside0.mk (below_step (by repeat (first | (with_reducible first | exact HB.out | apply below_alloc | apply pw_below_drewN | apply below_drew1 | refine below_set ?_ GE111.out | refine below_set ?_ GE112.out) | exact HB.out)) hb); clear BK111; clear BK112; clear HB; have BK111 := n0_; have BK112 := n1_; have HB := n2_; clear n0_ n1_ n2_; (try clear hb); (try clear hb2); (try clear hk); (try clear hi); have hcz87_0 : w86.cell? ⟨gb112, 0, none⟩ = some (.int .u64 x113000_9) := (blk_cell BK112.out 0).trans rfl; have hcz87_1 : w86.cell? ⟨gb112, 1, none⟩ = some (.int .u64 x113001_9) := (blk_cell BK112.out 1).trans rfl; have hfz87_0 := blk_frozen BK112.out 0; have hfz87_1 := blk_frozen BK112.out 1) | ((with_reducible refine gate_callee (f := 6) rfl ?_); refine goesL_ (some 38) rfl rfl Try.func6 (by kernel_rfl) rfl #[.int .i64 x1_4, .agg #[.int .u64 x113000_9, .int .u64 x113001_9]] rfl (by (try simp only [List.map_toArray, List.map_cons, List.map_nil]); first | done | rfl | (simp only [List.length_drop, List.length_take]; rfl)) ?_; (with_reducible refine (zone_Class.calls x1_4 x113000_9 x113001_9 t116 t117 _ A20.out).mono ?_); rintro e w88 ⟨rfl, hb⟩; refine ⟨_, rfl, ?_⟩; have n0_ := Aside0.mk (blk_below (g := gb111) (o := .cells #[.int .u64 x112000_9, .int .u64 x112001_9] 24 (0, 0)) (by (with_reducible repeat (first | refine blk_drewN ?_ _ | refine blk_drew ?_ | refine blk_alloc ?_ _)); exact BK111.out) hb); have n1_ := Aside0.mk (blk_below (g := gb112) (o := .cells #[.int .u64 x113000_9, .int .u64 x113001_9] 24 (0, 0)) (by (with_reducible repeat (first | refine blk_drewN ?_ _ | refine blk_drew ?_ | refine blk_alloc ?_ _)); exact BK112.out) hb); have n2_ := Aside0.mk (below_step (by repeat (first | (with_reducible first | exact HB.out | apply below_alloc | apply pw_below_drewN | apply below_drew1 | refine below_set ?_ GE111.out | refine below_set ?_ GE112.out) | exact HB.out)) hb); clear BK111; clear BK112; clear HB; have BK111 := n0_; have BK112 := n1_; have HB := n2_; clear n0_ n1_ n2_; (try clear hb); (try clear hb2); (try clear hk); (try clear hi); have hcz89_0 : w88.cell? ⟨gb111, 0, none⟩ = some (.int .u64 x112000_9) := (blk_cell BK111.out 0).trans rfl; have hcz89_1 : w88.cell? ⟨gb111, 1, none⟩ = some (.int .u64 x112001_9) := (blk_cell BK111.out 1).trans rfl; have hfz89_0 := blk_frozen BK111.out 0; have hfz89_1 := blk_frozen BK111.out 1) | ((with_reducible refine gate_callee (f := 6) rfl ?_); refine goesL_ (some 44) rfl rfl Try.func6 (by kernel_rfl) rfl #[.int .i64 x1_4, .agg #[.int .u64 x112000_9, .int .u64 x112001_9]] rfl (by (try simp only [List.map_toArray, List.map_cons, List.map_nil]); first | done | rfl | (simp only [List.length_drop, List.length_take]; rfl)) ?_; (with_reducible refine (zone_Class.calls x1_4 x112000_9 x112001_9 t118 t119 _ A21.out).mono ?_); rintro e w90 ⟨rfl, hb⟩; refine ⟨_, rfl, ?_⟩; have n0_ := Aside0.mk (blk_below (g := gb111) (o := .cells #[.int .u64 x112000_9, .int .u64 x112001_9] 24 (0, 0)) (by (with_reducible repeat (first | refine blk_drewN ?_ _ | refine blk_drew ?_ | refine blk_alloc ?_ _)); exact BK111.out) hb); have n1_ := Aside0.mk (blk_below (g := gb112) (o := .cells #[.int .u64 x113000_9, .int .u64 x113001_9] 24 (0, 0)) (by (with_reducible repeat (first | refine blk_drewN ?_ _ | refine blk_drew ?_ | refine blk_alloc ?_ _)); exact BK112.out) hb); have n2_ := Aside0.mk (below_step (by repeat (first | (with_reducible first | exact HB.out | apply below_alloc | apply pw_below_drewN | apply below_drew1 | refine below_set ?_ GE111.out | refine below_set ?_ GE112.out) | exact HB.out)) hb); clear BK111; clear BK112; clear HB; have BK111 := n0_; have BK112 := n1_; have HB := n2_; clear n0_ n1_ n2_; (try clear hb); (try clear hb2); (try clear hk); (try clear hi)) | ((with_reducible refine gate_callee (f := 7) rfl ?_); refine goesL_ (some 49) rfl rfl Try.func7 (by kernel_rfl) rfl #[] rfl (by (try simp only [List.map_toArray, List.map_cons, List.map_nil]); first | done | rfl | (simp only [List.length_drop, List.length_take]; rfl)) ?_; (with_reducible refine (datumlaw13_alive.calls  true _ A73.out).mono ?_); rintro e w91 ⟨rfl, hb⟩; refine ⟨_, rfl, ?_⟩; have n0_ := Aside0.mk (blk_below (g := gb111) (o := .cells #[.int .u64 x112000_9, .int .u64 x112001_9] 24 (0, 0)) (by (with_reducible repeat (first | refine blk_drewN ?_ _ | refine blk_drew ?_ | refine blk_alloc ?_ _)); exact BK111.out) hb); have n1_ := Aside0.mk (blk_below (g := gb112) (o := .cells #[.int .u64 x113000_9, .int .u64 x113001_9] 24 (0, 0)) (by (with_reducible repeat (first | refine blk_drewN ?_ _ | refine blk_drew ?_ | refine blk_alloc ?_ _)); exact BK112.out) hb); have n2_ := Aside0.mk (below_step (by repeat (first | (with_reducible first | exact HB.out | apply below_alloc | apply pw_below_drewN | apply below_drew1 | refine below_set ?_ GE111.out | refine below_set ?_ GE112.out) | exact HB.out)) hb); clear BK111; clear BK112; clear HB; have BK111 := n0_; have BK112 := n1_; have HB := n2_; clear n0_ n1_ n2_; (try clear hb); (try clear hb2); (try clear hk); (try clear hi)))
                go_ret
                exact ⟨by first | rfl | (simp [errW_none, errW_some] <;> rfl) | (simp [*, errW_none, errW_some] <;> rfl), by repeat (first | (with_reducible first | exact HB.out | apply below_alloc | apply pw_below_drewN | apply below_drew1 | refine below_set ?_ GE111.out | refine below_set ?_ GE112.out) | exact HB.out)⟩
            · replace c74 := Bool.eq_false_iff.mpr c74
              subst c74
              have H1 : (some false) = some r := by rw [if_neg (show ¬ (false = true) by decide)] at H; exact H
              clear H
              have H := H1
              clear H1
              obtain rfl := Option.some.inj H
              have hnb92 := NB112_111.out
              have hnc92 := NB111_112.out
              have hcz93_0 : wc.cell? ⟨gb112, 0, none⟩ = some (.int .u64 x113000_9) := (blk_cell BK112.out 0).trans rfl
              have hcz93_1 : wc.cell? ⟨gb112, 1, none⟩ = some (.int .u64 x113001_9) := (blk_cell BK112.out 1).trans rfl
              have hfz93_0 := blk_frozen BK112.out 0
              have hfz93_1 := blk_frozen BK112.out 1
              go_wp2_with (first | ((with_reducible refine gate_callee (f := 6) rfl ?_); refine goesL_ (some 32) rfl rfl Try.func6 (by kernel_rfl) rfl #[.int .i64 x0_4, .agg #[.int .u64 x113000_9, .int .u64 x113001_9]] rfl (by (try simp only [List.map_toArray, List.map_cons, List.map_nil]); first | done | rfl | (simp only [List.length_drop, List.length_take]; rfl)) ?_; (with_reducible refine (zone_Class.calls x0_4 x113000_9 x113001_9 t114 t115 _ A19.out).mono ?_); rintro e w94 ⟨rfl, hb⟩; refine ⟨_, rfl, ?_⟩; have n0_ := Aside0.mk (blk_below (g := gb111) (o := .cells #[.int .u64 x112000_9, .int .u64 x112001_9] 24 (0, 0)) (by (with_reducible repeat (first | refine blk_drewN ?_ _ | refine blk_drew ?_ | refine blk_alloc ?_ _)); exact BK111.out) hb); have n1_ := Aside0.mk (blk_below (g := gb112) (o := .cells #[.int .u64 x113000_9, .int .u64 x113001_9] 24 (0, 0)) (by (with_reducible repeat (first | refine blk_drewN ?_ _ | refine blk_drew ?_ | refine blk_alloc ?_ _)); exact BK112.out) hb); have n2_ := Aside0.mk (below_step (by repeat (first | (with_reducible first | exact HB.out | apply below_alloc | apply pw_below_drewN | apply below_drew1 | refine below_set ?_ GE111.out | refine below_set ?_ GE112.out) | exact HB.out)) hb); clear BK111; clear BK112; clear HB; have BK111 := n0_; have BK112 := n1_; have HB := n2_; clear n0_ n1_ n2_; (try clear hb); (try clear hb2); (try clear hk); (try clear hi); have hcz95_0 : w94.cell? ⟨gb112, 0, none⟩ = some (.int .u64 x113000_9) := (blk_cell BK112.out 0).trans rfl; have hcz95_1 : w94.cell? ⟨gb112, 1, none⟩ = some (.int .u64 x113001_9) := (blk_cell BK112.out 1).trans rfl; have hfz95_0 := blk_frozen BK112.out 0; have hfz95_1 := blk_frozen BK112.out 1) | ((with_reducible refine gate_callee (f := 6) rfl ?_); refine goesL_ (some 38) rfl rfl Try.func6 (by kernel_rfl) rfl #[.int .i64 x1_4, .agg #[.int .u64 x113000_9, .int .u64 x113001_9]] rfl (by (try simp only [List.map_toArray, List.map_cons, List.map_nil]); first | done | rfl | (simp only [List.length_drop, List.length_take]; rfl)) ?_; (with_reducible refine (zone_Class.calls x1_4 x113000_9 x113001_9 t116 t117 _ A20.out).mono ?_); rintro e w96 ⟨rfl, hb⟩; refine ⟨_, rfl, ?_⟩; have n0_ := Aside0.mk (blk_below (g := gb111) (o := .cells #[.int .u64 x112000_9, .int .u64 x112001_9] 24 (0, 0)) (by (with_reducible repeat (first | refine blk_drewN ?_ _ | refine blk_drew ?_ | refine blk_alloc ?_ _)); exact BK111.out) hb); have n1_ := Aside0.mk (blk_below (g := gb112) (o := .cells #[.int .u64 x113000_9, .int .u64 x113001_9] 24 (0, 0)) (by (with_reducible repeat (first | refine blk_drewN ?_ _ | refine blk_drew ?_ | refine blk_alloc ?_ _)); exact BK112.out) hb); have n2_ := Aside0.mk (below_step (by repeat (first | (with_reducible first | exact HB.out | apply below_alloc | apply pw_below_drewN | apply below_drew1 | refine below_set ?_ GE111.out | refine below_set ?_ GE112.out) | exact HB.out)) hb); clear BK111; clear BK112; clear HB; have BK111 := n0_; have BK112 := n1_; have HB := n2_; clear n0_ n1_ n2_; (try clear hb); (try clear hb2); (try clear hk); (try clear hi); have hcz97_0 : w96.cell? ⟨gb111, 0, none⟩ = some (.int .u64 x112000_9) := (blk_cell BK111.out 0).trans rfl; have hcz97_1 : w96.cell? ⟨gb111, 1, none⟩ = some (.int .u64 x112001_9) := (blk_cell BK111.out 1).trans rfl; have hfz97_0 := blk_frozen BK111.out 0; have hfz97_1 := blk_frozen BK111.out 1) | ((with_reducible refine gate_callee (f := 6) rfl ?_); refine goesL_ (some 44) rfl rfl Try.func6 (by kernel_rfl) rfl #[.int .i64 x1_4, .agg #[.int .u64 x112000_9, .int .u64 x112001_9]] rfl (by (try simp only [List.map_toArray, List.map_cons, List.map_nil]); first | done | rfl | (simp only [List.length_drop, List.length_take]; rfl)) ?_; (with_reducible refine (zone_Class.calls x1_4 x112000_9 x112001_9 t118 t119 _ A21.out).mono ?_); rintro e w98 ⟨rfl, hb⟩; refine ⟨_, rfl, ?_⟩; have n0_ := Aside0.mk (blk_below (g := gb111) (o := .cells #[.int .u64 x112000_9, .int .u64 x112001_9] 24 (0, 0)) (by (with_reducible repeat (first | refine blk_drewN ?_ _ | refine blk_drew ?_ | refine blk_alloc ?_ _)); exact BK111.out) hb); have n1_ := Aside0.mk (blk_below (g := gb112) (o := .cells #[.int .u64 x113000_9, .int .u64 x113001_9] 24 (0, 0)) (by (with_reducible repeat (first | refine blk_drewN ?_ _ | refine blk_drew ?_ | refine blk_alloc ?_ _)); exact BK112.out) hb); have n2_ := Aside0.mk (below_step (by repeat (first | (with_reducible first | exact HB.out | apply below_alloc | apply pw_below_drewN | apply below_drew1 | refine below_set ?_ GE111.out | refine below_set ?_ GE112.out) | exact HB.out)) hb); clear BK111; clear BK112; clear HB; have BK111 := n0_; have BK112 := n1_; have HB := n2_; clear n0_ n1_ n2_; (try clear hb); (try clear hb2); (try clear hk); (try clear hi)) | ((with_reducible refine gate_callee (f := 7) rfl ?_); refine goesL_ (some 49) rfl rfl Try.func7 (by kernel_rfl) rfl #[] rfl (by (try simp only [List.map_toArray, List.map_cons, List.map_nil]); first | done | rfl | (simp only [List.length_drop, List.length_take]; rfl)) ?_; (with_reducible refine (datumlaw13_alive.calls  false _ A73.out).mono ?_); rintro e w99 ⟨rfl, hb⟩; refine ⟨_, rfl, ?_⟩; have n0_ := Aside0.mk (blk_below (g := gb111) (o := .cells #[.int .u64 x112000_9, .int .u64 x112001_9] 24 (0, 0)) (by (with_reducible repeat (first | refine blk_drewN ?_ _ | refine blk_drew ?_ | refine blk_alloc ?_ _)); exact BK111.out) hb); have n1_ := Aside0.mk (blk_below (g := gb112) (o := .cells #[.int .u64 x113000_9, .int .u64 x113001_9] 24 (0, 0)) (by (with_reducible repeat (first | refine blk_drewN ?_ _ | refine blk_drew ?_ | refine blk_alloc ?_ _)); exact BK112.out) hb); have n2_ := Aside0.mk (below_step (by repeat (first | (with_reducible first | exact HB.out | apply below_alloc | apply pw_below_drewN | apply below_drew1 | refine below_set ?_ GE111.out | refine below_set ?_ GE112.out) | exact HB.out)) hb); clear BK111; clear BK112; clear HB; have BK111 := n0_; have BK112 := n1_; have HB := n2_; clear n0_ n1_ n2_; (try clear hb); (try clear hb2); (try clear hk); (try clear hi)))
              go_ret
              exact ⟨by first | rfl | (simp [errW_none, errW_some] <;> rfl) | (simp [*, errW_none, errW_some] <;> rfl), by repeat (first | (with_reducible first | exact HB.out | apply below_alloc | apply pw_below_drewN | apply below_drew1 | refine below_set ?_ GE111.out | refine below_set ?_ GE112.out) | exact HB.out)⟩

end Go.Proofs.Ytpgoekfmalpcdaa.X
