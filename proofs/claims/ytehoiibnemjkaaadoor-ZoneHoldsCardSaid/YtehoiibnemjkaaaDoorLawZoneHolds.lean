/-
  ZoneHolds holds of every input: the tied card, out of the law's contract. Condition: the listed tables of math/bits read as the program's text lays them (the card ties them).
-/
import Derived.Test.YtehoiibnemjkaaaDoorRows
import Derived.Test.YtehoiibnemjkaaaDoorSxZoneHolds
import Derived.Test.YtehoiibnemjkaaaDoorOpen
import Derived.WalkKit
import Derived.ProofKit
import Derived.OpenShut
import Derived.ShutString
import Derived.ChangeOld
import Derived.Below
import Derived.SizedLaws
import Derived.Test.YtehoiibnemjkaaaDoorSxTzLaid
import Derived.Test.YtehoiibnemjkaaaDoorTie
import Derived.Test.YtehoiibnemjkaaaDoorCards
import Derived.LaidMore
import Derived.Stop.Joined
import Derived.SevenTiedAt
namespace Go.Proofs.YtehoiibnemjkaaaDoor.zoneHolds
open Go.ChangeShapes Go.WideShapes Go.ChangeAt Go.RowKit Go.SX Go.Proofs.YtehoiibnemjkaaaDoor.X
open Go.ChangeMaps (open_string shut_string)
set_option linter.unusedVariables false
theorem own : ownKnob Tryd.prog.godebug = none := by kernel_rfl
theorem laidOut : laidOutB Tryd.prog = true := by kernel_rfl
set_option maxRecDepth 100000 in
set_option maxHeartbeats 1000000 in
theorem lifted (os : Os) (started : os.Started) (H : Type) (enc : TypeId × Value → H) :
    ReturnsInHanded {} Tryd.checked os 4 .any (fun w args => (Rows.zoneHoldsSpec.pre enc Tryd.prog Tryd.f4 [] false w args ∧ laidMetH Tryd.prog tzLaid w) ∧ sizedMet enc Tryd.prog Tryd.f4 (OpenSpec.ofChange Rows.zoneHoldsSpec) false w args)
      (Rows.zoneHoldsSpec.post enc Tryd.prog Tryd.f4 false true false false) := by
  refine returnsInHanded_of_change_and (C := Tryd.checked) (X := fun w _ => laidMetH Tryd.prog tzLaid w) (fun _ _ _ hh h => h.of_heap hh) own started (by kernel_rfl) Tryd.func4
    (ChangeSpec.witness_shaped (enc := enc) (C := Tryd.checked) (os := os) (X := fun w _ => laidMetH Tryd.prog tzLaid w) false (World.doorLaid Tryd.prog 19 os) #[.int .i64 0, .int .i64 0, .int .i64 0, .agg #[.int .u64 0, .int .u64 0], .agg #[.int .u64 0, .int .u64 0], .agg #[.int .u64 0, .int .u64 0]] 8 rfl (World.shaped_of_RefB (by kernel_rfl) (by kernel_rfl)) (by kernel_rfl) (by kernel_rfl) (by kernel_rfl) (tz_door os _)) ?_
  intro W base args ds gs before hval0 hW _ _ hL _
  have hval : ∀ (j : Nat) t v, Tryd.f4.params[j]? = some t → args[j]? = some v → Value.okWide Tryd.prog W .any base t v := hval0
  have hW' := hW
  obtain ⟨p, q, hA0, hV, rfl, hfz, hnd⟩ := hW
  have hA : DataW.TrodAll enc Tryd.prog W 0 (fun _ => true) true Tryd.f4.params.toList args.toList ds p := hA0
  rw [Tryd.params4] at hA hval
  obtain ⟨v0, vs0, d0, ds0, p0, q0, hargs, rfl, rfl, h0, r0⟩ := trodAll_cons hA
  obtain ⟨v1, vs1, d1, ds1, p1, q1, rfl, rfl, rfl, h1, r1⟩ := trodAll_cons r0
  obtain ⟨v2, vs2, d2, ds2, p2, q2, rfl, rfl, rfl, h2, r2⟩ := trodAll_cons r1
  obtain ⟨v3, vs3, d3, ds3, p3, q3, rfl, rfl, rfl, h3, r3⟩ := trodAll_cons r2
  obtain ⟨v4, vs4, d4, ds4, p4, q4, rfl, rfl, rfl, h4, r4⟩ := trodAll_cons r3
  obtain ⟨v5, vs5, d5, ds5, p5, q5, rfl, rfl, rfl, h5, r5⟩ := trodAll_cons r4
  obtain ⟨rfl, rfl, rfl⟩ := trodAll_nil r5
  obtain rfl : args = #[v0, v1, v2, v3, v4, v5] := by cases args; simp_all
  obtain ⟨rfl, rfl⟩ := trodVars_none hV
  obtain ⟨a0, rfl, rfl, rfl, w0⟩ := open_int Tryd.underlying3 (hval 0 3 v0 rfl rfl) h0
  obtain ⟨a1, rfl, rfl, rfl, w1⟩ := open_int Tryd.underlying3 (hval 1 3 v1 rfl rfl) h1
  obtain ⟨a2, rfl, rfl, rfl, w2⟩ := open_int Tryd.underlying3 (hval 2 3 v2 rfl rfl) h2
  obtain ⟨cs3, rfl, hz3, hc3⟩ := agg_open (P := Tryd.prog) (t := 24) (ts := [22, 22]) (.inl ⟨_, Tryd.underlying24⟩) (by kernel_rfl) (by kernel_rfl) (hval 3 24 v3 rfl rfl)
  obtain ⟨u3_0, e3_0, c3_0⟩ := hc3 0 (by decide)
  obtain ⟨a3_0, rfl, w3_0⟩ := cell_int Tryd.underlying22 c3_0
  obtain ⟨u3_1, e3_1, c3_1⟩ := hc3 1 (by decide)
  obtain ⟨a3_1, rfl, w3_1⟩ := cell_int Tryd.underlying22 c3_1
  obtain rfl : cs3 = [.int .u64 a3_0, .int .u64 a3_1].toArray := arr_of hz3 (fun j hj => by
    match j, hj with
    | 0, _ => exact e3_0
    | 1, _ => exact e3_1
    | j + 2, hj => simp at hj; omega)
  have k3 := h3
  have lt3 : ∀ x ∈ p3, x.block < W.heap.size := by obtain ⟨m, hm⟩ := k3; exact DataW.trod_lt m _ _ _ hm
  obtain ⟨cs4, rfl, hz4, hc4⟩ := agg_open (P := Tryd.prog) (t := 24) (ts := [22, 22]) (.inl ⟨_, Tryd.underlying24⟩) (by kernel_rfl) (by kernel_rfl) (hval 4 24 v4 rfl rfl)
  obtain ⟨u4_0, e4_0, c4_0⟩ := hc4 0 (by decide)
  obtain ⟨a4_0, rfl, w4_0⟩ := cell_int Tryd.underlying22 c4_0
  obtain ⟨u4_1, e4_1, c4_1⟩ := hc4 1 (by decide)
  obtain ⟨a4_1, rfl, w4_1⟩ := cell_int Tryd.underlying22 c4_1
  obtain rfl : cs4 = [.int .u64 a4_0, .int .u64 a4_1].toArray := arr_of hz4 (fun j hj => by
    match j, hj with
    | 0, _ => exact e4_0
    | 1, _ => exact e4_1
    | j + 2, hj => simp at hj; omega)
  have k4 := h4
  have lt4 : ∀ x ∈ p4, x.block < W.heap.size := by obtain ⟨m, hm⟩ := k4; exact DataW.trod_lt m _ _ _ hm
  obtain ⟨cs5, rfl, hz5, hc5⟩ := agg_open (P := Tryd.prog) (t := 24) (ts := [22, 22]) (.inl ⟨_, Tryd.underlying24⟩) (by kernel_rfl) (by kernel_rfl) (hval 5 24 v5 rfl rfl)
  obtain ⟨u5_0, e5_0, c5_0⟩ := hc5 0 (by decide)
  obtain ⟨a5_0, rfl, w5_0⟩ := cell_int Tryd.underlying22 c5_0
  obtain ⟨u5_1, e5_1, c5_1⟩ := hc5 1 (by decide)
  obtain ⟨a5_1, rfl, w5_1⟩ := cell_int Tryd.underlying22 c5_1
  obtain rfl : cs5 = [.int .u64 a5_0, .int .u64 a5_1].toArray := arr_of hz5 (fun j hj => by
    match j, hj with
    | 0, _ => exact e5_0
    | 1, _ => exact e5_1
    | j + 2, hj => simp at hj; omega)
  have k5 := h5
  have lt5 : ∀ x ∈ p5, x.block < W.heap.size := by obtain ⟨m, hm⟩ := k5; exact DataW.trod_lt m _ _ _ hm
  clear hA0 hval0
  simp only [List.append_nil] at hW'
  refine (SpecOK.calls lzh_ok Tryd.func4 (by kernel_rfl) (by kernel_rfl) (cs := [.i a0, .i a1, .i a2, .i a3_0, .i a3_1, .i a4_0, .i a4_1, .i a5_0, .i a5_1]) ⟨wf_rng w0, wf_rng w1, wf_rng w2, wf_rng w3_0, wf_rng w3_1, wf_rng w4_0, wf_rng w4_1, wf_rng w5_0, wf_rng w5_1⟩ W (hg := tz_laid hL)).mono fun e W' ⟨he, bel⟩ => ?_
  have he' : e = .returned (.bool true) := he
  subst he'
  exact ⟨_, rfl, _, _, _, [], _, [], hW', trodAll_mk1 (shut_bool Tryd.underlying4 _), (trodAll_cons_mk (shut_int Tryd.underlying3 w0) (trodAll_cons_mk (shut_int Tryd.underlying3 w1) (trodAll_cons_mk (shut_int Tryd.underlying3 w2) (trodAll_cons_mk (Below.trod laidOut (by kernel_rfl) (of_decide_eq_true (by kernel_rfl)) k3 bel lt3) (trodAll_cons_mk (Below.trod laidOut (by kernel_rfl) (of_decide_eq_true (by kernel_rfl)) k4 bel lt4) (trodAll_cons_mk (Below.trod laidOut (by kernel_rfl) (of_decide_eq_true (by kernel_rfl)) k5 bel lt5) trodAll_mk0)))))), rfl, bel.frame _, fun h => by cases h⟩
theorem over : Rows.zoneHoldsRow.holds Tryd.pinned (OpenSpec.ofChange Rows.zoneHoldsSpec) :=
  OpenClaim.holds_of_wide 4 Tryd.f4 rfl rfl rfl rfl rfl rfl rfl ⟨rfl, rfl, rfl, rfl, rfl⟩ rfl rfl rfl rfl rfl (by kernel_rfl) Tryd.func4 (by kernel_rfl)
    (of_decide_eq_true (by kernel_rfl)) (by unfold Func.isWrapper; first | (rw [if_pos (by decide +kernel)]; kernel_rfl) | (rw [if_neg (by decide +kernel)]; exact ⟨rfl, rfl⟩))
    (fun os started H enc _ => lifted os started H enc)
theorem card : Rows.ZoneHoldsCardSaid :=
  Claim7.holds_tied_plain_at .later [] [.data, .data] true (true, "2735539203a998c6d72144b6f58b509694e092b6aed7e2e44d052cb88db391f3") false
    over (fun _ h => by cases h) (by kernel_rfl) (fun _ h => by cases h) zoneHolds_row_tie rfl ⟨rfl, rfl⟩ (by kernel_rfl) rfl
    (fun f fn hf hfn => by
      obtain rfl : f = 4 := Option.some.inj ((show Tryd.prog.funcNamed "datum/datumlaw13.ZoneHolds" = some 4 by kernel_rfl).symm.trans hf) |>.symm
      obtain rfl : fn = Tryd.f4 := (Option.some.inj (Tryd.func4.symm.trans hfn)).symm
      exact ⟨by kernel_rfl, fun j t ht => by
        rw [Tryd.params4] at ht
        have hm : t ∈ [3, 3, 3, 24, 24, 24] := by simpa using Array.mem_of_getElem? ht
        have hall : ([3, 3, 3, 24, 24, 24].all fun u => !Tryd.prog.wantsStandIn u) = true := by kernel_rfl
        exact (show Tryd.prog.wantsStandIn t = false by simpa using List.all_eq_true.1 hall t hm)⟩)
    (by kernel_rfl)
#print axioms card
end Go.Proofs.YtehoiibnemjkaaaDoor.zoneHolds
namespace Go.Proofs.YtehoiibnemjkaaaDoor
/-- The card, under a short name, for the claim. -/
theorem zoneHolds_holds : Rows.ZoneHoldsCardSaid := zoneHolds.card
end Go.Proofs.YtehoiibnemjkaaaDoor
