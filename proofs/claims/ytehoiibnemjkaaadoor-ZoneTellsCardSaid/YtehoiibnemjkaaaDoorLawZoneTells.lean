/-
  ZoneTells holds of every input: the tied card, out of the law's contract. Condition: the listed tables of math/bits read as the program's text lays them (the card ties them).
-/
import Derived.Test.YtehoiibnemjkaaaDoorRows
import Derived.Test.YtehoiibnemjkaaaDoorSxZoneTell
import Derived.Test.YtehoiibnemjkaaaDoorOpen
import Derived.WalkKit
import Derived.ProofKit
import Derived.OpenShut
import Derived.ShutString
import Derived.ChangeOld
import Derived.Below
import Derived.SizedLaws
import Derived.Test.YtehoiibnemjkaaaDoorSxTzLaid
import Derived.Test.YtehoiibnemjkaaaDoorTie
import Derived.Test.YtehoiibnemjkaaaDoorCards
import Derived.LaidMore
import Derived.Stop.Joined
import Derived.SevenTiedAt
namespace Go.Proofs.YtehoiibnemjkaaaDoor.zoneTells
open Go.ChangeShapes Go.WideShapes Go.ChangeAt Go.RowKit Go.SX Go.Proofs.YtehoiibnemjkaaaDoor.X
open Go.ChangeMaps (open_string shut_string)
set_option linter.unusedVariables false
theorem own : ownKnob Tryd.prog.godebug = none := by kernel_rfl
theorem laidOut : laidOutB Tryd.prog = true := by kernel_rfl
set_option maxRecDepth 100000 in
set_option maxHeartbeats 1000000 in
theorem lifted (os : Os) (started : os.Started) (H : Type) (enc : TypeId × Value → H) :
    ReturnsInHanded {} Tryd.checked os 3 .any (fun w args => (Rows.zoneTellsSpec.pre enc Tryd.prog Tryd.f3 [] false w args ∧ laidMetH Tryd.prog tzLaid w) ∧ sizedMet enc Tryd.prog Tryd.f3 (OpenSpec.ofChange Rows.zoneTellsSpec) false w args)
      (Rows.zoneTellsSpec.post enc Tryd.prog Tryd.f3 false true false false) := by
  refine returnsInHanded_of_change_and (C := Tryd.checked) (X := fun w _ => laidMetH Tryd.prog tzLaid w) (fun _ _ _ hh h => h.of_heap hh) own started (by kernel_rfl) Tryd.func3
    (ChangeSpec.witness_shaped (enc := enc) (C := Tryd.checked) (os := os) (X := fun w _ => laidMetH Tryd.prog tzLaid w) false (World.doorLaid Tryd.prog 19 os) #[.int .i64 0, .agg #[.int .u64 0, .int .u64 0], .int .i64 0, .int .i64 0] 8 rfl (World.shaped_of_RefB (by kernel_rfl) (by kernel_rfl)) (by kernel_rfl) (by kernel_rfl) (by kernel_rfl) (tz_door os _)) ?_
  intro W base args ds gs before hval0 hW _ _ hL _
  have hval : ∀ (j : Nat) t v, Tryd.f3.params[j]? = some t → args[j]? = some v → Value.okWide Tryd.prog W .any base t v := hval0
  have hW' := hW
  obtain ⟨p, q, hA0, hV, rfl, hfz, hnd⟩ := hW
  have hA : DataW.TrodAll enc Tryd.prog W 0 (fun _ => true) true Tryd.f3.params.toList args.toList ds p := hA0
  rw [Tryd.params3] at hA hval
  obtain ⟨v0, vs0, d0, ds0, p0, q0, hargs, rfl, rfl, h0, r0⟩ := trodAll_cons hA
  obtain ⟨v1, vs1, d1, ds1, p1, q1, rfl, rfl, rfl, h1, r1⟩ := trodAll_cons r0
  obtain ⟨v2, vs2, d2, ds2, p2, q2, rfl, rfl, rfl, h2, r2⟩ := trodAll_cons r1
  obtain ⟨v3, vs3, d3, ds3, p3, q3, rfl, rfl, rfl, h3, r3⟩ := trodAll_cons r2
  obtain ⟨rfl, rfl, rfl⟩ := trodAll_nil r3
  obtain rfl : args = #[v0, v1, v2, v3] := by cases args; simp_all
  obtain ⟨rfl, rfl⟩ := trodVars_none hV
  obtain ⟨a0, rfl, rfl, rfl, w0⟩ := open_int Tryd.underlying3 (hval 0 3 v0 rfl rfl) h0
  obtain ⟨cs1, rfl, hz1, hc1⟩ := agg_open (P := Tryd.prog) (t := 24) (ts := [22, 22]) (.inl ⟨_, Tryd.underlying24⟩) (by kernel_rfl) (by kernel_rfl) (hval 1 24 v1 rfl rfl)
  obtain ⟨u1_0, e1_0, c1_0⟩ := hc1 0 (by decide)
  obtain ⟨a1_0, rfl, w1_0⟩ := cell_int Tryd.underlying22 c1_0
  obtain ⟨u1_1, e1_1, c1_1⟩ := hc1 1 (by decide)
  obtain ⟨a1_1, rfl, w1_1⟩ := cell_int Tryd.underlying22 c1_1
  obtain rfl : cs1 = [.int .u64 a1_0, .int .u64 a1_1].toArray := arr_of hz1 (fun j hj => by
    match j, hj with
    | 0, _ => exact e1_0
    | 1, _ => exact e1_1
    | j + 2, hj => simp at hj; omega)
  have k1 := h1
  have lt1 : ∀ x ∈ p1, x.block < W.heap.size := by obtain ⟨m, hm⟩ := k1; exact DataW.trod_lt m _ _ _ hm
  obtain ⟨a2, rfl, rfl, rfl, w2⟩ := open_int Tryd.underlying3 (hval 2 3 v2 rfl rfl) h2
  obtain ⟨a3, rfl, rfl, rfl, w3⟩ := open_int Tryd.underlying3 (hval 3 3 v3 rfl rfl) h3
  clear hA0 hval0
  simp only [List.append_nil] at hW'
  refine (SpecOK.calls lzt_ok Tryd.func3 (by kernel_rfl) (by kernel_rfl) (cs := [.i a0, .i a1_0, .i a1_1, .i a2, .i a3]) ⟨wf_rng w0, wf_rng w1_0, wf_rng w1_1, wf_rng w2, wf_rng w3⟩ W (hg := tz_laid hL)).mono fun e W' ⟨he, bel⟩ => ?_
  have he' : e = .returned (.bool true) := he
  subst he'
  exact ⟨_, rfl, _, _, _, [], _, [], hW', trodAll_mk1 (shut_bool Tryd.underlying4 _), (trodAll_cons_mk (shut_int Tryd.underlying3 w0) (trodAll_cons_mk (Below.trod laidOut (by kernel_rfl) (of_decide_eq_true (by kernel_rfl)) k1 bel lt1) (trodAll_cons_mk (shut_int Tryd.underlying3 w2) (trodAll_cons_mk (shut_int Tryd.underlying3 w3) trodAll_mk0)))), rfl, bel.frame _, fun h => by cases h⟩
theorem over : Rows.zoneTellsRow.holds Tryd.pinned (OpenSpec.ofChange Rows.zoneTellsSpec) :=
  OpenClaim.holds_of_wide 3 Tryd.f3 rfl rfl rfl rfl rfl rfl rfl ⟨rfl, rfl, rfl, rfl, rfl⟩ rfl rfl rfl rfl rfl (by kernel_rfl) Tryd.func3 (by kernel_rfl)
    (of_decide_eq_true (by kernel_rfl)) (by unfold Func.isWrapper; first | (rw [if_pos (by decide +kernel)]; kernel_rfl) | (rw [if_neg (by decide +kernel)]; exact ⟨rfl, rfl⟩))
    (fun os started H enc _ => lifted os started H enc)
theorem card : Rows.ZoneTellsCardSaid :=
  Claim7.holds_tied_plain_at .later [] [.data, .data] true (true, "2735539203a998c6d72144b6f58b509694e092b6aed7e2e44d052cb88db391f3") false
    over (fun _ h => by cases h) (by kernel_rfl) (fun _ h => by cases h) zoneTells_row_tie rfl ⟨rfl, rfl⟩ (by kernel_rfl) rfl
    (fun f fn hf hfn => by
      obtain rfl : f = 3 := Option.some.inj ((show Tryd.prog.funcNamed "datum/datumlaw13.ZoneTells" = some 3 by kernel_rfl).symm.trans hf) |>.symm
      obtain rfl : fn = Tryd.f3 := (Option.some.inj (Tryd.func3.symm.trans hfn)).symm
      exact ⟨by kernel_rfl, fun j t ht => by
        rw [Tryd.params3] at ht
        have hm : t ∈ [3, 24, 3, 3] := by simpa using Array.mem_of_getElem? ht
        have hall : ([3, 24, 3, 3].all fun u => !Tryd.prog.wantsStandIn u) = true := by kernel_rfl
        exact (show Tryd.prog.wantsStandIn t = false by simpa using List.all_eq_true.1 hall t hm)⟩)
    (by kernel_rfl)
#print axioms card
end Go.Proofs.YtehoiibnemjkaaaDoor.zoneTells
namespace Go.Proofs.YtehoiibnemjkaaaDoor
/-- The card, under a short name, for the claim. -/
theorem zoneTells_holds : Rows.ZoneTellsCardSaid := zoneTells.card
end Go.Proofs.YtehoiibnemjkaaaDoor
