/-
  ZoneRises holds of every input: the law's row, out of its printed contract and its pure statement. No condition.
-/
import Derived.Test.YtpgoekfmalpcdaaRows
import Derived.Test.YtpgoekfmalpcdaaXx8
import Derived.Test.YtpgoekfmalpcdaaPureZoneRises
import Derived.Test.YtpgoekfmalpcdaaOpen
import Derived.WalkKit
import Derived.ProofKit
import Derived.OpenShut
import Derived.ShutString
import Derived.ChangeOld
import Derived.Below
import Derived.SizedLaws
namespace Go.Proofs.Ytpgoekfmalpcdaa.zoneRises
open Go.ChangeShapes Go.WideShapes Go.ChangeAt Go.RowKit Go.Proofs.Ytpgoekfmalpcdaa.X
open Go.Proofs.YtpgoekfmalpcdaaW.PrintWords
open Go.ChangeMaps (open_string shut_string)
set_option linter.unusedVariables false
theorem own : ownKnob Try.prog.godebug = none := by kernel_rfl
theorem laidOut : laidOutB Try.prog = true := by kernel_rfl
set_option maxRecDepth 100000 in
set_option maxHeartbeats 1000000 in
theorem lifted (os : Os) (started : os.Started) (H : Type) (enc : TypeId × Value → H) :
    ReturnsInHanded {} Try.checked os 3 .any (Rows.zoneRisesSpec.pre6 enc Try.prog Try.f3 Rows.zoneRisesRow.domain false) (Rows.zoneRisesSpec.post enc Try.prog Try.f3 false true false false) := by
  refine returnsInHanded_of_change_sized (C := Try.checked) own started (by kernel_rfl) Try.func3
    (ChangeSpec.witness6 (enc := enc) (C := Try.checked) false ⟨#[], #[.int .i64 0, .int .i64 0, .agg #[.int .u64 0, .int .u64 0], .agg #[.int .u64 0, .int .u64 0]], []⟩ 8 (by kernel_rfl) (by kernel_rfl) (by kernel_rfl) (by kernel_rfl)) ?_
  intro W base args ds gs before hval0 hW hcnd hsz0 _
  have hsz : (DataW.weightsEach Try.prog (Try.f3.params.toList ++ Rows.zoneRisesSpec.plain.varTypes Try.prog) (ds ++ gs)).all (· ≤ reachBytes) = true := hsz0
  have hval : ∀ (j : Nat) t v, Try.f3.params[j]? = some t → args[j]? = some v → Value.okWide Try.prog W .any base t v := hval0
  have hW' := hW
  obtain ⟨p, q, hA0, hV, rfl, hfz, hnd⟩ := hW
  have hA : DataW.TrodAll enc Try.prog W 0 (fun _ => true) true Try.f3.params.toList args.toList ds p := hA0
  rw [Try.params3] at hA hval hsz
  obtain ⟨v0, vs0, d0, ds0, p0, q0, hargs, rfl, rfl, h0, r0⟩ := trodAll_cons hA
  obtain ⟨v1, vs1, d1, ds1, p1, q1, rfl, rfl, rfl, h1, r1⟩ := trodAll_cons r0
  obtain ⟨v2, vs2, d2, ds2, p2, q2, rfl, rfl, rfl, h2, r2⟩ := trodAll_cons r1
  obtain ⟨v3, vs3, d3, ds3, p3, q3, rfl, rfl, rfl, h3, r3⟩ := trodAll_cons r2
  obtain ⟨rfl, rfl, rfl⟩ := trodAll_nil r3
  obtain rfl : args = #[v0, v1, v2, v3] := by cases args; simp_all
  obtain ⟨rfl, rfl⟩ := trodVars_none hV
  obtain ⟨a0, rfl, rfl, rfl, w0⟩ := open_int Try.underlying3 (hval 0 3 v0 rfl rfl) h0
  obtain ⟨a1, rfl, rfl, rfl, w1⟩ := open_int Try.underlying3 (hval 1 3 v1 rfl rfl) h1
  obtain ⟨cs2, rfl, hz2, hc2⟩ := agg_open (P := Try.prog) (t := 24) (ts := [22, 22]) (.inl ⟨_, Try.underlying24⟩) (by kernel_rfl) (by kernel_rfl) (hval 2 24 v2 rfl rfl)
  obtain ⟨u2_0, e2_0, c2_0⟩ := hc2 0 (by decide)
  obtain ⟨a2_0, rfl, w2_0⟩ := cell_int Try.underlying22 c2_0
  obtain ⟨u2_1, e2_1, c2_1⟩ := hc2 1 (by decide)
  obtain ⟨a2_1, rfl, w2_1⟩ := cell_int Try.underlying22 c2_1
  obtain rfl : cs2 = [.int .u64 a2_0, .int .u64 a2_1].toArray := arr_of hz2 (fun j hj => by
    match j, hj with
    | 0, _ => exact e2_0
    | 1, _ => exact e2_1
    | j + 2, hj => simp at hj; omega)
  have k2 := h2
  have lt2 : ∀ x ∈ p2, x.block < W.heap.size := by obtain ⟨m, hm⟩ := k2; exact DataW.trod_lt m _ _ _ hm
  obtain ⟨cs3, rfl, hz3, hc3⟩ := agg_open (P := Try.prog) (t := 24) (ts := [22, 22]) (.inl ⟨_, Try.underlying24⟩) (by kernel_rfl) (by kernel_rfl) (hval 3 24 v3 rfl rfl)
  obtain ⟨u3_0, e3_0, c3_0⟩ := hc3 0 (by decide)
  obtain ⟨a3_0, rfl, w3_0⟩ := cell_int Try.underlying22 c3_0
  obtain ⟨u3_1, e3_1, c3_1⟩ := hc3 1 (by decide)
  obtain ⟨a3_1, rfl, w3_1⟩ := cell_int Try.underlying22 c3_1
  obtain rfl : cs3 = [.int .u64 a3_0, .int .u64 a3_1].toArray := arr_of hz3 (fun j hj => by
    match j, hj with
    | 0, _ => exact e3_0
    | 1, _ => exact e3_1
    | j + 2, hj => simp at hj; omega)
  have k3 := h3
  have lt3 : ∀ x ∈ p3, x.block < W.heap.size := by obtain ⟨m, hm⟩ := k3; exact DataW.trod_lt m _ _ _ hm
  clear hA0 hval0 hsz0 hsz
  obtain ⟨k, h⟩ := Pure.ZoneRises a0 a1 a2_0 a2_1 a3_0 a3_1 w0 w1 w2_0 w2_1 w3_0 w3_1
  refine (datumlaw13_ZoneRises.calls k a0 a1 a2_0 a2_1 a3_0 a3_1 true W h).mono fun e W' ⟨he, bel⟩ => ?_
  subst he
  exact ⟨_, rfl, _, _, _, [], _, [], hW', trodAll_mk1 (shut_bool Try.underlying4 _), (trodAll_cons_mk (shut_int Try.underlying3 w0) (trodAll_cons_mk (shut_int Try.underlying3 w1) (trodAll_cons_mk (Below.trod laidOut (by kernel_rfl) (of_decide_eq_true (by kernel_rfl)) k2 bel lt2) (trodAll_cons_mk (Below.trod laidOut (by kernel_rfl) (of_decide_eq_true (by kernel_rfl)) k3 bel lt3) trodAll_mk0)))), rfl, bel.frame _, fun h => by cases h⟩
theorem over : Rows.zoneRisesRow.holds Try.pinned (OpenSpec.ofChange Rows.zoneRisesSpec) :=
  OpenClaim.holds_of_wide 3 Try.f3 rfl rfl rfl rfl rfl rfl rfl ⟨rfl, rfl, rfl, rfl, rfl⟩ rfl rfl rfl rfl rfl (by kernel_rfl) Try.func3 (by kernel_rfl)
    (of_decide_eq_true (by kernel_rfl)) (by unfold Func.isWrapper; first | (rw [if_pos (by decide +kernel)]; kernel_rfl) | (rw [if_neg (by decide +kernel)]; exact ⟨rfl, rfl⟩))
    (fun os started H enc _ => lifted os started H enc)
theorem proved : Rows.ZoneRisesSaid := over
#print axioms proved
end Go.Proofs.Ytpgoekfmalpcdaa.zoneRises
namespace Go.Proofs.Ytpgoekfmalpcdaa
/-- The row, under a short name, for the claim. -/
theorem zoneRises_holds : Rows.ZoneRisesSaid := zoneRises.proved
end Go.Proofs.Ytpgoekfmalpcdaa
