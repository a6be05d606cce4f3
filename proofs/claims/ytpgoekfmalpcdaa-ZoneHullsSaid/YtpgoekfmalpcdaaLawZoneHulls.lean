/-
  ZoneHulls holds of every input: the law's row, out of its printed contract and its pure statement. No condition.
-/
import Derived.Test.YtpgoekfmalpcdaaRows
import Derived.Test.YtpgoekfmalpcdaaXx10
import Derived.Test.YtpgoekfmalpcdaaPureZoneHulls
import Derived.Test.YtpgoekfmalpcdaaOpen
import Derived.WalkKit
import Derived.ProofKit
import Derived.OpenShut
import Derived.ShutString
import Derived.ChangeOld
import Derived.Below
import Derived.SizedLaws
namespace Go.Proofs.Ytpgoekfmalpcdaa.zoneHulls
open Go.ChangeShapes Go.WideShapes Go.ChangeAt Go.RowKit Go.Proofs.Ytpgoekfmalpcdaa.X
open Go.Proofs.YtpgoekfmalpcdaaW.PrintWords
open Go.ChangeMaps (open_string shut_string)
set_option linter.unusedVariables false
theorem own : ownKnob Try.prog.godebug = none := by kernel_rfl
theorem laidOut : laidOutB Try.prog = true := by kernel_rfl
set_option maxRecDepth 100000 in
set_option maxHeartbeats 1000000 in
theorem lifted (os : Os) (started : os.Started) (H : Type) (enc : TypeId × Value → H) :
    ReturnsInHanded {} Try.checked os 4 .any (Rows.zoneHullsSpec.pre6 enc Try.prog Try.f4 Rows.zoneHullsRow.domain false) (Rows.zoneHullsSpec.post enc Try.prog Try.f4 false true false false) := by
  refine returnsInHanded_of_change_sized (C := Try.checked) own started (by kernel_rfl) Try.func4
    (ChangeSpec.witness6 (enc := enc) (C := Try.checked) false ⟨#[], #[.agg #[.int .i64 0, .int .i64 0], .agg #[.int .u64 0, .int .u64 0], .agg #[.int .u64 0, .int .u64 0]], []⟩ 8 (by kernel_rfl) (by kernel_rfl) (by kernel_rfl) (by kernel_rfl)) ?_
  intro W base args ds gs before hval0 hW hcnd hsz0 _
  have hsz : (DataW.weightsEach Try.prog (Try.f4.params.toList ++ Rows.zoneHullsSpec.plain.varTypes Try.prog) (ds ++ gs)).all (· ≤ reachBytes) = true := hsz0
  have hval : ∀ (j : Nat) t v, Try.f4.params[j]? = some t → args[j]? = some v → Value.okWide Try.prog W .any base t v := hval0
  have hW' := hW
  obtain ⟨p, q, hA0, hV, rfl, hfz, hnd⟩ := hW
  have hA : DataW.TrodAll enc Try.prog W 0 (fun _ => true) true Try.f4.params.toList args.toList ds p := hA0
  rw [Try.params4] at hA hval hsz
  obtain ⟨v0, vs0, d0, ds0, p0, q0, hargs, rfl, rfl, h0, r0⟩ := trodAll_cons hA
  obtain ⟨v1, vs1, d1, ds1, p1, q1, rfl, rfl, rfl, h1, r1⟩ := trodAll_cons r0
  obtain ⟨v2, vs2, d2, ds2, p2, q2, rfl, rfl, rfl, h2, r2⟩ := trodAll_cons r1
  obtain ⟨rfl, rfl, rfl⟩ := trodAll_nil r2
  obtain rfl : args = #[v0, v1, v2] := by cases args; simp_all
  obtain ⟨rfl, rfl⟩ := trodVars_none hV
  obtain ⟨cs0, rfl, hz0, hc0⟩ := agg_open (P := Try.prog) (t := 32) (ts := [3, 3]) (.inl ⟨_, Try.underlying32⟩) (by kernel_rfl) (by kernel_rfl) (hval 0 32 v0 rfl rfl)
  obtain ⟨u0_0, e0_0, c0_0⟩ := hc0 0 (by decide)
  obtain ⟨a0_0, rfl, w0_0⟩ := cell_int Try.underlying3 c0_0
  obtain ⟨u0_1, e0_1, c0_1⟩ := hc0 1 (by decide)
  obtain ⟨a0_1, rfl, w0_1⟩ := cell_int Try.underlying3 c0_1
  obtain rfl : cs0 = [.int .i64 a0_0, .int .i64 a0_1].toArray := arr_of hz0 (fun j hj => by
    match j, hj with
    | 0, _ => exact e0_0
    | 1, _ => exact e0_1
    | j + 2, hj => simp at hj; omega)
  have k0 := h0
  have lt0 : ∀ x ∈ p0, x.block < W.heap.size := by obtain ⟨m, hm⟩ := k0; exact DataW.trod_lt m _ _ _ hm
  obtain ⟨cs1, rfl, hz1, hc1⟩ := agg_open (P := Try.prog) (t := 24) (ts := [22, 22]) (.inl ⟨_, Try.underlying24⟩) (by kernel_rfl) (by kernel_rfl) (hval 1 24 v1 rfl rfl)
  obtain ⟨u1_0, e1_0, c1_0⟩ := hc1 0 (by decide)
  obtain ⟨a1_0, rfl, w1_0⟩ := cell_int Try.underlying22 c1_0
  obtain ⟨u1_1, e1_1, c1_1⟩ := hc1 1 (by decide)
  obtain ⟨a1_1, rfl, w1_1⟩ := cell_int Try.underlying22 c1_1
  obtain rfl : cs1 = [.int .u64 a1_0, .int .u64 a1_1].toArray := arr_of hz1 (fun j hj => by
    match j, hj with
    | 0, _ => exact e1_0
    | 1, _ => exact e1_1
    | j + 2, hj => simp at hj; omega)
  have k1 := h1
  have lt1 : ∀ x ∈ p1, x.block < W.heap.size := by obtain ⟨m, hm⟩ := k1; exact DataW.trod_lt m _ _ _ hm
  obtain ⟨cs2, rfl, hz2, hc2⟩ := agg_open (P := Try.prog) (t := 24) (ts := [22, 22]) (.inl ⟨_, Try.underlying24⟩) (by kernel_rfl) (by kernel_rfl) (hval 2 24 v2 rfl rfl)
  obtain ⟨u2_0, e2_0, c2_0⟩ := hc2 0 (by decide)
  obtain ⟨a2_0, rfl, w2_0⟩ := cell_int Try.underlying22 c2_0
  obtain ⟨u2_1, e2_1, c2_1⟩ := hc2 1 (by decide)
  obtain ⟨a2_1, rfl, w2_1⟩ := cell_int Try.underlying22 c2_1
  obtain rfl : cs2 = [.int .u64 a2_0, .int .u64 a2_1].toArray := arr_of hz2 (fun j hj => by
    match j, hj with
    | 0, _ => exact e2_0
    | 1, _ => exact e2_1
    | j + 2, hj => simp at hj; omega)
  have k2 := h2
  have lt2 : ∀ x ∈ p2, x.block < W.heap.size := by obtain ⟨m, hm⟩ := k2; exact DataW.trod_lt m _ _ _ hm
  clear hA0 hval0 hsz0 hsz
  obtain ⟨k, h⟩ := Pure.ZoneHulls a0_0 a0_1 a1_0 a1_1 a2_0 a2_1 w0_0 w0_1 w1_0 w1_1 w2_0 w2_1
  refine (datumlaw13_ZoneHulls.calls k a0_0 a0_1 a1_0 a1_1 a2_0 a2_1 true W h).mono fun e W' ⟨he, bel⟩ => ?_
  subst he
  exact ⟨_, rfl, _, _, _, [], _, [], hW', trodAll_mk1 (shut_bool Try.underlying4 _), (trodAll_cons_mk (Below.trod laidOut (by kernel_rfl) (of_decide_eq_true (by kernel_rfl)) k0 bel lt0) (trodAll_cons_mk (Below.trod laidOut (by kernel_rfl) (of_decide_eq_true (by kernel_rfl)) k1 bel lt1) (trodAll_cons_mk (Below.trod laidOut (by kernel_rfl) (of_decide_eq_true (by kernel_rfl)) k2 bel lt2) trodAll_mk0))), rfl, bel.frame _, fun h => by cases h⟩
theorem over : Rows.zoneHullsRow.holds Try.pinned (OpenSpec.ofChange Rows.zoneHullsSpec) :=
  OpenClaim.holds_of_wide 4 Try.f4 rfl rfl rfl rfl rfl rfl rfl ⟨rfl, rfl, rfl, rfl, rfl⟩ rfl rfl rfl rfl rfl (by kernel_rfl) Try.func4 (by kernel_rfl)
    (of_decide_eq_true (by kernel_rfl)) (by unfold Func.isWrapper; first | (rw [if_pos (by decide +kernel)]; kernel_rfl) | (rw [if_neg (by decide +kernel)]; exact ⟨rfl, rfl⟩))
    (fun os started H enc _ => lifted os started H enc)
theorem proved : Rows.ZoneHullsSaid := over
#print axioms proved
end Go.Proofs.Ytpgoekfmalpcdaa.zoneHulls
namespace Go.Proofs.Ytpgoekfmalpcdaa
/-- The row, under a short name, for the claim. -/
theorem zoneHulls_holds : Rows.ZoneHullsSaid := zoneHulls.proved
end Go.Proofs.Ytpgoekfmalpcdaa
