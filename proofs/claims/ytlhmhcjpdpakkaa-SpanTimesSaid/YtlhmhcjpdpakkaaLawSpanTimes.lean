/-
  SpanTimes holds of every input: the law's row, out of its contract. No condition.
-/
import Derived.Test.YtlhmhcjpdpakkaaRows
import Derived.Test.YtlhmhcjpdpakkaaSxSpanTimes
import Derived.Test.YtlhmhcjpdpakkaaOpen
import Derived.WalkKit
import Derived.ProofKit
import Derived.OpenShut
import Derived.ShutString
import Derived.ChangeOld
import Derived.Below
import Derived.SizedLaws
namespace Go.Proofs.Ytlhmhcjpdpakkaa.spanTimes
open Go.ChangeShapes Go.WideShapes Go.ChangeAt Go.RowKit Go.SX Go.Proofs.Ytlhmhcjpdpakkaa.X
open Go.ChangeMaps (open_string shut_string)
set_option linter.unusedVariables false
theorem own : ownKnob Try.prog.godebug = none := by kernel_rfl
theorem laidOut : laidOutB Try.prog = true := by kernel_rfl
set_option maxRecDepth 100000 in
set_option maxHeartbeats 1000000 in
theorem lifted (os : Os) (started : os.Started) (H : Type) (enc : TypeId × Value → H) :
    ReturnsInHanded {} Try.checked os 9 .any (Rows.spanTimesSpec.pre6 enc Try.prog Try.f9 Rows.spanTimesRow.domain false) (Rows.spanTimesSpec.post enc Try.prog Try.f9 false true false false) := by
  refine returnsInHanded_of_change_sized (C := Try.checked) own started (by kernel_rfl) Try.func9
    (ChangeSpec.witness6 (enc := enc) (C := Try.checked) false ⟨#[], #[.agg #[.int .i64 0, .int .i64 0], .agg #[.int .i64 0, .int .i64 0]], []⟩ 8 (by kernel_rfl) (by kernel_rfl) (by kernel_rfl) (by kernel_rfl)) ?_
  intro W base args ds gs before hval0 hW hcnd hsz0 _
  have hval : ∀ (j : Nat) t v, Try.f9.params[j]? = some t → args[j]? = some v → Value.okWide Try.prog W .any base t v := hval0
  have hW' := hW
  obtain ⟨p, q, hA0, hV, rfl, hfz, hnd⟩ := hW
  have hA : DataW.TrodAll enc Try.prog W 0 (fun _ => true) true Try.f9.params.toList args.toList ds p := hA0
  rw [Try.params9] at hA hval
  obtain ⟨v0, vs0, d0, ds0, p0, q0, hargs, rfl, rfl, h0, r0⟩ := trodAll_cons hA
  obtain ⟨v1, vs1, d1, ds1, p1, q1, rfl, rfl, rfl, h1, r1⟩ := trodAll_cons r0
  obtain ⟨rfl, rfl, rfl⟩ := trodAll_nil r1
  obtain rfl : args = #[v0, v1] := by cases args; simp_all
  obtain ⟨rfl, rfl⟩ := trodVars_none hV
  obtain ⟨cs0, rfl, hz0, hc0⟩ := agg_open (P := Try.prog) (t := 23) (ts := [3, 3]) (.inl ⟨_, Try.underlying23⟩) (by kernel_rfl) (by kernel_rfl) (hval 0 23 v0 rfl rfl)
  obtain ⟨u0_0, e0_0, c0_0⟩ := hc0 0 (by decide)
  obtain ⟨a0_0, rfl, w0_0⟩ := cell_int Try.underlying3 c0_0
  obtain ⟨u0_1, e0_1, c0_1⟩ := hc0 1 (by decide)
  obtain ⟨a0_1, rfl, w0_1⟩ := cell_int Try.underlying3 c0_1
  obtain rfl : cs0 = [.int .i64 a0_0, .int .i64 a0_1].toArray := arr_of hz0 (fun j hj => by
    match j, hj with
    | 0, _ => exact e0_0
    | 1, _ => exact e0_1
    | j + 2, hj => simp at hj; omega)
  have k0 := h0
  have lt0 : ∀ x ∈ p0, x.block < W.heap.size := by obtain ⟨m, hm⟩ := k0; exact DataW.trod_lt m _ _ _ hm
  obtain ⟨cs1, rfl, hz1, hc1⟩ := agg_open (P := Try.prog) (t := 23) (ts := [3, 3]) (.inl ⟨_, Try.underlying23⟩) (by kernel_rfl) (by kernel_rfl) (hval 1 23 v1 rfl rfl)
  obtain ⟨u1_0, e1_0, c1_0⟩ := hc1 0 (by decide)
  obtain ⟨a1_0, rfl, w1_0⟩ := cell_int Try.underlying3 c1_0
  obtain ⟨u1_1, e1_1, c1_1⟩ := hc1 1 (by decide)
  obtain ⟨a1_1, rfl, w1_1⟩ := cell_int Try.underlying3 c1_1
  obtain rfl : cs1 = [.int .i64 a1_0, .int .i64 a1_1].toArray := arr_of hz1 (fun j hj => by
    match j, hj with
    | 0, _ => exact e1_0
    | 1, _ => exact e1_1
    | j + 2, hj => simp at hj; omega)
  have k1 := h1
  have lt1 : ∀ x ∈ p1, x.block < W.heap.size := by obtain ⟨m, hm⟩ := k1; exact DataW.trod_lt m _ _ _ hm
  clear hA0 hval0 hsz0
  refine (SpecOK.calls lstimes_ok Try.func9 (by kernel_rfl) (by kernel_rfl) (cs := [.i a0_0, .i a0_1, .i a1_0, .i a1_1]) ⟨wf_rng w0_0, wf_rng w0_1, wf_rng w1_0, wf_rng w1_1⟩ W).mono fun e W' ⟨he, bel⟩ => ?_
  have he' : e = .returned (.bool true) := he
  subst he'
  exact ⟨_, rfl, _, _, _, [], _, [], hW', trodAll_mk1 (shut_bool Try.underlying4 _), (trodAll_cons_mk (Below.trod laidOut (by kernel_rfl) (of_decide_eq_true (by kernel_rfl)) k0 bel lt0) (trodAll_cons_mk (Below.trod laidOut (by kernel_rfl) (of_decide_eq_true (by kernel_rfl)) k1 bel lt1) trodAll_mk0)), rfl, bel.frame _, fun h => by cases h⟩
theorem over : Rows.spanTimesRow.holds Try.pinned (OpenSpec.ofChange Rows.spanTimesSpec) :=
  OpenClaim.holds_of_wide 9 Try.f9 rfl rfl rfl rfl rfl rfl rfl ⟨rfl, rfl, rfl, rfl, rfl⟩ rfl rfl rfl rfl rfl (by kernel_rfl) Try.func9 (by kernel_rfl)
    (of_decide_eq_true (by kernel_rfl)) (by unfold Func.isWrapper; first | (rw [if_pos (by decide +kernel)]; kernel_rfl) | (rw [if_neg (by decide +kernel)]; exact ⟨rfl, rfl⟩))
    (fun os started H enc _ => lifted os started H enc)
theorem proved : Rows.SpanTimesSaid := over
#print axioms proved
end Go.Proofs.Ytlhmhcjpdpakkaa.spanTimes
namespace Go.Proofs.Ytlhmhcjpdpakkaa
/-- The row, under a short name, for the claim. -/
theorem spanTimes_holds : Rows.SpanTimesSaid := spanTimes.proved
end Go.Proofs.Ytlhmhcjpdpakkaa
