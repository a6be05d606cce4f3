/-
  LimitSure holds of every input: the law's row, out of its contract. No condition.
-/
import Derived.Test.YtlhmhcjpdpakkaaRows
import Derived.Test.YtlhmhcjpdpakkaaSxLimitSure
import Derived.Test.YtlhmhcjpdpakkaaOpen
import Derived.WalkKit
import Derived.ProofKit
import Derived.OpenShut
import Derived.ShutString
import Derived.ChangeOld
import Derived.Below
import Derived.SizedLaws
namespace Go.Proofs.Ytlhmhcjpdpakkaa.limitSure
open Go.ChangeShapes Go.WideShapes Go.ChangeAt Go.RowKit Go.SX Go.Proofs.Ytlhmhcjpdpakkaa.X
open Go.ChangeMaps (open_string shut_string)
set_option linter.unusedVariables false
theorem own : ownKnob Try.prog.godebug = none := by kernel_rfl
theorem laidOut : laidOutB Try.prog = true := by kernel_rfl
set_option maxRecDepth 100000 in
set_option maxHeartbeats 1000000 in
theorem lifted (os : Os) (started : os.Started) (H : Type) (enc : TypeId × Value → H) :
    ReturnsInHanded {} Try.checked os 11 .any (Rows.limitSureSpec.pre6 enc Try.prog Try.f11 Rows.limitSureRow.domain false) (Rows.limitSureSpec.post enc Try.prog Try.f11 false true false false) := by
  refine returnsInHanded_of_change_sized (C := Try.checked) own started (by kernel_rfl) Try.func11
    (ChangeSpec.witness6 (enc := enc) (C := Try.checked) false ⟨#[], #[.int .i64 0, .int .i64 0, .int .i64 0, .agg #[.int .u64 0, .int .u64 0], .int .i64 0], []⟩ 8 (by kernel_rfl) (by kernel_rfl) (by kernel_rfl) (by kernel_rfl)) ?_
  intro W base args ds gs before hval0 hW hcnd hsz0 _
  have hval : ∀ (j : Nat) t v, Try.f11.params[j]? = some t → args[j]? = some v → Value.okWide Try.prog W .any base t v := hval0
  have hW' := hW
  obtain ⟨p, q, hA0, hV, rfl, hfz, hnd⟩ := hW
  have hA : DataW.TrodAll enc Try.prog W 0 (fun _ => true) true Try.f11.params.toList args.toList ds p := hA0
  rw [Try.params11] at hA hval
  obtain ⟨v0, vs0, d0, ds0, p0, q0, hargs, rfl, rfl, h0, r0⟩ := trodAll_cons hA
  obtain ⟨v1, vs1, d1, ds1, p1, q1, rfl, rfl, rfl, h1, r1⟩ := trodAll_cons r0
  obtain ⟨v2, vs2, d2, ds2, p2, q2, rfl, rfl, rfl, h2, r2⟩ := trodAll_cons r1
  obtain ⟨v3, vs3, d3, ds3, p3, q3, rfl, rfl, rfl, h3, r3⟩ := trodAll_cons r2
  obtain ⟨v4, vs4, d4, ds4, p4, q4, rfl, rfl, rfl, h4, r4⟩ := trodAll_cons r3
  obtain ⟨rfl, rfl, rfl⟩ := trodAll_nil r4
  obtain rfl : args = #[v0, v1, v2, v3, v4] := by cases args; simp_all
  obtain ⟨rfl, rfl⟩ := trodVars_none hV
  obtain ⟨a0, rfl, rfl, rfl, w0⟩ := open_int Try.underlying3 (hval 0 3 v0 rfl rfl) h0
  obtain ⟨a1, rfl, rfl, rfl, w1⟩ := open_int Try.underlying3 (hval 1 3 v1 rfl rfl) h1
  obtain ⟨a2, rfl, rfl, rfl, w2⟩ := open_int Try.underlying3 (hval 2 3 v2 rfl rfl) h2
  obtain ⟨cs3, rfl, hz3, hc3⟩ := agg_open (P := Try.prog) (t := 61) (ts := [59, 59]) (.inl ⟨_, Try.underlying61⟩) (by kernel_rfl) (by kernel_rfl) (hval 3 61 v3 rfl rfl)
  obtain ⟨u3_0, e3_0, c3_0⟩ := hc3 0 (by decide)
  obtain ⟨a3_0, rfl, w3_0⟩ := cell_int Try.underlying59 c3_0
  obtain ⟨u3_1, e3_1, c3_1⟩ := hc3 1 (by decide)
  obtain ⟨a3_1, rfl, w3_1⟩ := cell_int Try.underlying59 c3_1
  obtain rfl : cs3 = [.int .u64 a3_0, .int .u64 a3_1].toArray := arr_of hz3 (fun j hj => by
    match j, hj with
    | 0, _ => exact e3_0
    | 1, _ => exact e3_1
    | j + 2, hj => simp at hj; omega)
  have k3 := h3
  have lt3 : ∀ x ∈ p3, x.block < W.heap.size := by obtain ⟨m, hm⟩ := k3; exact DataW.trod_lt m _ _ _ hm
  obtain ⟨a4, rfl, rfl, rfl, w4⟩ := open_int Try.underlying3 (hval 4 3 v4 rfl rfl) h4
  clear hA0 hval0 hsz0
  refine (SpecOK.calls llsure_ok Try.func11 (by kernel_rfl) (by kernel_rfl) (cs := [.i a0, .i a1, .i a2, .i a3_0, .i a3_1, .i a4]) ⟨wf_rng w0, wf_rng w1, wf_rng w2, wf_rng w3_0, wf_rng w3_1, wf_rng w4⟩ W).mono fun e W' ⟨he, bel⟩ => ?_
  have he' : e = .returned (.bool true) := he
  subst he'
  exact ⟨_, rfl, _, _, _, [], _, [], hW', trodAll_mk1 (shut_bool Try.underlying4 _), (trodAll_cons_mk (shut_int Try.underlying3 w0) (trodAll_cons_mk (shut_int Try.underlying3 w1) (trodAll_cons_mk (shut_int Try.underlying3 w2) (trodAll_cons_mk (Below.trod laidOut (by kernel_rfl) (of_decide_eq_true (by kernel_rfl)) k3 bel lt3) (trodAll_cons_mk (shut_int Try.underlying3 w4) trodAll_mk0))))), rfl, bel.frame _, fun h => by cases h⟩
theorem over : Rows.limitSureRow.holds Try.pinned (OpenSpec.ofChange Rows.limitSureSpec) :=
  OpenClaim.holds_of_wide 11 Try.f11 rfl rfl rfl rfl rfl rfl rfl ⟨rfl, rfl, rfl, rfl, rfl⟩ rfl rfl rfl rfl rfl (by kernel_rfl) Try.func11 (by kernel_rfl)
    (of_decide_eq_true (by kernel_rfl)) (by unfold Func.isWrapper; first | (rw [if_pos (by decide +kernel)]; kernel_rfl) | (rw [if_neg (by decide +kernel)]; exact ⟨rfl, rfl⟩))
    (fun os started H enc _ => lifted os started H enc)
theorem proved : Rows.LimitSureSaid := over
#print axioms proved
end Go.Proofs.Ytlhmhcjpdpakkaa.limitSure
namespace Go.Proofs.Ytlhmhcjpdpakkaa
/-- The row, under a short name, for the claim. -/
theorem limitSure_holds : Rows.LimitSureSaid := limitSure.proved
end Go.Proofs.Ytlhmhcjpdpakkaa
