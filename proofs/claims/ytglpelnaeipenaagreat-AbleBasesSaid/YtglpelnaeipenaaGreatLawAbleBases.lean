/-
  AbleBases holds of every input: the law's row, out of its contract. No condition.
-/
import Derived.Test.YtglpelnaeipenaaGreatRows
import Derived.Test.YtglpelnaeipenaaGreatSxAbleBase
import Derived.Test.YtglpelnaeipenaaGreatOpen
import Derived.WalkKit
import Derived.ProofKit
import Derived.OpenShut
import Derived.ShutString
import Derived.ChangeOld
import Derived.Below
import Derived.SizedLaws
namespace Go.Proofs.YtglpelnaeipenaaGreat.ableBases
open Go.ChangeShapes Go.WideShapes Go.ChangeAt Go.RowKit Go.SX Go.Proofs.YtglpelnaeipenaaGreat.X
open Go.ChangeMaps (open_string shut_string)
set_option linter.unusedVariables false
theorem own : ownKnob Tryz.prog.godebug = none := by kernel_rfl
theorem laidOut : laidOutB Tryz.prog = true := by kernel_rfl
set_option maxRecDepth 100000 in
set_option maxHeartbeats 1000000 in
theorem lifted (os : Os) (started : os.Started) (H : Type) (enc : TypeId × Value → H) :
    ReturnsInHanded {} Tryz.checked os 3 .any (Rows.ableBasesSpec.pre6 enc Tryz.prog Tryz.f3 Rows.ableBasesRow.domain false) (Rows.ableBasesSpec.post enc Tryz.prog Tryz.f3 false true false false) := by
  refine returnsInHanded_of_change_sized (C := Tryz.checked) own started (by kernel_rfl) Tryz.func3
    (ChangeSpec.witness6 (enc := enc) (C := Tryz.checked) false ⟨#[], #[.agg #[.int .i64 0, .int .i64 0, .int .i64 0, .int .i64 0, .int .i64 0], .int .i64 0, .int .i64 0, .int .i64 0], []⟩ 8 (by kernel_rfl) (by kernel_rfl) (by kernel_rfl) (by kernel_rfl)) ?_
  intro W base args ds gs before hval0 hW hcnd hsz0 _
  have hval : ∀ (j : Nat) t v, Tryz.f3.params[j]? = some t → args[j]? = some v → Value.okWide Tryz.prog W .any base t v := hval0
  have hW' := hW
  obtain ⟨p, q, hA0, hV, rfl, hfz, hnd⟩ := hW
  have hA : DataW.TrodAll enc Tryz.prog W 0 (fun _ => true) true Tryz.f3.params.toList args.toList ds p := hA0
  rw [Tryz.params3] at hA hval
  obtain ⟨v0, vs0, d0, ds0, p0, q0, hargs, rfl, rfl, h0, r0⟩ := trodAll_cons hA
  obtain ⟨v1, vs1, d1, ds1, p1, q1, rfl, rfl, rfl, h1, r1⟩ := trodAll_cons r0
  obtain ⟨v2, vs2, d2, ds2, p2, q2, rfl, rfl, rfl, h2, r2⟩ := trodAll_cons r1
  obtain ⟨v3, vs3, d3, ds3, p3, q3, rfl, rfl, rfl, h3, r3⟩ := trodAll_cons r2
  obtain ⟨rfl, rfl, rfl⟩ := trodAll_nil r3
  obtain rfl : args = #[v0, v1, v2, v3] := by cases args; simp_all
  obtain ⟨rfl, rfl⟩ := trodVars_none hV
  obtain ⟨cs0, rfl, hz0, hc0⟩ := agg_open (P := Tryz.prog) (t := 23) (ts := [3, 3, 3, 3, 3]) (.inl ⟨_, Tryz.underlying23⟩) (by kernel_rfl) (by kernel_rfl) (hval 0 23 v0 rfl rfl)
  obtain ⟨u0_0, e0_0, c0_0⟩ := hc0 0 (by decide)
  obtain ⟨a0_0, rfl, w0_0⟩ := cell_int Tryz.underlying3 c0_0
  obtain ⟨u0_1, e0_1, c0_1⟩ := hc0 1 (by decide)
  obtain ⟨a0_1, rfl, w0_1⟩ := cell_int Tryz.underlying3 c0_1
  obtain ⟨u0_2, e0_2, c0_2⟩ := hc0 2 (by decide)
  obtain ⟨a0_2, rfl, w0_2⟩ := cell_int Tryz.underlying3 c0_2
  obtain ⟨u0_3, e0_3, c0_3⟩ := hc0 3 (by decide)
  obtain ⟨a0_3, rfl, w0_3⟩ := cell_int Tryz.underlying3 c0_3
  obtain ⟨u0_4, e0_4, c0_4⟩ := hc0 4 (by decide)
  obtain ⟨a0_4, rfl, w0_4⟩ := cell_int Tryz.underlying3 c0_4
  obtain rfl : cs0 = [.int .i64 a0_0, .int .i64 a0_1, .int .i64 a0_2, .int .i64 a0_3, .int .i64 a0_4].toArray := arr_of hz0 (fun j hj => by
    match j, hj with
    | 0, _ => exact e0_0
    | 1, _ => exact e0_1
    | 2, _ => exact e0_2
    | 3, _ => exact e0_3
    | 4, _ => exact e0_4
    | j + 5, hj => simp at hj; omega)
  have k0 := h0
  have lt0 : ∀ x ∈ p0, x.block < W.heap.size := by obtain ⟨m, hm⟩ := k0; exact DataW.trod_lt m _ _ _ hm
  obtain ⟨a1, rfl, rfl, rfl, w1⟩ := open_int Tryz.underlying3 (hval 1 3 v1 rfl rfl) h1
  obtain ⟨a2, rfl, rfl, rfl, w2⟩ := open_int Tryz.underlying3 (hval 2 3 v2 rfl rfl) h2
  obtain ⟨a3, rfl, rfl, rfl, w3⟩ := open_int Tryz.underlying3 (hval 3 3 v3 rfl rfl) h3
  clear hA0 hval0 hsz0
  refine (SpecOK.calls labs_ok Tryz.func3 (by kernel_rfl) (by kernel_rfl) (cs := [.i a0_0, .i a0_1, .i a0_2, .i a0_3, .i a0_4, .i a1, .i a2, .i a3]) ⟨wf_rng w0_0, wf_rng w0_1, wf_rng w0_2, wf_rng w0_3, wf_rng w0_4, wf_rng w1, wf_rng w2, wf_rng w3⟩ W).mono fun e W' ⟨he, bel⟩ => ?_
  have he' : e = .returned (.bool true) := he
  subst he'
  exact ⟨_, rfl, _, _, _, [], _, [], hW', trodAll_mk1 (shut_bool Tryz.underlying4 _), (trodAll_cons_mk (Below.trod laidOut (by kernel_rfl) (of_decide_eq_true (by kernel_rfl)) k0 bel lt0) (trodAll_cons_mk (shut_int Tryz.underlying3 w1) (trodAll_cons_mk (shut_int Tryz.underlying3 w2) (trodAll_cons_mk (shut_int Tryz.underlying3 w3) trodAll_mk0)))), rfl, bel.frame _, fun h => by cases h⟩
theorem over : Rows.ableBasesRow.holds Tryz.pinned (OpenSpec.ofChange Rows.ableBasesSpec) :=
  OpenClaim.holds_of_wide 3 Tryz.f3 rfl rfl rfl rfl rfl rfl rfl ⟨rfl, rfl, rfl, rfl, rfl⟩ rfl rfl rfl rfl rfl (by kernel_rfl) Tryz.func3 (by kernel_rfl)
    (of_decide_eq_true (by kernel_rfl)) (by unfold Func.isWrapper; first | (rw [if_pos (by decide +kernel)]; kernel_rfl) | (rw [if_neg (by decide +kernel)]; exact ⟨rfl, rfl⟩))
    (fun os started H enc _ => lifted os started H enc)
theorem proved : Rows.AbleBasesSaid := over
#print axioms proved
end Go.Proofs.YtglpelnaeipenaaGreat.ableBases
namespace Go.Proofs.YtglpelnaeipenaaGreat
/-- The row, under a short name, for the claim. -/
theorem ableBases_holds : Rows.AbleBasesSaid := ableBases.proved
end Go.Proofs.YtglpelnaeipenaaGreat
