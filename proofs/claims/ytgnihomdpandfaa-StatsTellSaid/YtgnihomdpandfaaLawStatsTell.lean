/-
  StatsTell holds of every input: the law's row, out of its contract. No condition.
-/
import Derived.Test.YtgnihomdpandfaaRows
import Derived.Test.YtgnihomdpandfaaSxStatTell
import Derived.Test.YtgnihomdpandfaaOpen
import Derived.WalkKit
import Derived.ProofKit
import Derived.OpenShut
import Derived.ShutString
import Derived.ChangeOld
import Derived.Below
import Derived.SizedLaws
namespace Go.Proofs.Ytgnihomdpandfaa.statsTell
open Go.ChangeShapes Go.WideShapes Go.ChangeAt Go.RowKit Go.SX Go.Proofs.Ytgnihomdpandfaa.X
open Go.ChangeMaps (open_string shut_string)
set_option linter.unusedVariables false
theorem own : ownKnob Try.prog.godebug = none := by kernel_rfl
theorem laidOut : laidOutB Try.prog = true := by kernel_rfl
theorem rowIs_take {w : World} {x : Addr} {l c : Nat} {zs : List Int} (hl : l ≤ c) (hm : c ≤ maxLen) (hz : zs.length = c) (hcell : ∀ i, i < zs.length → w.cell? (x.add i) = some (.int .i64 (zs.getD i 0))) : RowIs w (.slice (some x) l c) (zs.take l) := by
  have e : (zs.take l).length = l := by rw [List.length_take]; omega
  refine .inr ⟨x, c, by rw [e], by omega, hm, fun i y h => ?_⟩
  rw [List.getElem?_take] at h
  split at h
  · rename_i hi
    have hi2 : i < zs.length := by omega
    rw [hcell i hi2]
    rw [List.getD_eq_getElem?_getD, h]
    rfl
  · cases h
set_option maxRecDepth 100000 in
set_option maxHeartbeats 1000000 in
theorem lifted (os : Os) (started : os.Started) (H : Type) (enc : TypeId × Value → H) :
    ReturnsInHanded {} Try.checked os 7 .any (Rows.statsTellSpec.pre6 enc Try.prog Try.f7 Rows.statsTellRow.domain false) (Rows.statsTellSpec.post enc Try.prog Try.f7 false true false false) := by
  refine returnsInHanded_of_change_sized (C := Try.checked) own started (by kernel_rfl) Try.func7
    (ChangeSpec.witness6 (enc := enc) (C := Try.checked) false ⟨#[], #[.slice none 0 0, .agg #[.int .i64 0, .int .i64 0, .int .u64 0, .int .u64 0, .int .i64 0, .int .i64 0], .agg #[.int .i64 0, .int .i64 0, .int .u64 0, .int .u64 0, .int .i64 0, .int .i64 0]], []⟩ 8 (by kernel_rfl) (by kernel_rfl) (by kernel_rfl) (by kernel_rfl)) ?_
  intro W base args ds gs before hval0 hW hcnd hsz0 _
  have hval : ∀ (j : Nat) t v, Try.f7.params[j]? = some t → args[j]? = some v → Value.okWide Try.prog W .any base t v := hval0
  have hW' := hW
  obtain ⟨p, q, hA0, hV, rfl, hfz, hnd⟩ := hW
  have hA : DataW.TrodAll enc Try.prog W 0 (fun _ => true) true Try.f7.params.toList args.toList ds p := hA0
  rw [Try.params7] at hA hval
  obtain ⟨v0, vs0, d0, ds0, p0, q0, hargs, rfl, rfl, h0, r0⟩ := trodAll_cons hA
  obtain ⟨v1, vs1, d1, ds1, p1, q1, rfl, rfl, rfl, h1, r1⟩ := trodAll_cons r0
  obtain ⟨v2, vs2, d2, ds2, p2, q2, rfl, rfl, rfl, h2, r2⟩ := trodAll_cons r1
  obtain ⟨rfl, rfl, rfl⟩ := trodAll_nil r2
  obtain rfl : args = #[v0, v1, v2] := by cases args; simp_all
  obtain ⟨rfl, rfl⟩ := trodVars_none hV
  obtain ⟨a0, len0, cap0, rfl⟩ := okWide_slice Try.underlying22 (hval 0 22 v0 rfl rfl)
  have k0 := h0
  have lt0 : ∀ x ∈ p0, x.block < W.heap.size := by obtain ⟨m, hm⟩ := k0; exact DataW.trod_lt m _ _ _ hm
  obtain ⟨l0, hr0, hi0⟩ : ∃ xs, RowIs W (.slice a0 len0 cap0) xs ∧ InI xs := by
    obtain ⟨fuel, hf⟩ := h0
    rcases open_ints Try.underlying22 Try.underlying3 (by kernel_rfl) hf with ⟨hcs, _⟩ | ⟨x, l, c, zs, hcs, _, hl, hm, hz, _, hcell, hwz⟩
    · simp [Value.cells] at hcs
      obtain ⟨rfl, rfl, rfl⟩ := hcs
      exact ⟨[], .inl ⟨rfl, rfl⟩, fun _ h => nomatch h⟩
    · simp [Value.cells] at hcs
      obtain ⟨rfl, rfl, rfl⟩ := hcs
      exact ⟨_, rowIs_take hl hm (by simpa using hz) hcell, fun y hy => wf_rng (hwz y (List.mem_of_mem_take hy))⟩
  obtain ⟨cs1, rfl, hz1, hc1⟩ := agg_open (P := Try.prog) (t := 39) (ts := [3, 3, 28, 28, 3, 3]) (.inl ⟨_, Try.underlying39⟩) (by kernel_rfl) (by kernel_rfl) (hval 1 39 v1 rfl rfl)
  obtain ⟨u1_0, e1_0, c1_0⟩ := hc1 0 (by decide)
  obtain ⟨a1_0, rfl, w1_0⟩ := cell_int Try.underlying3 c1_0
  obtain ⟨u1_1, e1_1, c1_1⟩ := hc1 1 (by decide)
  obtain ⟨a1_1, rfl, w1_1⟩ := cell_int Try.underlying3 c1_1
  obtain ⟨u1_2, e1_2, c1_2⟩ := hc1 2 (by decide)
  obtain ⟨a1_2, rfl, w1_2⟩ := cell_int Try.underlying28 c1_2
  obtain ⟨u1_3, e1_3, c1_3⟩ := hc1 3 (by decide)
  obtain ⟨a1_3, rfl, w1_3⟩ := cell_int Try.underlying28 c1_3
  obtain ⟨u1_4, e1_4, c1_4⟩ := hc1 4 (by decide)
  obtain ⟨a1_4, rfl, w1_4⟩ := cell_int Try.underlying3 c1_4
  obtain ⟨u1_5, e1_5, c1_5⟩ := hc1 5 (by decide)
  obtain ⟨a1_5, rfl, w1_5⟩ := cell_int Try.underlying3 c1_5
  obtain rfl : cs1 = [.int .i64 a1_0, .int .i64 a1_1, .int .u64 a1_2, .int .u64 a1_3, .int .i64 a1_4, .int .i64 a1_5].toArray := arr_of hz1 (fun j hj => by
    match j, hj with
    | 0, _ => exact e1_0
    | 1, _ => exact e1_1
    | 2, _ => exact e1_2
    | 3, _ => exact e1_3
    | 4, _ => exact e1_4
    | 5, _ => exact e1_5
    | j + 6, hj => simp at hj; omega)
  have k1 := h1
  have lt1 : ∀ x ∈ p1, x.block < W.heap.size := by obtain ⟨m, hm⟩ := k1; exact DataW.trod_lt m _ _ _ hm
  obtain ⟨cs2, rfl, hz2, hc2⟩ := agg_open (P := Try.prog) (t := 39) (ts := [3, 3, 28, 28, 3, 3]) (.inl ⟨_, Try.underlying39⟩) (by kernel_rfl) (by kernel_rfl) (hval 2 39 v2 rfl rfl)
  obtain ⟨u2_0, e2_0, c2_0⟩ := hc2 0 (by decide)
  obtain ⟨a2_0, rfl, w2_0⟩ := cell_int Try.underlying3 c2_0
  obtain ⟨u2_1, e2_1, c2_1⟩ := hc2 1 (by decide)
  obtain ⟨a2_1, rfl, w2_1⟩ := cell_int Try.underlying3 c2_1
  obtain ⟨u2_2, e2_2, c2_2⟩ := hc2 2 (by decide)
  obtain ⟨a2_2, rfl, w2_2⟩ := cell_int Try.underlying28 c2_2
  obtain ⟨u2_3, e2_3, c2_3⟩ := hc2 3 (by decide)
  obtain ⟨a2_3, rfl, w2_3⟩ := cell_int Try.underlying28 c2_3
  obtain ⟨u2_4, e2_4, c2_4⟩ := hc2 4 (by decide)
  obtain ⟨a2_4, rfl, w2_4⟩ := cell_int Try.underlying3 c2_4
  obtain ⟨u2_5, e2_5, c2_5⟩ := hc2 5 (by decide)
  obtain ⟨a2_5, rfl, w2_5⟩ := cell_int Try.underlying3 c2_5
  obtain rfl : cs2 = [.int .i64 a2_0, .int .i64 a2_1, .int .u64 a2_2, .int .u64 a2_3, .int .i64 a2_4, .int .i64 a2_5].toArray := arr_of hz2 (fun j hj => by
    match j, hj with
    | 0, _ => exact e2_0
    | 1, _ => exact e2_1
    | 2, _ => exact e2_2
    | 3, _ => exact e2_3
    | 4, _ => exact e2_4
    | 5, _ => exact e2_5
    | j + 6, hj => simp at hj; omega)
  have k2 := h2
  have lt2 : ∀ x ∈ p2, x.block < W.heap.size := by obtain ⟨m, hm⟩ := k2; exact DataW.trod_lt m _ _ _ hm
  clear hA0 hval0 hsz0
  refine (SpecOK.callsL lstell_ok Try.func7 (by kernel_rfl) (by kernel_rfl) (cs := [.l l0, .i a1_0, .i a1_1, .i a1_2, .i a1_3, .i a1_4, .i a1_5, .i a2_0, .i a2_1, .i a2_2, .i a2_3, .i a2_4, .i a2_5]) ⟨hi0, wf_rng w1_0, wf_rng w1_1, wf_rng w1_2, wf_rng w1_3, wf_rng w1_4, wf_rng w1_5, wf_rng w2_0, wf_rng w2_1, wf_rng w2_2, wf_rng w2_3, wf_rng w2_4, wf_rng w2_5⟩ W (vs := [_, _, _]) ⟨hr0, rfl, rfl, trivial⟩).mono fun e W' ⟨he, bel⟩ => ?_
  have he' : e = .returned (.bool true) := he
  subst he'
  exact ⟨_, rfl, _, _, _, [], _, [], hW', trodAll_mk1 (shut_bool Try.underlying4 _), (trodAll_cons_mk (Below.trod laidOut (by kernel_rfl) (of_decide_eq_true (by kernel_rfl)) k0 bel lt0) (trodAll_cons_mk (Below.trod laidOut (by kernel_rfl) (of_decide_eq_true (by kernel_rfl)) k1 bel lt1) (trodAll_cons_mk (Below.trod laidOut (by kernel_rfl) (of_decide_eq_true (by kernel_rfl)) k2 bel lt2) trodAll_mk0))), rfl, bel.frame _, fun h => by cases h⟩
theorem over : Rows.statsTellRow.holds Try.pinned (OpenSpec.ofChange Rows.statsTellSpec) :=
  OpenClaim.holds_of_wide 7 Try.f7 rfl rfl rfl rfl rfl rfl rfl ⟨rfl, rfl, rfl, rfl, rfl⟩ rfl rfl rfl rfl rfl (by kernel_rfl) Try.func7 (by kernel_rfl)
    (of_decide_eq_true (by kernel_rfl)) (by unfold Func.isWrapper; first | (rw [if_pos (by decide +kernel)]; kernel_rfl) | (rw [if_neg (by decide +kernel)]; exact ⟨rfl, rfl⟩))
    (fun os started H enc _ => lifted os started H enc)
theorem proved : Rows.StatsTellSaid := over
#print axioms proved
end Go.Proofs.Ytgnihomdpandfaa.statsTell
namespace Go.Proofs.Ytgnihomdpandfaa
/-- The row, under a short name, for the claim. -/
theorem statsTell_holds : Rows.StatsTellSaid := statsTell.proved
end Go.Proofs.Ytgnihomdpandfaa
