/-
  BaseTakes holds of every input: the law's row, out of its contract. No condition.
-/
import Derived.Test.YtglpelnaeipenaaRows
import Derived.Test.YtglpelnaeipenaaSxBsTake
import Derived.Test.YtglpelnaeipenaaOpen
import Derived.WalkKit
import Derived.ProofKit
import Derived.OpenShut
import Derived.ShutString
import Derived.ChangeOld
import Derived.Below
import Derived.SizedLaws
namespace Go.Proofs.Ytglpelnaeipenaa.baseTakes
open Go.ChangeShapes Go.WideShapes Go.ChangeAt Go.RowKit Go.SX Go.Proofs.Ytglpelnaeipenaa.X
open Go.ChangeMaps (open_string shut_string)
set_option linter.unusedVariables false
theorem own : ownKnob Try.prog.godebug = none := by kernel_rfl
theorem laidOut : laidOutB Try.prog = true := by kernel_rfl
theorem rowIs_take {w : World} {x : Addr} {l c : Nat} {zs : List Int} (hl : l ≤ c) (hm : c ≤ maxLen) (hz : zs.length = c) (hcell : ∀ i, i < zs.length → w.cell? (x.add i) = some (.int .i64 (zs.getD i 0))) : RowIs w (.slice (some x) l c) (zs.take l) := by
  have e : (zs.take l).length = l := by rw [List.length_take]; omega
  refine .inr ⟨x, c, by rw [e], by omega, hm, fun i y h => ?_⟩
  rw [List.getElem?_take] at h
  split at h
  · rename_i hi
    have hi2 : i < zs.length := by omega
    rw [hcell i hi2]
    rw [List.getD_eq_getElem?_getD, h]
    rfl
  · cases h
set_option maxRecDepth 100000 in
set_option maxHeartbeats 1000000 in
theorem lifted (os : Os) (started : os.Started) (H : Type) (enc : TypeId × Value → H) :
    ReturnsInHanded {} Try.checked os 3 .any (Rows.baseTakesSpec.pre6 enc Try.prog Try.f3 Rows.baseTakesRow.domain false) (Rows.baseTakesSpec.post enc Try.prog Try.f3 false true false false) := by
  refine returnsInHanded_of_change_sized (C := Try.checked) own started (by kernel_rfl) Try.func3
    (ChangeSpec.witness6 (enc := enc) (C := Try.checked) false ⟨#[], #[.int .i64 0, .agg #[.int .i64 0, .int .i64 0, .int .i64 0, .int .i64 0, .int .i64 0], .slice none 0 0], []⟩ 8 (by kernel_rfl) (by kernel_rfl) (by kernel_rfl) (by kernel_rfl)) ?_
  intro W base args ds gs before hval0 hW hcnd hsz0 _
  have hval : ∀ (j : Nat) t v, Try.f3.params[j]? = some t → args[j]? = some v → Value.okWide Try.prog W .any base t v := hval0
  have hW' := hW
  obtain ⟨p, q, hA0, hV, rfl, hfz, hnd⟩ := hW
  have hA : DataW.TrodAll enc Try.prog W 0 (fun _ => true) true Try.f3.params.toList args.toList ds p := hA0
  rw [Try.params3] at hA hval
  obtain ⟨v0, vs0, d0, ds0, p0, q0, hargs, rfl, rfl, h0, r0⟩ := trodAll_cons hA
  obtain ⟨v1, vs1, d1, ds1, p1, q1, rfl, rfl, rfl, h1, r1⟩ := trodAll_cons r0
  obtain ⟨v2, vs2, d2, ds2, p2, q2, rfl, rfl, rfl, h2, r2⟩ := trodAll_cons r1
  obtain ⟨rfl, rfl, rfl⟩ := trodAll_nil r2
  obtain rfl : args = #[v0, v1, v2] := by cases args; simp_all
  obtain ⟨rfl, rfl⟩ := trodVars_none hV
  obtain ⟨a0, rfl, rfl, rfl, w0⟩ := open_int Try.underlying3 (hval 0 3 v0 rfl rfl) h0
  obtain ⟨cs1, rfl, hz1, hc1⟩ := agg_open (P := Try.prog) (t := 23) (ts := [3, 3, 3, 3, 3]) (.inl ⟨_, Try.underlying23⟩) (by kernel_rfl) (by kernel_rfl) (hval 1 23 v1 rfl rfl)
  obtain ⟨u1_0, e1_0, c1_0⟩ := hc1 0 (by decide)
  obtain ⟨a1_0, rfl, w1_0⟩ := cell_int Try.underlying3 c1_0
  obtain ⟨u1_1, e1_1, c1_1⟩ := hc1 1 (by decide)
  obtain ⟨a1_1, rfl, w1_1⟩ := cell_int Try.underlying3 c1_1
  obtain ⟨u1_2, e1_2, c1_2⟩ := hc1 2 (by decide)
  obtain ⟨a1_2, rfl, w1_2⟩ := cell_int Try.underlying3 c1_2
  obtain ⟨u1_3, e1_3, c1_3⟩ := hc1 3 (by decide)
  obtain ⟨a1_3, rfl, w1_3⟩ := cell_int Try.underlying3 c1_3
  obtain ⟨u1_4, e1_4, c1_4⟩ := hc1 4 (by decide)
  obtain ⟨a1_4, rfl, w1_4⟩ := cell_int Try.underlying3 c1_4
  obtain rfl : cs1 = [.int .i64 a1_0, .int .i64 a1_1, .int .i64 a1_2, .int .i64 a1_3, .int .i64 a1_4].toArray := arr_of hz1 (fun j hj => by
    match j, hj with
    | 0, _ => exact e1_0
    | 1, _ => exact e1_1
    | 2, _ => exact e1_2
    | 3, _ => exact e1_3
    | 4, _ => exact e1_4
    | j + 5, hj => simp at hj; omega)
  have k1 := h1
  have lt1 : ∀ x ∈ p1, x.block < W.heap.size := by obtain ⟨m, hm⟩ := k1; exact DataW.trod_lt m _ _ _ hm
  obtain ⟨a2, len2, cap2, rfl⟩ := okWide_slice Try.underlying24 (hval 2 24 v2 rfl rfl)
  have k2 := h2
  have lt2 : ∀ x ∈ p2, x.block < W.heap.size := by obtain ⟨m, hm⟩ := k2; exact DataW.trod_lt m _ _ _ hm
  obtain ⟨l2, hr2, hi2⟩ : ∃ xs, RowIs W (.slice a2 len2 cap2) xs ∧ InI xs := by
    obtain ⟨fuel, hf⟩ := h2
    rcases open_ints Try.underlying24 Try.underlying3 (by kernel_rfl) hf with ⟨hcs, _⟩ | ⟨x, l, c, zs, hcs, _, hl, hm, hz, _, hcell, hwz⟩
    · simp [Value.cells] at hcs
      obtain ⟨rfl, rfl, rfl⟩ := hcs
      exact ⟨[], .inl ⟨rfl, rfl⟩, fun _ h => nomatch h⟩
    · simp [Value.cells] at hcs
      obtain ⟨rfl, rfl, rfl⟩ := hcs
      exact ⟨_, rowIs_take hl hm (by simpa using hz) hcell, fun y hy => wf_rng (hwz y (List.mem_of_mem_take hy))⟩
  clear hA0 hval0 hsz0
  refine (SpecOK.callsL lbtk_ok Try.func3 (by kernel_rfl) (by kernel_rfl) (cs := [.i a0, .i a1_0, .i a1_1, .i a1_2, .i a1_3, .i a1_4, .l l2]) ⟨wf_rng w0, wf_rng w1_0, wf_rng w1_1, wf_rng w1_2, wf_rng w1_3, wf_rng w1_4, hi2⟩ W (vs := [_, _, _]) ⟨rfl, rfl, hr2, trivial⟩).mono fun e W' ⟨he, bel⟩ => ?_
  have he' : e = .returned (.bool true) := he
  subst he'
  exact ⟨_, rfl, _, _, _, [], _, [], hW', trodAll_mk1 (shut_bool Try.underlying4 _), (trodAll_cons_mk (shut_int Try.underlying3 w0) (trodAll_cons_mk (Below.trod laidOut (by kernel_rfl) (of_decide_eq_true (by kernel_rfl)) k1 bel lt1) (trodAll_cons_mk (Below.trod laidOut (by kernel_rfl) (of_decide_eq_true (by kernel_rfl)) k2 bel lt2) trodAll_mk0))), rfl, bel.frame _, fun h => by cases h⟩
theorem over : Rows.baseTakesRow.holds Try.pinned (OpenSpec.ofChange Rows.baseTakesSpec) :=
  OpenClaim.holds_of_wide 3 Try.f3 rfl rfl rfl rfl rfl rfl rfl ⟨rfl, rfl, rfl, rfl, rfl⟩ rfl rfl rfl rfl rfl (by kernel_rfl) Try.func3 (by kernel_rfl)
    (of_decide_eq_true (by kernel_rfl)) (by unfold Func.isWrapper; first | (rw [if_pos (by decide +kernel)]; kernel_rfl) | (rw [if_neg (by decide +kernel)]; exact ⟨rfl, rfl⟩))
    (fun os started H enc _ => lifted os started H enc)
theorem proved : Rows.BaseTakesSaid := over
#print axioms proved
end Go.Proofs.Ytglpelnaeipenaa.baseTakes
namespace Go.Proofs.Ytglpelnaeipenaa
/-- The row, under a short name, for the claim. -/
theorem baseTakes_holds : Rows.BaseTakesSaid := baseTakes.proved
end Go.Proofs.Ytglpelnaeipenaa
