/-
  factor: 'at' by contract.
-/
import Derived.Test.YtjbokdekofiihaaSxFctAt3
namespace Go.Proofs.Ytjbokdekofiihaa.X
open Go Go.SX Go.RowKit
set_option linter.unusedVariables false
set_option linter.unusedSimpArgs false

theorem fL4_eq : fL4 = [.int .u32 1, .int .i32 0, .int .u32 0] ++ ftabV := by kernel_rfl
theorem fcell (k n : Nat) (hk : k < 7) (hn : n < 9) : fL4[3 + (k * 9 + n)]? = some (.int .i64 (ftab k (n + 2))) := by
  have hj : k * 9 + n < ftabL.length := by show _ < 63; omega
  have hi : (9 * (k : Int) + ((n : Int) + 2) - 2).toNat = k * 9 + n := by omega
  have h3 : 3 + (k * 9 + n) - 3 = k * 9 + n := by omega
  rw [fL4_eq, List.getElem?_append_right (by simp only [List.length_cons, List.length_nil]; omega)]
  simp only [List.length_cons, List.length_nil, Nat.zero_add, Nat.reduceAdd, h3, ftabV, List.getElem?_map, ftab, hi, List.getD_eq_getElem?_getD, List.getElem?_eq_getElem hj, Option.map_some, Option.getD_some]
theorem ftab_rng (k n : Int) : 0 ≤ ftab k n ∧ ftab k n ≤ 32670 := by
  have h : ∀ x ∈ ftabL, (0 : Int) ≤ x ∧ x ≤ 32670 := by decide
  unfold ftab
  rw [List.getD_eq_getElem?_getD]
  cases he : ftabL[(9 * k + n - 2).toNat]? with
  | none => exact ⟨by decide, by decide⟩
  | some x => exact h x (List.mem_of_getElem? he)
theorem fat_cell {w : World} {b : Nat} (R : RowAt w b fL4) {k n : Int} (hk : 0 ≤ k) (hk' : k ≤ 6) (hn : 2 ≤ n) (hn' : n ≤ 10) :
    w.cell? ⟨b, 3 + k.toNat * 9 + ((n - 2 + 9223372036854775808) % 18446744073709551616 - 9223372036854775808).toNat, none⟩ = some (.int .i64 (ftab k n)) := by
  have e : (n - 2 + 9223372036854775808) % 18446744073709551616 - 9223372036854775808 = n - 2 := by omega
  rw [e]
  obtain ⟨K, rfl⟩ := Int.eq_ofNat_of_zero_le hk
  obtain ⟨N, hN⟩ := Int.eq_ofNat_of_zero_le (show 0 ≤ n - 2 by omega)
  have hn2 : n = N + 2 := by omega
  subst hn2
  have := fcell K N (by omega) (by omega)
  rw [hN]
  simp only [Int.toNat_natCast]
  rw [Nat.add_assoc]
  exact R.cell this
set_option maxRecDepth 100000 in
set_option maxHeartbeats 1600000 in
theorem fat_run (b : Nat) (k n : Int) (hk : 0 ≤ k) (hk' : k ≤ 6) (hn : 2 ≤ n) (hn' : n ≤ 10) (w : World) (h : RowAt w b fL0 ∨ RowAt w b fL4) :
    Calls Try.prog 23 #[.pointer (some ⟨b, 0, none⟩), .int .i64 k, .int .i64 n] w fun e w' => e = .returned (.int .i64 (ftab k n)) ∧ Stored w w' b ∧ RowAt w' b fL4 := by
  have hd : Calls Try.prog 25 #[.pointer (some ⟨b, 0, none⟩), .func (.func 26) #[.pointer (some ⟨b, 0, none⟩)] #[]] w fun e w' => e = .returned (.tuple #[]) ∧ Stored w w' b ∧ RowAt w' b fL4 := by
    rcases h with h | h
    · exact fdo_first b w h
    · refine (fdo_done b _ w h).mono ?_
      rintro e w' ⟨rfl, rfl⟩
      exact ⟨rfl, ⟨rfl, rfl, rfl, rfl, fun _ _ => rfl⟩, h⟩
  have hmf : ∀ (fn : Fn) (first cap : Array Value) (w : World), (Instr.makeFunc fn first cap).run Try.prog w = .ok (.func fn first cap) w := fun _ _ _ _ => rfl
  go_enter Try.func23, Try.ntmps23
  go_wp2_with (go_at_call 25; refine hd.mono ?_; rintro e w1 ⟨rfl, S1, R1⟩; have hc1 := fat_cell R1 hk hk' hn hn')
  all_goals first | (exfalso; omega) | skip
  go_ret
  exact ⟨rfl, S1, R1⟩
theorem fat_ok : AtOK Try.prog 23 fat_at fat_sem := by
  intro cs hpre
  match cs, hpre with
  | [.i k, .i n], ⟨hk, hk', hn, hn'⟩ =>
    refine ⟨?_, fun vs w b hvs hb => ?_⟩
    · exact ⟨(ftab_rng k n).1, (ftab_rng k n).2, trivial⟩
    · have hv : vs = [.int .i64 k, .int .i64 n] := by
        change ArgsRel w [.i k, .i n] [.int .i64 (.v 0), .int .i64 (.v 1)] vs at hvs
        match vs, hvs with
        | [], h => exact h.elim
        | [_], h => exact h.2.elim
        | [x, y], h => rw [h.1, h.2.1]; rfl
        | _ :: _ :: _ :: _, h => exact h.2.2.elim
      subst hv
      have hb' : RowAt w b fL0 ∨ RowAt w b fL4 := hb.imp id fun h => by unfold RowAt; rw [fL4_full]; exact h
      refine ⟨?_, Calls.mono (fat_run b k n hk hk' hn hn' w hb') ?_⟩
      · simp only [callFunc, Sem.run_bind, program, Sem.run, Result.andThen_ok, Try.func23]
        rfl
      · rintro e w' ⟨rfl, h1, h2⟩
        exact ⟨w', rfl, h1, by unfold RowAt at h2; rw [← fL4_full]; exact h2, Below.refl _ _⟩
end Go.Proofs.Ytjbokdekofiihaa.X
