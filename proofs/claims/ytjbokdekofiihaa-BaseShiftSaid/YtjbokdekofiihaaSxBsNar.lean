/-
  base: New and Take by narrower contracts: where nothing is refused.
-/
import Derived.Test.YtjbokdekofiihaaSxBsRows
import Derived.Test.YtjbokdekofiihaaSxBsAl
namespace Go.Proofs.Ytjbokdekofiihaa.X
open Go Go.SX
set_option linter.unusedVariables false
set_option linter.unusedSimpArgs false




theorem spec_narrow {f : Nat} {sp sp' : SpecSh} {m m' : SpecSem} (h : SpecOK Try.prog f sp m) (ha : sp'.args = sp.args) (hr : sp'.res = sp.res) (hg : m'.g = m.g)
    (hp : ∀ cs, m'.pre cs → m.pre cs ∧ m'.out cs = m.out cs ∧ Fits sp'.sh (m'.out cs)) : SpecOK Try.prog f sp' m' := by
  intro cs hpre
  obtain ⟨h1, h2, h3⟩ := hp cs hpre
  obtain ⟨_, h4⟩ := h cs h1
  refine ⟨h3, fun vs w hG hA => ?_⟩
  rw [ha] at hA
  rw [hg] at hG
  rw [hr, h2]
  exact h4 vs w hG hA
def bnewn_sp : SpecSh := { args := [(.int .i64 (.z 0))], res := (.tup [(.agg [(.int .i64 (.z 0)), (.int .i64 (.z 0)), (.int .i64 (.z 0)), (.int .i64 (.z 0)), (.int .i64 (.z 0))]), (.int .i64 (.z 0))]), sh := [.i (some (1, 10)), .i (some (0, 0)), .i (some (0, 0)), .i (some (0, 0)), .i (some (0, 0)), .i (some (0, 0))] }
def bnewn_sem : SpecSem := { pre := fun cs => match cs with | [.i z] => 1 ≤ z ∧ z ≤ 10 | _ => False, out := fun cs => match cs with | [.i z] => [.i z, .i 0, .i 0, .i 0, .i 0, .i 0] | _ => [] }
theorem bnewn_ok : SpecOK Try.prog 11 bnewn_sp bnewn_sem := by
  refine spec_narrow bnew_ok rfl rfl rfl fun cs hpre => ?_
  match cs, hpre with
  | [.i z], hz =>
    have hz : 1 ≤ z ∧ z ≤ 10 := hz
    refine ⟨⟨by omega, by omega⟩, ?_, ?_⟩
    · simp only [bnewn_sem, bnew_sem, hz, and_self, if_true]
    · simp only [bnewn_sem, bnewn_sp, Fits, and_true]; omega
def btaken_sp : SpecSh := { args := [(.agg [(.int .i64 (.z 0)), (.int .i64 (.z 0)), (.int .i64 (.z 0)), (.int .i64 (.z 0)), (.int .i64 (.z 0))]), (.lst 0)], res := (.tup [(.agg [(.int .i64 (.z 0)), (.int .i64 (.z 0)), (.int .i64 (.z 0)), (.int .i64 (.z 0)), (.int .i64 (.z 0))]), (.int .i64 (.z 0))]), sh := [.i (some (1, 10)), .i (some (1, 25)), .i (some ((-250000000), 250000000)), .i (some (0, 50000000)), .i (some ((-1000000), 1000000)), .i (some (0, 0))] }
def btaken_sem : SpecSem := { pre := fun cs => match cs with | [.i z, .i m, .i s, .i r, .i a, .l xs] => BsOK z m s r a ∧ BsOK z (m + 1) (s + sumL xs) (r + tkR z m a xs) (lastS xs) ∧ tkE z m s r a xs = 0 | _ => False, out := fun cs => match cs with | [.i z, .i m, .i s, .i r, .i a, .l xs] => [.i z, .i (m + 1), .i (s + sumL xs), .i (r + tkR z m a xs), .i (lastS xs), .i 0] | _ => [] }
theorem BsOK.rng {z m s r a : Int} (h : BsOK z m s r a) : (1 ≤ z ∧ z ≤ 10) ∧ (0 ≤ m ∧ m ≤ 25) ∧ (-250000000 ≤ s ∧ s ≤ 250000000) ∧ (0 ≤ r ∧ r ≤ 50000000) ∧ (-1000000 ≤ a ∧ a ≤ 1000000) := by
  obtain ⟨q1, q2, q3, q4, q5, q6⟩ := h
  have e2 : m * z * 1000000 ≤ 250000000 := by
    have h3 : m * z ≤ 25 * 10 := Int.mul_le_mul (by omega) q1.2 (by omega) (by omega)
    omega
  have e3 : bsteps z m ≤ 25 := by unfold bsteps; (repeat' split) <;> omega
  omega
theorem btaken_ok : SpecOK Try.prog 12 btaken_sp btaken_sem := by
  refine spec_narrow btake_ok rfl rfl rfl fun cs hpre => ?_
  match cs, hpre with
  | [.i z, .i m, .i s, .i r, .i a, .l xs], ⟨h1, h2, h3⟩ =>
    have r1 := h1.rng
    have r2 := h2.rng
    have hx : (xs.length : Int) = z ∧ inS xs := by
      unfold tkE at h3
      split at h3
      · rename_i h; exact h.2
      · omega
    refine ⟨⟨⟨by omega, by omega⟩, ⟨by omega, by omega⟩, ⟨by omega, by omega⟩, ⟨by omega, by omega⟩, ⟨by omega, by omega⟩, fun x hx' => ?_, by omega⟩, ?_, ?_⟩
    · have := hx.2 x hx'; omega
    · simp only [btaken_sem, btake_sem, h3, if_true]
    · simp only [btaken_sem, btaken_sp, Fits, and_true]; omega
end Go.Proofs.Ytjbokdekofiihaa.X
