/-
  Rows of samples as a loop makes them.
-/
import Derived.Test.YtjbokdekofiihaaSxBsFold
namespace Go.Proofs.Ytjbokdekofiihaa.X
open Go Go.SX
set_option linter.unusedVariables false
set_option linter.unusedSimpArgs false
def inK (K : Int) (r : List Int) : Prop := ∀ x ∈ r, -K ≤ x ∧ x ≤ K
/-- rows of one size, 25 at most, of samples from -K to K -/
def RowsK (z K : Int) (L : List (List Int)) : Prop := (1 ≤ z ∧ z ≤ 10) ∧ L.length ≤ 25 ∧ ∀ r ∈ L, (r.length : Int) = z ∧ inK K r
theorem RowsK.ok {z K : Int} {L : List (List Int)} (h : RowsK z K L) (hK : K ≤ 1000000) : RowsOK z L :=
  ⟨h.1, h.2.1, fun r hr => ⟨(h.2.2 r hr).1, fun x hx => by have := (h.2.2 r hr).2 x hx; omega⟩⟩
theorem RowsK.nil {z K : Int} (hz : 1 ≤ z ∧ z ≤ 10) : RowsK z K [] := ⟨hz, by simp, fun r hr => by simp at hr⟩
theorem RowsK.push {z K : Int} {L : List (List Int)} (h : RowsK z K L) (hl : L.length < 25) {r : List Int} (h1 : (r.length : Int) = z) (h2 : inK K r) : RowsK z K (L ++ [r]) := by
  refine ⟨h.1, by simp only [List.length_append, List.length_singleton]; omega, fun q hq => ?_⟩
  rcases List.mem_append.1 hq with hq | hq
  · exact h.2.2 q hq
  · rw [List.mem_singleton] at hq; subst hq; exact ⟨h1, h2⟩
theorem enc_push (L : List (List Int)) (r : List Int) : enc L ++ ((r.length : Int) :: r) = enc (L ++ [r]) := by
  rw [enc_append]; simp [enc]
theorem enc_inI {z K : Int} (hK : K ≤ 1000000) : ∀ {L : List (List Int)}, RowsK z K L → InI (enc L)
  | [], _ => InI.nil
  | r :: L, h => by
    have hr := h.2.2 r (by simp)
    have h1 := h.1
    have ih := enc_inI hK (L := L) ⟨h.1, by have := h.2.1; simp only [List.length_cons] at this; omega, fun q hq => h.2.2 q (by simp [hq])⟩
    intro x hx
    simp only [enc, List.mem_cons, List.mem_append] at hx
    rcases hx with rfl | hx | hx
    · omega
    · have := hr.2 x hx; omega
    · exact ih x hx
theorem row1_inI {z K : Int} (hK : K ≤ 1000000) (hz : 1 ≤ z ∧ z ≤ 10) {r : List Int} (h1 : (r.length : Int) = z) (h2 : inK K r) : InI ((r.length : Int) :: r) := by
  intro x hx
  rcases List.mem_cons.1 hx with rfl | hx
  · omega
  · have := h2 x hx; omega
theorem inK_inI {K : Int} (hK : K ≤ 1000000) {r : List Int} (h : inK K r) : InI r := fun x hx => by have := h x hx; omega
theorem inK_push {K : Int} {r : List Int} (h : inK K r) {x : Int} (hx : -K ≤ x ∧ x ≤ K) : inK K (r ++ [x]) := fun y hy => by
  rcases List.mem_append.1 hy with hy | hy
  · exact h y hy
  · rw [List.mem_singleton] at hy; subst hy; exact hx
theorem dec_row1 (r : List Int) : dec ((r.length : Int) :: r) = [r] := by
  have := dec_enc (L := [r])
  simpa [enc] using this
theorem InI.sub {xs : List Int} (h : InI xs) (a b : Nat) : InI (List.take a (List.drop b xs)) := fun x hx => h x (List.mem_of_mem_drop (List.mem_of_mem_take hx))
/-- where the loop over the rows is -/
def madeI (z : Int) (L : List (List Int)) : List Cv → Prop := fun vs => match vs with
  | [.i i, .i z', .i m, .i s, .i r, .i a] => (0 ≤ i ∧ i ≤ (L.length : Int)) ∧ z' = z ∧ m = i ∧ s = bSn L i.toNat ∧ r = bRn z L i.toNat ∧ a = bLn L i.toNat
  | _ => False
def madeMu (L : List (List Int)) : List Cv → Nat := fun vs => match vs with
  | .i i :: _ => ((L.length : Int) - i).toNat
  | _ => 0
theorem made_fits {z : Int} {L : List (List Int)} (h : RowsOK z L) {i : Int} (hi : 0 ≤ i ∧ i ≤ (L.length : Int)) : (1 ≤ z ∧ z ≤ 10) ∧ (0 ≤ i ∧ i ≤ 25) ∧ (-250000000 ≤ bSn L i.toNat ∧ bSn L i.toNat ≤ 250000000) ∧ (0 ≤ bRn z L i.toNat ∧ bRn z L i.toNat ≤ 50000000) ∧ (-1000000 ≤ bLn L i.toNat ∧ bLn L i.toNat ≤ 1000000) := by
  have h1 := fold_ok h i.toNat (by omega)
  have h2 := h.2.1
  obtain ⟨q1, q2, q3, q4, q5, q6⟩ := h1
  have e : ((i.toNat : Nat) : Int) = i := by omega
  rw [e] at q5 q6 q2
  have e2 : i * z * 1000000 ≤ 250000000 := by
    have h3 : i * z ≤ 25 * 10 := Int.mul_le_mul (by omega) q1.2 (by omega) (by omega)
    omega
  have e3 : bsteps z i ≤ 25 := by unfold bsteps; (repeat' split) <;> omega
  omega
theorem made_step {z : Int} {L : List (List Int)} (h : RowsOK z L) {i : Int} (h0 : 0 ≤ i) (hi : i < (L.length : Int)) :
    ((L.getD i.toNat []).length : Int) ≤ 100000 ∧ tkE z i (bSn L i.toNat) (bRn z L i.toNat) (bLn L i.toNat) (L.getD i.toNat []) = 0 ∧
    bSn L i.toNat + sumL (L.getD i.toNat []) = bSn L (i + 1).toNat ∧ bRn z L i.toNat + tkR z i (bLn L i.toNat) (L.getD i.toNat []) = bRn z L (i + 1).toNat ∧ lastS (L.getD i.toNat []) = bLn L (i + 1).toNat := by
  have e : ((i.toNat : Nat) : Int) = i := by omega
  have e1 : (i + 1).toNat = i.toNat + 1 := by omega
  have h1 := fold_take h i.toNat (by omega)
  rw [e] at h1
  have h2 := (h.2.2 _ (getD_row (show i.toNat < L.length by omega))).1
  have h3 := h.1
  refine ⟨by omega, h1, ?_, ?_, ?_⟩
  · rw [e1]; rfl
  · rw [e1]
    show bRn z L i.toNat + tkR z i (bLn L i.toNat) (L.getD i.toNat []) = bRn z L i.toNat + tkR z (i.toNat : Int) (bLn L i.toNat) (L.getD i.toNat [])
    rw [e]
  · rw [e1]; rfl
end Go.Proofs.Ytjbokdekofiihaa.X
