/-
  factor: the table that the first call makes: the once's two roads.
-/
import Derived.Test.YtjbokdekofiihaaSxFctAt2
namespace Go.Proofs.Ytjbokdekofiihaa.X
open Go Go.SX Go.RowKit
set_option linter.unusedVariables false
set_option maxRecDepth 100000
set_option linter.unusedSimpArgs false

def fL0 : List Value := denL [] hid0 fat_at.fresh
def fL1 : List Value := fL0.set 1 (.int .i32 1)
def fL2 : List Value := putV fL1 3 ftabV
def fL3 : List Value := fL2.set 0 (.int .u32 1)
def fL4 : List Value := fL3.set 1 (.int .i32 0)
theorem fL4_full : fL4 = denL [] hid0 fat_at.full := by kernel_rfl
set_option maxRecDepth 100000 in
set_option maxHeartbeats 1600000 in
theorem fslow (b : Nat) (w : World) (h : RowAt w b fL0) :
    Calls Try.prog 28 #[.pointer (some ⟨b, 0, none⟩), .func (.func 26) #[.pointer (some ⟨b, 0, none⟩)] #[]] w fun e w' => e = .returned (.tuple #[]) ∧ Stored w w' b ∧ RowAt w' b fL4 := by
  have R1 : RowAt (w.setCell ⟨b, 1, none⟩ (.int .i32 1)) b fL1 := h.set 1 _
  have hl := run_call_load (P := Try.prog) Try.func29 (by kernel_rfl) (by kernel_rfl) (by kernel_rfl) .u32 (by kernel_rfl) (w := w.setCell ⟨b, 1, none⟩ (.int .i32 1)) (a := ⟨b, 0, none⟩) (x := 0) (R1.cell (by kernel_rfl))
  have hnot : ∀ (x : Bool) (w : World), (Op.unary .not (.bool x)).run Try.prog w = .ok (.bool (!x)) w := fun _ _ => rfl
  go_enter_defers Try.func28, Try.ntmps28
  go_wp2_with (first | (go_at_call 30; refine (flock_free ⟨b, 1, none⟩ _ (h.cell (by kernel_rfl)) (h.frozen 1)).mono ?_; rintro e w' ⟨rfl, rfl⟩) | (go_at_call 26; refine (ffill b fL1 _ R1 (by kernel_rfl)).mono ?_; rintro e w2 ⟨rfl, S2, R2⟩) | (go_at_call 27; go_in))
  have R2 : RowAt w2 b fL2 := R2
  refine leaves_cons (f := 32) (args := #[.pointer (some ⟨b, 0, none⟩), .bool true]) (by simp) (by simp [go_sem]) ?_
  refine (fstore_deferred ⟨b, 0, none⟩ (.int .u32 0) .returning _ (R2.cell (by kernel_rfl)) (R2.frozen 0)).mono ?_
  rintro e u' w'' ⟨rfl, rfl, rfl⟩
  have R3 : RowAt (w2.drew.setCell ⟨b, 0, none⟩ (.int .u32 1)) b fL3 := R2.drew.set 0 _
  refine leaves_cons (f := 31) (args := #[.pointer (some ⟨b, 1, none⟩)]) (by simp [settle]) (by simp [go_sem]) ?_
  refine (funlock_deferred ⟨b, 1, none⟩ _ _ (R3.cell (by kernel_rfl)) (R3.frozen 1)).mono ?_
  rintro e u' w'' ⟨rfl, rfl, rfl⟩
  have R4 : RowAt ((w2.drew.setCell ⟨b, 0, none⟩ (.int .u32 1)).setCell ⟨b, 1, none⟩ (.int .i32 0)) b fL4 := R3.set 1 _
  have S4 : Stored w ((w2.drew.setCell ⟨b, 0, none⟩ (.int .u32 1)).setCell ⟨b, 1, none⟩ (.int .i32 0)) b := Stored.trans (Stored.trans (Stored.drew (Stored.trans (Stored.setCell w b 1 _) S2)) (Stored.setCell _ b 0 _)) (Stored.setCell _ b 1 _)
  simp only [Leaves, settle]
  exact ⟨.tuple #[], results_none rfl _ _ _, rfl, S4, R4⟩

set_option maxRecDepth 100000 in
set_option maxHeartbeats 1600000 in
theorem fdo_first (b : Nat) (w : World) (h : RowAt w b fL0) :
    Calls Try.prog 25 #[.pointer (some ⟨b, 0, none⟩), .func (.func 26) #[.pointer (some ⟨b, 0, none⟩)] #[]] w fun e w' => e = .returned (.tuple #[]) ∧ Stored w w' b ∧ RowAt w' b fL4 := by
  have hl := run_call_load (P := Try.prog) Try.func29 (by kernel_rfl) (by kernel_rfl) (by kernel_rfl) .u32 (by kernel_rfl) (w := w) (a := ⟨b, 0, none⟩) (x := 0) (h.cell (by kernel_rfl))
  have hnot : ∀ (x : Bool) (w : World), (Op.unary .not (.bool x)).run Try.prog w = .ok (.bool (!x)) w := fun _ _ => rfl
  go_enter Try.func25, Try.ntmps25
  go_wp2_with (first | (go_at_call 28; refine (fslow b _ h).mono ?_; rintro e w' ⟨rfl, S1, R1⟩) | (go_at_call 27; go_in))
  go_end0
  exact ⟨rfl, S1, R1⟩
theorem fdo_done (b : Nat) (fv : Value) (w : World) (h : RowAt w b fL4) :
    Calls Try.prog 25 #[.pointer (some ⟨b, 0, none⟩), fv] w fun e w' => e = .returned (.tuple #[]) ∧ w' = w := by
  have hl := run_call_load (P := Try.prog) Try.func29 (by kernel_rfl) (by kernel_rfl) (by kernel_rfl) .u32 (by kernel_rfl) (w := w) (a := ⟨b, 0, none⟩) (x := 1) (h.cell (by kernel_rfl))
  have hnot : ∀ (x : Bool) (w : World), (Op.unary .not (.bool x)).run Try.prog w = .ok (.bool (!x)) w := fun _ _ => rfl
  go_enter Try.func25, Try.ntmps25
  go_wp2
  go_end0
  exact ⟨rfl, rfl⟩
end Go.Proofs.Ytjbokdekofiihaa.X
