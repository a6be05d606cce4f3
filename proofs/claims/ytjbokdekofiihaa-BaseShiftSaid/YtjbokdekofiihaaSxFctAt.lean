/-
  factor: the table that the first call makes: 'at' by hand (sync.Once, one goroutine).
-/
import Derived.Test.YtjbokdekofiihaaSxTab
import Derived.Tactics
import Derived.Tactics2
import Derived.Defers
import Derived.Laws.Pointers
import Derived.Laws.LoneSync
import Derived.RegionTactic
import Derived.RegionCalls
import Derived.ChangeAlike
namespace Go.Proofs.Ytjbokdekofiihaa.X
open Go Go.SX Go.RowKit
set_option linter.unusedVariables false
set_option maxRecDepth 100000
set_option linter.unusedSimpArgs false

def fat_at : AtSh := { fresh := [(.int .u32 (.z 0)), (.int .i32 (.z 0)), (.int .u32 (.z 0)), (.int .i64 (.z 0)), (.int .i64 (.z 0)), (.int .i64 (.z 0)), (.int .i64 (.z 0)), (.int .i64 (.z 0)), (.int .i64 (.z 0)), (.int .i64 (.z 0)), (.int .i64 (.z 0)), (.int .i64 (.z 0)), (.int .i64 (.z 0)), (.int .i64 (.z 0)), (.int .i64 (.z 0)), (.int .i64 (.z 0)), (.int .i64 (.z 0)), (.int .i64 (.z 0)), (.int .i64 (.z 0)), (.int .i64 (.z 0)), (.int .i64 (.z 0)), (.int .i64 (.z 0)), (.int .i64 (.z 0)), (.int .i64 (.z 0)), (.int .i64 (.z 0)), (.int .i64 (.z 0)), (.int .i64 (.z 0)), (.int .i64 (.z 0)), (.int .i64 (.z 0)), (.int .i64 (.z 0)), (.int .i64 (.z 0)), (.int .i64 (.z 0)), (.int .i64 (.z 0)), (.int .i64 (.z 0)), (.int .i64 (.z 0)), (.int .i64 (.z 0)), (.int .i64 (.z 0)), (.int .i64 (.z 0)), (.int .i64 (.z 0)), (.int .i64 (.z 0)), (.int .i64 (.z 0)), (.int .i64 (.z 0)), (.int .i64 (.z 0)), (.int .i64 (.z 0)), (.int .i64 (.z 0)), (.int .i64 (.z 0)), (.int .i64 (.z 0)), (.int .i64 (.z 0)), (.int .i64 (.z 0)), (.int .i64 (.z 0)), (.int .i64 (.z 0)), (.int .i64 (.z 0)), (.int .i64 (.z 0)), (.int .i64 (.z 0)), (.int .i64 (.z 0)), (.int .i64 (.z 0)), (.int .i64 (.z 0)), (.int .i64 (.z 0)), (.int .i64 (.z 0)), (.int .i64 (.z 0)), (.int .i64 (.z 0)), (.int .i64 (.z 0)), (.int .i64 (.z 0)), (.int .i64 (.z 0)), (.int .i64 (.z 0)), (.int .i64 (.z 0))], full := [(.int .u32 (.z 1)), (.int .i32 (.z 0)), (.int .u32 (.z 0)), (.int .i64 (.z 18800)), (.int .i64 (.z 10230)), (.int .i64 (.z 7290)), (.int .i64 (.z 5770)), (.int .i64 (.z 4830)), (.int .i64 (.z 4190)), (.int .i64 (.z 3730)), (.int .i64 (.z 3370)), (.int .i64 (.z 3080)), (.int .i64 (.z 0)), (.int .i64 (.z 0)), (.int .i64 (.z 0)), (.int .i64 (.z 0)), (.int .i64 (.z 0)), (.int .i64 (.z 760)), (.int .i64 (.z 1360)), (.int .i64 (.z 1840)), (.int .i64 (.z 2230)), (.int .i64 (.z 32670)), (.int .i64 (.z 25740)), (.int .i64 (.z 22820)), (.int .i64 (.z 21140)), (.int .i64 (.z 20040)), (.int .i64 (.z 19240)), (.int .i64 (.z 18640)), (.int .i64 (.z 18160)), (.int .i64 (.z 17770)), (.int .i64 (.z 11280)), (.int .i64 (.z 16930)), (.int .i64 (.z 20590)), (.int .i64 (.z 23260)), (.int .i64 (.z 25340)), (.int .i64 (.z 27040)), (.int .i64 (.z 28470)), (.int .i64 (.z 29700)), (.int .i64 (.z 30780)), (.int .i64 (.z 26590)), (.int .i64 (.z 19540)), (.int .i64 (.z 16280)), (.int .i64 (.z 14270)), (.int .i64 (.z 12870)), (.int .i64 (.z 11820)), (.int .i64 (.z 10990)), (.int .i64 (.z 10320)), (.int .i64 (.z 9750)), (.int .i64 (.z 0)), (.int .i64 (.z 0)), (.int .i64 (.z 0)), (.int .i64 (.z 0)), (.int .i64 (.z 300)), (.int .i64 (.z 1180)), (.int .i64 (.z 1850)), (.int .i64 (.z 2390)), (.int .i64 (.z 2840)), (.int .i64 (.z 32670)), (.int .i64 (.z 25680)), (.int .i64 (.z 22660)), (.int .i64 (.z 20890)), (.int .i64 (.z 19700)), (.int .i64 (.z 18820)), (.int .i64 (.z 18150)), (.int .i64 (.z 17610)), (.int .i64 (.z 17160))], T := 81, sp := { args := [(.int .i64 (.z 0)), (.int .i64 (.z 0))], res := (.int .i64 (.z 0)), sh := [.i (some (0, 32670))] } }
def ftabL : List Int := [18800,10230,7290,5770,4830,4190,3730,3370,3080,0,0,0,0,0,760,1360,1840,2230,32670,25740,22820,21140,20040,19240,18640,18160,17770,11280,16930,20590,23260,25340,27040,28470,29700,30780,26590,19540,16280,14270,12870,11820,10990,10320,9750,0,0,0,0,300,1180,1850,2390,2840,32670,25680,22660,20890,19700,18820,18150,17610,17160]
def ftab (k n : Int) : Int := ftabL.getD (9 * k + n - 2).toNat 0
def fat_sem : SpecSem := { pre := fun cs => match cs with | [.i k, .i n] => 0 ≤ k ∧ k ≤ 6 ∧ 2 ≤ n ∧ n ≤ 10 | _ => False, out := fun cs => match cs with | [.i k, .i n] => [.i (ftab k n)] | _ => [] }

/-- a block of a table -/
def RowAt (w : World) (b : Nat) (l : List Value) : Prop := w.heap[b]? = some (.cells l.toArray 81 (0, 0))
theorem RowAt.cell {w : World} {b : Nat} {l : List Value} (h : RowAt w b l) {off : Nat} {v : Value} (hv : l[off]? = some v) : w.cell? ⟨b, off, none⟩ = some v := by
  unfold RowAt at h; rw [cell_of_blk h, hv]
theorem RowAt.frozen {w : World} {b : Nat} {l : List Value} (h : RowAt w b l) (off : Nat) : w.frozen? ⟨b, off, none⟩ = false := by
  unfold RowAt at h; simp [World.frozen?, h]
theorem RowAt.set {w : World} {b : Nat} {l : List Value} (h : RowAt w b l) (off : Nat) (v : Value) : RowAt (w.setCell ⟨b, off, none⟩ v) b (l.set off v) := Go.SX.heap_setCell_same h v
theorem RowAt.drew {w : World} {b : Nat} {l : List Value} (h : RowAt w b l) : RowAt w.drew b l := h
theorem Stored.setCell (w : World) (b off : Nat) (v : Value) : Stored w (w.setCell ⟨b, off, none⟩ v) b := ⟨rfl, rfl, rfl, World.size_setCell _ _ _, fun k hk => Go.RowKit.Below.heap_setCell _ _ _ _ (by simpa using hk)⟩
theorem Stored.trans {w w' w'' : World} {b : Nat} (h : Stored w w' b) (g : Stored w' w'' b) : Stored w w'' b := ⟨g.os.trans h.os, g.tape.trans h.tape, g.output.trans h.output, g.size.trans h.size, fun k hk => (g.other k hk).trans (h.other k hk)⟩
theorem Stored.drew {w w' : World} {b : Nat} (h : Stored w w' b) : Stored w w'.drew b := ⟨h.os, h.tape, h.output, h.size, h.other⟩

theorem fdisable (w : World) : (callFunc 37 #[]).run Try.prog w = .ok (.value (.tuple #[])) w := run_call_mark0 Try.func37 (by kernel_rfl) (by kernel_rfl) (by kernel_rfl) .disable (by kernel_rfl) w
theorem fenable (w : World) : (callFunc 39 #[]).run Try.prog w = .ok (.value (.tuple #[])) w := run_call_mark0 Try.func39 (by kernel_rfl) (by kernel_rfl) (by kernel_rfl) .enable (by kernel_rfl) w
theorem facquire (a : Addr) (w : World) : (callFunc 40 #[.pointer (some a)]).run Try.prog w = .ok (.value (.tuple #[])) w := run_call_marked Try.func40 (by kernel_rfl) (by kernel_rfl) (by kernel_rfl) .acquire (by kernel_rfl) a w
theorem freleaseMerge (a : Addr) (w : World) : (callFunc 42 #[.pointer (some a)]).run Try.prog w = .ok (.value (.tuple #[])) w := run_call_marked Try.func42 (by kernel_rfl) (by kernel_rfl) (by kernel_rfl) .releaseMerge (by kernel_rfl) a w

theorem fstore_deferred (a : Addr) (x : Value) (u : FrameMode) (w : World) (hc : w.cell? a = some x) (hz : w.frozen? a = false) :
    CallsD Try.prog 32 #[.pointer (some a), .bool true] u w fun e u' w' => u' = u ∧ (e = .returned (.tuple #[]) ∧ w' = w.drew.setCell a (.int .u32 1)) := by
  have hc' : w.drew.cell? a = some x := by go_simp
  have hz' : w.drew.frozen? a = false := by go_simp
  have hst := run_call_store (P := Try.prog) Try.func35 (by kernel_rfl) (by kernel_rfl) (by kernel_rfl) (by kernel_rfl) (k := .u32) (y := 1) hc' hz'
  go_enter_d Try.func32, Try.ntmps32
  go_wp2
  go_region_calls
  all_goals (go_end0; exact ⟨rfl, rfl⟩)

theorem funlock_deferred (a : Addr) (u : FrameMode) (w : World) (hc : w.cell? a = some (.int .i32 1)) (hz : w.frozen? a = false) :
    CallsD Try.prog 31 #[.pointer (some a)] u w fun e u' w' => u' = u ∧ (e = .returned (.tuple #[]) ∧ w' = w.setCell a (.int .i32 0)) := by
  have hd := fdisable
  have he := fenable
  have hr := freleaseMerge
  have hadd := run_call_add (P := Try.prog) Try.func43 (by kernel_rfl) (by kernel_rfl) (by kernel_rfl) .i32 (by kernel_rfl) (y := -1) (s := 0) hc hz (by simp [go_sem]; rfl)
  have hcv := run_convert_to_unsafe (P := Try.prog) (src := 94) (dst := 98) Try.underlying94 Try.underlying98 (by kernel_rfl) hc
  go_enter_d Try.func31, Try.ntmps31
  go_wp2
  go_end0
  go_wp2
  go_end0
  exact ⟨rfl, rfl⟩

theorem flock_free (a : Addr) (w : World) (hc : w.cell? a = some (.int .i32 0)) (hz : w.frozen? a = false) :
    Calls Try.prog 30 #[.pointer (some a)] w fun e w' => e = .returned (.tuple #[]) ∧ w' = w.setCell a (.int .i32 1) := by
  have hd := fdisable
  have he := fenable
  have ha := facquire
  have hcas := run_call_cas_hit (P := Try.prog) Try.func38 (by kernel_rfl) (by kernel_rfl) (by kernel_rfl) .i32 (by kernel_rfl) (y := 1) hc hz
  have hc' : (w.setCell a (.int .i32 1)).cell? a = some (.int .i32 1) := World.cell?_setCell_same w a _ hc
  have hcv := run_convert_to_unsafe (P := Try.prog) (src := 94) (dst := 98) Try.underlying94 Try.underlying98 (by kernel_rfl) hc'
  go_enter Try.func30, Try.ntmps30
  go_wp2
  first | go_end0 | (simp only [Exit.inBlock, Exit.then]; refine bodyPost_ret (results_none rfl _ _ _) rfl ?_) | refine bodyPost_ret (results_none rfl _ _ _) rfl ?_
  go_wp2
  go_end0
  exact ⟨rfl, rfl⟩
end Go.Proofs.Ytjbokdekofiihaa.X
