/-
  fix.try calls a function, and takes what that gives up with for ErrOver: its contract.
-/
import Derived.Test.YtglpelnaeipenaaGreatSxWide2
import Derived.WalkKit
import Derived.Tactics2
import Derived.Defers
import Derived.Recover
import Derived.Laws.Pointers
namespace Go.Proofs.YtglpelnaeipenaaGreat.X
open Go Go.SX Go.RowKit
set_option linter.unusedVariables false
set_option linter.unusedSimpArgs false
def try_try : TrySh := { tid := 117, res := (.int .i64 (.z 0)), zero := (.int .i64 (.z 0)), k := .i64, bad := some 5, t1 := 3, t2 := 26 }
theorem catch_idle (p q : Addr) (w : World) :
    CallsD Tryz.prog 66 #[.pointer (some p), .pointer (some q)] .returning w fun e u' w' => e = .returned (.tuple #[]) ∧ u' = .returning ∧ w' = w := by
  refine callsD_of_wpS Tryz.func66 rfl fun c₀ cs hu => ?_
  apply wpS_seq
  apply wpS_region
  simp [wpOpsS, go_sem, recoverD, hu, Tryz.ntmps66, Exit.thenS]
  apply wpS_seq
  apply wpS_region
  simp [wpOpsS, go_sem, Exit.thenS]
  refine wpS_cond (t := false) (by simp [Act.eval, Array.replicate]) ?_
  simp only [Bool.false_eq_true, if_false]
  refine wpS_of_wp (wp_skip ?_)
  cases c₀
  simp_all [bodyPostS, results, Tryz.results66]
set_option maxHeartbeats 2000000 in
theorem catch_over (p q : Addr) (w : World) (u v : Value) (hp : w.cell? p = some u) (hq : w.cell? q = some v) (fp : w.frozen? p = false) (fq : w.frozen? q = false) (hpq : p.block ≠ q.block) (lp : p.block < w.heap.size) (lq : q.block < w.heap.size) :
    CallsD Tryz.prog 66 #[.pointer (some p), .pointer (some q)] (.panicking [{ v := .iface 117 (.agg #[]), recovered := false }]) w fun e u' w' =>
      e = .returned (.tuple #[]) ∧ u' = .panicking [{ v := .iface 117 (.agg #[]), recovered := true }] ∧ w' = ((w.alloc (.cells #[] 117)).setCell p (.int .i64 0)).setCell q (.int .i64 5) := by
  refine callsD_of_wpS Tryz.func66 rfl fun c₀ cs hu => ?_
  apply wpS_seq
  apply wpS_region
  simp [wpOpsS, go_sem, recoverD, hu, Tryz.ntmps66, Exit.thenS]
  apply wpS_seq
  apply wpS_region
  simp [wpOpsS, go_sem, Exit.thenS]
  refine wpS_cond (t := true) (by simp [Act.eval, Array.replicate]) ?_
  simp only [if_true]
  apply wpS_seq
  apply wpS_seq
  apply wpS_region
  have hd : Tryz.prog.underlying 117 = some (.struct #[]) := Tryz.underlying117
  have hz : ∀ w, (zeroValue 117).run Tryz.prog w = .ok (.agg #[]) w := fun w => run_zeroValue' ty117 rfl [] hid0
  have hs : ∀ w, (sizeOf 117).run Tryz.prog w = .ok 0 w := fun w => run_sizeOf' ty117
  have hta : ∀ (v : Value) (t : TypeId) (w : World), (Instr.typeAssert (.iface 117 v) t 117 true).run Tryz.prog w = .ok (.tuple #[v, .bool true]) w := fun v t w => by
    simp only [Instr.typeAssert, Sem.run_bind, run_underlying hd, Result.andThen_ok, if_true]; rfl
  have hal : ∀ (w : World), (Instr.alloc 117 true (.tuple #[])).run Tryz.prog w = .ok (.pointer (some ⟨w.heap.size, 0, none⟩)) (w.alloc (.cells #[] 117)) := fun w => by
    simp only [Instr.alloc, Sem.run_bind, hz, Result.andThen_ok, newVar, newRow, newObj, Sem.run, pure]; rfl
  have hst : ∀ (a : Addr) (w : World), (Instr.storeAt 117 (.pointer (some a)) (.agg #[])).run Tryz.prog w = .ok () w := fun a w => by
    simp only [Instr.storeAt, Instr.sureAddr, Sem.run_bind, pure, Sem.run, Result.andThen_ok, storeVar, hs, Value.cells]; rfl
  simp [wpOpsS, Exit.thenS, go_sem, hta, hal, hst]
  apply wpS_seq
  apply wpS_region
  simp [wpOpsS, go_sem, Exit.thenS]
  refine wpS_cond (t := false) (by simp [Act.eval, Array.replicate]) ?_
  simp only [Bool.false_eq_true, if_false]
  refine wpS_of_wp (wp_skip ?_)
  simp only [Exit.thenS]
  apply wpS_region
  have c1 : (w.alloc (.cells #[] 117)).cell? p = some u := (World.cell?_of_block (a := p) (heap_alloc_old w _ lp)).trans hp
  have f1 : (w.alloc (.cells #[] 117)).frozen? p = false := (World.frozen?_of_block (a := p) (heap_alloc_old w _ lp)).trans fp
  have c2 : ((w.alloc (.cells #[] 117)).setCell p (.int .i64 0)).cell? q = some v := (World.cell?_of_block (a := q) (Below.heap_setCell _ _ _ _ (fun h => hpq h.symm))).trans ((World.cell?_of_block (a := q) (heap_alloc_old w _ lq)).trans hq)
  have f2 : ((w.alloc (.cells #[] 117)).setCell p (.int .i64 0)).frozen? q = false := (World.frozen?_of_block (a := q) (Below.heap_setCell _ _ _ _ (fun h => hpq h.symm))).trans ((World.frozen?_of_block (a := q) (heap_alloc_old w _ lq)).trans fq)
  simp [wpOpsS, go_sem, c1, f1, c2, f2, bodyPostS, results, Tryz.results66]

set_option maxRecDepth 100000 in
theorem try_ok : TryOK Tryz.prog 43 try_try := by
  intro n first cap w w1 N hw1 h
  refine ⟨?_, ?_⟩
  · simp only [callFunc, Sem.run_bind, program, Sem.run, Result.andThen_ok, Tryz.func43]
    rfl
  · go_enter_defers Tryz.func43, Tryz.ntmps43
    go_wp2
    rename_i Q' K1 hK1 K hK
    have hw : (w.alloc (.cells #[.int .i64 0] 3)).alloc (.cells #[.int .i64 0] 26) = w1 := hw1.symm
    rw [hw]
    obtain ⟨hrun, hcall⟩ := h
    have hsz : w1.heap.size = w.heap.size + 2 := by rw [← hw]; simp
    rw [hrun]
    refine Calls.mono hcall ?_
    rintro e w2 ⟨⟨ca, cb⟩, he⟩
    have ca' : w2.heap[w.heap.size]? = some (.cells #[.int .i64 0] 3 (0, 0)) := ca
    have cb' : w2.heap[w.heap.size + 1]? = some (.cells #[.int .i64 0] 26 (0, 0)) := cb
    have l2 : w.heap.size + 1 < w2.heap.size := by
      refine Decidable.byContradiction fun hh => ?_
      rw [Array.getElem?_eq_none (by omega)] at cb'; cases cb'
    have c1 : w2.cell? ⟨w.heap.size, 0, none⟩ = some (.int .i64 0) := cell_of_blk (l := [.int .i64 0]) ca' 0
    have f1 : w2.frozen? ⟨w.heap.size, 0, none⟩ = false := by simp [World.frozen?, ca']
    have c2 : ∀ v, (w2.setCell ⟨w.heap.size, 0, none⟩ v).cell? ⟨w.heap.size + 1, 0, none⟩ = some (.int .i64 0) := fun v =>
      (World.cell?_of_block (a := ⟨w.heap.size + 1, 0, none⟩) (Below.heap_setCell _ _ _ _ (by simp))).trans (cell_of_blk (l := [.int .i64 0]) cb' 0)
    have f2 : ∀ v, (w2.setCell ⟨w.heap.size, 0, none⟩ v).frozen? ⟨w.heap.size + 1, 0, none⟩ = false := fun v =>
      (World.frozen?_of_block (a := ⟨w.heap.size + 1, 0, none⟩) (Below.heap_setCell _ _ _ _ (by simp))).trans (by simp [World.frozen?, cb'])
    have c2' : w2.cell? ⟨w.heap.size + 1, 0, none⟩ = some (.int .i64 0) := cell_of_blk (l := [.int .i64 0]) cb' 0
    have f2' : w2.frozen? ⟨w.heap.size + 1, 0, none⟩ = false := by simp [World.frozen?, cb']
    -- what is read in the end
    have rd : ∀ (u v : Value) (W : World), W.heap[w.heap.size]? = some (.cells #[u] 3 (0, 0)) → W.heap[w.heap.size + 1]? = some (.cells #[v] 26 (0, 0)) →
        (W.cell? ⟨w.heap.size, 0, none⟩ = some u ∧ W.cell? ⟨w.heap.size + 1, 0, none⟩ = some v) := fun u v W h1 h2 =>
      ⟨cell_of_blk (l := [u]) h1 0, cell_of_blk (l := [v]) h2 0⟩
    have hs1 : ∀ (W : World) (v : Value) (b : Nat) (t : TypeId) (u : Value), W.heap[b]? = some (.cells #[u] t (0, 0)) → (W.setCell ⟨b, 0, none⟩ v).heap[b]? = some (.cells #[v] t (0, 0)) := fun W v b t u h =>
      SX.heap_setCell_same (l := [u]) (off := 0) h v
    have hs2 : ∀ (W : World) (v : Value) (b c : Nat), b ≠ c → (W.setCell ⟨b, 0, none⟩ v).heap[c]? = W.heap[c]? := fun W v b c h => Below.heap_setCell _ _ _ _ (fun e => h e.symm)
    clear hcall hrun hw hw1
    cases e with
    | outgrown => exact he.elim
    | returned v =>
      obtain ⟨⟨cs, hv⟩, hN⟩ := he
      have hv' : v = .int .i64 (Env.get cs 0).int := hv
      clear hv
      generalize (Env.get cs 0).int = z at hv'
      subst hv'
      have HN : Hid (∀ (w3 : World), Below w.heap.size w2 w3 → N (Value.tuple #[.int .i64 z, .int .i64 0]) w3) := hN
      have g1 := hs1 w2 (.int .i64 z) w.heap.size _ _ ca'
      have g2 : (w2.setCell ⟨w.heap.size, 0, none⟩ (.int .i64 z)).heap[w.heap.size + 1]? = some (.cells #[.int .i64 0] 26 (0, 0)) := (hs2 _ _ _ _ (by omega)).trans cb'
      have g3 := hs1 _ (.int .i64 0) (w.heap.size + 1) _ _ g2
      have g4 : ((w2.setCell ⟨w.heap.size, 0, none⟩ (.int .i64 z)).setCell ⟨w.heap.size + 1, 0, none⟩ (.int .i64 0)).heap[w.heap.size]? = some (.cells #[.int .i64 z] 3 (0, 0)) := (hs2 _ _ _ _ (by omega)).trans g1
      have hrd := rd _ _ _ g4 g3
      have hbel : Below w.heap.size w2 ((w2.setCell ⟨w.heap.size, 0, none⟩ (.int .i64 z)).setCell ⟨w.heap.size + 1, 0, none⟩ (.int .i64 0)) := Below.setCell (p := ⟨w.heap.size + 1, 0, none⟩) (Below.setCell (p := ⟨w.heap.size, 0, none⟩) (Below.refl _ _) (Nat.le_refl _) _) (Nat.le_succ _) _
      have HR : Hid _ := hrd
      have HB : Hid _ := hbel
      clear hN rd hs1 hs2 g1 g2 g3 g4 hrd hbel ca cb ca' cb'
      refine hK _ _ ?_
      go_wp2
      refine leaves_cons (f := 66) (args := #[.pointer (some ⟨w.heap.size, 0, none⟩), .pointer (some ⟨w.heap.size + 1, 0, none⟩)]) (by simp) (by simp [go_sem]) ?_
      refine (catch_idle _ _ _).mono ?_
      rintro e u' w'' ⟨rfl, rfl, rfl⟩
      have h1 := HR.out.1
      have h2 := HR.out.2
      refine ⟨.tuple #[.int .i64 z, .int .i64 0], ?_, HN.out _ HB.out⟩
      simp [results, Tryz.results43, go_sem, h1, h2]
    | panicked c =>
      obtain ⟨x, rfl, rfl, hN⟩ := he
      refine leaves_cons (f := 66) (args := #[.pointer (some ⟨w.heap.size, 0, none⟩), .pointer (some ⟨w.heap.size + 1, 0, none⟩)]) (by simp) (by simp [go_sem]) ?_
      refine (catch_over ⟨w.heap.size, 0, none⟩ ⟨w.heap.size + 1, 0, none⟩ w2 _ _ c1 c2' f1 f2' (by simp) (by simp; omega) (by simp; omega)).mono ?_
      rintro e u' w'' ⟨rfl, rfl, rfl⟩
      have k0 : (w2.alloc (.cells #[] 117)).heap[w.heap.size]? = some (.cells #[.int .i64 0] 3 (0, 0)) := (heap_alloc_old w2 _ (by omega)).trans ca'
      have k1 : (w2.alloc (.cells #[] 117)).heap[w.heap.size + 1]? = some (.cells #[.int .i64 0] 26 (0, 0)) := (heap_alloc_old w2 _ (by omega)).trans cb'
      have g1 := hs1 _ (.int .i64 0) w.heap.size _ _ k0
      have g2 := (hs2 (w2.alloc (.cells #[] 117)) (.int .i64 0) w.heap.size (w.heap.size + 1) (by omega)).trans k1
      have g3 := hs1 _ (.int .i64 5) (w.heap.size + 1) _ _ g2
      have g4 := (hs2 ((w2.alloc (.cells #[] 117)).setCell ⟨w.heap.size, 0, none⟩ (.int .i64 0)) (.int .i64 5) (w.heap.size + 1) w.heap.size (by omega)).trans g1
      obtain ⟨h1, h2⟩ := rd _ _ _ g4 g3
      have hbel : Below w.heap.size w2 (((w2.alloc (.cells #[] 117)).setCell ⟨w.heap.size, 0, none⟩ (.int .i64 0)).setCell ⟨w.heap.size + 1, 0, none⟩ (.int .i64 5)) :=
        Below.setCell (p := ⟨w.heap.size + 1, 0, none⟩) (Below.setCell (p := ⟨w.heap.size, 0, none⟩) ((Below.refl _ _).alloc (show w.heap.size ≤ w2.heap.size by omega) _) (Nat.le_refl _) _) (Nat.le_succ _) _
      refine ⟨.tuple #[.int .i64 0, .int .i64 5], ?_, hN _ hbel⟩
      simp [results, Tryz.results43, go_sem, h1, h2]
end Go.Proofs.YtglpelnaeipenaaGreat.X
