/-
  able.told calls a function, and takes what that gives up with: its contract.
-/
import Derived.Test.YtglpelnaeipenaaGreatSxWide2
import Derived.WalkKit
import Derived.Tactics2
import Derived.Defers
import Derived.Recover
import Derived.Laws.Pointers
namespace Go.Proofs.YtglpelnaeipenaaGreat.X
open Go Go.SX Go.RowKit
set_option linter.unusedVariables false
set_option linter.unusedSimpArgs false
def atold_try : TrySh := { tid := 54, res := (.agg [(.int .i64 (.z 0)), (.int .i64 (.z 0))]), zero := (.agg [(.int .i64 (.z 0)), (.int .i64 (.z 0))]), k := .i64, bad := none, t1 := 25, t2 := 26 }
theorem told_idle (p q : Addr) (w : World) :
    CallsD Tryz.prog 24 #[.pointer (some p), .pointer (some q)] .returning w fun e u' w' => e = .returned (.tuple #[]) ∧ u' = .returning ∧ w' = w := by
  refine callsD_of_wpS Tryz.func24 rfl fun c₀ cs hu => ?_
  apply wpS_seq
  apply wpS_region
  simp [wpOpsS, go_sem, recoverD, hu, Tryz.ntmps24, Exit.thenS]
  apply wpS_seq
  apply wpS_region
  simp [wpOpsS, go_sem, Exit.thenS]
  refine wpS_cond (t := false) (by simp [Act.eval, Array.replicate]) ?_
  simp only [Bool.false_eq_true, if_false]
  refine wpS_of_wp (wp_skip ?_)
  cases c₀
  simp_all [bodyPostS, results, Tryz.results24]
/-- the last piece of the catcher, and the state it begins with -/
noncomputable def tolC : Code := match Tryz.f24.body with
  | some (.seq _ (.seq _ (.cond _ (.seq _ (.seq _ r)) _))) => r
  | _ => .skip
noncomputable def tolcx : Ctx := { tys := tys, fns := fns, sps := [], anns := [], trys := [] }
def tolM : Nat → SpecSem := fun _ => noSem
theorem tolcx_ok : CxOK Tryz.prog tolcx tolM := ⟨tysOK, fnsOK, fun _ _ h => spNil h, mixedOK, fun _ _ h => trNil h, fun _ _ h => atNil h, fun _ _ _ h => metNil h⟩
theorem ta_ok {P : Program} {t : TypeId} {ty : Ty} (h : TyOK P t ty) (hi : ∃ fs, ty.d = .struct fs) (v : Value) (x : TypeId) (w : World) : (Instr.typeAssert (.iface t v) x t true).run P w = .ok (.tuple #[v, .bool true]) w := by
  obtain ⟨d, hd, hdt⟩ := h.under
  obtain ⟨fs, hi⟩ := hi
  rw [hi] at hdt
  simp only [Instr.typeAssert, Sem.run_bind, run_underlying hd, Result.andThen_ok, if_true]
  cases d <;> first | (cases hdt; done) | (simp only [if_true]; rfl)
def tolI : SV := .iface 54 (.agg [.int .i64 (.v 0)])
def tolS : St := { nv := 1, nj := 0, lv := 0, fid := 24, ivs := [none], facts := [], defs := [], slots := [.ptr 0 0, .ptr 1 0, tolI, .ptr 2 0, .bool .t, tolI, tolI, .bool .t, .tup [.agg [.int .i64 (.v 0)], .bool .t], tolI, .tup [.agg [.int .i64 (.v 0)], .bool .t], .agg [.int .i64 (.v 0)], .bool .t, .bool .t, .bool .f, .tup [], .tup [], .tup [], .tup []], heap := [.cells [.int .i64 (.z 0), .int .i64 (.z 0)] 25, .cells [.int .i64 (.z 0)] 26, .cells [.int .i64 (.v 0)] 54] }
noncomputable def tolS' : St := match exec tolcx 10 tolC tolS .fin with
  | .fin _ S' => S'
  | _ => tolS
def tolH (B N : Nat) : Hid := ⟨fun i => if i = 0 then B else if i = 1 then B + 1 else N, fun _ => undef, fun _ => 0, fun _ => .slice none 0 0⟩
theorem den_of_eq {M : Nat → SpecSem} {R RP : Value → Prop} {F : Ex → St → Js → Env → Prop} {J : Js} {ρ : Env} {t T : Tree} (h : t = T) (hT : T.den M R RP F J ρ) : t.den M R RP F J ρ := h ▸ hT
theorem tol_rep {B : Nat} {w : World} {z : Int} (c0 : w.heap[B]? = some (.cells #[.int .i64 0, .int .i64 0] 25 (0, 0))) (c1 : w.heap[B + 1]? = some (.cells #[.int .i64 0] 26 (0, 0)))
    (a : Act) (ha : a.tmps.toList = denL [.i z] (tolH B w.heap.size) tolS.slots) (hdf : a.defers = []) (w0 : World) (hw0 : w0.heap.size = B) (hb : Below B w0 (w.alloc (.cells #[.int .i64 z] 54))) :
    Rep w0 tolS [.i z] (tolH B w.heap.size) [] a (w.alloc (.cells #[.int .i64 z] 54)) := by
  have l1 : B + 1 < w.heap.size := by
    refine Decidable.byContradiction fun hh => ?_
    rw [Array.getElem?_eq_none (by omega)] at c1; cases c1
  have h3 : ∀ (i : Nat) (b : Blk), tolS.heap[i]? = some b → (i = 0 ∧ b = .cells [.int .i64 (.z 0), .int .i64 (.z 0)] 25) ∨ (i = 1 ∧ b = .cells [.int .i64 (.z 0)] 26) ∨ (i = 2 ∧ b = .cells [.int .i64 (.v 0)] 54) := by
    intro i b hb
    match i, hb with
    | 0, hb => injection hb with hb; exact .inl ⟨rfl, hb.symm⟩
    | 1, hb => injection hb with hb; exact .inr (.inl ⟨rfl, hb.symm⟩)
    | 2, hb => injection hb with hb; exact .inr (.inr ⟨rfl, hb.symm⟩)
    | n + 3, hb => simp [tolS] at hb
  refine ⟨rfl, rfl, rfl, ⟨fun i lo hi hi' => ?_, fun e b hm => (by cases hm), fun e n hm => (by cases hm), fun i x hx => ?_⟩, ha, hdf, ⟨fun i b hb => ?_, fun i b hb hl => ?_, fun i j b c hb hc hbl hcl he => ?_, ?_⟩, hw0 ▸ hb⟩
  · match i, hi' with
    | 0, h => cases h
    | n + 1, h => simp [tolS] at h
  · match i, hx with
    | 0, h => cases h
    | n + 1, h => cases h
  · rcases h3 i b hb with ⟨rfl, rfl⟩ | ⟨rfl, rfl⟩ | ⟨rfl, rfl⟩
    · exact (SX.heap_alloc_old w _ (show B < w.heap.size by omega)).trans c0
    · exact (SX.heap_alloc_old w _ (show B + 1 < w.heap.size by omega)).trans c1
    · exact SX.heap_alloc_new w _
  · have hs : (w.alloc (.cells #[.int .i64 z] 54)).heap.size = w.heap.size + 1 := by simp
    rw [hw0, hs]
    rcases h3 i b hb with ⟨rfl, rfl⟩ | ⟨rfl, rfl⟩ | ⟨rfl, rfl⟩
    · show B ≤ B ∧ B < w.heap.size + 1; omega
    · show B ≤ B + 1 ∧ B + 1 < w.heap.size + 1; omega
    · show B ≤ w.heap.size ∧ w.heap.size < w.heap.size + 1; omega
  · rcases h3 i b hb with ⟨rfl, _⟩ | ⟨rfl, _⟩ | ⟨rfl, _⟩ <;> rcases h3 j c hc with ⟨rfl, _⟩ | ⟨rfl, _⟩ | ⟨rfl, _⟩ <;> simp [tolH] at he <;> first | rfl | omega
  · have hno : ∀ {i n : Nat} {e : TypeId}, tolS.heap[i]? = some (.own n e) → False := fun hb => by
      rcases h3 _ _ hb with ⟨_, h⟩ | ⟨_, h⟩ | ⟨_, h⟩ <;> cases h
    have hnv : ∀ {i n : Nat}, tolS.heap[i]? = some (.view n) → False := fun hb => by
      rcases h3 _ _ hb with ⟨_, h⟩ | ⟨_, h⟩ | ⟨_, h⟩ <;> cases h
    exact ⟨fun i n e hi => (hno hi).elim, fun i n hi => (hnv hi).elim, fun i n e j b hi => (hno hi).elim, fun i j n e m e' g hi => (hno hi).elim, fun i n j b hi => (hnv hi).elim, fun i n j m e g hi => (hnv hi).elim⟩
set_option maxHeartbeats 1000000 in
theorem told_over (B : Nat) (w : World) (z : Int) (c0 : w.heap[B]? = some (.cells #[.int .i64 0, .int .i64 0] 25 (0, 0))) (c1 : w.heap[B + 1]? = some (.cells #[.int .i64 0] 26 (0, 0))) :
    CallsD Tryz.prog 24 #[.pointer (some ⟨B, 0, none⟩), .pointer (some ⟨B + 1, 0, none⟩)] (.panicking [{ v := .iface 54 (.agg #[.int .i64 z]), recovered := false }]) w fun e u' w' =>
      e = .returned (.tuple #[]) ∧ u' = .panicking [{ v := .iface 54 (.agg #[.int .i64 z]), recovered := true }] ∧
      (w'.heap[B]? = some (.cells #[.int .i64 0, .int .i64 0] 25 (0, 0)) ∧ w'.heap[B + 1]? = some (.cells #[.int .i64 z] 26 (0, 0))) ∧ Below B w w' := by
  refine callsD_of_wpS Tryz.func24 rfl fun c₀ cs hu => ?_
  apply wpS_seq
  apply wpS_region
  simp [wpOpsS, go_sem, recoverD, hu, Tryz.ntmps24, Exit.thenS]
  apply wpS_seq
  apply wpS_region
  simp [wpOpsS, go_sem, Exit.thenS]
  refine wpS_cond (t := true) (by simp [Act.eval, Array.replicate]) ?_
  simp only [if_true]
  apply wpS_seq
  apply wpS_region
  have hz : ∀ w, (zeroValue 54).run Tryz.prog w = .ok (.agg #[.int .i64 0]) w := fun w => run_zeroValue' ty54 rfl [] hid0
  have hs : ∀ w, (sizeOf 54).run Tryz.prog w = .ok 1 w := fun w => run_sizeOf' ty54
  have hta : ∀ (v : Value) (t : TypeId) (w : World), (Instr.typeAssert (.iface 54 v) t 54 true).run Tryz.prog w = .ok (.tuple #[v, .bool true]) w := ta_ok ty54 ⟨_, rfl⟩
  have hal : ∀ (w : World), (Instr.alloc 54 true (.tuple #[])).run Tryz.prog w = .ok (.pointer (some ⟨w.heap.size, 0, none⟩)) (w.alloc (.cells #[.int .i64 0] 54)) := fun w => by
    simp only [Instr.alloc, Sem.run_bind, hz, Result.andThen_ok, newVar, newRow, newObj, Sem.run, pure]; rfl
  have hst : ∀ (n : Nat) (w : World) (u : Value), w.cell? ⟨n, 0, none⟩ = some u → w.frozen? ⟨n, 0, none⟩ = false → (Instr.storeAt 54 (.pointer (some ⟨n, 0, none⟩)) (.agg #[.int .i64 z])).run Tryz.prog w = .ok () (w.setCell ⟨n, 0, none⟩ (.int .i64 z)) := fun n w u h1 h2 => by
    have e : (⟨n, 0, none⟩ : Addr).add 0 = ⟨n, 0, none⟩ := rfl
    simp only [Instr.storeAt, Instr.sureAddr, Sem.run_bind, pure, Sem.run, Result.andThen_ok, storeVar, hs, Value.cells]
    simp [storeCells, run_store_int, stored, h1, h2, e]
  simp [wpOpsS, Exit.thenS, go_sem, hta, hal, hst]
  apply wpS_seq
  apply wpS_seq
  apply wpS_region
  simp [wpOpsS, go_sem, Exit.thenS]
  refine wpS_cond (t := false) (by simp [Act.eval, Array.replicate]) ?_
  simp only [Bool.false_eq_true, if_false]
  refine wpS_of_wp (wp_skip ?_)
  simp only [Exit.thenS]
  have l0 : B + 1 < w.heap.size := by
    refine Decidable.byContradiction fun hh => ?_
    rw [Array.getElem?_eq_none (by omega)] at c1; cases c1
  refine wpS_of_wp (WpX.wp (exec_sound (w0 := { w with heap := w.heap.extract 0 B }) (R := fun _ => False) (RP := fun _ => False) tolcx_ok 10 (fun e S _ _ => e = .normal ∧ S = tolS') _ tolS [.i z] (tolH B w.heap.size) [] _ _ .fin _ (fun ch a a' w he h => ?_) (tol_rep c0 c1 _ ?_ rfl _ ?_ ?_) (den_of_eq (T := .fin .normal tolS') (by kernel_rfl) ⟨rfl, rfl⟩) ?_))
  · exact ⟨he ▸ h.1, h.2⟩
  · kernel_rfl
  · simp; omega
  · refine ⟨rfl, rfl, rfl, by simp; omega, fun k hk => ?_⟩
    rw [SX.heap_alloc_old w _ (by omega), Array.getElem?_extract, if_pos (by omega), Nat.zero_add]
  · intro e S' ρ' h' J' a' w' hl hr hk
    obtain ⟨rfl, rfl⟩ := hk
    have b0 : h'.β 0 = B := hl.ag.β 0 (show 0 < 3 by omega)
    have b1 : h'.β 1 = B + 1 := hl.ag.β 1 (show 1 < 3 by omega)
    have b2 : h'.β 2 = w.heap.size := hl.ag.β 2 (show 2 < 3 by omega)
    have e0 : ρ'.get 0 = .i z := hl.ag.env 0 (show 0 < 1 by omega)
    have k0 : w'.heap[h'.β 0]? = some (.cells (denL ρ' h' [.int .i64 (.z 0), .int .i64 (.z 0)]).toArray 25 (0, 0)) := hr.heap.blk 0 (.cells [.int .i64 (.z 0), .int .i64 (.z 0)] 25) (by kernel_rfl)
    have k1 : w'.heap[h'.β 1]? = some (.cells (denL ρ' h' [.int .i64 (.v 0)]).toArray 26 (0, 0)) := hr.heap.blk 1 (.cells [.int .i64 (.v 0)] 26) (by kernel_rfl)
    have k2 := (hr.heap.own 2 (.cells [.int .i64 (.v 0)] 54) (by kernel_rfl) rfl).2
    rw [b0] at k0
    rw [b1] at k1
    rw [b2] at k2
    have k1' : w'.heap[B + 1]? = some (.cells #[.int .i64 z] 26 (0, 0)) := by
      rw [k1]; simp only [denL, SV.den, At.den, e0, Cv.int]
    have hsz : (w.heap.extract 0 B).size = B := by simp; omega
    refine ⟨hr.defers, _, rfl, .tuple #[], ?_, rfl, rfl, ⟨k0, k1'⟩, hr.below.os, hr.below.tape, hr.below.output, by omega, fun k hk => ?_⟩
    · simp [results, Tryz.results24]
    · have := hr.below.block k (by show k < (w.heap.extract 0 B).size; omega)
      rw [this]
      show (w.heap.extract 0 B)[k]? = _
      rw [Array.getElem?_extract, if_pos (by omega), Nat.zero_add]
set_option maxRecDepth 100000 in
set_option maxHeartbeats 2000000 in
theorem atold_ok : TryOK Tryz.prog 10 atold_try := by
  intro n first cap w w1 N hw1 h
  refine ⟨?_, ?_⟩
  · simp only [callFunc, Sem.run_bind, program, Sem.run, Result.andThen_ok, Tryz.func10]
    rfl
  · go_enter_defers Tryz.func10, Tryz.ntmps10
    go_wp2
    rename_i Q' K1 hK1 K hK
    have hw : (w.alloc (.cells #[.int .i64 0, .int .i64 0] 25)).alloc (.cells #[.int .i64 0] 26) = w1 := hw1.symm
    rw [hw]
    obtain ⟨hrun, hcall⟩ := h
    have hsz : w1.heap.size = w.heap.size + 2 := by rw [← hw]; simp
    rw [hrun]
    refine Calls.mono hcall ?_
    rintro e w2 ⟨⟨ca, cb⟩, he⟩
    have ca' : w2.heap[w.heap.size]? = some (.cells #[.int .i64 0, .int .i64 0] 25 (0, 0)) := ca
    have cb' : w2.heap[w.heap.size + 1]? = some (.cells #[.int .i64 0] 26 (0, 0)) := cb
    have l2 : w.heap.size + 1 < w2.heap.size := by
      refine Decidable.byContradiction fun hh => ?_
      rw [Array.getElem?_eq_none (by omega)] at cb'; cases cb'
    have hs1 : ∀ (W : World) (v : Value) (b : Nat) (t : TypeId) (u : Value), W.heap[b]? = some (.cells #[u] t (0, 0)) → (W.setCell ⟨b, 0, none⟩ v).heap[b]? = some (.cells #[v] t (0, 0)) := fun W v b t u h =>
      SX.heap_setCell_same (l := [u]) (off := 0) h v
    have hs2 : ∀ (W : World) (v : Value) (b c o : Nat), b ≠ c → (W.setCell ⟨b, o, none⟩ v).heap[c]? = W.heap[c]? := fun W v b c o h => Below.heap_setCell _ _ _ _ (fun e => h e.symm)
    have hs3 : ∀ (W : World) (v : Value) (b : Nat) (t : TypeId) (u u' : Value), W.heap[b]? = some (.cells #[u, u'] t (0, 0)) → (W.setCell ⟨b, 0, none⟩ v).heap[b]? = some (.cells #[v, u'] t (0, 0)) := fun W v b t u u' h =>
      SX.heap_setCell_same (l := [u, u']) (off := 0) h v
    have hs4 : ∀ (W : World) (v : Value) (b : Nat) (t : TypeId) (u u' : Value), W.heap[b]? = some (.cells #[u, u'] t (0, 0)) → (W.setCell ⟨b, 1, none⟩ v).heap[b]? = some (.cells #[u, v] t (0, 0)) := fun W v b t u u' h =>
      SX.heap_setCell_same (l := [u, u']) (off := 1) h v
    have fz : ∀ (W : World) (b o : Nat) (l : Array Value) (t : TypeId), W.heap[b]? = some (.cells l t (0, 0)) → W.frozen? ⟨b, o, none⟩ = false := fun W b o l t h => by simp [World.frozen?, h]
    have q0 : w2.cell? ⟨w.heap.size, 0, none⟩ = some (.int .i64 0) := cell_of_blk (l := [.int .i64 0, .int .i64 0]) ca' 0
    have f0 : w2.frozen? ⟨w.heap.size, 0, none⟩ = false := fz _ _ _ _ _ ca'
    have q1 : ∀ v, (w2.setCell ⟨w.heap.size, 0, none⟩ v).cell? ⟨w.heap.size, 1, none⟩ = some (.int .i64 0) := fun v => cell_of_blk (l := [v, .int .i64 0]) (hs3 _ v _ _ _ _ ca') 1
    have f1 : ∀ v, (w2.setCell ⟨w.heap.size, 0, none⟩ v).frozen? ⟨w.heap.size, 1, none⟩ = false := fun v => fz _ _ _ _ _ (hs3 _ v _ _ _ _ ca')
    have hq : ∀ u v, ((w2.setCell ⟨w.heap.size, 0, none⟩ u).setCell ⟨w.heap.size, 1, none⟩ v).heap[w.heap.size + 1]? = some (.cells #[.int .i64 0] 26 (0, 0)) := fun u v =>
      (hs2 _ _ _ _ _ (by omega)).trans ((hs2 _ _ _ _ _ (by omega)).trans cb')
    have q2 : ∀ u v, ((w2.setCell ⟨w.heap.size, 0, none⟩ u).setCell ⟨w.heap.size, 1, none⟩ v).cell? ⟨w.heap.size + 1, 0, none⟩ = some (.int .i64 0) := fun u v => cell_of_blk (l := [.int .i64 0]) (hq u v) 0
    have f2 : ∀ u v, ((w2.setCell ⟨w.heap.size, 0, none⟩ u).setCell ⟨w.heap.size, 1, none⟩ v).frozen? ⟨w.heap.size + 1, 0, none⟩ = false := fun u v => fz _ _ _ _ _ (hq u v)
    clear hcall hrun hw hw1
    cases e with
    | outgrown => exact he.elim
    | returned v =>
      obtain ⟨⟨cs, hv⟩, hN⟩ := he
      have hv' : v = .agg #[.int .i64 (Env.get cs 0).int, .int .i64 (Env.get cs 1).int] := hv
      clear hv
      generalize (Env.get cs 0).int = z at hv'
      generalize (Env.get cs 1).int = y at hv'
      subst hv'
      have HN : Hid (∀ (w3 : World), Below w.heap.size w2 w3 → N (Value.tuple #[.agg #[.int .i64 z, .int .i64 y], .int .i64 0]) w3) := hN
      have g1 := hs4 _ (.int .i64 y) w.heap.size _ _ _ (hs3 _ (.int .i64 z) w.heap.size _ _ _ ca')
      have g2 := hq (.int .i64 z) (.int .i64 y)
      have g3 := hs1 _ (.int .i64 0) (w.heap.size + 1) _ _ g2
      have g4 : (((w2.setCell ⟨w.heap.size, 0, none⟩ (.int .i64 z)).setCell ⟨w.heap.size, 1, none⟩ (.int .i64 y)).setCell ⟨w.heap.size + 1, 0, none⟩ (.int .i64 0)).heap[w.heap.size]? = some (.cells #[.int .i64 z, .int .i64 y] 25 (0, 0)) := (hs2 _ _ _ _ _ (by omega)).trans g1
      have r0 := cell_of_blk (l := [.int .i64 z, .int .i64 y]) g4 0
      have r1 := cell_of_blk (l := [.int .i64 z, .int .i64 y]) g4 1
      have r2 := cell_of_blk (l := [.int .i64 0]) g3 0
      have hbel : Below w.heap.size w2 (((w2.setCell ⟨w.heap.size, 0, none⟩ (.int .i64 z)).setCell ⟨w.heap.size, 1, none⟩ (.int .i64 y)).setCell ⟨w.heap.size + 1, 0, none⟩ (.int .i64 0)) := Below.setCell (p := ⟨w.heap.size + 1, 0, none⟩) (Below.setCell (p := ⟨w.heap.size, 1, none⟩) (Below.setCell (p := ⟨w.heap.size, 0, none⟩) (Below.refl _ _) (Nat.le_refl _) _) (Nat.le_refl _) _) (Nat.le_succ _) _
      have HR : Hid _ := And.intro r0 (And.intro r1 r2)
      have HB : Hid _ := hbel
      clear hN hs1 hs2 hs3 hs4 g1 g2 g3 g4 hbel ca cb ca' cb' r0 r1 r2 hq fz
      refine hK _ _ ?_
      go_wp2
      refine leaves_cons (f := 24) (args := #[.pointer (some ⟨w.heap.size, 0, none⟩), .pointer (some ⟨w.heap.size + 1, 0, none⟩)]) (by simp) (by simp [go_sem]) ?_
      refine (told_idle _ _ _).mono ?_
      rintro e u' w'' ⟨rfl, rfl, rfl⟩
      have h1 := HR.out.1
      have h2 := HR.out.2.1
      have h3 := HR.out.2.2
      refine ⟨.tuple #[.agg #[.int .i64 z, .int .i64 y], .int .i64 0], ?_, HN.out _ HB.out⟩
      simp [results, Tryz.results10, go_sem, h1, h2, h3]
      all_goals (trace_state; sorry)
    | panicked c =>
      obtain ⟨x, rfl, z, rfl, hN⟩ := he
      refine leaves_cons (f := 24) (args := #[.pointer (some ⟨w.heap.size, 0, none⟩), .pointer (some ⟨w.heap.size + 1, 0, none⟩)]) (by simp) (by simp [go_sem]) ?_
      refine (told_over w.heap.size w2 z ca' cb').mono ?_
      rintro e u' w'' ⟨rfl, rfl, ⟨g0, g1⟩, hb⟩
      have r0 := cell_of_blk (l := [.int .i64 0, .int .i64 0]) g0 0
      have r1 := cell_of_blk (l := [.int .i64 0, .int .i64 0]) g0 1
      have r2 := cell_of_blk (l := [.int .i64 z]) g1 0
      refine ⟨.tuple #[.agg #[.int .i64 0, .int .i64 0], .int .i64 z], ?_, hN _ hb⟩
      simp [results, Tryz.results10, go_sem, r0, r1, r2]
      all_goals (trace_state; sorry)
end Go.Proofs.YtglpelnaeipenaaGreat.X
