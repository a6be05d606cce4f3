/-
  The contract of divide.Gcd (a range over a function that steps through what is left), for every input in range.
-/
import Derived.Test.YtlhmhcjpdpakkaaSxDivide
import Derived.RangeFuncNested
import Derived.RangeFuncLeaves
import Derived.Shelf.RegionOpen
import Derived.WalkKit
import Derived.OwnWalkIn
import Derived.TacticsInMore
import Derived.LoopIn
namespace Go.Proofs.Ytlhmhcjpdpakkaa.X
open Go Go.SX Go.RowKit Go.Shelf
set_option linter.unusedVariables false
set_option linter.unusedSimpArgs false
attribute [local go_sem] Oper.semAt_some


/-! ### what divides both, as a number -/
def gcdZ (u v : Int) : Int := (Nat.gcd u.toNat v.toNat : Int)
theorem gcdZ_zero {u : Int} (h : 0 ≤ u) : gcdZ u 0 = u := by
  unfold gcdZ; simp; omega
theorem gcdZ_step {u v : Int} (hu : 0 ≤ u) (hv : 0 < v) : gcdZ v (u % v) = gcdZ u v := by
  unfold gcdZ
  have h1 := Int.emod_nonneg u (b := v) (by omega)
  have e : (u % v).toNat = u.toNat % v.toNat := by
    obtain ⟨a, rfl⟩ := Int.eq_ofNat_of_zero_le hu
    obtain ⟨b, rfl⟩ := Int.eq_ofNat_of_zero_le (Int.le_of_lt hv)
    rw [← Int.natCast_emod, Int.toNat_natCast, Int.toNat_natCast, Int.toNat_natCast]
  rw [e, Nat.gcd_comm v.toNat, ← Nat.gcd_rec, Nat.gcd_comm]

/-! ### what lies where -/
abbrev W2 := Int × Int
def wv (x : W2) : Value := .agg #[.int .u64 x.1, .int .u64 x.2]
def wc (x : W2) : Obj := .cells #[.int .u64 x.1, .int .u64 x.2] 61 (0, 0)
def wok (x : W2) : Prop := IsU x.1 ∧ IsU x.2
def wn (x : W2) : Int := val x.1 x.2
theorem wn_rng {x : W2} (h : wok x) : 0 ≤ wn x ∧ wn x < 340282366920938463463374607431768211456 := by
  obtain ⟨⟨h1, h2⟩, ⟨h3, h4⟩⟩ := h
  unfold wn val; omega

theorem wdiv_calls (x y : W2) (hx : wok x) (hy : wok y) (w : World) :
    Calls Try.prog 115 #[.agg #[.int .u64 x.1, .int .u64 x.2], .agg #[.int .u64 y.1, .int .u64 y.2]] w fun e w' => ∃ (q r : W2) (bad : Int), wok r ∧ (wn y = 0 ∧ bad = 4 ∨ wn y ≠ 0 ∧ bad = 0 ∧ wn r = wn x % wn y) ∧
      e = .returned (.tuple #[.agg #[.int .u64 q.1, .int .u64 q.2], .agg #[.int .u64 r.1, .int .u64 r.2], .int .i64 bad]) ∧ Below w.heap.size w w' := by
  obtain ⟨a, b⟩ := x
  obtain ⟨c, d⟩ := y
  refine (SpecOK.calls wdiv_ok Try.func115 (by kernel_rfl) (by kernel_rfl) (cs := [.i a, .i b, .i c, .i d]) ⟨hx.1, hx.2, hy.1, hy.2⟩ w).mono ?_
  rintro e w' ⟨rfl, hb⟩
  have g := (divQR_rng (a := a) (b := b) (c := c) (d := d) hx.1 hx.2 hy.1 hy.2).2
  obtain ⟨g3, g4⟩ := g
  refine ⟨(_, _), (divR a b c d / 18446744073709551616, divR a b c d % 18446744073709551616), _, ⟨⟨by omega, by omega⟩, ⟨by omega, by omega⟩⟩, ?_, rfl, hb⟩
  by_cases hy0 : val c d = 0
  · exact .inl ⟨hy0, if_pos hy0⟩
  · refine .inr ⟨hy0, if_neg hy0, ?_⟩
    show val _ _ = val a b % val c d
    unfold divR at *
    rw [if_neg hy0] at *
    unfold val at *
    omega

/-! ### the world between two rounds -/
structure GJ (n0 A A2 B2 D L O : Nat) (rec : LoopState → Option Code → Loop) (w0 : World) (g : Int) (x y : W2) (W : World) : Prop where
  hx : wok x
  hy : wok y
  hg : gcdZ (wn x) (wn y) = g
  hA : W.heap[A]? = some (wc x)
  hA2 : W.heap[A2]? = some (wc x)
  hB2 : W.heap[B2]? = some (wc y)
  hD : W.heap[D]? = some (.deferred (some []))
  hL : W.heap[L]? = some (.loop (rec .ready none))
  hO : W.heap[O]? = some (wc (0, 0))
  below : Below n0 w0 W
theorem lt_of_at {W : World} {k : Nat} {o : Obj} (h : W.heap[k]? = some o) : k < W.heap.size := by
  refine Decidable.byContradiction fun hh => ?_
  rw [Array.getElem?_eq_none (by omega)] at h; cases h
theorem GJ.on {n0 A A2 B2 D L O : Nat} {rec : LoopState → Option Code → Loop} {w0 : World} {g : Int} {x y : W2} {W W' : World} (h : GJ n0 A A2 B2 D L O rec w0 g x y W) (hn : n0 ≤ W.heap.size) (b : Below W.heap.size W W') : GJ n0 A A2 B2 D L O rec w0 g x y W' :=
  ⟨h.hx, h.hy, h.hg, (b.block _ (lt_of_at h.hA)).trans h.hA, (b.block _ (lt_of_at h.hA2)).trans h.hA2, (b.block _ (lt_of_at h.hB2)).trans h.hB2, (b.block _ (lt_of_at h.hD)).trans h.hD, (b.block _ (lt_of_at h.hL)).trans h.hL, (b.block _ (lt_of_at h.hO)).trans h.hO, h.below.trans (b.mono hn)⟩
/-- the second number, read off the world -/
def wOf (o : Option Obj) : Nat := match o with
  | some (.cells cs _ _) => match cs.toList with
    | [.int _ a, .int _ b] => (val a b).toNat
    | _ => 0
  | _ => 0
theorem wOf_wc (x : W2) : wOf (some (wc x)) = (wn x).toNat := rfl

theorem cellAt {W : World} {g : Nat} {cs : Array Value} {T : TypeId} (h : W.heap[g]? = some (.cells cs T (0, 0))) (i : Nat) (v : Value) (e : cs[i]? = some v) : W.cell? ⟨g, i, none⟩ = some v := by
  simp [World.cell?, h, e]
theorem frozenAt {W : World} {g : Nat} {cs : Array Value} {T : TypeId} (h : W.heap[g]? = some (.cells cs T (0, 0))) (i : Nat) : W.frozen? ⟨g, i, none⟩ = false := by
  simp [World.frozen?, h]
theorem jump_ret {l : Nat} {J : Act → World → Prop} {Q : Exit → Act → World → Prop} {a : Act} {w : World} (h : Q .ret a w) : Exit.jump l J Q .ret a w := h
theorem set2 {W : World} {g : Nat} {x : W2} (h : W.heap[g]? = some (wc x)) (y : W2) : ((W.setCell ⟨g, 0, none⟩ (.int .u64 y.1)).setCell ⟨g, 1, none⟩ (.int .u64 y.2)).heap[g]? = some (wc y) :=
  SX.heap_setCell_same (l := [.int .u64 y.1, .int .u64 x.2]) (off := 1) (SX.heap_setCell_same (l := [.int .u64 x.1, .int .u64 x.2]) (off := 0) h _) _
theorem set2_other {W : World} {g k : Nat} {u v : Value} (h : k ≠ g) : ((W.setCell ⟨g, 0, none⟩ u).setCell ⟨g, 1, none⟩ v).heap[k]? = W.heap[k]? :=
  (Below.heap_setCell _ _ _ _ h).trans (Below.heap_setCell _ _ _ _ h)
theorem alloc_get {W : World} {o : Obj} {k : Nat} (h : k ≠ W.heap.size) : (W.alloc o).heap[k]? = W.heap[k]? := by
  by_cases c : k < W.heap.size
  · exact Below.heap_alloc W o k c
  · rw [Array.getElem?_eq_none (by simp; omega), Array.getElem?_eq_none (by omega)]
theorem alloc_at {W : World} {o : Obj} {k : Nat} (h : k = W.heap.size) : (W.alloc o).heap[k]? = some o := by
  subst h; exact World.alloc_heap_new W o
/-- a range over a function that is called with what it has captured: what is owed of that call -/
theorem wp_range {P : Program} {n : Nat} {g : Operand} {ps : Array Tmp} {assign body : Code} {Q : Exit → Act → World → Prop} {a : Act} {w : World} {gf : Nat} {lb : Array Value} (hg : a.eval g = .func (.func gf) #[] lb) (eg : ∀ args w, (callFunc gf args).run P w = .ok (.enter gf args) w)
    (h : ∀ (fn : FuncId) (rec : LoopState → Option Code → Loop), (rec = fun st pe => { state := st, pending := pe, fn, tmps := a.tmps, params := ps, assign, body, defers := w.heap.size }) →
      CallsIn Fence.wide n P gf (#[.func (.yield (w.heap.size + 1)) #[] #[]] ++ lb) ((w.alloc (.deferred (some []))).alloc (.loop (rec .ready none))) (rangePost Fence.wide (n + 1) P (w.heap.size + 1) Q { a with defers := { target := .collected w.heap.size, args := #[] } :: a.defers })) :
    (Code.rangeFunc g ps assign body).wpIn Fence.wide (n + 1) P Q a w := by
  refine wpIn_rangeFunc ?_
  intro fn hfn
  obtain ⟨rec, hrec⟩ : ∃ rec : LoopState → Option Code → Loop, rec = fun st pe => { state := st, pending := pe, fn, tmps := a.tmps, params := ps, assign, body, defers := w.heap.size } := ⟨_, rfl⟩
  obtain ⟨W1, hW1⟩ : ∃ W1, (w.alloc (.deferred (some []))).alloc (.loop (rec .ready none)) = W1 := ⟨_, rfl⟩
  refine ⟨w.heap.size + 1, [{ target := .collected w.heap.size, args := #[] }], W1, { target := .fn (.func gf) lb, args := #[.func (.yield (w.heap.size + 1)) #[] #[]] }, W1, gf,
    #[.func (.yield (w.heap.size + 1)) #[] #[]] ++ lb, W1, ?_, ?_, ?_, ?_, fun _ => by omega, ?_⟩
  · rw [← hW1, hrec]; exact run_enterLoop_outer _ _ _ _ _
  · simp only [resolve, hg]
    simp [go_sem]
  · intro f' hf'; trivial
  · simp [invoke, go_sem, eg]
  · rw [← hW1]; exact h fn rec hrec
/-- a scope that begins with its label, to which the run jumps back -/
theorem wp_scope_pass {P : Program} {a : Act} {w : World} {Q : Exit → Act → World → Prop} {c rest : Code} (l : Nat) (J : Act → World → Prop) (μ : Act → World → Nat) (hc : c = .seq (.label l) rest) (h0 : J a w)
    (pass : ∀ a w, J a w → rest.wp P (Exit.jump l (fun a' w' => J a' w' ∧ μ a' w' < μ a w) Q) a w) : (Code.scope c).wp P Q a w := by
  subst hc
  refine wp_scope_jumps (rest := .seq .skip rest) l J μ (by simp [findLabel]) ?_ fun a w h => wp_seq (wp_skip (pass a w h))
  refine wp_seq (wp_label ?_)
  refine wp_mono (pass a w h0) ?_
  intro e a' w' h
  cases e <;> first | exact h | exact ⟨h.1, h.2.1⟩
def gPre (l A2 B2 : Nat) : List Value := [.func (.yield l) #[] #[], .pointer (some ⟨A2, 0, none⟩), .pointer (some ⟨B2, 0, none⟩)]
def gJ (n0 A A2 B2 D L O : Nat) (rec : LoopState → Option Code → Loop) (w0 : World) (g : Int) (a : Act) (W : World) : Prop :=
  (∃ u3 u4 u5 u6 u7 u8 u9 u10 u11 u12 u13 u14 u15 u16 u17 u18 u19 u20 u21 u22 u23, a = { tmps := #[.func (.yield L) #[] #[], .pointer (some ⟨A2, 0, none⟩), .pointer (some ⟨B2, 0, none⟩), u3, u4, u5, u6, u7, u8, u9, u10, u11, u12, u13, u14, u15, u16, u17, u18, u19, u20, u21, u22, u23], defers := [] }) ∧
  ∃ x y, GJ n0 A A2 B2 D L O rec w0 g x y W
set_option maxRecDepth 100000 in
set_option maxHeartbeats 2000000 in
theorem steps1_in (n0 A A2 B2 D L O : Nat) (rec : LoopState → Option Code → Loop) (w0 : World) (g : Int)
    (hY : ∀ x y W, GJ n0 A A2 B2 D L O rec w0 g x y W → wn y ≠ 0 → YieldAt Fence.wide 5 Try.prog L #[.agg #[.int .u64 y.1, .int .u64 y.2]] W fun e W' => e = .returned (.bool true) ∧ W'.heap[A]? = some (wc y) ∧
      (∀ k o, k ≠ A → W.heap[k]? = some o → W'.heap[k]? = some o) ∧ Below n0 W W')
    (hne : A2 ≠ B2 ∧ A ≠ A2 ∧ A ≠ B2 ∧ n0 ≤ A2 ∧ n0 ≤ B2) (hDA : D ≠ A2) (hDB : D ≠ B2) (hDC : D ≠ A) (hLA : L ≠ A2) (hLB : L ≠ B2) (hLC : L ≠ A) (hOA : O ≠ A2) (hOB : O ≠ B2) (hOC : O ≠ A)
    (x0 y0 : W2) (W : World) (h : GJ n0 A A2 B2 D L O rec w0 g x0 y0 W) :
    Calls Try.prog 183 #[.func (.yield L) #[] #[], .pointer (some ⟨A2, 0, none⟩), .pointer (some ⟨B2, 0, none⟩)] W fun e W' => (∃ v, e = .returned v) ∧ ∃ x y, GJ n0 A A2 B2 D L O rec w0 g x y W' ∧ wn y = 0 := by
  refine (callsIn_wide (n := 6)).1 (callsIn_of_wp Try.func183 rfl trivial ?_)
  simp only [Try.ntmps183, List.size_toArray, List.length_cons, List.length_nil, Nat.reduceAdd, Nat.reduceSub, Array.replicate_succ, Array.replicate_zero, List.push_toArray, List.append_toArray, List.nil_append, List.cons_append]
  refine wpIn_wide.2 (wp_scope_pass 0 (gJ n0 A A2 B2 D L O rec w0 g) (fun _ W => wOf W.heap[B2]?) rfl ⟨⟨_, _, _, _, _, _, _, _, _, _, _, _, _, _, _, _, _, _, _, _, _, rfl⟩, x0, y0, h⟩ ?_)
  rintro a w ⟨⟨u3, u4, u5, u6, u7, u8, u9, u10, u11, u12, u13, u14, u15, u16, u17, u18, u19, u20, u21, u22, u23, rfl⟩, x, y, hJ⟩
  refine (wpIn_wide (n := 6)).1 ?_
  have hn0 : n0 ≤ w.heap.size := by have := lt_of_at hJ.hA2; omega
  have hA0 := cellAt hJ.hA2 0 (.int .u64 x.1) rfl
  have hA1 := cellAt hJ.hA2 1 (.int .u64 x.2) rfl
  have hB0 := cellAt hJ.hB2 0 (.int .u64 y.1) rfl
  have hB1 := cellAt hJ.hB2 1 (.int .u64 y.2) rfl
  gi_wp2_with (refine ⟨trivial, ?_⟩; gi_at_call 115; refine (callsIn_wide.2 (wdiv_calls x y hJ.hx hJ.hy _)).mono ?_; rintro e w' ⟨q, r, bad, hr, hcase, rfl, hb⟩; have hJ2 := hJ.on hn0 hb; have hJ3 := hJ2.on (Nat.le_trans hn0 hb.size) (((Below.refl _ w').alloc (Nat.le_refl _) (.cells #[.int .u64 q.1, .int .u64 q.2] 61 (0, 0))).alloc (by simp) (.cells #[.int .u64 r.1, .int .u64 r.2] 61 (0, 0))); have hD0 := cellAt hJ3.hB2 0 (.int .u64 y.1) rfl; have hD1 := cellAt hJ3.hB2 1 (.int .u64 y.2) rfl; rcases hcase with ⟨hy0, rfl⟩ | ⟨hy0, rfl, hrm⟩; rotate_left; obtain ⟨fn, tmps, asg, bd, hyy, hR⟩ := hY x y _ hJ3 hy0; rotate_left)
  · refine ⟨fun _ h => (by cases h), ?_⟩
    gi_wp2
    refine jump_ret ?_
    refine bodyPost_ret (results_none rfl _ _ _) rfl ?_
    exact ⟨⟨_, rfl⟩, x, y, hJ3, hy0⟩
  · refine hR.mono ?_
    rintro e W3 ⟨rfl, hA3, hk3, hb3⟩
    have lA := lt_of_at hJ2.hA
    have lA2 := lt_of_at hJ2.hA2
    have lB2 := lt_of_at hJ2.hB2
    have gA2 := hk3 A2 _ (fun e => hne.2.1 e.symm) hJ3.hA2
    have gB2 := hk3 B2 _ (fun e => hne.2.2.1 e.symm) hJ3.hB2
    have gr : W3.heap[w'.heap.size + 1]? = some (wc r) := hk3 _ _ (by omega) (by
      have := World.alloc_heap_new (w'.alloc (.cells #[.int .u64 q.1, .int .u64 q.2] 61 (0, 0))) (.cells #[.int .u64 r.1, .int .u64 r.2] 61 (0, 0))
      rw [World.size_alloc] at this
      exact this)
    have eB0 := cellAt gB2 0 (.int .u64 y.1) rfl
    have eB1 := cellAt gB2 1 (.int .u64 y.2) rfl
    have er0 := cellAt gr 0 (.int .u64 r.1) rfl
    have er1 := cellAt gr 1 (.int .u64 r.2) rfl
    have eA0 := cellAt gA2 0 (.int .u64 x.1) rfl
    have eA1 := cellAt gA2 1 (.int .u64 x.2) rfl
    have fA0 := frozenAt gA2 0
    have fA1 := frozenAt gA2 1
    have fB0 := frozenAt gB2 0
    have fB1 := frozenAt gB2 1
    gi_wp2
    refine wpIn_wide.2 ?_
    go_region
    gi_wp2
    refine wpIn_wide.2 (wp_goto ⟨rfl, ⟨⟨_, _, _, _, _, _, _, _, _, _, _, _, _, _, _, _, _, _, _, _, _, rfl⟩, y, r, ?_⟩, ?_⟩)
    · refine ⟨hJ.hy, hr, ?_, ?_, ?_, ?_, ?_, ?_, ?_, ?_⟩
      · rw [hrm, gcdZ_step (wn_rng hJ.hx).1 (by have := (wn_rng hJ.hy).1; omega)]; exact hJ.hg
      · exact (set2_other (by omega)).trans ((set2_other (by omega)).trans hA3)
      · exact (set2_other (by omega)).trans (set2 gA2 y)
      · exact set2 ((set2_other (by omega)).trans gB2) r
      · exact (set2_other hDB).trans ((set2_other hDA).trans (hk3 _ _ hDC hJ3.hD))
      · exact (set2_other hLB).trans ((set2_other hLA).trans (hk3 _ _ hLC hJ3.hL))
      · exact (set2_other hOB).trans ((set2_other hOA).trans (hk3 _ _ hOC hJ3.hO))
      · exact Below.drew (((((hJ3.below.trans hb3).setCell (p := ⟨A2, 0, none⟩) hne.2.2.2.1 _).setCell (p := ⟨A2, 1, none⟩) hne.2.2.2.1 _).setCell (p := ⟨B2, 0, none⟩) hne.2.2.2.2 _).setCell (p := ⟨B2, 1, none⟩) hne.2.2.2.2 _)
    · have e1 := congrArg wOf (set2 ((set2_other (W := W3) (g := A2) (k := B2) (u := .int .u64 y.1) (v := .int .u64 y.2) (fun e => hne.1 e.symm)).trans gB2) r)
      rw [wOf_wc] at e1
      have e2 : wOf (w.heap[B2]?) = (wn y).toNat := by rw [hJ.hB2]; rfl
      have h1 := Int.emod_lt_of_pos (wn x) (b := wn y) (by have := (wn_rng hJ.hy).1; omega)
      have h2 := Int.emod_nonneg (wn x) (b := wn y) hy0
      rw [hrm] at e1
      refine Nat.lt_of_le_of_lt (Nat.le_of_eq e1) ?_
      rw [e2]; omega

set_option maxHeartbeats 1000000 in
theorem steps_calls (x y : W2) (w : World) : Calls Try.prog 156 #[.agg #[.int .u64 x.1, .int .u64 x.2], .agg #[.int .u64 y.1, .int .u64 y.2]] w fun e w' =>
    e = .returned (.func (.func 183) #[] #[.pointer (some ⟨w.heap.size, 0, none⟩), .pointer (some ⟨w.heap.size + 1, 0, none⟩)]) ∧ w' = (w.alloc (wc x)).alloc (wc y) := by
  refine (callsIn_wide (n := 6)).1 (callsIn_of_wp Try.func156 rfl trivial ?_)
  simp only [Try.ntmps156, List.size_toArray, List.length_cons, List.length_nil, Nat.reduceAdd, Nat.reduceSub, Array.replicate_succ, Array.replicate_zero, List.push_toArray, List.append_toArray, List.nil_append, List.cons_append]
  gi_wp2
  go_ret
  exact ⟨rfl, rfl⟩
set_option maxRecDepth 100000 in
set_option maxHeartbeats 2000000 in
theorem gcd_calls (x y : W2) (hx : wok x) (hy : wok y) (w : World) : Calls Try.prog 102 #[.agg #[.int .u64 x.1, .int .u64 x.2], .agg #[.int .u64 y.1, .int .u64 y.2]] w fun e w' =>
    ∃ z : W2, wok z ∧ wn z = gcdZ (wn x) (wn y) ∧ e = .returned (.agg #[.int .u64 z.1, .int .u64 z.2]) ∧ Below w.heap.size w w' := by
  refine (callsIn_wide (n := 8)).1 (callsIn_of_wp_marks Try.func102 rfl trivial ?_)
  simp only [Try.ntmps102, List.size_toArray, List.length_cons, List.length_nil, Nat.reduceAdd, Nat.reduceSub, Array.replicate_succ, Array.replicate_zero, List.push_toArray, List.append_toArray, List.nil_append, List.cons_append]
  gi_wp2_with (refine ⟨trivial, ?_⟩; gi_at_call 156; refine (callsIn_wide.2 (steps_calls x y _)).mono ?_; rintro e w' ⟨rfl, rfl⟩)
  rename_i Q' K hK
  obtain ⟨W5, hW5⟩ : ∃ W5, (((((w.alloc (.cells #[.int .u64 x.1, .int .u64 x.2] 61)).alloc (.cells #[.int .u64 y.1, .int .u64 y.2] 61)).alloc (.cells #[.int .u64 0, .int .u64 0] 61)).alloc (wc x)).alloc (wc y)) = W5 := ⟨_, rfl⟩
  rw [hW5]
  have hs5 : W5.heap.size = w.heap.size + 5 := by rw [← hW5]; simp
  have b5 : Below w.heap.size w W5 := by
    rw [← hW5]
    exact (((((Below.refl _ w).alloc (Nat.le_refl _) _).alloc (by simp) _).alloc (by simp; omega) _).alloc (by simp; omega) _).alloc (by simp; omega) _
  have a0 : W5.heap[w.heap.size]? = some (wc x) := by
    rw [← hW5]
    exact (alloc_get (by simp; omega)).trans ((alloc_get (by simp; omega)).trans ((alloc_get (by simp; omega)).trans ((alloc_get (by simp)).trans (World.alloc_heap_new w _))))
  have a2 : W5.heap[w.heap.size + 2]? = some (wc (0, 0)) := by
    rw [← hW5]
    exact (alloc_get (by simp)).trans ((alloc_get (by simp)).trans (alloc_at (by simp)))
  have a3 : W5.heap[w.heap.size + 3]? = some (wc x) := by
    rw [← hW5]
    exact (alloc_get (by simp)).trans (alloc_at (by simp))
  have a4 : W5.heap[w.heap.size + 4]? = some (wc y) := by
    rw [← hW5]
    exact alloc_at (by simp)
  refine wp_range (n := 7) (gf := 183) (lb := #[.pointer (some ⟨w.heap.size + 3, 0, none⟩), .pointer (some ⟨w.heap.size + 4, 0, none⟩)]) rfl (enters_of Try.func183 (by kernel_rfl) rfl) ?_
  intro fn rec hrec
  obtain ⟨W7, hW7⟩ : ∃ W7, (W5.alloc (.deferred (some []))).alloc (.loop (rec .ready none)) = W7 := ⟨_, rfl⟩
  rw [hW7]
  have hs7 : W7.heap.size = W5.heap.size + 2 := by rw [← hW7]; simp
  have b7 : Below W5.heap.size W5 W7 := by rw [← hW7]; exact ((Below.refl _ _).alloc (Nat.le_refl _) _).alloc (by simp) _
  have hD7 : W7.heap[W5.heap.size]? = some (.deferred (some [])) := by rw [← hW7]; exact (alloc_get (by simp)).trans (World.alloc_heap_new _ _)
  have hL7 : W7.heap[W5.heap.size + 1]? = some (.loop (rec .ready none)) := by rw [← hW7]; exact alloc_at (by simp)
  have c0 := (b7.block _ (lt_of_at a0)).trans a0
  have c2 := (b7.block _ (lt_of_at a2)).trans a2
  have c3 := (b7.block _ (lt_of_at a3)).trans a3
  have c4 := (b7.block _ (lt_of_at a4)).trans a4
  have hJ : GJ w.heap.size w.heap.size (w.heap.size + 3) (w.heap.size + 4) W5.heap.size (W5.heap.size + 1) (w.heap.size + 2) rec w (gcdZ (wn x) (wn y)) x y W7 := ⟨hx, hy, rfl, c0, c3, c4, hD7, hL7, c2, b5.trans (b7.mono (by omega))⟩
  refine (callsIn_wide.2 (steps1_in _ _ _ _ _ _ _ rec w _ ?_ (by omega) (by omega) (by omega) (by omega) (by omega) (by omega) (by omega) (by omega) (by omega) (by omega) x y W7 hJ)).mono ?_
  · intro u v W hG hv
    have lL := lt_of_at hG.hL
    have lA := lt_of_at hG.hA
    have hyl := run_yield (P := Try.prog) (args := #[.agg #[.int .u64 v.1, .int .u64 v.2]]) hG.hL (by rw [hrec]; rfl)
    rw [hrec] at hyl
    refine ⟨_, _, _, _, hyl, roundIn_of_wpIn trivial ?_⟩
    simp only [Array.zip, List.foldl]
    gi_wp2
    have hL' : (W.alloc (.cells #[.int .u64 v.1, .int .u64 v.2] 61)).heap[w.heap.size + 5 + 1]? = some (.loop (rec .ready none)) := by
      rw [← hs5]; exact (alloc_get (by omega)).trans hG.hL
    refine ⟨_, run_beginRound hL' (by rw [hrec]), ?_⟩
    generalize hW2 : World.putObj _ _ _ = W2
    have dn : W2.heap[W.heap.size]? = some (wc v) := by rw [← hW2]; exact (World.putObj_heap_other (by omega)).trans (alloc_at rfl)
    have dA : W2.heap[w.heap.size]? = some (wc u) := by rw [← hW2]; exact (World.putObj_heap_other (by omega)).trans ((alloc_get (by omega)).trans hG.hA)
    have e0 := cellAt dn 0 (.int .u64 v.1) rfl
    have e1 := cellAt dn 1 (.int .u64 v.2) rfl
    have f0 := cellAt dA 0 (.int .u64 u.1) rfl
    have f1 := cellAt dA 1 (.int .u64 u.2) rfl
    have g0 := frozenAt dA 0
    have g1 := frozenAt dA 1
    gi_wp2
    have b0 : Below w.heap.size W W2 := by
      rw [← hW2]
      exact ((Below.refl _ W).alloc (by omega) _).trans (belowK_b (w := w) (Nat.le_refl _) _ _ _ _ (by omega) hL' rfl rfl)
    have hL2 : W2.heap[w.heap.size + 5 + 1]? = some (.loop { rec .ready none with state := .busy }) := by
      rw [← hW2]; exact World.putObj_heap_same (by simp; omega)
    have hL3 := (set2_other (W := W2) (g := w.heap.size) (k := w.heap.size + 5 + 1) (u := .int .u64 v.1) (v := .int .u64 v.2) (by omega)).trans hL2
    have hend := run_endRound (P := Try.prog) none hL3
    have hrr : (.loop { ({ rec .ready none with state := .busy } : Loop) with state := if (none : Option Code).isNone then LoopState.ready else .done, pending := none } : Obj) = .loop (rec .ready none) := by rw [hrec]; rfl
    rw [hrr] at hend
    refine ⟨_, _, hend, rfl, ?_, ?_, ?_⟩
    · exact (World.putObj_heap_other (by omega)).trans (set2 dA v)
    · intro k o hk ho
      by_cases hkl : k = w.heap.size + 5 + 1
      · subst hkl
        have := hG.hL
        rw [hs5] at this
        rw [this] at ho
        injection ho with ho
        rw [← ho]
        exact World.putObj_heap_same (by have := lt_of_at hL3; exact this)
      · refine (World.putObj_heap_other hkl).trans ((set2_other hk).trans ?_)
        rw [← hW2]
        have := lt_of_at ho
        exact (World.putObj_heap_other hkl).trans ((alloc_get (by omega)).trans ho)
    · refine ((b0.setCell (p := ⟨w.heap.size, 0, none⟩) (Nat.le_refl _) _).setCell (p := ⟨w.heap.size, 1, none⟩) (Nat.le_refl _) _).trans (belowK_b (w := w) (Nat.le_refl _) _ _ _ _ (by omega) hL3 rfl rfl)
  · rintro e W8 ⟨⟨v, rfl⟩, x', y', hG, hy'⟩
    have hp : (rec .ready none).pending = none := by rw [hrec]
    have hel := run_endLoop (P := Try.prog) hG.hL (by rw [hrec]; simp)
    rw [hp] at hel
    refine ⟨none, _, hel, ?_⟩
    refine hK _ _ ?_
    have lL := lt_of_at hG.hL
    generalize hW9 : World.putObj _ _ _ = W9
    have d0 : W9.heap[w.heap.size]? = some (wc x') := by rw [← hW9]; exact (World.putObj_heap_other (by omega)).trans hG.hA
    have dD : W9.heap[W5.heap.size]? = some (.deferred (some [])) := by rw [← hW9]; exact (World.putObj_heap_other (by omega)).trans hG.hD
    have e0 := cellAt d0 0 (.int .u64 x'.1) rfl
    have e1 := cellAt d0 1 (.int .u64 x'.2) rfl
    have d2 : W9.heap[w.heap.size + 1 + 1]? = some (wc (0, 0)) := by rw [← hW9]; exact (World.putObj_heap_other (by omega)).trans hG.hO
    have f0 := cellAt d2 0 (.int .u64 0) rfl
    have f1 := cellAt d2 1 (.int .u64 0) rfl
    have g0 := frozenAt d2 0
    have g1 := frozenAt d2 1
    gi_wp2
    have hD2 : ((W9.setCell ⟨w.heap.size + 1 + 1, 0, none⟩ (.int .u64 x'.1)).setCell ⟨w.heap.size + 1 + 1, 1, none⟩ (.int .u64 x'.2)).heap[w.heap.size + 5]? = some (.deferred (some [])) := by
      rw [← hs5]; exact (set2_other (by omega)).trans dD
    have b9 : Below w.heap.size w W9 := by
      rw [← hW9]; exact hG.below.trans (belowK_b (w := w) (Nat.le_refl _) _ _ _ _ (by omega) hG.hL rfl rfl)
    have z2 := set2 d2 x'
    have b10 := (b9.setCell (p := ⟨w.heap.size + 1 + 1, 0, none⟩) (by simp; omega) (.int .u64 x'.1)).setCell (p := ⟨w.heap.size + 1 + 1, 1, none⟩) (by simp; omega) (.int .u64 x'.2)
    refine ⟨by simp, .inl ⟨_, _, rfl, run_takeDeferred hD2, ?_⟩⟩
    have b11 := b10.trans (belowK_b (w := w) (Nat.le_refl _) _ (w.heap.size + 5) (.deferred (some [])) (.deferred none) (by omega) hD2 rfl rfl)
    have z3 := (World.putObj_heap_other (o := .deferred none) (show w.heap.size + 1 + 1 ≠ w.heap.size + 5 by omega)).trans z2
    generalize World.putObj _ _ _ = W10 at b11 z3 ⊢
    have p0 := cellAt z3 0 (.int .u64 x'.1) rfl
    have p1 := cellAt z3 1 (.int .u64 x'.2) rfl
    have hgx : gcdZ (wn x') (wn y') = gcdZ (wn x) (wn y) := hG.hg
    rw [hy', gcdZ_zero (wn_rng hG.hx).1] at hgx
    refine ⟨_, by simp [results, Try.results102, go_sem, p0, p1], x'.1, x'.2, hG.hx, hgx, rfl, b11⟩
/-- the contract, as the executor takes it -/
def ggcd_sp : SpecSh := { args := [(.agg [(.int .u64 (.z 0)), (.int .u64 (.z 0))]), (.agg [(.int .u64 (.z 0)), (.int .u64 (.z 0))])], res := (.agg [(.int .u64 (.z 0)), (.int .u64 (.z 0))]), sh := [.i (some (0, 18446744073709551615)), .i (some (0, 18446744073709551615))] }
def ggcd_sem : SpecSem := { pre := fun cs => match cs with | [.i a, .i b, .i c, .i d] => IsU a ∧ IsU b ∧ IsU c ∧ IsU d | _ => False, out := fun cs => match cs with | [.i a, .i b, .i c, .i d] => [.i (gcdZ (val a b) (val c d) / 18446744073709551616), .i (gcdZ (val a b) (val c d) % 18446744073709551616)] | _ => [] }
theorem gcdZ_rng {u v : Int} (hu : 0 ≤ u ∧ u < 340282366920938463463374607431768211456) (hv : 0 ≤ v ∧ v < 340282366920938463463374607431768211456) : 0 ≤ gcdZ u v ∧ gcdZ u v < 340282366920938463463374607431768211456 := by
  refine ⟨by unfold gcdZ; omega, ?_⟩
  by_cases h : v = 0
  · rw [h, gcdZ_zero hu.1]; exact hu.2
  · have : Nat.gcd u.toNat v.toNat ≤ v.toNat := Nat.gcd_le_right _ (by omega)
    unfold gcdZ; omega
theorem ggcd_ok : SpecOK Try.prog 102 ggcd_sp ggcd_sem := by
  refine spec_of_calls Try.func102 (by kernel_rfl) (by kernel_rfl) ?_
  intro cs hpre
  match cs, hpre with
  | [.i a, .i b, .i c, .i d], ⟨ha, hb, hc, hd⟩ =>
    have g := gcdZ_rng (wn_rng (x := (a, b)) ⟨ha, hb⟩) (wn_rng (x := (c, d)) ⟨hc, hd⟩)
    have g1 : 0 ≤ gcdZ (val a b) (val c d) := g.1
    have g2 : gcdZ (val a b) (val c d) < 340282366920938463463374607431768211456 := g.2
    refine ⟨?_, fun w => ?_⟩
    · simp only [ggcd_sem, ggcd_sp, Fits, and_true]; omega
    · refine (gcd_calls (a, b) (c, d) ⟨ha, hb⟩ ⟨hc, hd⟩ w).mono ?_
      rintro e w' ⟨⟨z1, z0⟩, ⟨⟨h1, h2⟩, ⟨h3, h4⟩⟩, hz, rfl, hb⟩
      have hz' : val z1 z0 = gcdZ (val a b) (val c d) := hz
      have e1 : z1 = gcdZ (val a b) (val c d) / 18446744073709551616 := by rw [← hz']; unfold val; simp only at h1 h2 h3 h4; omega
      have e0 : z0 = gcdZ (val a b) (val c d) % 18446744073709551616 := by rw [← hz']; unfold val; simp only at h1 h2 h3 h4; omega
      refine ⟨?_, hb⟩
      rw [e1, e0]; rfl
end Go.Proofs.Ytlhmhcjpdpakkaa.X
