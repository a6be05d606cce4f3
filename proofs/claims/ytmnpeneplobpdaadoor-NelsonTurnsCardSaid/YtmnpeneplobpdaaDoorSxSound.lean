/-
  The symbolic executor is right: what a function's tree tells, the call does.
-/
import Derived.Test.YtmnpeneplobpdaaDoorSxMerge
import Derived.Scope
namespace Go.SX
open Go Go.RowKit
set_option linter.unusedVariables false
set_option linter.unusedSimpArgs false

section
variable {P : Program} {cx : Ctx} {M : Nat → SpecSem} {R RP : Value → Prop} {w0 : World}

/-! ### loops -/
def LoopIn (P : Program) (c : Code) (Q : Exit → Act → World → Prop) (a : Act) (w : World) : Prop :=
  ∀ (b : Frame) (k : List Item) (cs : List Frame), ∃ e a' w', Q e a' w' ∧ Arrives P (lone (b.at a (.code c :: .inLoop c :: k)) cs w) b k cs e a' w'
theorem LoopIn.wp {c : Code} {Q : Exit → Act → World → Prop} {a : Act} {w : World} (h : LoopIn P c Q a w) : (Code.loop c).wp P Q a w :=
  fun b k cs => let ⟨e, a', w', hq, harr⟩ := h b k cs; ⟨e, a', w', hq, .of_steps (.one step_loop) harr⟩
theorem loopIn_unroll {c : Code} {Q : Exit → Act → World → Prop} {a : Act} {w : World} (h : c.wp P (Exit.then (LoopIn P c Q) Q) a w) : LoopIn P c Q a w := by
  intro b k cs
  obtain ⟨e, a₁, w₁, hq, harr⟩ := h b (.inLoop c :: k) cs
  cases e with
  | normal =>
    obtain ⟨e₂, a₂, w₂, hq₂, harr₂⟩ := hq b k cs
    exact ⟨e₂, a₂, w₂, hq₂, .of_steps (Steps.trans harr (.one step_inLoop)) harr₂⟩
  | exit id => exact ⟨_, a₁, w₁, hq, .pass (x := .inLoop c) rfl (fun _ _ => .inl (by simp)) harr⟩
  | goto l => exact ⟨_, a₁, w₁, hq, .pass (x := .inLoop c) rfl (fun _ _ => .inl (by simp)) harr⟩
  | ret => exact ⟨_, a₁, w₁, hq, .pass (x := .inLoop c) rfl (fun _ _ => .inl (by simp)) harr⟩
  | panic ch => exact ⟨_, a₁, w₁, hq, .pass (x := .inLoop c) rfl (fun _ _ => .inl (by simp)) harr⟩
  | outgrown => exact ⟨_, a₁, w₁, hq, .pass (x := .inLoop c) rfl (fun _ _ => .inl (by simp)) harr⟩
theorem loopIn_rel {α : Type} {c : Code} {Q : Exit → Act → World → Prop} (Inv : α → Act → World → Prop) (μ : α → Nat)
    (round : ∀ x a w, Inv x a w → c.wp P (Exit.then (fun a' w' => ∃ y, Inv y a' w' ∧ μ y < μ x) Q) a w) : ∀ x a w, Inv x a w → LoopIn P c Q a w := by
  have key : ∀ n x a w, μ x = n → Inv x a w → LoopIn P c Q a w := by
    intro n
    induction n using Nat.strongRecOn with
    | _ n ih =>
      intro x a w hn hI
      refine loopIn_unroll (wp_mono (round x a w hI) fun e a' w' hq => ?_)
      cases e with
      | normal =>
        obtain ⟨y, hy, hlt⟩ := hq
        exact ih (μ y) (by omega) y a' w' rfl hy
      | exit id => exact hq
      | goto l => exact hq
      | ret => exact hq
      | panic ch => exact hq
      | outgrown => exact hq
  exact fun x a w h => key _ x a w rfl h

/-! ### the head of a loop that is cut -/
theorem caOf_den {v : SV} {c : CA} (hc : caOf v = some c) {ρ : Env} {h : Hid} : (∃ k x, v = .int k x ∧ c = .i x) ∨ (∃ e, v = .bool e ∧ c = .b e) := by
  cases v <;> simp only [caOf, Option.some.injEq, reduceCtorEq] at hc
  · exact .inl ⟨_, _, rfl, hc.symm⟩
  · exact .inr ⟨_, rfl, hc.symm⟩
theorem valsS_get {sl : List SV} : ∀ {keep : List Nat} {l : List CA}, valsS sl keep = some l → l.length = keep.length ∧ ∀ (j s : Nat), keep[j]? = some s → ∃ v c, sl[s]? = some v ∧ caOf v = some c ∧ l[j]? = some c
  | [], l, h => by simp only [valsS, Option.some.injEq] at h; subst h; exact ⟨rfl, fun j s hs => by simp at hs⟩
  | s0 :: r, l, h => by
    simp only [valsS] at h
    split at h
    · rename_i v l' hv hl
      split at h
      · rename_i c hc
        injection h with h; subst h
        have ⟨g1, g2⟩ := valsS_get hl
        refine ⟨by simp only [List.length_cons, g1], fun j s hs => ?_⟩
        cases j with
        | zero => simp only [List.getElem?_cons_zero, Option.some.injEq] at hs; subst hs; exact ⟨v, c, hv, hc, rfl⟩
        | succ j => exact g2 j s (by simpa using hs)
      · cases h
    · cases h
theorem valsC_get {hp : List Blk} : ∀ {cells : List (Nat × Nat)} {l : List CA}, valsC hp cells = some l → l.length = cells.length ∧ ∀ (j : Nat) (id off : Nat), cells[j]? = some (id, off) → ∃ cs T v c, hp[id]? = some (.cells cs T) ∧ cs[off]? = some v ∧ caOf v = some c ∧ l[j]? = some c
  | [], l, h => by simp only [valsC, Option.some.injEq] at h; subst h; exact ⟨rfl, fun j id off hs => by simp at hs⟩
  | (id0, off0) :: r, l, h => by
    simp only [valsC] at h
    split at h
    · rename_i cs T l' hv hl
      split at h
      · rename_i v hvv
        split at h
        · rename_i c hc
          injection h with h; subst h
          have ⟨g1, g2⟩ := valsC_get hl
          refine ⟨by simp only [List.length_cons, g1], fun j id off hs => ?_⟩
          cases j with
          | zero => simp only [List.getElem?_cons_zero, Option.some.injEq, Prod.mk.injEq] at hs; obtain ⟨rfl, rfl⟩ := hs; exact ⟨cs, T, v, c, hv, hvv, hc, rfl⟩
          | succ j => exact g2 j id off (by simpa using hs)
        · cases h
      · cases h
    · cases h
theorem indexOf2_sound {x y : Nat} : ∀ {l : List (Nat × Nat)} {i j : Nat}, indexOf2 x y l i = some j → i ≤ j ∧ l[j - i]? = some (x, y)
  | [], i, j, h => by cases h
  | (u, v) :: r, i, j, h => by
    simp only [indexOf2] at h
    split at h
    · rename_i hx
      simp only [Bool.and_eq_true, nbeq_iff] at hx
      injection h with h
      subst h
      exact ⟨Nat.le_refl _, by rw [Nat.sub_self, hx.1, hx.2]; rfl⟩
    · have ⟨h1, h2⟩ := indexOf2_sound h
      refine ⟨by omega, ?_⟩
      have : j - i = (j - (i + 1)) + 1 := by omega
      rw [this]
      exact h2

/-- one place: the same value -/
theorem backOne_sound {ρ ρ1 : Env} {h h1 : Hid} {n : Nat} {x y : SV} {c : CA} (hb : backOne (some n) x y = true) (hc : caOf y = some c) (hg : Env.get ρ1 n = c.den ρ) : x.den ρ1 h1 = y.den ρ h := by
  simp only [backOne] at hb
  split at hb
  · rename_i k m k' a
    simp only [Bool.and_eq_true, keq_iff, nbeq_iff] at hb
    obtain ⟨rfl, rfl⟩ := hb
    simp only [caOf, Option.some.injEq] at hc
    subst hc
    simp only [SV.den, At.den, hg, CA.den, Cv.int]
  · rename_i m e
    rw [nbeq_iff] at hb
    subst hb
    simp only [caOf, Option.some.injEq] at hc
    subst hc
    simp only [SV.den, BE.den, hg, CA.den, Cv.bool]
  · cases hb

/-- what the loop does not set is one of the state at its entry -/
theorem backSlots_scoped {as keep : List Nat} {lk : Nat → Option Nat} {n0 nj0 nv nb nj : Nat} : ∀ {X Y : List SV} {i : Nat}, backSlots as keep lk n0 nj0 X Y i = true → scopedL nv nb nj Y = true →
    ∀ (k : Nat) (x : SV), X[k]? = some x → indexOf (i + k) keep n0 = none → lk (i + k) = none → as.any (Nat.beq (i + k)) = false → x.scoped nv nb nj = true
  | [], [], i, _, _, k, x, hx, _, _, _ => by simp at hx
  | x0 :: r, y0 :: s, i, hb, hs, k, x, hx, h1, h1', h2 => by
    simp only [backSlots, Bool.and_eq_true] at hb
    simp only [scopedL, Bool.and_eq_true] at hs
    cases k with
    | zero =>
      simp only [List.getElem?_cons_zero, Option.some.injEq] at hx
      subst hx
      simp only [Nat.add_zero] at h1 h1' h2
      have hb1 := hb.1
      rw [h1, h1'] at hb1
      simp only [h2, Bool.false_eq_true, if_false] at hb1
      rw [SV.beq_eq hb1]; exact hs.1
    | succ k =>
      refine backSlots_scoped hb.2 hs.2 k x (by simpa using hx) ?_ ?_ ?_
      · rw [Nat.add_assoc, Nat.add_comm 1 k]; exact h1
      · rw [Nat.add_assoc, Nat.add_comm 1 k]; exact h1'
      · rw [Nat.add_assoc, Nat.add_comm 1 k]; exact h2

theorem backSlots_sound {as keep : List Nat} {lk : Nat → Option Nat} {n0 nj0 : Nat} {ρ ρ1 : Env} {h h1 : Hid} {T : List SV} {l : List CA} (hv : valsS T keep = some l)
    (hg : ∀ (j : Nat) (c : CA), l[j]? = some c → Env.get ρ1 (n0 + j) = c.den ρ) (hj : ∀ (i : Nat) (v : SV), T[i]? = some v → h1.γ (nj0 + i) = v.den ρ h)
    (hσ : ∀ (id i : Nat) (v : SV), lk i = some id → T[i]? = some v → h1.σ id = v.den ρ h) :
    ∀ {X Y : List SV} {i : Nat}, backSlots as keep lk n0 nj0 X Y i = true → (∀ (k : Nat) (y : SV), Y[k]? = some y → T[i + k]? = some y) →
      (∀ (k : Nat) (x : SV), X[k]? = some x → indexOf (i + k) keep n0 = none → lk (i + k) = none → as.any (Nat.beq (i + k)) = false → x.den ρ1 h1 = x.den ρ h) → denL ρ1 h1 X = denL ρ h Y
  | [], [], i, _, _, _ => rfl
  | x :: r, y :: s, i, hb, hy, hx => by
    simp only [backSlots, Bool.and_eq_true] at hb
    have hy0 := hy 0 y rfl
    simp only [Nat.add_zero] at hy0
    have ih := backSlots_sound hv hg hj hσ (X := r) (Y := s) (i := i + 1) hb.2 (fun k y' hk => by have := hy (k + 1) y' (by simpa using hk); rw [Nat.add_assoc, Nat.add_comm 1 k]; exact this)
      (fun k x' hk h1' h3' h2' => hx (k + 1) x' (by simpa using hk) (by rw [Nat.add_assoc, Nat.add_comm 1 k] at h1'; exact h1') (by rw [Nat.add_assoc, Nat.add_comm 1 k] at h3'; exact h3') (by rw [Nat.add_assoc, Nat.add_comm 1 k] at h2'; exact h2'))
    simp only [denL, ih, List.cons.injEq, and_true]
    have hb1 := hb.1
    cases hio : indexOf i keep n0 with
    | some n =>
      rw [hio] at hb1
      obtain ⟨g1, g2⟩ := indexOf_sound hio
      obtain ⟨v, c, e1, e2, e3⟩ := (valsS_get hv).2 _ _ g2
      rw [hy0] at e1
      injection e1 with e1
      subst e1
      have := hg _ _ e3
      rw [show n0 + (n - n0) = n from by omega] at this
      exact backOne_sound hb1 e2 this
    | none =>
      rw [hio] at hb1
      simp only [] at hb1
      cases hlk : lk i with
      | some id =>
        rw [hlk] at hb1
        simp only [] at hb1
        rw [SV.beq_eq hb1]
        simp only [SV.den]
        exact hσ _ _ _ hlk hy0
      | none =>
        rw [hlk] at hb1
        simp only [] at hb1
        cases has : as.any (Nat.beq i) with
        | true =>
          rw [has] at hb1
          simp only [if_true] at hb1
          rw [SV.beq_eq hb1]
          simp only [SV.den]
          exact hj i y hy0
        | false =>
          rw [has] at hb1
          simp only [Bool.false_eq_true, if_false] at hb1
          rw [hx 0 x rfl (by simpa using hio) (by simpa using hlk) (by simpa using has), SV.beq_eq hb1]

theorem find_mem {α : Type} {i : Nat} {v : α} : ∀ {l : List (Nat × α)}, find i l = some v → (i, v) ∈ l
  | [], h => by simp [find] at h
  | (x, y) :: r, h => by
    simp only [find] at h
    split at h
    · rename_i hx
      injection h with h; subst h
      have : x = i := Nat.eq_of_beq_eq_true (by first | exact hx | (rw [Nat.beq_comm] at hx; exact hx))
      subst this
      exact List.mem_cons_self ..
    · exact List.mem_cons_of_mem _ (find_mem h)
theorem lk_sound {lk : List Nat} {ali : List (Nat × Nat)} {nb0 : Nat} {T : List SV} {σ : Nat → Value} {ρ : Env} {h : Hid} (hal : aliOK ali T = true)
    (hσ : ∀ (k s : Nat) (v : SV), lk[k]? = some s → T[s]? = some v → σ (nb0 + k) = v.den ρ h) {id i : Nat} {v : SV} (hk : lkOf lk ali nb0 i = some id) (hv : T[i]? = some v) : σ id = v.den ρ h := by
  unfold lkOf at hk
  split at hk
  · rename_i id' hio
    injection hk with hk; subst hk
    obtain ⟨g1, g2⟩ := indexOf_sound hio
    have := hσ _ _ _ g2 hv
    rw [show nb0 + (id' - nb0) = id' from by omega] at this
    exact this
  · split at hk
    · rename_i j hf
      obtain ⟨g1, g2⟩ := indexOf_sound hk
      have hm := List.all_eq_true.1 hal _ (find_mem hf)
      simp only [hv] at hm
      split at hm
      · rename_i x y e1 e2
        injection e1 with e1; subst e1
        rw [SV.beq_eq hm]
        have := hσ _ _ _ g2 e2
        rw [show nb0 + (id - nb0) = id from by omega] at this
        exact this
      · cases hm
    · cases hk

theorem backCells_sound {cells : List (Nat × Nat)} {n0 id : Nat} {ρ ρ1 : Env} {h h1 : Hid} {hp : List Blk} {D : List SV} {U : TypeId} {l : List CA} (hv : valsC hp cells = some l) (hD : hp[id]? = some (.cells D U))
    (hg : ∀ (j : Nat) (c : CA), l[j]? = some c → Env.get ρ1 (n0 + j) = c.den ρ) :
    ∀ {X Y : List SV} {i : Nat}, backCells cells n0 id X Y i = true → (∀ (k : Nat) (y : SV), Y[k]? = some y → D[i + k]? = some y) →
      (∀ (k : Nat) (x : SV), X[k]? = some x → indexOf2 id (i + k) cells n0 = none → x.den ρ1 h1 = x.den ρ h) → denL ρ1 h1 X = denL ρ h Y
  | [], [], i, _, _, _ => rfl
  | x :: r, y :: s, i, hb, hy, hx => by
    simp only [backCells, Bool.and_eq_true] at hb
    have hy0 := hy 0 y rfl
    simp only [Nat.add_zero] at hy0
    have ih := backCells_sound hv hD hg (X := r) (Y := s) (i := i + 1) hb.2 (fun k y' hk => by have := hy (k + 1) y' (by simpa using hk); rw [Nat.add_assoc, Nat.add_comm 1 k]; exact this)
      (fun k x' hk h1' => hx (k + 1) x' (by simpa using hk) (by rw [Nat.add_assoc, Nat.add_comm 1 k] at h1'; exact h1'))
    simp only [denL, ih, List.cons.injEq, and_true]
    have hb1 := hb.1
    cases hio : indexOf2 id i cells n0 with
    | some n =>
      rw [hio] at hb1
      obtain ⟨g1, g2⟩ := indexOf2_sound hio
      obtain ⟨cs, T, v, c, e0, e1, e2, e3⟩ := (valsC_get hv).2 _ _ _ g2
      rw [hD] at e0
      injection e0 with e0
      injection e0 with e0 e0'
      subst e0
      rw [hy0] at e1
      injection e1 with e1
      subst e1
      have := hg _ _ e3
      rw [show n0 + (n - n0) = n from by omega] at this
      exact backOne_sound hb1 e2 this
    | none =>
      rw [hio] at hb1
      simp only [backOne] at hb1
      rw [hx 0 x rfl (by simpa using hio), SV.beq_eq hb1]

theorem backCells_scoped {cells : List (Nat × Nat)} {n0 id nv nb nj : Nat} : ∀ {X Y : List SV} {i : Nat}, backCells cells n0 id X Y i = true → scopedL nv nb nj Y = true →
    ∀ (k : Nat) (x : SV), X[k]? = some x → indexOf2 id (i + k) cells n0 = none → x.scoped nv nb nj = true
  | [], [], i, _, _, k, x, hx, _ => by simp at hx
  | x0 :: r, y0 :: s, i, hb, hs, k, x, hx, h1 => by
    simp only [backCells, Bool.and_eq_true] at hb
    simp only [scopedL, Bool.and_eq_true] at hs
    cases k with
    | zero =>
      simp only [List.getElem?_cons_zero, Option.some.injEq] at hx
      subst hx
      simp only [Nat.add_zero] at h1
      have hb1 := hb.1
      rw [h1] at hb1
      simp only [backOne] at hb1
      rw [SV.beq_eq hb1]; exact hs.1
    | succ k =>
      refine backCells_scoped hb.2 hs.2 k x (by simpa using hx) ?_
      rw [Nat.add_assoc, Nat.add_comm 1 k]; exact h1

/-- block by block -/
def BackBlk (cells : List (Nat × Nat)) (n0 i : Nat) : Blk → Blk → Prop
  | .cells cs T, .cells ds U => T = U ∧ backCells cells n0 i cs ds 0 = true
  | .row cs T n, .row ds U m => T = U ∧ n = m ∧ cs = ds
  | .map es, .map fs => es = fs
  | .dead, _ => True
  | .own n T, .own m U => n = m ∧ T = U
  | .view n k, .view m j => n = m ∧ k = j
  | _, _ => False
theorem backHeap_get {cells : List (Nat × Nat)} {n0 : Nat} : ∀ {H T : List Blk} {i : Nat}, backHeap cells n0 H T i = true → H.length ≤ T.length ∧ ∀ (k : Nat) (b : Blk), H[k]? = some b → ∃ c, T[k]? = some c ∧ BackBlk cells n0 (i + k) b c
  | [], T, i, _ => ⟨Nat.zero_le _, fun k b hb => by simp at hb⟩
  | b0 :: r, [], i, h => by cases b0 <;> simp [backHeap] at h
  | b0 :: r, c0 :: s, i, h => by
    have step : BackBlk cells n0 i b0 c0 ∧ backHeap cells n0 r s (i + 1) = true := by
      cases b0 <;> cases c0 <;> simp only [backHeap, Bool.and_eq_true, nbeq_iff, Bool.false_eq_true] at h <;> simp only [BackBlk]
      · exact ⟨h.1, h.2⟩
      · exact ⟨⟨h.1.1.1, h.1.1.2, SV.beqL_eq h.1.2⟩, h.2⟩
      · exact ⟨esBeq_eq h.1, h.2⟩
      all_goals first
        | exact ⟨trivial, h⟩
        | exact ⟨⟨h.1.1, h.1.2⟩, h.2⟩
        | exact ⟨h.1, h.2⟩
    have ⟨g1, g2⟩ := backHeap_get step.2
    refine ⟨by simp only [List.length_cons]; omega, fun k b hb => ?_⟩
    cases k with
    | zero => simp only [List.getElem?_cons_zero, Option.some.injEq] at hb; subst hb; exact ⟨c0, rfl, step.1⟩
    | succ k =>
      obtain ⟨c, e1, e2⟩ := g2 k b (by simpa using hb)
      refine ⟨c, by simpa using e1, ?_⟩
      rw [Nat.add_assoc, Nat.add_comm 1 k] at e2
      exact e2

theorem headHeap_length {cells : List (Nat × Nat)} {n0 : Nat} : ∀ {l : List Blk} {i : Nat}, (headHeap cells n0 l i).length = l.length
  | [], i => rfl
  | b :: r, i => by cases b <;> simp only [headHeap, List.length_cons, headHeap_length (l := r)]

theorem BackBlk.live {cells : List (Nat × Nat)} {n0 i : Nat} {b c : Blk} (hbb : BackBlk cells n0 i b c) (hlv : b.live = true) : c.live = true := by
  cases b <;> cases c <;> first | exact hbb.elim | exact hlv | rfl | (cases hlv; done)
theorem killIds_length {l : List (LE × Option Nat)} : ∀ {hp : List Blk} {i : Nat}, (killIds l hp i).length = hp.length
  | [], i => rfl
  | b :: r, i => by simp only [killIds, List.length_cons, killIds_length (hp := r)]
theorem newOwns_length {elem : TypeId} : ∀ {l : List Nat} {n0 : Nat}, (newOwns n0 elem l).length = l.length
  | [], _ => rfl
  | x :: r, n0 => by simp only [newOwns, List.length_cons, newOwns_length (l := r)]
theorem stV_lt {e : TypeId} : stV e < 1000 := by
  unfold stV
  split
  · decide
  · rename_i h; exact stE_lt (by simpa using h)
/-- the kth of the rows that are carried -/
def newBlk (n0 : Nat) (elem : TypeId) (l : List Nat) (k : Nat) : Blk := if vS (l[k]?.getD 0) then .view (n0 + k) (stV elem) else .own (n0 + k) elem
theorem newBlk_live {n0 : Nat} {elem : TypeId} {l : List Nat} {k : Nat} : (newBlk n0 elem l k).live = false := by
  unfold newBlk; split <;> rfl
theorem newOwns_get {elem : TypeId} : ∀ {l : List Nat} {n0 k : Nat} {b : Blk}, (newOwns n0 elem l)[k]? = some b → b = newBlk n0 elem l k ∧ k < l.length
  | [], n0, k, b, h => by simp [newOwns] at h
  | x :: r, n0, 0, b, h => by
    simp only [newOwns, List.getElem?_cons_zero, Option.some.injEq] at h
    exact ⟨by rw [← h]; simp [newBlk], by simp⟩
  | x :: r, n0, k + 1, b, h => by
    have := newOwns_get (l := r) (n0 := n0 + 1) (k := k) (by simpa [newOwns] using h)
    refine ⟨by rw [this.1]; simp only [newBlk, List.getElem?_cons_succ]; rw [show n0 + 1 + k = n0 + (k + 1) by omega], by have := this.2; simp only [List.length_cons]; omega⟩
theorem valsL_get {sl : List SV} {hp : List Blk} {elem : TypeId} : ∀ {keep : List Nat} {l : List (LE × Option Nat)}, valsL sl hp elem keep = some l → l.length = keep.length ∧ ∀ (j s : Nat), keep[j]? = some s → ∃ v c, sl[rS s]? = some v ∧ (if vS s then viewOf hp (stV elem) v else ownOf hp elem v) = some c ∧ l[j]? = some c
  | [], l, h => by simp only [valsL, Option.some.injEq] at h; subst h; exact ⟨rfl, fun j s hs => by simp at hs⟩
  | x :: r, l, h => by
    simp only [valsL] at h
    split at h
    · rename_i v l' hv hl
      split at h
      · rename_i c hc
        injection h with h; subst h
        have ⟨g1, g2⟩ := valsL_get hl
        refine ⟨by simp only [List.length_cons, g1], fun j s hs => ?_⟩
        cases j with
        | zero => simp only [List.getElem?_cons_zero, Option.some.injEq] at hs; subst hs; exact ⟨v, c, hv, hc, rfl⟩
        | succ j => obtain ⟨v', c', e1, e2, e3⟩ := g2 j s (by simpa using hs); exact ⟨v', c', e1, e2, by simpa using e3⟩
      · cases h
    · cases h
theorem viewOf_cases {hp : List Blk} {k : Nat} {v : SV} {c : LE × Option Nat} (h : viewOf hp k v = some c) : (v = .nilRow ∧ c = (.nil, none)) ∨ ∃ id n, v = .lst id ∧ hp[id]? = some (.view n k) ∧ c = (.v n, none) := by
  unfold viewOf at h
  split at h
  · injection h with h; exact .inl ⟨rfl, h.symm⟩
  · rename_i id
    split at h
    · rename_i n j hb
      split at h
      · rename_i hk; rw [nbeq_iff] at hk; subst hk; injection h with h; exact .inr ⟨id, n, rfl, hb, h.symm⟩
      · cases h
    · cases h
  · cases h
theorem ownOf_cases {hp : List Blk} {elem : TypeId} {v : SV} {c : LE × Option Nat} (h : ownOf hp elem v = some c) : (v = .nilRow ∧ c = (.nil, none)) ∨ (∃ id n, v = .lst id ∧ hp[id]? = some (.own n elem) ∧ c = (.v n, some id)) ∨
    ∃ id m cs e l, v = .row id 0 m (stE elem) ∧ hp[id]? = some (.row cs (tE elem) (stE elem)) ∧ c = (e, some id) ∧ isG elem = false ∧ m * stE elem ≤ cs.length ∧ intsOf (cs.take (m * stE elem)) = some l ∧ ∀ ρ, e.den ρ = l.map (At.den ρ) := by
  unfold ownOf at h
  split at h
  · injection h with h; exact .inl ⟨rfl, h.symm⟩
  · rename_i id
    split at h
    · rename_i n e hb
      split at h
      · rename_i he; rw [nbeq_iff] at he; subst he; injection h with h; exact .inr (.inl ⟨id, n, rfl, hb, h.symm⟩)
      · cases h
    · cases h
  · rename_i id m sz
    split at h
    · rename_i cs e sz' hb
      split at h
      · rename_i hc
        simp only [Bool.and_eq_true, nbeq_iff, Bool.not_eq_true', blt_iff, nble_iff] at hc
        obtain ⟨⟨⟨⟨⟨h1, h2⟩, h3⟩, h4⟩, h5⟩, h6⟩ := hc
        subst h1; subst h2; subst h3
        split at h
        · rename_i hl; injection h with h; exact .inr (.inr ⟨id, m, cs, _, _, rfl, hb, h.symm, h4, h6, hl, fun ρ => rfl⟩)
        · rename_i l _ hl; injection h with h; exact .inr (.inr ⟨id, m, cs, _, _, rfl, hb, h.symm, h4, h6, hl, fun ρ => rfl⟩)
        · cases h
      · cases h
    · cases h
  · cases h
/-- a row of literals, as one of the call's own -/
theorem lit_own {M : Nat → SpecSem} {R RP : Value → Prop} {F : Ex → St → Js → Env → Prop} {w0 : World} {S : St} {ρ h J a w} (r : Rep w0 S ρ h J a w) {id m : Nat} {cs : List SV} {elem : TypeId} {l : List At} (hb : S.heap[id]? = some (.row cs (tE elem) (stE elem))) (hle : m * stE elem ≤ cs.length) (hl : intsOf (cs.take (m * stE elem)) = some l) {xs : List Int} (hx : xs = l.map (At.den ρ)) :
    OwnS w w0.heap.size elem (.slice (some ⟨h.β id, 0, none⟩) m (h.κ id)) xs := by
  have h1 := row_owns r hb hle stE_pos
  have h2 := intsOf_sound (ρ := ρ) (h := h) hl
  rw [denL_take] at h2
  refine ⟨m, ?_, ?_⟩
  · have := congrArg List.length h2
    rw [List.length_take, denL_length, ints_length, List.length_map] at this
    rw [hx, List.length_map]; omega
  · rw [hx, ← h2]; exact h1
theorem apartIds_get : ∀ {l : List (LE × Option Nat)}, apartIds l = true → ∀ (i j x : Nat) (e e' : LE), l[i]? = some (e, some x) → l[j]? = some (e', some x) → i = j
  | [], _, i, j, x, e, e', hi, _ => by simp at hi
  | (e0, some y) :: r, h, i, j, x, e, e', hi, hj => by
    simp only [apartIds, Bool.and_eq_true, Bool.not_eq_true'] at h
    have hnot : ∀ (k : Nat) (e : LE), r[k]? = some (e, some y) → False := fun k e hk => by
      have := List.any_eq_false.1 h.1 _ (List.mem_of_getElem? hk)
      simp at this
    cases i with
    | zero =>
      simp only [List.getElem?_cons_zero, Option.some.injEq, Prod.mk.injEq] at hi
      cases j with
      | zero => rfl
      | succ j => rw [← hi.2] at hj; exact (hnot j e' (by simpa using hj)).elim
    | succ i =>
      cases j with
      | zero =>
        simp only [List.getElem?_cons_zero, Option.some.injEq, Prod.mk.injEq] at hj
        rw [← hj.2] at hi; exact (hnot i e (by simpa using hi)).elim
      | succ j => rw [apartIds_get h.2 i j x e e' (by simpa using hi) (by simpa using hj)]
  | (e0, none) :: r, h, i, j, x, e, e', hi, hj => by
    simp only [apartIds] at h
    cases i with
    | zero => simp at hi
    | succ i =>
      cases j with
      | zero => simp at hj
      | succ j => rw [apartIds_get h i j x e e' (by simpa using hi) (by simpa using hj)]
theorem deadIds_get {hp : List Blk} : ∀ {l : List (LE × Option Nat)}, deadIds hp l = true → ∀ (i x : Nat) (e : LE) (b : Blk), l[i]? = some (e, some x) → hp[x]? = some b → b = .dead
  | [], _, i, x, e, b, hi, _ => by simp at hi
  | (e0, some y) :: r, h, i, x, e, b, hi, hb => by
    simp only [deadIds, Bool.and_eq_true] at h
    cases i with
    | zero =>
      simp only [List.getElem?_cons_zero, Option.some.injEq, Prod.mk.injEq] at hi
      obtain ⟨_, rfl⟩ := hi
      have h1 := h.1
      rw [hb] at h1
      cases b <;> first | rfl | cases h1
    | succ i => exact deadIds_get h.2 i x e b (by simpa using hi) hb
  | (e0, none) :: r, h, i, x, e, b, hi, hb => by
    simp only [deadIds] at h
    cases i with
    | zero => simp at hi
    | succ i => exact deadIds_get h i x e b (by simpa using hi) hb

theorem head_rep {S hd T : St} {as : List Nat} {an : Ann} {sh : List Sh} {init vs : List CA} {H0 : List Blk} {ρ h J ρ' h' J' a' w'} (hsc : S.scoped = true) (hlen : S.nv = ρ.length) (hJ : S.lv = J.length) (hivl : S.ivs.length = S.nv)
    (hF : FOK S ρ)
    (e1 : hd.nv = S.nv + sh.length) (e2 : hd.ivs = S.ivs ++ sh.map Sh.iv) (e4 : hd.lv = S.lv + 1) (e5 : hd.facts = []) (e6 : hd.defs = S.defs) (e7 : H0.length = S.nb) (e8 : hd.heap = H0 ++ newOwns (S.nv + an.slots.length + an.cells.length) an.elem an.lsts)
    (hb0 : backAt as an S hd S = some init) (hl : Later S T ρ h J ρ' h' J') (rT : Rep w0 T ρ' h' J' a' w') (hbT : backAt as an S hd T = some vs) (hfit : Fits sh (vs.map (CA.den ρ'))) (X : List Cv → Prop) :
    ∃ h1 : Hid, Agree S.nv S.nb S.nj ρ h (ρ ++ vs.map (CA.den ρ')) h1 ∧ Rep w0 hd (ρ ++ vs.map (CA.den ρ')) h1 (J ++ [X]) a' w' := by
  -- the state at hand
  have etake : hd.heap.take S.nb = H0 := by rw [e8, List.take_append_of_le_length (by omega), List.take_of_length_le (by omega)]
  unfold backAt at hb0 hbT
  rw [etake] at hb0 hbT
  split at hb0
  case h_2 => cases hb0
  rename_i a0 b0 cc0 ha0 hb0' hcc0
  split at hb0
  case isFalse => cases hb0
  rename_i hc0
  split at hbT
  case h_2 => cases hbT
  rename_i aT bT cT haT hbT' hcT'
  split at hbT
  case isFalse => cases hbT
  rename_i hcT
  simp only [Bool.and_eq_true] at hc0 hcT
  obtain ⟨⟨⟨⟨_, hc0a⟩, hc0b⟩, _⟩, _⟩ := hc0
  obtain ⟨⟨⟨⟨hal, hcTa⟩, hcTb⟩, hap⟩, hdd⟩ := hcT
  have hc0 := And.intro hc0a hc0b
  have hcT := And.intro hcTa hcTb
  injection hbT with hbT
  obtain ⟨s1, s2, s3, s4⟩ := scoped_parts hsc
  let h1 : Hid := { β := h'.β, κ := h'.κ, γ := fun j => if j < S.nj then h.γ j else (a'.tmps.toList)[j - S.nj]?.getD undef, σ := fun i => if i < S.nb then h'.σ i else (an.lsts[i - S.nb]?.bind fun s => (a'.tmps.toList)[rS s]?).getD undef }
  have hlv : (vs.map (CA.den ρ')).length = sh.length := hfit.length
  have A1 : Agree S.nv S.nb S.nj ρ h (ρ ++ vs.map (CA.den ρ')) h1 :=
    ⟨fun i hi => Env.get_append_left (hlen ▸ hi), fun i hi => hl.ag.β i hi, fun i hi => hl.ag.κ i hi, fun i hi => by simp only [h1]; rw [if_pos hi], fun i hi => by simp only [h1]; rw [if_pos hi]; exact hl.ag.σ i hi⟩
  have A2 : Agree S.nv S.nb S.nj ρ' h' (ρ ++ vs.map (CA.den ρ')) h1 := hl.ag.symm.trans A1 (Nat.le_refl _) (Nat.le_refl _) (Nat.le_refl _)
  have hget : ∀ (j : Nat) (c : CA), vs[j]? = some c → Env.get (ρ ++ vs.map (CA.den ρ')) (S.nv + j) = c.den ρ' := fun j c hc => by
    rw [hlen, Env.get_append_right]; exact get_map_CA hc
  have hlA := (valsS_get haT).1
  have hlC := (valsC_get hbT').1
  have hlL := (valsL_get hcT').1
  refine ⟨h1, A1, ⟨?_, ?_, ?_, ⟨fun i lo hi hi' => ?_, fun e b hm => (by rw [e5] at hm; cases hm), fun e n hm => ?_, fun i y hy => (lst_append hy).elim (hF.lst i y) fun ⟨j, hj⟩ => hfit.lst j y hj⟩, ?_, rT.defers, ?_, rT.below⟩⟩
  · rw [e1, List.length_append, hlv, hlen]
  · rw [e4, List.length_append, hJ]; rfl
  · rw [e2, e1, List.length_append, List.length_map, hivl]
  · rw [e2, List.getElem?_append] at hi'
    split at hi'
    · rename_i hlt
      rw [Env.get_append_left (by omega)]; exact hF.iv i lo hi hi'
    · rename_i hge
      have := hfit.iv _ lo hi hi'
      have he : i = ρ.length + (i - S.ivs.length) := by rw [hivl, hlen] at *; omega
      rw [he, Env.get_append_right]
      exact this
  · rw [e6] at hm
    obtain ⟨g1, g2⟩ := defsScoped_mem s4 e n hm
    rw [IE.den_agree A1.env g1, A1.env n g2]; exact hF.defs e n hm
  · rw [rT.slots]
    symm
    refine backSlots_sound (T := T.slots) haT (fun j c hc => hget j c ?_) (fun i v hv => ?_) (fun id i v hk hv => lk_sound hal (σ := h1.σ) (fun k s v hk hv => ?_) hk hv) hcT.1 (fun k y hk => by rw [Nat.zero_add]; exact hk) (fun k x hx g1 g3 g2 => SV.den_agree A2 x (backSlots_scoped hc0.1 s1 k x hx g1 g3 g2))
    · rw [← hbT, List.append_assoc, List.getElem?_append_left (List.getElem?_eq_some_iff.1 hc).1]; exact hc
    · simp only [h1]
      rw [if_neg (by omega), Nat.add_sub_cancel_left, rT.slots, denL_get, hv]
      rfl
    · simp only [h1]
      rw [List.getElem?_map] at hk
      obtain ⟨s', hk', rfl⟩ := Option.map_eq_some_iff.1 hk
      rw [if_neg (by omega), Nat.add_sub_cancel_left, rT.slots, hk', Option.bind_some, denL_get, hv]
      rfl
  · have hgC : ∀ (j : Nat) (c : CA), bT[j]? = some c → Env.get (ρ ++ vs.map (CA.den ρ')) (S.nv + an.slots.length + j) = c.den ρ' := fun j c hc => by
      rw [Nat.add_assoc]
      refine hget _ c ?_
      rw [← hbT, List.append_assoc, List.getElem?_append_right (by omega), hlA, Nat.add_sub_cancel_left, List.getElem?_append_left (List.getElem?_eq_some_iff.1 hc).1]
      exact hc
    have hgL : ∀ (j : Nat) (c : LE × Option Nat), cT[j]? = some c → Env.get (ρ ++ vs.map (CA.den ρ')) (S.nv + an.slots.length + an.cells.length + j) = .l (c.1.den ρ') := fun j c hc => by
      have := hget (an.slots.length + an.cells.length + j) (.l c.1) (by
        rw [← hbT, List.getElem?_append_right (by rw [List.length_append]; omega), List.length_append, hlA, hlC, Nat.add_sub_cancel_left, List.getElem?_map, hc]
        rfl)
      rw [← Nat.add_assoc, ← Nat.add_assoc] at this
      exact this
    obtain ⟨gl0, g0⟩ := backHeap_get hc0.2
    obtain ⟨glT, gT⟩ := backHeap_get hcT.2
    have lt : ∀ {i : Nat} {b : Blk}, H0[i]? = some b → i < S.nb := fun hb => e7 ▸ (List.getElem?_eq_some_iff.1 hb).1
    have live : ∀ {i : Nat} {b c : Blk}, BackBlk an.cells (S.nv + an.slots.length) i b c → b.live = true → c.live = true := fun {i b c} hbb hlv => BackBlk.live hbb hlv
    have part : ∀ {i : Nat} {b : Blk}, hd.heap[i]? = some b → H0[i]? = some b ∨ (S.nb ≤ i ∧ b = newBlk (S.nv + an.slots.length + an.cells.length) an.elem an.lsts (i - S.nb) ∧ i - S.nb < an.lsts.length) := fun {i b} hb => by
      rw [e8, List.getElem?_append] at hb
      split at hb
      · exact .inl hb
      · rename_i hge
        rw [e7] at hb hge
        obtain ⟨q1, q2⟩ := newOwns_get hb
        exact .inr ⟨by omega, q1, q2⟩
    have pl : ∀ {i : Nat} {b : Blk}, hd.heap[i]? = some b → b.live = true → H0[i]? = some b := fun hb hlv => by
      rcases part hb with h | ⟨_, h, _⟩
      · exact h
      · rw [h, newBlk_live] at hlv; cases hlv
    refine ⟨fun i b hb => ?_, fun i b hb hlv' => ?_, fun i j b c hb hc hlv1 hlv2 he => ?_, ?_⟩
    · rcases part hb with hb | ⟨_, h, _⟩
      case inr => subst h; unfold newBlk; split <;> trivial
      obtain ⟨c, ec, hbb⟩ := gT i b hb
      obtain ⟨c0, ec0, hbb0⟩ := g0 i b hb
      rw [Nat.zero_add] at hbb hbb0
      have hok := rT.heap.blk i c ec
      have hs0 := heapScoped_get s2 i c0 ec0
      cases b with
      | cells cs U =>
        cases c <;> simp only [BackBlk] at hbb
        cases c0 <;> simp only [BackBlk] at hbb0
        obtain ⟨rfl, hcs⟩ := hbb
        have hden := backCells_sound (h1 := h1) (h := h') hbT' ec hgC hcs (fun k y hk => by rw [Nat.zero_add]; exact hk) (fun k x hx g1 => SV.den_agree A2 x (backCells_scoped hbb0.2 (by simpa only [Blk.scoped] using hs0) k x hx g1))
        simp only [BlkOK] at hok ⊢
        rw [hden]
        exact hok
      | row cs U sz =>
        cases c <;> simp only [BackBlk] at hbb
        cases c0 <;> simp only [BackBlk] at hbb0
        obtain ⟨rfl, rfl, rfl⟩ := hbb
        obtain ⟨rfl, rfl, rfl⟩ := hbb0
        exact hok.agree A2 (lt hb) hs0
      | map es =>
        cases c <;> simp only [BackBlk] at hbb
        cases c0 <;> simp only [BackBlk] at hbb0
        subst hbb
        subst hbb0
        exact hok.agree A2 (lt hb) hs0
      | dead => trivial
      | own n e => trivial
      | view n k => trivial
    · have hb := pl hb hlv'
      obtain ⟨c, ec, hbb⟩ := gT i b hb
      exact rT.heap.own i c ec (live hbb hlv')
    · have hb := pl hb hlv1
      have hc := pl hc hlv2
      obtain ⟨c1, ec1, hbb1⟩ := gT i b hb
      obtain ⟨c2, ec2, hbb2⟩ := gT j c hc
      exact rT.heap.inj i j c1 c2 ec1 ec2 (live hbb1 hlv1) (live hbb2 hlv2) he
    · -- the rows that lists tell of
      have own0 : ∀ {i n : Nat} {e : TypeId}, H0[i]? = some (.own n e) → T.heap[i]? = some (.own n e) ∧ n < S.nv := fun {i n e} hi => by
        obtain ⟨c, ec, hbb⟩ := gT i _ hi
        obtain ⟨c0, ec0, hbb0⟩ := g0 i _ hi
        cases c <;> simp only [BackBlk] at hbb
        cases c0 <;> simp only [BackBlk] at hbb0
        obtain ⟨rfl, rfl⟩ := hbb
        obtain ⟨rfl, rfl⟩ := hbb0
        have := heapScoped_get s2 i _ ec0
        simp only [Blk.scoped, blt_iff] at this
        exact ⟨ec, this⟩
      have view0 : ∀ {i n k : Nat}, H0[i]? = some (.view n k) → T.heap[i]? = some (.view n k) ∧ n < S.nv := fun {i n k} hi => by
        obtain ⟨c, ec, hbb⟩ := gT i _ hi
        obtain ⟨c0, ec0, hbb0⟩ := g0 i _ hi
        cases c <;> simp only [BackBlk] at hbb
        cases c0 <;> simp only [BackBlk] at hbb0
        obtain ⟨rfl, rfl⟩ := hbb
        obtain ⟨rfl, rfl⟩ := hbb0
        have := heapScoped_get s2 i _ ec0
        simp only [Blk.scoped, blt_iff] at this
        exact ⟨ec, this⟩
      have hσ0 : ∀ i, i < S.nb → h1.σ i = h'.σ i := fun i hi => by simp only [h1]; rw [if_pos hi]
      have base : ListsOK (ρ ++ vs.map (CA.den ρ')) h1 w0.heap.size H0 w' := by
        refine rT.heap.lists.map id (fun i n e hi => ?_) (fun i n k hi => ?_) (fun j b hj hb => ?_) (fun i j n e m e' _ _ h => h) (fun _ _ => rfl)
        · obtain ⟨q1, q2⟩ := own0 hi
          exact ⟨n, q1, by rw [A2.env n q2], hσ0 i (lt hi)⟩
        · obtain ⟨q1, q2⟩ := view0 hi
          exact ⟨⟨n, q1, by rw [A2.env n q2]⟩, hσ0 i (lt hi)⟩
        · obtain ⟨c, ec, hbb⟩ := gT j b hj
          exact ⟨c, ec, live hbb hb, rfl⟩
      -- each row that is carried
      have car : ∀ k, k < an.lsts.length → ∃ c, cT[k]? = some c ∧ ((h1.σ (S.nb + k) = .slice none 0 0 ∧ c = (.nil, none)) ∨ (∃ id n, h1.σ (S.nb + k) = h'.σ id ∧ T.heap[id]? = some (.view n (stV an.elem)) ∧ c = (.v n, none) ∧ vS (an.lsts[k]?.getD 0) = true) ∨ vS (an.lsts[k]?.getD 0) = false ∧ ( (∃ id n, h1.σ (S.nb + k) = h'.σ id ∧ T.heap[id]? = some (.own n an.elem) ∧ c = (.v n, some id)) ∨ ∃ id cs e, (h1.σ (S.nb + k)).ownBlock = some (h'.β id) ∧ T.heap[id]? = some (.row cs (tE an.elem) (stE an.elem)) ∧ c = (e, some id) ∧ isG an.elem = false ∧ OwnS w' w0.heap.size an.elem (h1.σ (S.nb + k)) (e.den ρ'))) := fun k hk => by
        have hs : an.lsts[k]? = some an.lsts[k] := List.getElem?_eq_getElem hk
        obtain ⟨v, c, q1, q2, q3⟩ := (valsL_get hcT').2 k _ hs
        have hσk : h1.σ (S.nb + k) = v.den ρ' h' := by
          simp only [h1]
          rw [if_neg (by omega), Nat.add_sub_cancel_left, hs, Option.bind_some, rT.slots, denL_get, q1]
          rfl
        refine ⟨c, q3, ?_⟩
        split at q2
        · rename_i hvs
          rcases viewOf_cases q2 with ⟨rfl, rfl⟩ | ⟨id, n, rfl, q4, rfl⟩
          · exact .inl ⟨hσk, rfl⟩
          · exact .inr (.inl ⟨id, n, hσk, q4, rfl, by rw [hs]; exact hvs⟩)
        rename_i hvs
        have hvs : vS (an.lsts[k]?.getD 0) = false := by rw [hs]; simpa using hvs
        rcases ownOf_cases q2 with ⟨rfl, rfl⟩ | ⟨id, n, rfl, q4, rfl⟩ | ⟨id, m, cs, e, l, rfl, q4, rfl, hge, hle, hll, hden⟩
        · exact .inl ⟨hσk, rfl⟩
        · exact .inr (.inr ⟨hvs, .inl ⟨id, n, hσk, q4, rfl⟩⟩)
        · refine .inr (.inr ⟨hvs, .inr ⟨id, cs, e, by rw [hσk]; rfl, q4, rfl, hge, ?_⟩⟩)
          rw [hσk]
          have := lit_own (M := fun _ => ⟨fun _ => True, fun _ => [], .any⟩) (R := fun _ => True) (RP := fun _ => True) (F := fun _ _ _ _ => True) rT q4 hle hll (hden ρ')
          simp only [SV.den, Nat.zero_mul, Nat.sub_zero]
          exact this
      have all : ∀ k, k ≤ an.lsts.length → ListsOK (ρ ++ vs.map (CA.den ρ')) h1 w0.heap.size (H0 ++ (newOwns (S.nv + an.slots.length + an.cells.length) an.elem an.lsts).take k) w' := by
        intro k
        induction k with
        | zero => intro _; simpa using base
        | succ k ih =>
          intro hk
          have ih := ih (by omega)
          have hget1 : (newOwns (S.nv + an.slots.length + an.cells.length) an.elem an.lsts)[k]? = some (newBlk (S.nv + an.slots.length + an.cells.length) an.elem an.lsts k) := by
            have hlt : k < (newOwns (S.nv + an.slots.length + an.cells.length) an.elem an.lsts).length := by rw [newOwns_length]; omega
            rw [List.getElem?_eq_getElem hlt, ← (newOwns_get (List.getElem?_eq_getElem hlt)).1]
          rw [List.take_add_one, hget1, ← List.append_assoc]
          have hlen1 : (H0 ++ (newOwns (S.nv + an.slots.length + an.cells.length) an.elem an.lsts).take k).length = S.nb + k := by
            rw [List.length_append, List.length_take, newOwns_length, e7]; omega
          obtain ⟨c, hc, hcase⟩ := car k (by omega)
          have hlk := hgL k c hc
          cases hvk : vS (an.lsts[k]?.getD 0) with
          | true =>
            -- one that is read alone
            have hnew : newBlk (S.nv + an.slots.length + an.cells.length) an.elem an.lsts k = .view (S.nv + an.slots.length + an.cells.length + k) (stV an.elem) := by unfold newBlk; rw [hvk]; rfl
            rw [hnew]
            have splitV : ∀ {i : Nat} {b : Blk}, (H0 ++ (newOwns (S.nv + an.slots.length + an.cells.length) an.elem an.lsts).take k)[i]? = some b → H0[i]? = some b ∨ ∃ j, i = S.nb + j ∧ j < k ∧ b = newBlk (S.nv + an.slots.length + an.cells.length) an.elem an.lsts j := fun {i b} hb => by
              have hlt := (List.getElem?_eq_some_iff.1 hb).1
              rw [hlen1] at hlt
              rw [List.getElem?_append] at hb
              split at hb
              · exact .inl hb
              · rename_i hge
                rw [List.getElem?_take] at hb
                split at hb
                · exact .inr ⟨i - S.nb, by omega, by omega, by rw [e7] at hb; exact (newOwns_get hb).1⟩
                · cases hb
            rcases hcase with ⟨q1, rfl⟩ | ⟨id, n, q1, q2, rfl, _⟩ | ⟨hvs, _⟩
            · refine ih.pushView (by rw [hlen1, hlk, q1]; exact .inl ⟨rfl, rfl⟩) (fun hk => by have := @stV_lt an.elem; omega) fun g hne hg => ?_
              rw [hlk] at hne; exact absurd rfl hne
            · refine ih.pushView (by rw [hlen1, hlk, q1]; exact rT.heap.lists.view id n _ q2) (fun hk => by have := @stV_lt an.elem; omega) fun g hne hg => ?_
              rw [hlen1, q1] at hg
              have hne' : (Env.get ρ' n).list ≠ [] := by rw [hlk] at hne; exact hne
              refine ⟨fun j m e hj => ?_, fun j b hj hb he => ?_⟩
              · rcases splitV hj with p4 | ⟨j', rfl, hjk, hbk⟩
                · rw [hσ0 j (lt p4)]
                  exact rT.heap.lists.vtwo id n _ j m e g q2 hne' (own0 p4).1 hg
                · obtain ⟨c', hc', hcase'⟩ := car j' (by omega)
                  rcases hcase' with ⟨r1, rfl⟩ | ⟨id', n', r1, r2, rfl, hvs⟩ | ⟨hvs, ⟨id', n', r1, r2, rfl⟩ | ⟨id', cs', e', r1, r2, rfl, _⟩⟩
                  · rw [r1]; intro hx; cases hx
                  · unfold newBlk at hbk; rw [hvs] at hbk; cases hbk
                  · rw [r1]; exact rT.heap.lists.vtwo id n _ id' n' _ g q2 hne' r2 hg
                  · rw [r1]
                    intro hx
                    exact rT.heap.lists.vapart id n _ id' _ q2 hne' r2 rfl (hg.trans hx.symm)
              · rcases splitV hj with p4 | ⟨j', rfl, hjk, hbk⟩
                · obtain ⟨c, ec, hbb⟩ := gT j b p4
                  exact rT.heap.lists.vapart id n _ j c q2 hne' ec (live hbb hb) (by rw [hg]; exact congrArg some he.symm)
                · rw [hbk, newBlk_live] at hb; cases hb
            · rw [hvs] at hvk; cases hvk
          | false =>
          have hnew : newBlk (S.nv + an.slots.length + an.cells.length) an.elem an.lsts k = .own (S.nv + an.slots.length + an.cells.length + k) an.elem := by unfold newBlk; rw [hvk]; rfl
          rw [hnew]
          have vwBlk : ∀ j b, j < k → (H0 ++ (newOwns (S.nv + an.slots.length + an.cells.length) an.elem an.lsts).take k)[S.nb + j]? = some b → b = newBlk (S.nv + an.slots.length + an.cells.length) an.elem an.lsts j := fun j b hjk hb => by
            rw [List.getElem?_append_right (by omega), List.getElem?_take] at hb
            split at hb
            · rw [e7, Nat.add_sub_cancel_left] at hb; exact (newOwns_get hb).1
            · cases hb
          have viewCar : ∀ j n', j < k → vS (an.lsts[j]?.getD 0) = true → cT[j]? = some (.v n', none) → ((∃ m e, (H0 ++ (newOwns (S.nv + an.slots.length + an.cells.length) an.elem an.lsts).take k)[S.nb + j]? = some (.own m e)) ∨ ∃ m c1, (H0 ++ (newOwns (S.nv + an.slots.length + an.cells.length) an.elem an.lsts).take k)[S.nb + j]? = some (.view m c1) ∧ (Env.get (ρ ++ vs.map (CA.den ρ')) m).list ≠ []) → (Env.get ρ' n').list ≠ [] := fun j n' hjk hvj hcj hor => by
            rcases hor with ⟨m, e, hx⟩ | ⟨m, c1, hx, hne⟩
            · have := vwBlk j _ hjk hx; unfold newBlk at this; rw [hvj] at this; cases this
            · have := vwBlk j _ hjk hx; unfold newBlk at this; rw [hvj] at this
              injection this with this
              rw [this, hgL j _ hcj] at hne
              exact hne
          have hcase : (h1.σ (S.nb + k) = .slice none 0 0 ∧ c = (.nil, none)) ∨ (∃ id n, h1.σ (S.nb + k) = h'.σ id ∧ T.heap[id]? = some (.own n an.elem) ∧ c = (.v n, some id)) ∨ ∃ id cs e, (h1.σ (S.nb + k)).ownBlock = some (h'.β id) ∧ T.heap[id]? = some (.row cs (tE an.elem) (stE an.elem)) ∧ c = (e, some id) ∧ isG an.elem = false ∧ OwnS w' w0.heap.size an.elem (h1.σ (S.nb + k)) (e.den ρ') := by
            rcases hcase with h | ⟨_, _, _, _, _, hvs⟩ | ⟨_, h⟩
            · exact .inl h
            · rw [hvs] at hvk; cases hvk
            · exact .inr h
          refine ih.pushOwnG (fun hge => ?_) (fun hge => ?_) fun g hg => ?_
          · rw [hlen1, hlk]
            rcases hcase with ⟨q1, rfl⟩ | ⟨id, n, q1, q2, rfl⟩ | ⟨id, cs, e, q1, q2, rfl, _, hos⟩
            · rw [q1]; exact ⟨0, by simp [CA.den, LE.den, Cv.list], World.ownsRow_nil w' _ _ _⟩
            · rw [q1]; exact rT.heap.lists.own id n _ q2 hge
            · exact hos
          · -- rows of rows
            rw [hlen1, hlk]
            have splitI : ∀ {i : Nat} {b : Blk}, (H0 ++ (newOwns (S.nv + an.slots.length + an.cells.length) an.elem an.lsts).take k)[i]? = some b → H0[i]? = some b ∨ ∃ j, i = S.nb + j ∧ j < k := fun {i b} hb => by
              have hlt := (List.getElem?_eq_some_iff.1 hb).1
              rw [hlen1] at hlt
              rw [List.getElem?_append] at hb
              split at hb
              · exact .inl hb
              · rename_i hge; exact .inr ⟨i - S.nb, by omega, by omega⟩
            rcases hcase with ⟨q1, rfl⟩ | ⟨id, n, q1, q2, rfl⟩ | ⟨id, cs, e, q1, q2, rfl, hge', _⟩
            · rw [q1]; exact ⟨[], [], ⟨rfl, World.ownsRow_nil w' _ _ _, trivial⟩, fun g hg => hg.elim⟩
            · rw [q1]
              obtain ⟨vs0, L0, hgr, hsep⟩ := rT.heap.lists.grid id n _ q2 hge
              refine ⟨vs0, L0, hgr, fun g hg => ⟨fun j b hj hb => ?_, (hsep g hg).2 id n _ q2, fun j m e' hj => ?_⟩⟩
              · have hj' : H0[j]? = some b := by
                  rcases splitI hj with h | ⟨j', rfl, hjk⟩
                  · exact h
                  · rw [List.getElem?_append_right (by omega), List.getElem?_take] at hj
                    split at hj
                    · have := (newOwns_get hj).1; rw [this, newBlk_live] at hb; cases hb
                    · cases hj
                obtain ⟨c, ec, hbb⟩ := gT j b hj'
                exact (hsep g hg).1 j c ec (live hbb hb)
              · rcases splitI hj with p4 | ⟨j', rfl, hjk⟩
                · rw [hσ0 j (lt p4)]
                  exact (hsep g hg).2 j m e' (own0 p4).1
                · obtain ⟨c', hc', hcase'⟩ := car j' (by omega)
                  rcases hcase' with ⟨r1, rfl⟩ | ⟨id', n', r1, r2, rfl, hvs⟩ | ⟨hvs, ⟨id', n', r1, r2, rfl⟩ | ⟨id', cs', e', r1, r2, rfl, hge', _⟩⟩
                  · rw [r1]; intro hx; cases hx
                  · have := vwBlk j' _ hjk hj; unfold newBlk at this; rw [hvs] at this; cases this
                  · rw [r1]; exact (hsep g hg).2 id' n' _ r2
                  · rw [hge] at hge'; cases hge'
            · rw [hge] at hge'; cases hge'
          · rw [hlen1] at hg
            have split : ∀ {i : Nat} {b : Blk}, (H0 ++ (newOwns (S.nv + an.slots.length + an.cells.length) an.elem an.lsts).take k)[i]? = some b → H0[i]? = some b ∨ ∃ j, i = S.nb + j ∧ j < k := fun {i b} hb => by
              have hlt := (List.getElem?_eq_some_iff.1 hb).1
              rw [hlen1] at hlt
              rw [List.getElem?_append] at hb
              split at hb
              · exact .inl hb
              · rename_i hge; exact .inr ⟨i - S.nb, by omega, by omega⟩
            have inH0 : ∀ {j : Nat} {b : Blk}, (H0 ++ (newOwns (S.nv + an.slots.length + an.cells.length) an.elem an.lsts).take k)[j]? = some b → b.live = true → H0[j]? = some b := fun {j b} hj hb => by
              rw [List.getElem?_append] at hj
              split at hj
              · exact hj
              · rw [List.getElem?_take] at hj
                split at hj
                · have := (newOwns_get hj).1; rw [this, newBlk_live] at hb; cases hb
                · cases hj
            -- the rows of rows that are carried already
            have inner : ∀ i n0 e0 vs0 L0, (H0 ++ (newOwns (S.nv + an.slots.length + an.cells.length) an.elem an.lsts).take k)[i]? = some (.own n0 e0) → isG e0 = true → GridIs w' w0.heap.size e0 (h1.σ i) (Env.get (ρ ++ vs.map (CA.den ρ')) n0).list vs0 L0 → GF vs0 L0 g → (∀ j c, T.heap[j]? = some c → c.live = true → h'.β j ≠ g) ∧ ∀ j m e', T.heap[j]? = some (.own m e') → (h'.σ j).ownBlock ≠ some g := by
              intro i n0 e0 vs0 L0 r1 r2 r3 r4
              rcases split r1 with p4 | ⟨j, hij, hjk⟩
              · obtain ⟨q5, q6⟩ := own0 p4
                rw [hσ0 i (lt p4), A2.env n0 q6] at r3
                exact rT.heap.lists.gsep q5 r2 r3 r4
              · obtain ⟨c', hc', hcase'⟩ := car j (by omega)
                have r1' := r1
                rw [hij, List.getElem?_append_right (by omega), List.getElem?_take] at r1'
                split at r1'
                case isFalse => cases r1'
                have r5 := (newOwns_get r1').1
                unfold newBlk at r5
                split at r5
                case isTrue => cases r5
                rename_i hvz
                injection r5 with r5 r6
                subst r6
                rcases hcase' with ⟨t1, rfl⟩ | ⟨id', n', t1, t2, rfl, hvs⟩ | ⟨hvs, ⟨id', n', t1, t2, rfl⟩ | ⟨id', cs', e', t1, t2, rfl, hge', _⟩⟩
                rotate_left 1
                · exact absurd (by rw [show S.nb + j - H0.length = j by omega]; exact hvs) hvz
                rotate_right 1
                · rw [hij, t1] at r3
                  have := (hgL j _ hc')
                  have e9 : n0 = S.nv + an.slots.length + an.cells.length + j := by omega
                  rw [e9, this] at r3
                  have e8 : L0 = [] := enc_inj (r3.1.symm)
                  subst e8
                  cases vs0 <;> exact r4.elim
                · rw [hij, t1] at r3
                  have := (hgL j _ hc')
                  have e9 : n0 = S.nv + an.slots.length + an.cells.length + j := by omega
                  rw [e9, this] at r3
                  exact rT.heap.lists.gsep t2 r2 r3 r4
                · rw [r2] at hge'; cases hge'
            rcases hcase with ⟨q1, rfl⟩ | ⟨id, n, q1, q2, rfl⟩ | ⟨id, cs, e, q1, q2, rfl, hgz, _⟩
            · rw [q1] at hg; cases hg
            · rw [q1] at hg
              have hdead : ∀ b, H0[id]? = some b → b = .dead := fun b hb => deadIds_get hdd k id _ b hc hb
              refine ⟨?_, fun j b hj hb he => ?_⟩
              · rintro (⟨i, p1, p2⟩ | ⟨i, n0, e0, vs0, L0, z1, z2, z3, z4⟩)
                case inr => exact (inner i n0 e0 vs0 L0 z1 z2 z3 z4).2 id n _ q2 hg
                have split : ∀ {b : Blk}, (H0 ++ (newOwns (S.nv + an.slots.length + an.cells.length) an.elem an.lsts).take k)[i]? = some b → H0[i]? = some b ∨ ∃ j, i = S.nb + j ∧ j < k := fun {b} hb => by
                  have hlt := (List.getElem?_eq_some_iff.1 hb).1
                  rw [hlen1] at hlt
                  rw [List.getElem?_append] at hb
                  split at hb
                  · exact .inl hb
                  · rename_i hge; exact .inr ⟨i - S.nb, by omega, by omega⟩
                have fromOld : ∀ j, i = S.nb + j → j < k → False := fun j hij hjk => by
                  obtain ⟨c', hc', hcase'⟩ := car j (by omega)
                  rw [hij] at p1 p2
                  rcases hcase' with ⟨r1, rfl⟩ | ⟨id', n', r1, r2, rfl, hvs⟩ | ⟨hvs, ⟨id', n', r1, r2, rfl⟩ | ⟨id', cs', e', r1, r2, rfl, _⟩⟩
                  · rw [r1] at p1; cases p1
                  · rw [r1] at p1
                    exact rT.heap.lists.vtwo id' n' _ id n _ g r2 (viewCar j n' hjk hvs hc' p2) q2 p1 hg
                  · rw [r1] at p1
                    have hidd := rT.heap.lists.two id' id n' _ n _ g r2 q2 p1 hg
                    subst hidd
                    have := apartIds_get hap j k id' _ _ hc' hc
                    omega
                  · rw [r1] at p1
                    exact rT.heap.lists.apart id n _ id' _ q2 r2 rfl (hg.trans p1.symm)
                rcases p2 with ⟨m, e, p2⟩ | ⟨m, c1, p2, p3⟩
                · rcases split p2 with p4 | ⟨j, hij, hjk⟩
                  · rw [hσ0 i (lt p4)] at p1
                    have hidd := rT.heap.lists.two i id m e n _ g (own0 p4).1 q2 p1 hg
                    subst hidd
                    have := hdead _ p4
                    cases this
                  · exact fromOld j hij hjk
                · rcases split p2 with p4 | ⟨j, hij, hjk⟩
                  · rw [hσ0 i (lt p4)] at p1
                    obtain ⟨q5, q6⟩ := view0 p4
                    exact rT.heap.lists.vtwo i m _ id n _ g q5 (by rw [← A2.env m q6]; exact p3) q2 p1 hg
                  · exact fromOld j hij hjk
              · have hj' : H0[j]? = some b := by
                  rw [List.getElem?_append] at hj
                  split at hj
                  · exact hj
                  · rw [List.getElem?_take] at hj
                    split at hj
                    · have := (newOwns_get hj).1; rw [this, newBlk_live] at hb; cases hb
                    · cases hj
                obtain ⟨c, ec, hbb⟩ := gT j b hj'
                exact rT.heap.lists.apart id n _ j c q2 ec (live hbb hb) (by rw [hg]; exact congrArg some he.symm)
            · rw [q1] at hg
              have hg' : h'.β id = g := by
                simp only [Value.ownBlock, Option.some.injEq] at hg
                exact hg
              have hdead : ∀ b, H0[id]? = some b → b = .dead := fun b hb => deadIds_get hdd k id _ b hc hb
              refine ⟨?_, fun j b hj hb he => ?_⟩
              · rintro (⟨i, p1, p2⟩ | ⟨i, n0, e0, vs0, L0, z1, z2, z3, z4⟩)
                case inr => exact (inner i n0 e0 vs0 L0 z1 z2 z3 z4).1 id _ q2 rfl hg'
                have fromOld : ∀ j, i = S.nb + j → j < k → False := fun j hij hjk => by
                  obtain ⟨c', hc', hcase'⟩ := car j (by omega)
                  rw [hij] at p1 p2
                  rcases hcase' with ⟨r1, rfl⟩ | ⟨id', n', r1, r2, rfl, hvs⟩ | ⟨hvs, ⟨id', n', r1, r2, rfl⟩ | ⟨id', cs', e', r1, r2, rfl, _⟩⟩
                  · rw [r1] at p1; cases p1
                  · rw [r1] at p1
                    exact rT.heap.lists.vapart id' n' _ id _ r2 (viewCar j n' hjk hvs hc' p2) q2 rfl (by rw [p1, hg'])
                  · rw [r1] at p1
                    exact rT.heap.lists.apart id' n' _ id _ r2 q2 rfl (by rw [p1, hg'])
                  · rw [r1] at p1
                    have hb' : h'.β id' = g := by
                      simp only [Value.ownBlock, Option.some.injEq] at p1
                      exact p1
                    have hidd := rT.heap.inj id' id _ _ r2 q2 rfl rfl (hb'.trans hg'.symm)
                    subst hidd
                    have := apartIds_get hap j k id' _ _ hc' hc
                    omega
                rcases p2 with ⟨m, e, p2⟩ | ⟨m, c1, p2, p3⟩
                · rcases split p2 with p4 | ⟨j, hij, hjk⟩
                  · rw [hσ0 i (lt p4)] at p1
                    exact rT.heap.lists.apart i m e id _ (own0 p4).1 q2 rfl (by rw [p1, hg'])
                  · exact fromOld j hij hjk
                · rcases split p2 with p4 | ⟨j, hij, hjk⟩
                  · rw [hσ0 i (lt p4)] at p1
                    obtain ⟨q5, q6⟩ := view0 p4
                    exact rT.heap.lists.vapart i m _ id _ q5 (by rw [← A2.env m q6]; exact p3) q2 rfl (by rw [p1, hg'])
                  · exact fromOld j hij hjk
              · have hj' := inH0 hj hb
                obtain ⟨c, ec, hbb⟩ := gT j b hj'
                have hidd := rT.heap.inj j id _ _ ec q2 (live hbb hb) rfl (he.trans hg'.symm)
                subst hidd
                have := hdead _ hj'
                subst this
                cases hb
      have := all an.lsts.length (Nat.le_refl _)
      rw [List.take_of_length_le (by rw [newOwns_length]; exact Nat.le_refl _), ← e8] at this
      exact this

/-! ### the walk -/
/-- what is shown of code: of a loop, that its round is at hand -/
def WpX (P : Program) (c : Code) (Q : Exit → Act → World → Prop) (a : Act) (w : World) : Prop :=
  match c with
  | .loop b => LoopIn P b Q a w
  | c => c.wp P Q a w
theorem WpX.wp {c : Code} {Q : Exit → Act → World → Prop} {a : Act} {w : World} (h : WpX P c Q a w) : c.wp P Q a w := by
  cases c <;> first | exact h | exact LoopIn.wp h

theorem KOK.later {F : Ex → St → Js → Env → Prop} {Q : Exit → Act → World → Prop} {S S2 : St} {ρ h J ρ2 h2 J2} {K : Ex → St → Tree} (hl : Later S S2 ρ h J ρ2 h2 J2) (hK : KOK M R RP F w0 Q S ρ h J K) : KOK M R RP F w0 Q S2 ρ2 h2 J2 K :=
  fun e S' ρ' h' J' a' w' hl' => hK e S' ρ' h' J' a' w' (hl.trans hl')

theorem exec_sound (C : CxW P cx M w0) : ∀ (n : Nat) (F : Ex → St → Js → Env → Prop) (c : Code) (S : St) ρ h J a w K (Q : Exit → Act → World → Prop), (∀ ch a a' w, a.defers = a'.defers → Q (.panic ch) a w → Q (.panic ch) a' w) →
    Rep w0 S ρ h J a w → (exec cx n c S K).den M R RP F J ρ → KOK M R RP F w0 Q S ρ h J K → WpX P c Q a w
  | 0, F, c, S, ρ, h, J, a, w, K, Q, hQ, r, hd, hK => hd.elim
  | n + 1, F, c, S, ρ, h, J, a, w, K, Q, hQ, r, hd, hK => by
    have IH := exec_sound C n
    have E : ExecOK P M R RP w0 (exec cx n) := fun F c S ρ h J a w K Q hQ r hd hK => (IH F c S ρ h J a w K Q hQ r hd hK).wp
    have CH := fun F => callFn_sound C E F
    cases c with
    | skip => exact wp_skip (hK .normal S ρ h J a w .refl r hd)
    | label l => exact wp_label (hK .normal S ρ h J a w .refl r hd)
    | exit id => exact wp_exit (hK (.exit id) S ρ h J a w .refl r hd)
    | goto l => exact wp_goto (hK (.goto l) S ρ h J a w .refl r hd)
    | ret => exact wp_ret (hK .ret S ρ h J a w .refl r hd)
    | rangeFunc f ps x y => exact hd.elim
    | scope b =>
      simp only [exec] at hd
      refine wp_scope_straight ?_
      refine (IH F b S ρ h J a w _ (Exit.noGoto Q) (fun ch a a' w he hq => hQ ch a a' w he hq) r hd fun e S' ρ' h' J' a' w' hl hr hk => ?_).wp
      cases e with
      | normal => exact hK .normal S' ρ' h' J' a' w' hl hr hk
      | exit j => exact hK (.exit j) S' ρ' h' J' a' w' hl hr hk
      | goto l => exact hk.elim
      | ret => exact hK .ret S' ρ' h' J' a' w' hl hr hk
      | panic v => exact hK (.panic v) S' ρ' h' J' a' w' hl hr hk
    | refuse why => exact hd.elim
    | seq x y =>
      simp only [exec] at hd
      refine wp_seq ?_
      refine (IH F x S ρ h J a w _ (Exit.then (y.wp P Q) Q) (fun ch a a' w he hq => hQ ch a a' w he hq) r hd fun e S' ρ' h' J' a' w' hl hr hk => ?_).wp
      cases e with
      | normal => exact (IH F y S' ρ' h' J' a' w' K Q hQ hr hk (hK.later hl)).wp
      | exit id => exact hK (.exit id) S' ρ' h' J' a' w' hl hr hk
      | goto l => exact hK (.goto l) S' ρ' h' J' a' w' hl hr hk
      | ret => exact hK .ret S' ρ' h' J' a' w' hl hr hk
      | panic v => exact hK (.panic v) S' ρ' h' J' a' w' hl hr hk
    | cond c x y =>
      simp only [exec] at hd
      split at hd
      · rename_i e he
        have hev : a.eval c = .bool (e.den ρ) := opd_sound r.slots he
        refine wp_cond hev ?_
        split at hd
        · rename_i b hb
          have := St.decide_sound r.fok hb
          rw [this]
          cases b with
          | true => exact (IH F x S ρ h J a w K Q hQ r hd hK).wp
          | false => exact (IH F y S ρ h J a w K Q hQ r hd hK).wp
        · split at hd
          · rename_i S' es hmg
            split at hmg
            case isFalse => cases hmg
            unfold mergeT at hmg
            split at hmg
            case h_2 => cases hmg
            rename_i X Y hX hY
            have ras := fun {b} (hb : e.den ρ = b) => r.assume hb
            -- out of either branch
            have go : ∀ (z : Code) (T : St) (b : Bool), e.den ρ = b → exec cx n z (S.assume e b) .fin = .fin .normal T → T = (if e.den ρ then X else Y) → z.wp P Q a w := fun z T b hb hz hT => by
              obtain ⟨r1, hc⟩ := ras hb
              refine (IH (fun ex St J' ρ' => ex = .normal ∧ St = T ∧ J' = J ∧ ρ' = ρ) z (S.assume e b) ρ h J a w .fin Q hQ r1 (by rw [hz]; exact ⟨rfl, rfl, rfl, rfl⟩) ?_).wp
              intro ex S2 ρ2 h2 J2 a2 w2 hl hr hk
              obtain ⟨rfl, rfl, rfl, rfl⟩ := hk
              obtain ⟨q1, h3, q2, q3⟩ := mergeSt_sound r hmg hT (hc.later.trans hl) hr
              have := letsK_den (ρ0 := ρ2) q1 (fun _ _ => rfl) (Nat.le_of_eq r.nv) hd
              exact hK .normal S' _ h3 _ a2 w2 q3 q2 this
            cases hb : e.den ρ with
            | true => exact go x X true hb hX (by rw [hb]; rfl)
            | false => exact go y Y false hb hY (by rw [hb]; rfl)
          · obtain ⟨h1, h2⟩ := hd
            cases hb : e.den ρ with
            | true =>
              obtain ⟨r1, hc⟩ := r.assume hb
              exact (IH F x _ ρ h J a w K Q hQ r1 (h1 hb) (hK.later hc.later)).wp
            | false =>
              obtain ⟨r1, hc⟩ := r.assume hb
              exact (IH F y _ ρ h J a w K Q hQ r1 (h2 hb) (hK.later hc.later)).wp
      · exact hd.elim
    | block id b =>
      simp only [exec] at hd
      refine wp_block ?_
      refine (IH F b S ρ h J a w _ (Exit.inBlock id Q) (fun ch a a' w he hq => hQ ch a a' w he hq) r hd fun e S' ρ' h' J' a' w' hl hr hk => ?_).wp
      cases e with
      | normal => exact hK .normal S' ρ' h' J' a' w' hl hr hk
      | exit j =>
        simp only [] at hk
        simp only [Exit.inBlock]
        split at hk
        · rename_i hj; rw [nbeq_iff] at hj; rw [if_pos hj]; exact hK .normal S' ρ' h' J' a' w' hl hr hk
        · rename_i hj; rw [if_neg (fun e => hj (nbeq_iff.2 e))]; exact hK (.exit j) S' ρ' h' J' a' w' hl hr hk
      | goto l => exact hK (.goto l) S' ρ' h' J' a' w' hl hr hk
      | ret => exact hK .ret S' ρ' h' J' a' w' hl hr hk
      | panic v => exact hK (.panic v) S' ρ' h' J' a' w' hl hr hk
    | region id ops draw =>
      simp only [exec] at hd
      cases draw with
      | false =>
        simp only [Bool.false_eq_true, if_false] at hd
        refine wp_region ?_
        have := execOps_sound C (CH F) ops.toList 0 rfl r hd hK
        rw [Array.length_toList, ← List.range_eq_range'] at this
        exact this
      | true =>
        simp only [if_true] at hd
        split at hd
        · rename_i hc
          simp only [Bool.and_eq_true] at hc
          obtain ⟨hsc, hns⟩ := hc
          obtain ⟨s1, s2, s3, s4⟩ := scoped_parts hsc
          refine wp_region_held (S := fun w => HeapOK ρ h w0.heap.size (strike (drawIds cx S ops.toList) S.heap 0) w) C.mixed ?_
          have r' : Rep w0 S ρ h J a w.drew := ⟨r.nv, r.lv, r.ivl, r.fok, r.slots, r.defers, ⟨fun i b hb => (r.heap.blk i b hb).world fun _ => rfl, r.heap.own, r.heap.inj, r.heap.lists.world fun _ _ => rfl⟩, r.below.drew⟩
          have := execDraw_sound C CH hns hQ strike_length (strike_scoped s2) 400 F ops.size (ops.toList.map fun _ => false) .refl r' r'.heap.strike (by simp) (Nat.le_trans List.count_le_length (by simp)) hd hK
          have he : (ops.toList.map fun _ => false).toArray = Array.replicate ops.size false := by
            rw [← Array.toList_inj]; simp [List.map_const']
          rw [he] at this
          exact this
        · exact hd.elim
    | loop b =>
      simp only [exec] at hd
      split at hd
      · refine loopIn_unroll ?_
        refine (IH F b S ρ h J a w _ (Exit.then (LoopIn P b Q) Q) (fun ch a a' w he hq => hQ ch a a' w he hq) r hd fun e S' ρ' h' J' a' w' hl hr hk => ?_).wp
        cases e with
        | normal => exact IH F (.loop b) S' ρ' h' J' a' w' K Q hQ hr hk (hK.later hl)
        | exit id => exact hK (.exit id) S' ρ' h' J' a' w' hl hr hk
        | goto l => exact hK (.goto l) S' ρ' h' J' a' w' hl hr hk
        | ret => exact hK .ret S' ρ' h' J' a' w' hl hr hk
        | panic v => exact hK (.panic v) S' ρ' h' J' a' w' hl hr hk
      · rename_i an0 han
        generalize hAn : an0.resolve S.slots = an at hd
        clear hAn
        have r := r.frozen an.frz
        have hK := hK.later (.frozen an.frz)
        generalize hS2 : S.frozen an.frz = S2 at hd r hK
        clear hS2
        split at hd
        · rename_i va vb vc hva hvb hvc
          generalize hsh : shOf (va ++ vb ++ vc.map fun p => .l p.1) an.ivs = sh at hd
          generalize hH0 : killIds vc (headHeap an.cells (S2.nv + an.slots.length) S2.heap 0) 0 = H0 at hd
          generalize hhd : ({ S2 with nv := S2.nv + sh.length, ivs := S2.ivs ++ sh.map Sh.iv, nj := S2.nj + S2.slots.length, lv := S2.lv + 1, facts := [], slots := headSlots (assigned b) an.slots (lkOf (an.lsts.map rS) an.ali S2.nb) S2.nv S2.nj S2.slots 0, heap := H0 ++ newOwns (S2.nv + an.slots.length + an.cells.length) an.elem an.lsts } : St) = hd0 at hd
          split at hd
          · rename_i init hinit
            split at hd
            · rename_i hsc
              obtain ⟨I, μ, hfit0, hI0, hbody⟩ := hd
              have f1 : hd0.nv = S2.nv + sh.length := by rw [← hhd]
              have f2 : hd0.ivs = S2.ivs ++ sh.map Sh.iv := by rw [← hhd]
              have f4 : hd0.lv = S2.lv + 1 := by rw [← hhd]
              have f5 : hd0.facts = [] := by rw [← hhd]
              have f6 : hd0.defs = S2.defs := by rw [← hhd]
              have f7 : H0.length = S2.nb := by rw [← hH0, killIds_length]; exact headHeap_length
              have f10 : hd0.heap = H0 ++ newOwns (S2.nv + an.slots.length + an.cells.length) an.elem an.lsts := by rw [← hhd]
              have f11 : S2.nb ≤ hd0.nb := by unfold St.nb at *; rw [f10, List.length_append]; omega
              have f8 : hd0.nj = S2.nj + S2.slots.length := by rw [← hhd]
              have f9 : hd0.fid = S2.fid := by rw [← hhd]
              have mk := fun {T vs ρ' h' J' a' w'} (hl : Later S2 T ρ h J ρ' h' J') (rT : Rep w0 T ρ' h' J' a' w') (hb : backAt (assigned b) an S2 hd0 T = some vs) (hf : Fits sh (vs.map (CA.den ρ'))) X =>
                head_rep hsc r.nv r.lv r.ivl r.fok f1 f2 f4 f5 f6 f7 f10 hinit hl rT hb hf X
              refine loopIn_rel (α := List Cv) (fun vs a' w' => Fits sh vs ∧ I vs ∧ ∃ h1, Agree S2.nv S2.nb S2.nj ρ h (ρ ++ vs) h1 ∧ Rep w0 hd0 (ρ ++ vs) h1 (J ++ [fun us => Fits sh us ∧ I us ∧ μ us < μ vs]) a' w') μ ?_ (init.map (CA.den ρ)) a w
                ⟨hfit0, hI0, mk .refl r hinit hfit0 _⟩
              rintro vs a1 w1 ⟨hf, hI, h1, hag, hrep⟩
              have hb1 := bindRes_apply hbody vs hf hI
              have hl1 : Later S2 hd0 ρ h J (ρ ++ vs) h1 (J ++ [fun us => Fits sh us ∧ I us ∧ μ us < μ vs]) := ⟨hag, by omega, f11, by omega, f9, _, rfl⟩
              refine (IH F b hd0 (ρ ++ vs) h1 _ a1 w1 _ (Exit.then _ Q) (fun ch a a' w he hq => hQ ch a a' w he hq) hrep hb1 fun e S2' ρ' h' J' a' w' hl hr hk => ?_).wp
              have hl2 := hl1.trans hl
              cases e with
              | normal =>
                simp only [] at hk
                split at hk
                · rename_i us hus
                  obtain ⟨l, hJ'⟩ := hl.J
                  have hJv : J'[S2.lv]? = some (fun us => Fits sh us ∧ I us ∧ μ us < μ vs) := by
                    rw [hJ', r.lv, List.append_assoc, List.getElem?_append_right (Nat.le_refl _), Nat.sub_self]
                    rfl
                  simp only [Tree.den, hJv] at hk
                  obtain ⟨k1, k2, k3⟩ := hk
                  exact ⟨us.map (CA.den ρ'), ⟨k1, k2, mk hl2 hr hus k1 _⟩, k3⟩
                · exact hk.elim
              | exit id => exact hK (.exit id) S2' ρ' h' J' a' w' hl2 hr hk
              | goto l => exact hK (.goto l) S2' ρ' h' J' a' w' hl2 hr hk
              | ret => exact hK .ret S2' ρ' h' J' a' w' hl2 hr hk
              | panic v => exact hK (.panic v) S2' ρ' h' J' a' w' hl2 hr hk
            · exact hd.elim
          · exact hd.elim
        · exact hd.elim

/-! ### a function -/
mutual
theorem plain_den {ρ : Env} {h : Hid} : ∀ {v : SV}, v.plain = true → v.den ρ h = v.den ρ hid0
  | .int _ _, _ | .bool _, _ | .str _, _ | .gptr _, _ | .nilp, _ | .nilRow, _ | .nilMap, _ | .nilFunc, _ | .nilIface, _ => rfl
  | .iface t v, hp => by simp only [SV.plain] at hp; simp only [SV.den, plain_den hp]
  | .agg cs, hp => by simp only [SV.plain] at hp; simp only [SV.den, plainL_den hp]
  | .tup cs, hp => by simp only [SV.plain] at hp; simp only [SV.den, plainL_den hp]
  | .func (.func f) a b, hp => by simp only [SV.plain, Bool.and_eq_true] at hp; simp only [SV.den, plainL_den hp.1, plainL_den hp.2]
theorem plainL_den {ρ : Env} {h : Hid} : ∀ {l : List SV}, plainL l = true → denL ρ h l = denL ρ hid0 l
  | [], _ => rfl
  | x :: r, hp => by simp only [plainL, Bool.and_eq_true] at hp; simp only [denL, plain_den hp.1, plainL_den hp.2]
end

def noF : Ex → St → Js → Env → Prop := fun _ _ _ _ => False
def IvsOK (ivs : List (Option (Int × Int))) (cs : Env) : Prop := (∀ i lo hi, ivs[i]? = some (some (lo, hi)) → lo ≤ (Env.get cs i).int ∧ (Env.get cs i).int ≤ hi) ∧ ∀ i x, x ∈ (Env.get cs i).list → -9223372036854775808 ≤ x ∧ x ≤ 9223372036854775807

/-! ### arguments -/
def sigOf : List SV → List Value → Nat → Value
  | .lst n :: r, v :: s, m => if m = n then v else sigOf r s m
  | .sptr n _ _ _ :: r, v :: s, m => if m = n then v else sigOf r s m
  | _ :: r, _ :: s, m => sigOf r s m
  | _, _, _ => .slice none 0 0
theorem sigOf_other {p : SV} {r : List SV} {v : Value} {s : List Value} {m : Nat} (hp : ∀ n, p ≠ .lst n) (hp2 : ∀ n a k o, p ≠ .sptr n a k o) : sigOf (p :: r) (v :: s) m = sigOf r s m := by
  cases p <;> first | rfl | exact absurd rfl (hp _) | exact absurd rfl (hp2 _ _ _ _)
theorem place_hid (p : SV) (n : Nat) (cs : Env) (h : Hid) : (place p n).1.den cs h = (place p n).1.den cs hid0 := by
  have := (place_shift (ρ := []) (rs := cs) (h := h) p n).1
  simpa using this
mutual
theorem place_le : ∀ (p : SV) (n : Nat), n ≤ (place p n).2
  | .int _ _, n => Nat.le_succ n
  | .bool _, n => Nat.le_succ n
  | .agg ps, n => by simp only [place]; exact placeL_le ps n
  | .tup ps, n => by simp only [place]; exact placeL_le ps n
  | .str _, n | .ptr _ _, n | .gptr _, n | .nilp, n | .row _ _ _ _, n | .nilRow, n | .map _, n | .nilMap, n | .func _ _ _, n | .nilFunc, n | .nilIface, n | .iface _ _, n | .junk _, n | .lst _, n | .lptr _ _, n | .sptr _ _ _ _, n | .gd _ _, n => by simp only [place]; exact Nat.le_refl n
theorem placeL_le : ∀ (ps : List SV) (n : Nat), n ≤ (placeL ps n).2
  | [], n => Nat.le_refl n
  | p :: r, n => by simp only [placeL]; exact Nat.le_trans (place_le p n) (placeL_le r _)
end
theorem placeA_cons {p : SV} {r : List SV} {n : Nat} (hp : ∀ m, p ≠ .lst m) (hp2 : ∀ n a k o, p ≠ .sptr n a k o) : placeA (p :: r) n = ((place p n).1 :: (placeA r (place p n).2).1, (placeA r (place p n).2).2) := by
  cases p <;> first | rfl | exact absurd rfl (hp _) | exact absurd rfl (hp2 _ _ _ _)
theorem argsRel_cons {w : World} {cs : Env} {p : SV} {v : Value} {r : List SV} {s : List Value} (hp : ∀ n, p ≠ .lst n) (hp2 : ∀ n a k o, p ≠ .sptr n a k o) (h : ArgsRel w cs (p :: r) (v :: s)) : v = p.den cs hid0 ∧ ArgsRel w cs r s := by
  cases p <;> first | exact h | exact absurd rfl (hp _) | exact absurd rfl (hp2 _ _ _ _)
theorem slotA_other {p : SV} (hp2 : ∀ n a k o, p ≠ .sptr n a k o) : slotA p = p := by
  cases p <;> first | rfl | exact absurd rfl (hp2 _ _ _ _)
theorem isLstAt_other {p : SV} {r : List SV} {m : Nat} (hp : ∀ n, p ≠ .lst n) (hp2 : ∀ n a k o, p ≠ .sptr n a k o) : isLstAt m (p :: r) = isLstAt m r := by
  cases p <;> first | rfl | exact absurd rfl (hp _) | exact absurd rfl (hp2 _ _ _ _)
theorem isLstAt_lt {m : Nat} : ∀ {args : List SV} {n k : Nat}, isLstAt m (placeA args n).1 = some k → n ≤ m
  | [], n, k, h => by simp [placeA, isLstAt] at h
  | p :: r, n, k, h => by
    by_cases hl : ∃ id, p = .lst id
    · obtain ⟨id, rfl⟩ := hl
      simp only [placeA, isLstAt] at h
      split at h
      · rename_i hn; rw [nbeq_iff] at hn; omega
      · have := isLstAt_lt (args := r) h; omega
    · by_cases hq : ∃ id a k o, p = .sptr id a k o
      · obtain ⟨id, a, k', o, rfl⟩ := hq
        simp only [placeA, isLstAt] at h
        split at h
        · rename_i hn; rw [nbeq_iff] at hn; omega
        · have := isLstAt_lt (args := r) h; omega
      · rw [placeA_cons (fun id e => hl ⟨id, e⟩) (fun id a k o e => hq ⟨id, a, k, o, e⟩)] at h
        simp only [] at h
        rw [isLstAt_other (place_noLst p n) (place_noSptr p n)] at h
        have := isLstAt_lt (args := r) h
        have := place_le p n
        omega
theorem args_rep {w : World} {cs : Env} : ∀ {args : List SV} {vs : List Value} {n : Nat}, ArgsRel w cs (placeA args n).1 vs →
    (∀ H : Hid, (∀ m, n ≤ m → H.σ m = sigOf (placeA args n).1 vs m) → denL cs H ((placeA args n).1.map slotA) = vs) ∧
    ∀ m k, isLstAt m (placeA args n).1 = some k → RowS w (kS k) (sigOf (placeA args n).1 vs m) (Env.get cs m).list
  | [], [], n, _ => ⟨fun σ _ => rfl, fun m k hm => by cases hm⟩
  | [], _ :: _, n, h => h.elim
  | p :: r, vs, n, h => by
    by_cases hl : ∃ id, p = .lst id
    · obtain ⟨id, rfl⟩ := hl
      simp only [placeA] at h ⊢
      cases vs with
      | nil => exact h.elim
      | cons v s =>
        obtain ⟨h1, h2⟩ := h
        obtain ⟨i1, i2⟩ := args_rep (args := r) (n := n + 1) h2
        refine ⟨fun σ hσ => ?_, fun m k hm => ?_⟩
        · simp only [List.map_cons, slotA, denL, SV.den]
          rw [i1 σ fun m hm => by rw [hσ m (by omega)]; simp only [sigOf]; rw [if_neg (by omega)]]
          have := hσ n (Nat.le_refl _)
          simp only [sigOf, if_true] at this
          simp only [this]
        · simp only [isLstAt] at hm
          split at hm
          · rename_i hn; rw [nbeq_iff] at hn; subst hn
            injection hm with hm; subst hm
            simp only [sigOf, if_true]; exact rowS_one.2 h1
          · rename_i hn
            have hlt := isLstAt_lt hm
            simp only [sigOf]; rw [if_neg (by omega)]; exact i2 m k hm
    · by_cases hq : ∃ id a k o, p = .sptr id a k o
      · obtain ⟨id, a, k0, o, rfl⟩ := hq
        simp only [placeA] at h ⊢
        cases vs with
        | nil => exact h.elim
        | cons v s =>
          obtain ⟨h1, h2⟩ := h
          obtain ⟨i1, i2⟩ := args_rep (args := r) (n := n + 1) h2
          refine ⟨fun σ hσ => ?_, fun m k hm => ?_⟩
          · simp only [List.map_cons, slotA, denL, SV.den]
            rw [i1 σ fun m hm => by rw [hσ m (by omega)]; simp only [sigOf]; rw [if_neg (by omega)]]
            have := hσ n (Nat.le_refl _)
            simp only [sigOf, if_true] at this
            simp only [this]
          · simp only [isLstAt] at hm
            split at hm
            · rename_i hn; rw [nbeq_iff] at hn; subst hn
              injection hm with hm; subst hm
              simp only [sigOf, if_true]; exact h1
            · rename_i hn
              have hlt := isLstAt_lt hm
              simp only [sigOf]; rw [if_neg (by omega)]; exact i2 m k hm
      have hp : ∀ id, p ≠ .lst id := fun id e => hl ⟨id, e⟩
      have hp2 : ∀ id a k o, p ≠ .sptr id a k o := fun id a k o e => hq ⟨id, a, k, o, e⟩
      rw [placeA_cons hp hp2] at h ⊢
      cases vs with
      | nil => cases hpp : (place p n).1 <;> rw [hpp] at h <;> exact h.elim
      | cons v s =>
        obtain ⟨h1, h2⟩ := argsRel_cons (place_noLst p n) (place_noSptr p n) h
        obtain ⟨i1, i2⟩ := args_rep (args := r) (n := (place p n).2) h2
        have hle := place_le p n
        refine ⟨fun σ hσ => ?_, fun m k hm => ?_⟩
        · simp only [List.map_cons, slotA_other (place_noSptr p n), denL]
          rw [i1 σ fun m hm => by rw [hσ m (by omega)]; exact sigOf_other (place_noLst p n) (place_noSptr p n), place_hid, h1]
        · simp only [] at hm
          rw [isLstAt_other (place_noLst p n) (place_noSptr p n)] at hm
          rw [sigOf_other (place_noLst p n) (place_noSptr p n)]
          exact i2 m k hm
theorem viewsOf_get {l : List SV} : ∀ {n i k : Nat} {b : Blk}, (viewsOf l i n)[k]? = some b → (∃ c, b = .view (i + k) c ∧ isLstAt (i + k) l = some c) ∨ b = .dead
  | 0, i, k, b, h => by simp [viewsOf] at h
  | n + 1, i, 0, b, h => by
    simp only [viewsOf, List.getElem?_cons_zero, Option.some.injEq] at h
    split at h
    · rename_i c hc
      exact .inl ⟨c, h.symm, hc⟩
    · exact .inr h.symm
  | n + 1, i, k + 1, b, h => by
    have := viewsOf_get (l := l) (n := n) (i := i + 1) (k := k) (b := b) (by simpa [viewsOf] using h)
    rw [Nat.add_assoc, Nat.add_comm 1 k] at this
    exact this

theorem runFn_sound {w : World} (C : CxW P cx M w) {fuel f : Nat} {fn : Func} {args : List SV} {ivs : List (Option (Int × Int))} (hf : P.funcs[f]? = some fn) {cs : Env} {vs : List Value}
    (hlen : cs.length = (placeA args 0).2) (hivl : ivs.length = cs.length) (hiv : IvsOK ivs cs) (hvs : ArgsRel w cs (placeA args 0).1 vs) (hd : (runFn cx fuel f fn args ivs).den M R RP noF [] cs) :
    Calls P f vs.toArray w fun e w' => match e with
      | .returned v => R v ∧ Below w.heap.size w w'
      | .panicked c => ∃ v, c = panicOf v ∧ RP v ∧ Below w.heap.size w w'
      | .outgrown => False := by
  unfold runFn at hd
  split at hd
  · exact hd.elim
  · rename_i c hbody
    obtain ⟨ar1, ar2⟩ := args_rep hvs
    have hden := ar1 (hidS (sigOf (placeA args 0).1 vs)) (fun _ _ => rfl)
    have hvl : vs.length = (placeA args 0).1.length := by rw [← hden, denL_length, List.length_map]
    refine calls_of_wp hf hbody ?_
    refine (exec_sound (w0 := w) C fuel noF c (start args ivs f fn) cs (hidS (sigOf (placeA args 0).1 vs)) [] _ w _ _ ?_ ?_ hd ?_).wp
    · rintro ch a1 a2 w1 he ⟨h1, h2⟩
      exact ⟨he ▸ h1, h2⟩
    · have hget : ∀ {i : Nat} {b : Blk}, (start args ivs f fn).heap[i]? = some b → (∃ c, b = .view i c ∧ isLstAt i (placeA args 0).1 = some c) ∨ b = .dead := fun {i b} hb => by
        simp only [start] at hb
        split at hb
        · simp at hb
        · have := viewsOf_get hb
          rw [Nat.zero_add] at this
          exact this
      have hnl : ∀ {i : Nat} {b : Blk}, (start args ivs f fn).heap[i]? = some b → b.live = false := fun hb => by
        rcases hget hb with ⟨_, rfl, _⟩ | rfl <;> rfl
      refine ⟨hlen.symm, rfl, by simp only [start]; rw [hivl, hlen], ⟨hiv.1, fun e b hm => (by cases hm), fun e n hm => (by cases hm), hiv.2⟩, ?_, rfl, ⟨fun i b hb => ?_, fun i b hb hl => ?_, fun i j b c hb hc hl => ?_, ?_⟩, .refl _ _⟩
      · simp only [start, Array.toList_append, Array.toList_replicate, denL_append, hden]
        congr 1
        rw [denL_map (l := List.replicate _ _), List.map_replicate, List.size_toArray, hvl]
        rfl
      · rcases hget hb with ⟨_, rfl, _⟩ | rfl <;> trivial
      · rw [hnl hb] at hl; cases hl
      · rw [hnl hb] at hl; cases hl
      · have hno : ∀ {i n : Nat} {e : TypeId}, (start args ivs f fn).heap[i]? = some (.own n e) → False := fun hb => by
          rcases hget hb with ⟨_, h, _⟩ | h <;> cases h
        refine ⟨fun i n e hi => (hno hi).elim, fun i n k hi => ?_, fun i n e j b hi => (hno hi).elim, fun i j n e m e' g hi => (hno hi).elim, fun i n k j b hi _ hj hb => ?_, fun i n k j m e g hi _ hj => (hno hj).elim, fun i n e hi => (hno hi).elim, fun i n k g hi _ hne hg => ?_⟩
        rotate_right 1
        · rcases hget hi with ⟨c, h, hm⟩ | h
          · injection h with h h2; subst h; subst h2
            exact (ar2 _ _ hm).lt hne hg
          · cases h
        · rcases hget hi with ⟨c, h, hm⟩ | h
          · injection h with h h2; subst h; subst h2
            exact ar2 _ _ hm
          · cases h
        · rw [hnl hj] at hb; cases hb
    · intro e S' ρ' h' J' a' w' hl hr hk
      have ret : ((match resultsOf cx S' fn.results.toList with
          | some l => if (oneOr l).plain = true then Tree.ret (oneOr l) else Tree.bad 61
          | none => Tree.bad 62).den M R RP noF J' ρ') → a'.defers = [] ∧ ∃ v, (results fn a'.tmps).run P w' = .ok v w' ∧ R v ∧ Below w.heap.size w w' := by
        intro hk
        split at hk
        · rename_i l hl'
          split at hk
          · rename_i hp
            refine ⟨hr.defers, _, results_sound C.cty hr hl', ?_, hr.below⟩
            rw [plain_den hp]
            exact hk
          · exact hk.elim
        · exact hk.elim
      cases e with
      | normal => exact ret hk
      | ret => exact ret hk
      | panic v =>
        simp only [] at hk
        split at hk
        · rename_i hp
          refine ⟨hr.defers, _, rfl, ?_, hr.below⟩
          rw [plain_den hp]
          exact hk
        · exact hk.elim
      | exit id => exact hk.elim
      | goto l => exact hk.elim

/-! ### functions that set bools through pointers -/
theorem slotA_scopeless : True := trivial
theorem old_rep {B : Nat} {cs : Env} : ∀ {args : List SV} {vs : List Value} {n : Nat}, allOld args = true → OldA B cs (placeA args n).1 vs → vs.length = (placeA args n).1.length →
    ∀ m k, isLstAt m (placeA args n).1 = some k → 1000 ≤ k ∧ ((Env.get cs m).list ≠ [] → ∀ g, (sigOf (placeA args n).1 vs m).ownBlock = some g → g < B)
  | [], vs, n, ha, _, _, m, k, h => by simp [placeA, isLstAt] at h
  | p :: r, vs, n, ha, ho, hl, m, k, h => by
    by_cases hl' : ∃ id, p = .lst id
    · obtain ⟨id, rfl⟩ := hl'
      simp [allOld] at ha
    · by_cases hq : ∃ id a k o, p = .sptr id a k o
      · obtain ⟨id, a, k0, o, rfl⟩ := hq
        simp only [allOld, Bool.and_eq_true, nble_iff] at ha
        simp only [placeA] at ho hl h ⊢
        cases vs with
        | nil => simp at hl
        | cons v s =>
          simp only [OldA] at ho
          simp only [isLstAt] at h
          split at h
          · rename_i hn; rw [nbeq_iff] at hn; subst hn
            injection h with h; subst h
            refine ⟨ha.1, ?_⟩
            simp only [sigOf, if_true]
            exact ho.1 ha.1
          · rename_i hn
            have hlt := isLstAt_lt h
            obtain ⟨g1, g2⟩ := old_rep ha.2 ho.2 (by simpa using hl) m k h
            refine ⟨g1, ?_⟩
            simp only [sigOf]; rw [if_neg (by omega)]; exact g2
      have hp : ∀ id, p ≠ .lst id := fun id e => hl' ⟨id, e⟩
      have hp2 : ∀ id a k o, p ≠ .sptr id a k o := fun id a k o e => hq ⟨id, a, k, o, e⟩
      have ha' : allOld r = true := by cases p <;> first | exact ha | exact absurd rfl (hp _) | exact absurd rfl (hp2 _ _ _ _)
      rw [placeA_cons hp hp2] at ho hl h ⊢
      cases vs with
      | nil => simp at hl
      | cons v s =>
        simp only [] at ho hl h ⊢
        rw [isLstAt_other (place_noLst p n) (place_noSptr p n)] at h
        rw [sigOf_other (place_noLst p n) (place_noSptr p n)]
        have ho' : OldA B cs (placeA r (place p n).2).1 s := by
          have := place_noSptr p n
          cases hpp : (place p n).1 <;> rw [hpp] at ho <;> first | exact ho | exact absurd hpp (this _ _ _ _)
        exact old_rep ha' ho' (by simpa using hl) m k h
theorem capBlks_length {f : Nat} {ptrs : List SV} : ∀ {l : List EfC} {n : Nat}, (capBlks f ptrs l n).length = l.length
  | [], _ => rfl
  | .rd _ _ :: r, n => by simp only [capBlks, List.length_cons, capBlks_length (l := r)]
  | .rw _ :: r, n => by simp only [capBlks, List.length_cons, capBlks_length (l := r)]
  | .self _ :: r, n => by simp only [capBlks, List.length_cons, capBlks_length (l := r)]
theorem get_drop {cs : Env} {n j : Nat} : Env.get (cs.drop n) j = Env.get cs (n + j) := by
  induction n generalizing cs with
  | zero => simp
  | succ n ih =>
    cases cs with
    | nil => simp [Env.get]
    | cons x r => rw [List.drop_succ_cons, ih, show n + 1 + j = (n + j) + 1 by omega]; rfl
theorem capBlks_sound {w : World} {h : Hid} {cs : Env} {f : Nat} {ptrs : List SV} {pv : List Value} (hp : denL cs h ptrs = pv) : ∀ {l : List EfC} {bs : List Nat} {n i : Nat}, CapsW w bs (capVals f pv l (cs.drop n)) → (∀ k b, bs[k]? = some b → h.β (i + k) = b) →
    ∀ k b, (capBlks f ptrs l n)[k]? = some b → BlkOK cs h w (i + k) b ∧ b.live = true
  | [], bs, n, i, hW, hβ, k, b, hb => by simp [capBlks] at hb
  | .rd k0 T :: r, [], n, i, hW, hβ, k, b, hb => hW.elim
  | .rw T :: r, [], n, i, hW, hβ, k, b, hb => hW.elim
  | .self T :: r, [], n, i, hW, hβ, k, b, hb => hW.elim
  | .rd k0 T :: r, b0 :: bs, n, i, hW, hβ, k, b, hb => by
    simp only [capVals, CapsW, List.drop_drop] at hW
    cases k with
    | zero =>
      simp only [capBlks, List.getElem?_cons_zero, Option.some.injEq] at hb; subst hb
      refine ⟨?_, rfl⟩
      have h0 := hβ 0 b0 rfl
      have h1 := hW.1
      rw [get_drop, Nat.add_zero] at h1
      simp only [BlkOK, h0, denL, SV.den, At.den]; exact h1
    | succ k =>
      have := capBlks_sound hp (l := r) (bs := bs) (n := n + 1) (i := i + 1) hW.2 (fun k b hk => by rw [Nat.add_assoc, Nat.add_comm 1 k]; exact hβ (k + 1) b (by simpa using hk)) k b (by simpa [capBlks] using hb)
      rw [Nat.add_assoc, Nat.add_comm 1 k] at this; exact this
  | .rw T :: r, b0 :: bs, n, i, hW, hβ, k, b, hb => by
    simp only [capVals, CapsW, List.drop_drop] at hW
    cases k with
    | zero =>
      simp only [capBlks, List.getElem?_cons_zero, Option.some.injEq] at hb; subst hb
      refine ⟨?_, rfl⟩
      have h0 := hβ 0 b0 rfl
      have h1 := hW.1
      rw [get_drop, Nat.add_zero] at h1
      simp only [BlkOK, h0, denL, SV.den, BE.den]; exact h1
    | succ k =>
      have := capBlks_sound hp (l := r) (bs := bs) (n := n + 1) (i := i + 1) hW.2 (fun k b hk => by rw [Nat.add_assoc, Nat.add_comm 1 k]; exact hβ (k + 1) b (by simpa using hk)) k b (by simpa [capBlks] using hb)
      rw [Nat.add_assoc, Nat.add_comm 1 k] at this; exact this
  | .self T :: r, b0 :: bs, n, i, hW, hβ, k, b, hb => by
    simp only [capVals, CapsW] at hW
    cases k with
    | zero =>
      simp only [capBlks, List.getElem?_cons_zero, Option.some.injEq] at hb; subst hb
      refine ⟨?_, rfl⟩
      have h0 := hβ 0 b0 rfl
      have h1 := hW.1
      simp only [BlkOK, h0, denL, SV.den, hp]; exact h1
    | succ k =>
      have := capBlks_sound hp (l := r) (bs := bs) (n := n) (i := i + 1) hW.2 (fun k b hk => by rw [Nat.add_assoc, Nat.add_comm 1 k]; exact hβ (k + 1) b (by simpa using hk)) k b (by simpa [capBlks] using hb)
      rw [Nat.add_assoc, Nat.add_comm 1 k] at this; exact this
theorem capEnd_cons {f : Nat} {ptrs : List SV} {c : EfC} {r : List EfC} {n : Nat} {blks : List Blk} {bl : List SV} (hc : capEnd f ptrs (c :: r) n blks = some bl) :
    ∃ b s l, blks = b :: s ∧ capEnd f ptrs r (n + c.nv) s = some l ∧ ((capOne f ptrs c n b = some none ∧ bl = l) ∨ ∃ v, capOne f ptrs c n b = some (some v) ∧ bl = v :: l) := by
  cases blks with
  | nil => simp [capEnd] at hc
  | cons b s =>
    simp only [capEnd] at hc
    split at hc
    · rename_i l h1 h2; injection hc with hc; exact ⟨b, s, l, rfl, h2, .inl ⟨h1, hc.symm⟩⟩
    · rename_i v l h1 h2; injection hc with hc; exact ⟨b, s, l, rfl, h2, .inr ⟨v, h1, hc.symm⟩⟩
    · cases hc
theorem capOne_rw {f : Nat} {ptrs : List SV} {T : TypeId} {n : Nat} {b : Blk} {o : Option SV} (h : capOne f ptrs (.rw T) n b = some o) : ∃ e, b = .cells [.bool e] T ∧ o = some (.bool e) := by
  unfold capOne at h
  split at h
  · rename_i he; cases he
  · rename_i he; cases he
  · rename_i T1 n1 e U he
    injection he with he
    subst he
    split at h
    · rename_i hk; rw [nbeq_iff] at hk; subst hk; injection h with h; exact ⟨e, rfl, h.symm⟩
    · cases h
  · cases h
theorem capEnd_plain {f : Nat} {ptrs : List SV} : ∀ {l : List EfC} {n : Nat} {blks : List Blk} {bl : List SV}, capEnd f ptrs l n blks = some bl → plainL bl = true
  | [], n, blks, bl, hc => by simp only [capEnd, Option.some.injEq] at hc; subst hc; rfl
  | c :: r, n, blks, bl, hc => by
    obtain ⟨b, s, l, rfl, h1, h2⟩ := capEnd_cons hc
    have ih := capEnd_plain h1
    rcases h2 with ⟨_, rfl⟩ | ⟨v, h2, rfl⟩
    · exact ih
    · cases c with
      | rd k T => simp only [capOne] at h2; split at h2 <;> cases h2
      | self T => simp only [capOne] at h2; split at h2 <;> cases h2
      | rw T =>
        obtain ⟨e, _, he⟩ := capOne_rw h2
        injection he with he; subst he
        simp only [plainL, SV.plain, Bool.true_and]; exact ih
theorem capEnd_sound {w' : World} {h' : Hid} {ρ' : Env} {f : Nat} {ptrs : List SV} {pv : List Value} (hp : denL ρ' h' ptrs = pv) : ∀ {l : List EfC} {bs : List Nat} {n i : Nat} {blks : List Blk} {bl : List SV} {cs outs : Env}, capEnd f ptrs l n blks = some bl →
    bs.length = l.length → (∀ k b, blks[k]? = some b → BlkOK ρ' h' w' (i + k) b) → (∀ k b, bs[k]? = some b → h'.β (i + k) = b) → (∀ j, j < capVars l → Env.get ρ' (n + j) = Env.get cs j) → denL ρ' h' bl = outs.map (fun c => Value.bool c.bool) → CapsW w' bs (capVals f pv l (capOut l cs outs))
  | [], [], n, i, blks, bl, cs, outs, hc, hl, hb, hβ, hr, ho => trivial
  | [], _ :: _, n, i, blks, bl, cs, outs, hc, hl, hb, hβ, hr, ho => by simp at hl
  | c :: r, [], n, i, blks, bl, cs, outs, hc, hl, hb, hβ, hr, ho => by simp at hl
  | c :: r, b0 :: bs, n, i, blks, bl, cs, outs, hc, hl, hb, hβ, hr, ho => by
    obtain ⟨b, s, l, rfl, h1, h2⟩ := capEnd_cons hc
    have h0 := hβ 0 b0 rfl
    have h5 := hb 0 _ rfl
    rw [Nat.add_zero] at h0 h5
    have tb : ∀ k b, s[k]? = some b → BlkOK ρ' h' w' (i + 1 + k) b := fun k b hk => by rw [Nat.add_assoc, Nat.add_comm 1 k]; exact hb (k + 1) b (by simpa using hk)
    have tβ : ∀ k b, bs[k]? = some b → h'.β (i + 1 + k) = b := fun k b hk => by rw [Nat.add_assoc, Nat.add_comm 1 k]; exact hβ (k + 1) b (by simpa using hk)
    have hl' : bs.length = r.length := by simpa using hl
    cases c with
    | rd k T =>
      have hbb : b = .cells [.int k (.v n)] T ∧ bl = l := by
        rcases h2 with ⟨h3, h4⟩ | ⟨v, h3, _⟩ <;> simp only [capOne] at h3 <;> split at h3
        · rename_i hq; have := heapBeq_eq hq; injection this with this; exact ⟨this, h4⟩
        · cases h3
        · cases h3
        · cases h3
      obtain ⟨rfl, rfl⟩ := hbb
      have hr0 := hr 0 (by simp [capVars])
      rw [Nat.add_zero] at hr0
      simp only [BlkOK, h0, denL, SV.den, At.den, hr0] at h5
      exact ⟨h5, capEnd_sound hp h1 hl' tb tβ (fun j hj => by have := hr (j + 1) (by simp only [capVars]; omega); rw [show n + EfC.nv (.rd k T) + j = n + (j + 1) by simp only [EfC.nv]; omega, this]; cases cs <;> rfl) ho⟩
    | self T =>
      have hbb : b = .cells [.func (.func f) [] ptrs] T ∧ bl = l := by
        rcases h2 with ⟨h3, h4⟩ | ⟨v, h3, _⟩ <;> simp only [capOne] at h3 <;> split at h3
        · rename_i hq; have := heapBeq_eq hq; injection this with this; exact ⟨this, h4⟩
        · cases h3
        · cases h3
        · cases h3
      obtain ⟨rfl, rfl⟩ := hbb
      simp only [BlkOK, h0, denL, SV.den, hp] at h5
      exact ⟨h5, capEnd_sound hp h1 hl' tb tβ (fun j hj => hr j hj) ho⟩
    | rw T =>
      rcases h2 with ⟨h3, _⟩ | ⟨v, h3, rfl⟩
      · obtain ⟨e, _, he⟩ := capOne_rw h3; cases he
      obtain ⟨e, rfl, he⟩ := capOne_rw h3
      injection he with he; subst he
      cases outs with
      | nil => simp [denL] at ho
      | cons o0 outs =>
        simp only [denL, SV.den, List.map_cons, List.cons.injEq, Value.bool.injEq] at ho
        simp only [BlkOK, h0, denL, SV.den, ho.1] at h5
        exact ⟨h5, capEnd_sound hp h1 hl' tb tβ (fun j hj => by have := hr (j + 1) (by simp only [capVars]; omega); rw [show n + EfC.nv (.rw T) + j = n + (j + 1) by simp only [EfC.nv]; omega, this]; cases cs <;> rfl) ho.2⟩
theorem capPtrs_den {ρ : Env} {h : Hid} {l : List EfC} {n : Nat} {bs : List Nat} (hl : bs.length = l.length) (hβ : ∀ k b, bs[k]? = some b → h.β (n + k) = b) : denL ρ h (capPtrs l n) = ptrsOf bs := by
  apply List.ext_getElem?
  intro k
  rw [denL_get]
  unfold capPtrs ptrsOf
  rw [List.getElem?_map, List.getElem?_map]
  by_cases hk : k < l.length
  · rw [List.getElem?_range' hk]
    have hb : bs[k]? = some bs[k] := List.getElem?_eq_getElem (by omega)
    rw [hb]
    simp only [Option.map_some, SV.den, Nat.one_mul, hβ k _ hb]
  · rw [List.getElem?_eq_none (by rw [List.length_range']; omega), List.getElem?_eq_none (by omega)]
    rfl
theorem ef_of_tree (C : CxOK P cx M) {fuel f : Nat} {fn : Func} {t : EfSh} {m : SpecSem} {ivs : List (Option (Int × Int))} {tr : Tree} (hf : P.funcs[f]? = some fn) (hname : (fn.name == "runtime.NumGoroutine") = false) (hbody : fn.body.isNone = false)
    (ht : runEf cx fuel f fn t ivs = tr) (hn : ivs.length = (placeA t.args 0).2 + capVars t.caps)
    (h : ∀ cs, m.pre cs → cs.length = ivs.length ∧ IvsOK ivs cs ∧ Fits (efSh t.caps) (m.out cs) ∧ tr.den M (fun v => v = Value.tuple ((m.out cs).map fun c => Value.bool c.bool).toArray) (fun _ => False) noF [] cs) : EfOK P f t m := by
  intro cs hpre
  obtain ⟨h1, h2, h3, h4⟩ := h cs hpre
  refine ⟨h3, fun vs bs w B hB hvs hold hbl hnd hbB hcw => ⟨?_, ?_⟩⟩
  · simp only [callFunc, Sem.run_bind, program, Sem.run, Result.andThen_ok, hf, hname, hbody, Bool.false_eq_true, if_false]
    rfl
  · rw [← ht] at h4
    unfold runEf at h4
    split at h4
    · exact h4.elim
    rename_i c hbd
    split at h4
    · exact h4.elim
    rename_i hao
    have hao : allOld t.args = true := by simpa using hao
    obtain ⟨ar1, ar2⟩ := args_rep hvs
    let n0 := (placeA t.args 0).2
    let h : Hid := { β := fun i => bs.getD (i - n0) 0, γ := fun _ => undef, κ := fun _ => 0, σ := sigOf (placeA t.args 0).1 vs }
    have hβ : ∀ k b, bs[k]? = some b → h.β (n0 + k) = b := fun k b hk => by
      simp only [h, Nat.add_sub_cancel_left, List.getD_eq_getElem?_getD, hk, Option.getD_some]
    have hden := ar1 h (fun _ _ => rfl)
    have hvl : vs.length = (placeA t.args 0).1.length := by rw [← hden, denL_length, List.length_map]
    have hor := old_rep hao hold hvl
    have hpd : denL cs h (capPtrs t.caps n0) = ptrsOf bs := capPtrs_den hbl hβ
    have hcb := capBlks_sound (f := f) hpd (l := t.caps) (bs := bs) (n := n0) (i := n0) hcw hβ
    let w0 : World := { w with heap := w.heap.extract 0 B }
    have hw0 : w0.heap.size = B := by simp only [w0, Array.size_extract]; omega
    have hbel : Below w0.heap.size w0 w := ⟨rfl, rfl, rfl, by rw [hw0]; exact hB, fun k hk => by
      rw [hw0] at hk
      simp only [w0]
      rw [Array.getElem?_extract]; simp [hk]; omega⟩
    have hvlen : ∀ {l : List SV} {n i : Nat}, (viewsOf l i n).length = n := by
      intro l n
      induction n with
      | zero => intro i; rfl
      | succ n ih => intro i; simp only [viewsOf, List.length_cons, ih]
    have part : ∀ {i : Nat} {b : Blk}, (startEf t ivs f fn).heap[i]? = some b → ((∃ c, b = .view i c ∧ isLstAt i (placeA t.args 0).1 = some c) ∨ b = .dead) ∨ (n0 ≤ i ∧ (capBlks f (capPtrs t.caps n0) t.caps n0)[i - n0]? = some b) := fun {i b} hb => by
      simp only [startEf] at hb
      rw [List.getElem?_append, hvlen] at hb
      split at hb
      · have := viewsOf_get hb
        rw [Nat.zero_add] at this
        exact .inl this
      · rename_i hge; exact .inr ⟨by omega, hb⟩
    have liv : ∀ {i : Nat} {b : Blk}, (startEf t ivs f fn).heap[i]? = some b → b.live = true → n0 ≤ i ∧ ∃ b0, bs[i - n0]? = some b0 ∧ h.β i = b0 := fun {i b} hb hl => by
      rcases part hb with (⟨c, rfl, _⟩ | rfl) | ⟨h1, h2⟩
      · cases hl
      · cases hl
      · have hlt := (List.getElem?_eq_some_iff.1 h2).1
        rw [capBlks_length] at hlt
        have hk : bs[i - n0]? = some bs[i - n0] := List.getElem?_eq_getElem (by omega)
        refine ⟨h1, _, hk, ?_⟩
        have := hβ _ _ hk
        rw [show n0 + (i - n0) = i by omega] at this
        exact this
    have hlt := CapsW.lt hcw
    have r : Rep w0 (startEf t ivs f fn) cs h [] { tmps := (vs ++ ptrsOf bs).toArray ++ (Array.replicate (fn.ntmps - (vs ++ ptrsOf bs).toArray.size) undef), defers := [] } w := by
      refine ⟨by simp only [startEf]; rw [h1, hn], rfl, by simp only [startEf]; rw [hn], ⟨h2.1, fun e b hm => (by cases hm), fun e n hm => (by cases hm), h2.2⟩, ?_, rfl, ⟨fun i b hb => ?_, fun i b hb hl => ?_, fun i j b c hb hc hl hl' he => ?_, ?_⟩, hbel⟩
      · simp only [startEf, Array.toList_append, Array.toList_replicate, denL_append, hden]
        rw [show denL cs h (capPtrs t.caps (placeA t.args 0).2) = ptrsOf bs from hpd]
        congr 1
        rw [denL_map (l := List.replicate _ _), List.map_replicate, List.size_toArray, List.length_append, hvl]
        simp only [ptrsOf, List.length_map, hbl]
        rfl
      · rcases part hb with (⟨c, rfl, _⟩ | rfl) | ⟨g1, g2⟩
        · trivial
        · trivial
        · have := (hcb _ _ g2).1
          rw [show n0 + (i - n0) = i by omega] at this
          exact this
      · obtain ⟨_, b0, q1, q2⟩ := liv hb hl
        rw [q2]
        have hm := List.mem_of_getElem? q1
        refine ⟨?_, hlt b0 hm⟩
        show w0.heap.size ≤ b0
        rw [hw0]; exact hbB b0 hm
      · obtain ⟨p1, b0, q1, q2⟩ := liv hb hl
        obtain ⟨p2, c0, q3, q4⟩ := liv hc hl'
        rw [q2, q4] at he
        subst he
        have e1 := (List.getElem?_eq_some_iff.1 q1)
        have e2 := (List.getElem?_eq_some_iff.1 q3)
        have := (List.getElem_inj hnd (h₀ := e1.1) (h₁ := e2.1)).1 (e1.2.trans e2.2.symm)
        omega
      · have hno : ∀ {i n : Nat} {e : TypeId}, (startEf t ivs f fn).heap[i]? = some (.own n e) → False := fun {i n e} hb => by
          rcases part hb with (⟨c, h, _⟩ | h) | ⟨g1, g2⟩
          · cases h
          · cases h
          · have := (hcb _ _ g2).2; cases this
        have hvw : ∀ {i n k : Nat}, (startEf t ivs f fn).heap[i]? = some (.view n k) → n = i ∧ isLstAt i (placeA t.args 0).1 = some k := fun {i n k} hb => by
          rcases part hb with (⟨c, h, hm⟩ | h) | ⟨g1, g2⟩
          · injection h with h5 h6; subst h5; subst h6; exact ⟨rfl, hm⟩
          · cases h
          · have := (hcb _ _ g2).2; cases this
        refine ⟨fun i n e hi => (hno hi).elim, fun i n k hi => ?_, fun i n e j b hi => (hno hi).elim, fun i j n e m e' g hi => (hno hi).elim, fun i n k j b hi hne hj hb he => ?_, fun i n k j m e g hi _ hj => (hno hj).elim, fun i n e hi => (hno hi).elim, fun i n k g hi _ hne hg => ?_⟩
        · obtain ⟨rfl, hm⟩ := hvw hi
          exact ar2 _ _ hm
        · obtain ⟨rfl, hm⟩ := hvw hi
          obtain ⟨_, b0, q1, q2⟩ := liv hj hb
          have h5 := (hor _ _ hm).2 hne _ he
          have h6 := hbB b0 (List.mem_of_getElem? q1)
          rw [q2] at h5
          omega
        · obtain ⟨rfl, hm⟩ := hvw hi
          show g < w0.heap.size
          rw [hw0]
          exact (hor _ _ hm).2 hne g hg
    have CW : CxW P cx M w0 := ⟨⟨.any, C, trivial⟩⟩
    refine calls_of_wp hf hbd ?_
    refine (exec_sound (w0 := w0) CW fuel noF c (startEf t ivs f fn) cs h [] _ w _ _ ?_ r h4 ?_).wp
    · rintro ch a1 a2 w1 he ⟨h1, h2⟩
      exact ⟨he ▸ h1, h2⟩
    · intro e S' ρ' h' J' a' w' hl hr hk
      have fin : ((match fn.results.toList, capEnd f (capPtrs t.caps (placeA t.args 0).2) t.caps (placeA t.args 0).2 (S'.heap.drop (placeA t.args 0).2) with
          | [], some l => Tree.ret (SV.tup l)
          | _, _ => Tree.bad 153).den M (fun v => v = Value.tuple ((m.out cs).map fun (c : Cv) => Value.bool c.bool).toArray) (fun _ => False) noF J' ρ') → a'.defers = [] ∧ ∃ v, (results fn a'.tmps).run P w' = .ok v w' ∧
            ((Ending.returned v = .returned (.tuple #[])) ∧ BelowE B w w' ∧ CapsW w' bs (capVals f (ptrsOf bs) t.caps (capOut t.caps (cs.drop (placeA t.args 0).2) (m.out cs)))) := by
        intro hk
        split at hk
        · rename_i l hres hce
          have hrs := results_sound CW.cty hr (fn := fn) (vs := []) (by rw [hres]; rfl)
          refine ⟨hr.defers, _, hrs, rfl, ?_, ?_⟩
          · have hb' := hr.below
            refine ⟨hb'.os, hb'.tape, hb'.output, by rw [← hw0]; exact hb'.size, fun k hk => ?_⟩
            rw [hb'.block k (by rw [hw0]; exact hk), ← hbel.block k (by rw [hw0]; exact hk)]
          · have hlt' : ∀ {i b}, (startEf t ivs f fn).heap[i]? = some b → i < (startEf t ivs f fn).nb := fun hb => (List.getElem?_eq_some_iff.1 hb).1
            have hnb : (startEf t ivs f fn).nb = n0 + t.caps.length := by simp only [St.nb, startEf, List.length_append, hvlen, capBlks_length]; rfl
            have hβ' : ∀ k b, bs[k]? = some b → h'.β (n0 + k) = b := fun k b hk => by
              have := (List.getElem?_eq_some_iff.1 hk).1
              rw [hl.ag.β (n0 + k) (by rw [hnb]; omega)]
              exact hβ k b hk
            have hpd' : denL ρ' h' (capPtrs t.caps n0) = ptrsOf bs := capPtrs_den hbl hβ'
            have hov : denL ρ' h' l = (m.out cs).map (fun c => Value.bool c.bool) := by
              have hk' : (SV.tup l).den ρ' hid0 = Value.tuple ((m.out cs).map fun c => Value.bool c.bool).toArray := hk
              have hpl : plainL l = true := capEnd_plain hce
              rw [plainL_den hpl]
              simp only [SV.den, Value.tuple.injEq] at hk'
              exact List.toArray_inj hk'
            refine capEnd_sound (n := n0) (i := n0) hpd' hce hbl (fun k b hb => ?_) hβ' (fun j hj => ?_) hov
            · rw [List.getElem?_drop] at hb
              exact hr.heap.blk _ _ hb
            · rw [get_drop]
              exact hl.ag.env (n0 + j) (by simp only [startEf]; omega)
        · exact hk.elim
      cases e with
      | normal => exact fin hk
      | ret => exact fin hk
      | panic v => exact hk.elim
      | exit id => exact hk.elim
      | goto l => exact hk.elim
/-- a function's contract out of its tree -/
theorem spec_of_tree {W : Cond} (C : CxOK P cx M W) {fuel f : Nat} {fn : Func} {sp : SpecSh} {m : SpecSem} {ivs : List (Option (Int × Int))} {t : Tree} (hf : P.funcs[f]? = some fn) (hname : (fn.name == "runtime.NumGoroutine") = false) (hbody : fn.body.isNone = false)
    (ht : runFn cx fuel f fn sp.args ivs = t) (hn : ivs.length = (placeA sp.args 0).2)
    (h : ∀ cs, m.pre cs → cs.length = ivs.length ∧ IvsOK ivs cs ∧ Fits sp.sh (m.out cs) ∧ t.den M (fun v => v = (place sp.res 0).1.den (m.out cs) hid0) (fun _ => False) noF [] cs) (hw : ∀ w, m.g.G w → W.G w := by exact fun _ h => h) : SpecOK P f sp m := by
  intro cs hpre
  obtain ⟨h1, h2, h3, h4⟩ := h cs hpre
  refine ⟨h3, fun vs w hg hvs => .inr ⟨?_, ?_⟩⟩
  · simp only [callFunc, Sem.run_bind, program, Sem.run, Result.andThen_ok, hf, hname, hbody, Bool.false_eq_true, if_false]
    rfl
  · rw [← ht] at h4
    refine Calls.mono (runFn_sound (w := w) ⟨W, C, hw w hg⟩ hf (h1.trans hn) h1.symm h2 hvs h4) ?_
    intro e w' he
    cases e with
    | returned v => exact ⟨v, rfl, he⟩
    | panicked c => obtain ⟨v, _, hf, _⟩ := he; exact hf.elim
    | outgrown => exact he.elim

theorem spNil {W : Cond} {f : Nat} {sp : SpecSh} (h : find f ([] : List (Nat × SpecSh)) = some sp) : SpecOK P f sp (M f) ∧ ∀ w, W.G w → (M f).g.G w := by cases h
theorem spCons {W : Cond} {g : Nat} {sq : SpecSh} {l : List (Nat × SpecSh)} (h : SpecOK P g sq (M g)) (hl : ∀ f sp, find f l = some sp → SpecOK P f sp (M f) ∧ ∀ w, W.G w → (M f).g.G w) (hs : ∀ w, W.G w → (M g).g.G w := by first | exact fun _ h => h | exact fun _ _ => trivial) : ∀ f sp, find f ((g, sq) :: l) = some sp → SpecOK P f sp (M f) ∧ ∀ w, W.G w → (M f).g.G w := by
  intro f sp hf
  simp only [find] at hf
  split at hf
  · rename_i hg; rw [nbeq_iff] at hg; injection hf with hf; subst hg; subst hf; exact ⟨h, hs⟩
  · exact hl f sp hf
theorem trNil {f : Nat} {t : TrySh} (h : find f ([] : List (Nat × TrySh)) = some t) : TryOK P f t := by cases h
theorem trCons {g : Nat} {sq : TrySh} {l : List (Nat × TrySh)} (h : TryOK P g sq) (hl : ∀ f sp, find f l = some sp → TryOK P f sp) : ∀ f sp, find f ((g, sq) :: l) = some sp → TryOK P f sp := by
  intro f sp hf
  simp only [find] at hf
  split at hf
  · rename_i hg; rw [nbeq_iff] at hg; injection hf with hf; subst hg; subst hf; exact h
  · exact hl f sp hf
theorem metNil {t : Nat} {m : String} {f : Nat} (h : findM t m [] = some f) : MetOK P t m f := by cases h
theorem metCons {u : Nat} {s : String} {g : Nat} {l : List (Nat × String × Nat)} (h : MetOK P u s g) (hl : ∀ t m f, findM t m l = some f → MetOK P t m f) : ∀ t m f, findM t m ((u, s, g) :: l) = some f → MetOK P t m f := by
  intro t m f hf
  simp only [findM] at hf
  split at hf
  · rename_i hc
    simp only [Bool.and_eq_true, nbeq_iff, beq_iff_eq] at hc
    obtain ⟨rfl, rfl⟩ := hc
    injection hf with hf
    exact hf ▸ h
  · exact hl t m f hf
theorem efNil {f : Nat} {t : EfSh} (h : find f ([] : List (Nat × EfSh)) = some t) : EfOK P f t (M f) := by cases h
theorem efCons {g : Nat} {sq : EfSh} {l : List (Nat × EfSh)} (h : EfOK P g sq (M g)) (hl : ∀ f sp, find f l = some sp → EfOK P f sp (M f)) : ∀ f sp, find f ((g, sq) :: l) = some sp → EfOK P f sp (M f) := by
  intro f sp hf
  simp only [find] at hf
  split at hf
  · rename_i hg; rw [nbeq_iff] at hg; injection hf with hf; subst hg; subst hf; exact h
  · exact hl f sp hf
theorem lsNil {W : Cond} {f : Nat} {t : LsSh} (h : find f ([] : List (Nat × LsSh)) = some t) : LsOK P f t (M f) ∧ ∀ w, W.G w → (M f).g.G w := by cases h
theorem lsCons {W : Cond} {g : Nat} {sq : LsSh} {l : List (Nat × LsSh)} (h : LsOK P g sq (M g)) (hl : ∀ f sp, find f l = some sp → LsOK P f sp (M f) ∧ ∀ w, W.G w → (M f).g.G w) (hs : ∀ w, W.G w → (M g).g.G w := by first | exact fun _ h => h | exact fun _ _ => trivial) : ∀ f sp, find f ((g, sq) :: l) = some sp → LsOK P f sp (M f) ∧ ∀ w, W.G w → (M f).g.G w := by
  intro f sp hf
  simp only [find] at hf
  split at hf
  · rename_i hg; rw [nbeq_iff] at hg; injection hf with hf; subst hg; subst hf; exact ⟨h, hs⟩
  · exact hl f sp hf
theorem atNil {f : Nat} {t : AtSh} (h : find f ([] : List (Nat × AtSh)) = some t) : AtOK P f t (M f) := by cases h
theorem atCons {g : Nat} {sq : AtSh} {l : List (Nat × AtSh)} (h : AtOK P g sq (M g)) (hl : ∀ f sp, find f l = some sp → AtOK P f sp (M f)) : ∀ f sp, find f ((g, sq) :: l) = some sp → AtOK P f sp (M f) := by
  intro f sp hf
  simp only [find] at hf
  split at hf
  · rename_i hg; rw [nbeq_iff] at hg; injection hf with hf; subst hg; subst hf; exact h
  · exact hl f sp hf
theorem fnNil {f : Nat} {fn : Func} (h : find f ([] : List (Nat × Func)) = some fn) : P.funcs[f]? = some fn ∧ (fn.name == "runtime.NumGoroutine") = false := by cases h
theorem fnCons {g : Nat} {gn : Func} {l : List (Nat × Func)} (h : P.funcs[g]? = some gn) (hnm : (gn.name == "runtime.NumGoroutine") = false) (hl : ∀ f fn, find f l = some fn → P.funcs[f]? = some fn ∧ (fn.name == "runtime.NumGoroutine") = false) :
    ∀ f fn, find f ((g, gn) :: l) = some fn → P.funcs[f]? = some fn ∧ (fn.name == "runtime.NumGoroutine") = false := by
  intro f fn hf
  simp only [find] at hf
  split at hf
  · rename_i hg; rw [nbeq_iff] at hg; injection hf with hf; subst hg; subst hf; exact ⟨h, hnm⟩
  · exact hl f fn hf
theorem tyNil {t : Nat} {ty : Ty} (h : find t ([] : List (Nat × Ty)) = some ty) : TyOK P t ty := by cases h
theorem tyCons {g : Nat} {gt : Ty} {l : List (Nat × Ty)} (h : TyOK P g gt) (hl : ∀ t ty, find t l = some ty → TyOK P t ty) : ∀ t ty, find t ((g, gt) :: l) = some ty → TyOK P t ty := by
  intro t ty hf
  simp only [find] at hf
  split at hf
  · rename_i hg; rw [nbeq_iff] at hg; injection hf with hf; subst hg; subst hf; exact h
  · exact hl t ty hf
end
end Go.SX
