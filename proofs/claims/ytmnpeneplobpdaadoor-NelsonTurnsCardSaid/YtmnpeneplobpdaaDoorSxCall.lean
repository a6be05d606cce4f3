/-
  The symbolic executor: letting go what nothing leads to; a callee walked in place.
-/
import Derived.Test.YtmnpeneplobpdaaDoorSxOps
namespace Go.SX
open Go Go.RowKit
set_option linter.unusedVariables false
set_option linter.unusedSimpArgs false

section
variable {n0 : Nat} {keep : List Nat}
theorem indexOf_sound {n : Nat} : ∀ {l : List Nat} {i j : Nat}, indexOf n l i = some j → i ≤ j ∧ l[j - i]? = some n
  | [], i, j, h => by cases h
  | x :: r, i, j, h => by
    simp only [indexOf] at h
    split at h
    · rename_i hx
      rw [nbeq_iff] at hx
      injection h with h
      subst h
      exact ⟨Nat.le_refl _, by rw [Nat.sub_self, hx]; rfl⟩
    · have ⟨h1, h2⟩ := indexOf_sound h
      refine ⟨by omega, ?_⟩
      have : j - i = (j - (i + 1)) + 1 := by omega
      rw [this]
      exact h2

/-- where a block of the new numbering was -/
def srcOf (n0 : Nat) (keep : List Nat) (i : Nat) : Nat := if i < n0 then i else keep.getD (i - n0) 0
def Hid.gc (h : Hid) (n0 : Nat) (keep : List Nat) : Hid := { β := fun i => h.β (srcOf n0 keep i), γ := h.γ, κ := fun i => h.κ (srcOf n0 keep i), σ := fun i => h.σ (srcOf n0 keep i) }
theorem newId_src {id i : Nat} (h : newId n0 keep id = some i) : srcOf n0 keep i = id := by
  unfold newId at h
  unfold srcOf
  split at h
  · rename_i hlt
    rw [blt_iff] at hlt
    injection h with h
    subst h
    rw [if_pos hlt]
  · have ⟨h1, h2⟩ := indexOf_sound h
    rw [if_neg (by omega), List.getD_eq_getElem?_getD, h2]
    rfl

mutual
theorem SV.ren_sound {ρ h} : ∀ {v u : SV}, SV.ren n0 keep v = some u → u.den ρ (Hid.gc h n0 keep) = v.den ρ h
  | .ptr id off, u, hr => by
    simp only [SV.ren] at hr
    split at hr
    · rename_i i hi; injection hr with hr; subst hr; simp only [SV.den, Hid.gc, newId_src hi]
    · cases hr
  | .row id d len sz, u, hr => by
    simp only [SV.ren] at hr
    split at hr
    · rename_i i hi; injection hr with hr; subst hr; simp only [SV.den, Hid.gc, newId_src hi]
    · cases hr
  | .map id, u, hr => by
    simp only [SV.ren] at hr
    split at hr
    · rename_i i hi; injection hr with hr; subst hr; simp only [SV.den, Hid.gc, newId_src hi]
    · cases hr
  | .lst id, u, hr => by
    simp only [SV.ren] at hr
    split at hr
    · rename_i i hi; injection hr with hr; subst hr; simp only [SV.den, Hid.gc, newId_src hi]
    · cases hr
  | .lptr id a, u, hr => by
    simp only [SV.ren] at hr
    split at hr
    · rename_i i hi; injection hr with hr; subst hr; simp only [SV.den, Hid.gc, newId_src hi]
    · cases hr
  | .sptr id a k o, u, hr => by
    simp only [SV.ren] at hr
    split at hr
    · rename_i i hi; injection hr with hr; subst hr; simp only [SV.den, Hid.gc, newId_src hi]
    · cases hr
  | .gd g v, u, hr => by
    simp only [SV.ren] at hr
    split at hr
    · rename_i c hc; injection hr with hr; subst hr; simp only [SV.den, SV.ren_sound hc]
    · cases hr
  | .func fn a b, u, hr => by
    simp only [SV.ren] at hr
    split at hr
    · rename_i c d hc hd; injection hr with hr; subst hr; simp only [SV.den, renL_sound hc, renL_sound hd]
    · cases hr
  | .iface t v, u, hr => by
    simp only [SV.ren] at hr
    split at hr
    · rename_i c hc; injection hr with hr; subst hr; simp only [SV.den, SV.ren_sound hc]
    · cases hr
  | .agg cs, u, hr => by
    simp only [SV.ren] at hr
    split at hr
    · rename_i c hc; injection hr with hr; subst hr; simp only [SV.den, renL_sound hc]
    · cases hr
  | .tup cs, u, hr => by
    simp only [SV.ren] at hr
    split at hr
    · rename_i c hc; injection hr with hr; subst hr; simp only [SV.den, renL_sound hc]
    · cases hr
  | .int k a, u, hr => by simp only [SV.ren, Option.some.injEq] at hr; subst hr; rfl
  | .bool e, u, hr => by simp only [SV.ren, Option.some.injEq] at hr; subst hr; rfl
  | .str s, u, hr => by simp only [SV.ren, Option.some.injEq] at hr; subst hr; rfl
  | .gptr g, u, hr => by simp only [SV.ren, Option.some.injEq] at hr; subst hr; rfl
  | .nilp, u, hr => by simp only [SV.ren, Option.some.injEq] at hr; subst hr; rfl
  | .nilRow, u, hr => by simp only [SV.ren, Option.some.injEq] at hr; subst hr; rfl
  | .nilMap, u, hr => by simp only [SV.ren, Option.some.injEq] at hr; subst hr; rfl
  | .nilFunc, u, hr => by simp only [SV.ren, Option.some.injEq] at hr; subst hr; rfl
  | .nilIface, u, hr => by simp only [SV.ren, Option.some.injEq] at hr; subst hr; rfl
  | .junk n, u, hr => by simp only [SV.ren, Option.some.injEq] at hr; subst hr; rfl
theorem renL_sound {ρ h} : ∀ {l m : List SV}, renL n0 keep l = some m → denL ρ (Hid.gc h n0 keep) m = denL ρ h l
  | [], m, hr => by simp only [renL, Option.some.injEq] at hr; subst hr; rfl
  | x :: r, m, hr => by
    simp only [renL] at hr
    split at hr
    · rename_i y l hy hl; injection hr with hr; subst hr; simp only [denL, SV.ren_sound hy, renL_sound hl]
    · cases hr
end
theorem renL_length : ∀ {l m : List SV}, renL n0 keep l = some m → m.length = l.length
  | [], m, hr => by simp only [renL, Option.some.injEq] at hr; subst hr; rfl
  | x :: r, m, hr => by
    simp only [renL] at hr
    split at hr
    · rename_i y l hy hl; injection hr with hr; subst hr; simp only [List.length_cons, renL_length hl]
    · cases hr
theorem renE_sound {ρ h} : ∀ {l m : List (SV × SV)}, renE n0 keep l = some m → m.map (fun p => (p.1.den ρ (Hid.gc h n0 keep), p.2.den ρ (Hid.gc h n0 keep))) = l.map (fun p => (p.1.den ρ h, p.2.den ρ h))
  | [], m, hr => by simp only [renE, Option.some.injEq] at hr; subst hr; rfl
  | (a, b) :: r, m, hr => by
    simp only [renE] at hr
    split at hr
    · rename_i c d l hc hd hl
      injection hr with hr; subst hr
      simp only [List.map_cons, SV.ren_sound hc, SV.ren_sound hd, renE_sound hl]
    · cases hr
theorem renH_get : ∀ {l m : List Blk}, renH n0 keep l = some m → m.length = l.length ∧ ∀ (i : Nat) (c : Blk), m[i]? = some c → ∃ b, l[i]? = some b ∧ b.ren n0 keep = some c
  | [], m, hr => by simp only [renH, Option.some.injEq] at hr; subst hr; exact ⟨rfl, fun i c hc => by simp at hc⟩
  | x :: r, m, hr => by
    simp only [renH] at hr
    split at hr
    · rename_i y l hy hl
      injection hr with hr; subst hr
      have ⟨h1, h2⟩ := renH_get hl
      refine ⟨by simp only [List.length_cons, h1], fun i c hc => ?_⟩
      cases i with
      | zero => simp only [List.getElem?_cons_zero, Option.some.injEq] at hc; subst hc; exact ⟨x, rfl, hy⟩
      | succ i => exact h2 i c (by simpa using hc)
    · cases hr
theorem picked_get {hp : List Blk} : ∀ {k : List Nat} {l : List Blk}, picked hp k = some l → l.length = k.length ∧ ∀ (i : Nat) (b : Blk), l[i]? = some b → ∃ j, k[i]? = some j ∧ hp[j]? = some b
  | [], l, h => by simp only [picked, Option.some.injEq] at h; subst h; exact ⟨rfl, fun i b hb => by simp at hb⟩
  | x :: r, l, h => by
    simp only [picked] at h
    split at h
    · rename_i b l' hb hl
      injection h with h; subst h
      have ⟨h1, h2⟩ := picked_get hl
      refine ⟨by simp only [List.length_cons, h1], fun i c hc => ?_⟩
      cases i with
      | zero => simp only [List.getElem?_cons_zero, Option.some.injEq] at hc; subst hc; exact ⟨x, rfl, hb⟩
      | succ i => exact h2 i c (by simpa using hc)
    · cases h
theorem apartFrom_sound : ∀ {k : List Nat}, apartFrom n0 k = true → (∀ (i x : Nat), k[i]? = some x → n0 ≤ x) ∧ ∀ (i j x : Nat), k[i]? = some x → k[j]? = some x → i = j
  | [], _ => ⟨fun i x h => by simp at h, fun i j x h => by simp at h⟩
  | y :: r, h => by
    simp only [apartFrom, Bool.and_eq_true, nble_iff, Bool.not_eq_true'] at h
    obtain ⟨⟨h1, h2⟩, h3⟩ := h
    have ⟨g1, g2⟩ := apartFrom_sound h3
    have hnot : ∀ (i : Nat), r[i]? = some y → False := fun i hi => by
      have : r.any (Nat.beq y) = true := List.any_eq_true.2 ⟨y, List.mem_of_getElem? hi, Nat.beq_refl y⟩
      rw [h2] at this; cases this
    refine ⟨fun i x hx => ?_, fun i j x hi hj => ?_⟩
    · cases i with
      | zero => simp only [List.getElem?_cons_zero, Option.some.injEq] at hx; omega
      | succ i => exact g1 i x (by simpa using hx)
    · cases i with
      | zero =>
        cases j with
        | zero => rfl
        | succ j => simp only [List.getElem?_cons_zero, Option.some.injEq] at hi; subst hi; exact (hnot j (by simpa using hj)).elim
      | succ i =>
        cases j with
        | zero => simp only [List.getElem?_cons_zero, Option.some.injEq] at hj; subst hj; exact (hnot i (by simpa using hi)).elim
        | succ j => rw [g2 i j x (by simpa using hi) (by simpa using hj)]

theorem Blk.ren_live {b c : Blk} (h : b.ren n0 keep = some c) : c.live = b.live := by
  cases b <;> simp only [Blk.ren] at h
  case cells => split at h <;> first | (injection h with h; subst h; rfl) | cases h
  case row => split at h <;> first | (injection h with h; subst h; rfl) | cases h
  case map => split at h <;> first | (injection h with h; subst h; rfl) | cases h
  case dead => injection h with h; subst h; rfl
  case own => injection h with h; subst h; rfl
  case view => injection h with h; subst h; rfl
theorem Blk.ren_ok {ρ h w} {b c : Blk} {i j : Nat} (hr : b.ren n0 keep = some c) (hs : srcOf n0 keep i = j) (hb : BlkOK ρ h w j b) : BlkOK ρ (Hid.gc h n0 keep) w i c := by
  have hβ : (Hid.gc h n0 keep).β i = h.β j := by simp only [Hid.gc, hs]
  have hκ : (Hid.gc h n0 keep).κ i = h.κ j := by simp only [Hid.gc, hs]
  cases b <;> simp only [Blk.ren] at hr
  case cells cs T =>
    split at hr
    · rename_i l hl; injection hr with hr; subst hr; simp only [BlkOK, hβ, renL_sound hl]; exact hb
    · cases hr
  case row cs T sz =>
    split at hr
    · rename_i l hl; injection hr with hr; subst hr; simp only [BlkOK, hβ, hκ, renL_sound hl, renL_length hl]; exact hb
    · cases hr
  case map es =>
    split at hr
    · rename_i l hl
      injection hr with hr; subst hr
      obtain ⟨E, cl, h1, h2⟩ := hb
      exact ⟨E, cl, by rw [hβ]; exact h1, by rw [h2, renE_sound hl]⟩
    · cases hr
  case dead => injection hr with hr; subst hr; trivial
  case own => injection hr with hr; subst hr; trivial
  case view => injection hr with hr; subst hr; trivial
theorem Blk.ren_own {b : Blk} {n : Nat} {e : TypeId} (h : b.ren n0 keep = some (.own n e)) : b = .own n e := by
  cases b <;> simp only [Blk.ren] at h
  case cells => split at h <;> cases h
  case row => split at h <;> cases h
  case map => split at h <;> cases h
  all_goals (injection h)
theorem Blk.ren_view {b : Blk} {n k : Nat} (h : b.ren n0 keep = some (.view n k)) : b = .view n k := by
  cases b <;> simp only [Blk.ren] at h
  case cells => split at h <;> cases h
  case row => split at h <;> cases h
  case map => split at h <;> cases h
  all_goals (injection h)
end

section
variable {P : Program} {cx : Ctx} {M : Nat → SpecSem} {R RP : Value → Prop} {F : Ex → St → Js → Env → Prop} {w0 : World}

theorem gc_sound {n0 : Nat} {ρ h B w} {hp hp' : List Blk} {vs vs' : List SV} (H : HeapOK ρ h B hp w) (hg : gc n0 hp vs = some (hp', vs')) :
    ∃ h' : Hid, (∀ i, i < n0 → h'.β i = h.β i) ∧ (∀ i, i < n0 → h'.κ i = h.κ i) ∧ (∀ i, i < n0 → h'.σ i = h.σ i) ∧ h'.γ = h.γ ∧ HeapOK ρ h' B hp' w ∧ denL ρ h' vs' = denL ρ h vs ∧ n0 ≤ hp'.length := by
  unfold gc at hg
  simp only [] at hg
  generalize closeIds n0 hp 1000 0 (idsH n0 (hp.take n0) (idsL n0 vs [])) = k1 at hg
  split at hg
  · rename_i hc
    simp only [Bool.and_eq_true, nble_iff] at hc
    obtain ⟨hap, hle⟩ := hc
    split at hg
    · rename_i l hl
      split at hg
      · rename_i h1 v1 hrh hrl
        injection hg with hg
        injection hg with hg1 hg2
        subst hg1; subst hg2
        have ⟨a1, a2⟩ := apartFrom_sound hap
        have ⟨p1, p2⟩ := picked_get hl
        have ⟨q1, q2⟩ := renH_get hrh
        have hlen : (hp.take n0).length = n0 := by rw [List.length_take]; omega
        -- each new block is an old one
        have src : ∀ (i : Nat) (c : Blk), h1[i]? = some c → ∃ b j, hp[j]? = some b ∧ b.ren n0 k1 = some c ∧ srcOf n0 k1 i = j ∧ (n0 ≤ i → k1[i - n0]? = some j) ∧ (i < n0 → j = i) := fun i c hci => by
          obtain ⟨b, hb, hrn⟩ := q2 i c hci
          by_cases hi : i < n0
          · rw [List.getElem?_append_left (by omega), List.getElem?_take_of_lt hi] at hb
            exact ⟨b, i, hb, hrn, by unfold srcOf; rw [if_pos hi], fun h => by omega, fun _ => rfl⟩
          · rw [List.getElem?_append_right (by omega), hlen] at hb
            obtain ⟨j, hj, hpj⟩ := p2 _ _ hb
            exact ⟨b, j, hpj, hrn, by unfold srcOf; rw [if_neg hi, List.getD_eq_getElem?_getD, hj]; rfl, fun _ => hj, fun h => by omega⟩
        refine ⟨Hid.gc h n0 k1, fun i hi => by simp only [Hid.gc, srcOf, if_pos hi], fun i hi => by simp only [Hid.gc, srcOf, if_pos hi], fun i hi => by simp only [Hid.gc, srcOf, if_pos hi], rfl, ⟨fun i c hci => ?_, fun i c hci hlv => ?_, fun i j c d hci hdj hlv hlv' he => ?_, ?_⟩, renL_sound hrl, ?_⟩
        · obtain ⟨b, j, hb, hrn, hs, _, _⟩ := src i c hci
          exact Blk.ren_ok hrn hs (H.blk j b hb)
        · obtain ⟨b, j, hb, hrn, hs, _, _⟩ := src i c hci
          have := H.own j b hb (by rw [← Blk.ren_live hrn]; exact hlv)
          simp only [Hid.gc, hs]
          exact this
        · obtain ⟨b, m, hb, hrn, hs, hk1, hk2⟩ := src i c hci
          obtain ⟨b', m', hb', hrn', hs', hk1', hk2'⟩ := src j d hdj
          simp only [Hid.gc, hs, hs'] at he
          have hm := H.inj m m' b b' hb hb' (by rw [← Blk.ren_live hrn]; exact hlv) (by rw [← Blk.ren_live hrn']; exact hlv') he
          subst hm
          by_cases hi : i < n0
          · by_cases hj : j < n0
            · rw [← hk2 hi, ← hk2' hj]
            · have g1 := a1 _ _ (hk1' (by omega)); have g2 := hk2 hi; omega
          · by_cases hj : j < n0
            · have g1 := a1 _ _ (hk1 (by omega)); have g2 := hk2' hj; omega
            · have := a2 _ _ _ (hk1 (by omega)) (hk1' (by omega)); omega
        · refine H.lists.map (srcOf n0 k1) (fun i n e hi => ?_) (fun i n k hi => ?_) (fun j c hj hcl => ?_) (fun i j n e m e' hi hj he => ?_) (fun _ _ => rfl)
          · obtain ⟨b, j, hb, hrn, hs, _, _⟩ := src i _ hi
            have := Blk.ren_own hrn; subst this
            exact ⟨n, by rw [hs]; exact hb, rfl, rfl⟩
          · obtain ⟨b, j, hb, hrn, hs, _, _⟩ := src i _ hi
            have := Blk.ren_view hrn; subst this
            exact ⟨⟨n, by rw [hs]; exact hb, rfl⟩, rfl⟩
          · obtain ⟨b, i, hb, hrn, hs, _, _⟩ := src j c hj
            exact ⟨b, by rw [hs]; exact hb, by rw [← Blk.ren_live hrn]; exact hcl, rfl⟩
          · obtain ⟨b, m1, hb, hrn, hs, hk1, hk2⟩ := src i _ hi
            obtain ⟨b', m2, hb', hrn', hs', hk1', hk2'⟩ := src j _ hj
            rw [hs, hs'] at he
            subst he
            by_cases hi : i < n0
            · by_cases hj : j < n0
              · rw [← hk2 hi, ← hk2' hj]
              · have g1 := a1 _ _ (hk1' (by omega)); have g2 := hk2 hi; omega
            · by_cases hj : j < n0
              · have g1 := a1 _ _ (hk1 (by omega)); have g2 := hk2' hj; omega
              · have := a2 _ _ _ (hk1 (by omega)) (hk1' (by omega)); omega
        · rw [q1, List.length_append, hlen]; omega
      · cases hg
    · cases hg
  · cases hg

theorem results_mapM (C : CxTy P cx) {S : St} {ρ h J a w} (r : Rep w0 S ρ h J a w) : ∀ {l : List ResultVar} {vs : List SV}, resultsOf cx S l = some vs →
    (l.mapM (fun rv => match rv with | .tmp t => pure (a.tmps.getD t undef) | .cell b t => do loadVar t (← asAddr (a.tmps.getD b undef)) : ResultVar → Sem Value)).run P w = .ok (denL ρ h vs) w
  | [], vs, hr => by simp only [resultsOf, Option.some.injEq] at hr; subst hr; rfl
  | .tmp t :: rest, vs, hr => by
    simp only [resultsOf] at hr
    split at hr
    · rename_i v l hv hl
      injection hr with hr; subst hr
      have ih := results_mapM C r hl
      have hsl := slot_sound r.slots t
      rw [hv] at hsl
      rw [List.mapM_cons]
      simp only [pure] at ih ⊢
      simp only [Sem.run_bind, Sem.run, Array.getD_eq_getD_getElem?, hsl, Option.map_some, Option.getD_some, Result.andThen_ok] at ih ⊢
      simp only [ih, Result.andThen_ok, denL]
    · cases hr
  | .cell b T :: rest, vs, hr => by
    simp only [resultsOf] at hr
    split at hr
    · rename_i id off l hv hl
      split at hr
      · rename_i bl hbl
        split at hr
        · rename_i cs hcs
          split at hr
          · rename_i v hrd
            injection hr with hr; subst hr
            have ih := results_mapM C r hl
            have hsl := slot_sound r.slots b
            rw [hv] at hsl
            obtain ⟨rest', E, hblk⟩ := r.heap.cells hbl hcs
            have hlv := run_loadVar' (P := P) C hblk hrd
            rw [List.mapM_cons]
            simp only [pure] at ih ⊢
            simp only [Sem.run_bind, Sem.run, Array.getD_eq_getD_getElem?, hsl, Option.map_some, Option.getD_some, Result.andThen_ok, SV.den, asAddr, hlv, pure] at ih ⊢
            simp only [ih, Result.andThen_ok, denL]
          · cases hr
        · cases hr
      · cases hr
    · cases hr
theorem oneOr_den {ρ h} (vs : List SV) : (oneOr vs).den ρ h = (if h' : (denL ρ h vs).toArray.size = 1 then (denL ρ h vs).toArray[0] else .tuple (denL ρ h vs).toArray) := by
  match vs with
  | [] => rfl
  | [v] => rfl
  | v :: u :: r => rw [dif_neg (show ¬ (denL ρ h (v :: u :: r)).toArray.size = 1 from by rw [List.size_toArray, denL_length, List.length_cons, List.length_cons]; omega)]; rfl
theorem results_sound (C : CxTy P cx) {S : St} {ρ h J a w} (r : Rep w0 S ρ h J a w) {fn : Func} {vs : List SV} (hr : resultsOf cx S fn.results.toList = some vs) :
    (results fn a.tmps).run P w = .ok ((oneOr vs).den ρ h) w := by
  unfold results
  have h1 := results_mapM (P := P) C r hr
  have h2 : (fn.results.mapM (fun rv => match rv with | .tmp t => pure (a.tmps.getD t undef) | .cell b t => do loadVar t (← asAddr (a.tmps.getD b undef)) : ResultVar → Sem Value)).run P w = .ok (denL ρ h vs).toArray w := by
    rw [Array.mapM_eq_mapM_toList]
    simp only [Sem.run_map]
    rw [h1]
    rfl
  rw [oneOr_den]
  simp only [Sem.run_bind]
  exact (congrArg (fun r => Result.andThen r (fun (vs : Array Value) w' => Sem.run P (pure (if h : vs.size = 1 then vs[0] else Value.tuple vs)) w')) h2).trans rfl

/-- the walk of code is right: what is to be shown -/
def ExecOK (P : Program) (M : Nat → SpecSem) (R RP : Value → Prop) (w0 : World) (ex : Code → St → (Ex → St → Tree) → Tree) : Prop :=
  ∀ (F : Ex → St → Js → Env → Prop) (c : Code) (S : St) ρ h J a w K (Q : Exit → Act → World → Prop), (∀ ch a a' w, a.defers = a'.defers → Q (.panic ch) a w → Q (.panic ch) a' w) →
    Rep w0 S ρ h J a w → (ex c S K).den M R RP F J ρ → KOK M R RP F w0 Q S ρ h J K → c.wp P Q a w

theorem callFn0_sound (C : CxW P cx M w0) {ex : Code → St → (Ex → St → Tree) → Tree} (E : ExecOK P M R RP w0 ex) (F : Ex → St → Js → Env → Prop) : CallhOK P M R RP F w0 (callFn0 cx ex) := by
  intro f args S ρ h J a w K N PN r hd hK
  unfold callFn0 at hd
  split at hd
  · rename_i fn hfn
    obtain ⟨hP, hname⟩ := C.fn _ _ hfn
    split at hd
    · rename_i c hbody
      split at hd
      · rename_i hsc
        refine ⟨?_, ?_⟩
        · simp only [callFunc, Sem.run_bind, program, Sem.run, Result.andThen_ok, hP, hname, hbody, Bool.false_eq_true, if_false, Option.isNone_some]
          rfl
        · refine calls_of_wp hP hbody (E F c _ ρ h J _ w _ _ ?_ ?_ hd ?_)
          · rintro ch a1 a2 w1 he ⟨h1, h2⟩
            exact ⟨he ▸ h1, h2⟩
          · refine ⟨r.nv, r.lv, r.ivl, ⟨r.fok.iv, r.fok.facts, r.fok.defs, r.fok.lst⟩, ?_, rfl, r.heap, r.below⟩
            simp only [Array.toList_append, Array.toList_replicate, denL_append, List.size_toArray, denL_length]
            congr 1
            rw [denL_map, List.map_replicate]
            rfl
          · intro e S' ρ' h' J' a' w' hl hr hk
            have hnb : S.nb = ({ S with fid := f, slots := args ++ List.replicate (fn.ntmps - args.length) (.tup []) } : St).nb := rfl
            -- the state behind the call
            have back : ∀ {hp : List Blk} {vs vs' : List SV}, gc S.nb S'.heap vs = some (hp, vs') → ∃ h2 : Hid, denL ρ' h2 vs' = denL ρ' h' vs ∧
                Rep w0 { S' with fid := S.fid, slots := S.slots, heap := hp } ρ' h2 J' a w' ∧ Later S { S' with fid := S.fid, slots := S.slots, heap := hp } ρ h J ρ' h2 J' := by
              intro hp vs vs' hg
              obtain ⟨h2, g1, g2, g2s, g3, g4, g5, g6⟩ := gc_sound hr.heap hg
              have A : Agree S.nv S.nb S.nj ρ h ρ' h2 := ⟨hl.ag.env, fun i hi => (g1 i hi).trans (hl.ag.β i hi), fun i hi => (g2 i hi).trans (hl.ag.κ i hi), fun i hi => by rw [g3]; exact hl.ag.γ i hi, fun i hi => (g2s i hi).trans (hl.ag.σ i hi)⟩
              refine ⟨h2, g5, ⟨hr.nv, hr.lv, hr.ivl, ⟨hr.fok.iv, hr.fok.facts, hr.fok.defs, hr.fok.lst⟩, (r.grow hsc A).1, r.defers, g4, hr.below⟩, ⟨A, hl.nv, g6, hl.nj, rfl, hl.J⟩⟩
            have ret : ∀ vs, resultsOf cx S' fn.results.toList = some vs → ((match gc S.nb S'.heap [oneOr vs] with
                | some (hp, [v]) => K (.val v) { S' with fid := S.fid, slots := S.slots, heap := hp }
                | _ => Tree.bad 71).den M R RP F J' ρ') → a'.defers = [] ∧ ∃ v, (results fn a'.tmps).run P w' = .ok v w' ∧ N v w' := by
              intro vs hvs hk
              split at hk
              · rename_i hp v hg
                obtain ⟨h2, g1, g2, g3⟩ := back hg
                have := hK _ _ _ _ _ _ g3 g2 rfl hk
                simp only [] at this
                simp only [denL, List.cons.injEq, and_true] at g1
                rw [g1] at this
                exact ⟨hr.defers, _, results_sound C.cty hr hvs, this⟩
              · exact hk.elim
            cases e with
            | normal =>
              simp only [] at hk
              split at hk
              · rename_i vs hvs; exact ret vs hvs hk
              · exact hk.elim
            | ret =>
              simp only [] at hk
              split at hk
              · rename_i vs hvs; exact ret vs hvs hk
              · exact hk.elim
            | panic v =>
              simp only [] at hk
              split at hk
              · rename_i hp v' hg
                obtain ⟨h2, g1, g2, g3⟩ := back hg
                have := hK _ _ _ _ _ _ g3 g2 rfl hk
                simp only [] at this
                simp only [denL, List.cons.injEq, and_true] at g1
                rw [g1] at this
                exact ⟨hr.defers, _, rfl, this⟩
              · exact hk.elim
            | exit id => exact hk.elim
            | goto l => exact hk.elim
      · exact hd.elim
    · exact hd.elim
  · exact hd.elim

mutual
theorem plain_den' {ρ : Env} {h : Hid} : ∀ {v : SV}, v.plain = true → v.scoped 0 0 0 = true → v.den ρ h = v.den [] hid0
  | .int k a, _, hs => by
    cases a with
    | v n => simp [SV.scoped, At.scoped, Nat.blt] at hs
    | z n => rfl
  | .bool e, _, hs => by
    have := BE.den_agree (nv := 0) (ρ := []) (ρ' := ρ) (fun i hi => by omega) (e := e) (by simpa [SV.scoped] using hs)
    simp only [SV.den, this]
  | .str _, _, _ | .gptr _, _, _ | .nilp, _, _ | .nilRow, _, _ | .nilMap, _, _ | .nilFunc, _, _ | .nilIface, _, _ => rfl
  | .iface t v, hp, hs => by simp only [SV.plain] at hp; simp only [SV.scoped] at hs; simp only [SV.den, plain_den' hp hs]
  | .agg cs, hp, hs => by simp only [SV.plain] at hp; simp only [SV.scoped] at hs; simp only [SV.den, plainL_den' hp hs]
  | .tup cs, hp, hs => by simp only [SV.plain] at hp; simp only [SV.scoped] at hs; simp only [SV.den, plainL_den' hp hs]
  | .func (.func f) a b, hp, hs => by simp only [SV.plain, Bool.and_eq_true] at hp; simp only [SV.scoped, Bool.and_eq_true] at hs; simp only [SV.den, plainL_den' hp.1 hs.1, plainL_den' hp.2 hs.2]
theorem plainL_den' {ρ : Env} {h : Hid} : ∀ {l : List SV}, plainL l = true → scopedL 0 0 0 l = true → denL ρ h l = denL [] hid0 l
  | [], _, _ => rfl
  | x :: r, hp, hs => by simp only [plainL, Bool.and_eq_true] at hp; simp only [scopedL, Bool.and_eq_true] at hs; simp only [denL, plain_den' hp.1 hs.1, plainL_den' hp.2 hs.2]
end

theorem isLive_live {b : Blk} : b.isLive = b.live := by cases b <;> rfl
theorem liveSub_get : ∀ {l m : List Blk}, liveSub l m = true → l.length = m.length ∧ (∀ (i : Nat) (b : Blk), m[i]? = some b → b.live = true → ∃ c, l[i]? = some c ∧ c.live = true) ∧ ∀ (i : Nat) (b : Blk), m[i]? = some b → b.isLst = false
  | [], [], _ => ⟨rfl, fun i b hb => by simp at hb, fun i b hb => by simp at hb⟩
  | x :: r, [], h => by simp [liveSub] at h
  | [], y :: s, h => by simp [liveSub] at h
  | x :: r, y :: s, h => by
    simp only [liveSub, Bool.and_eq_true, Bool.or_eq_true, Bool.not_eq_true', isLive_live] at h
    obtain ⟨⟨h1, h2⟩, h3⟩ := h
    have ⟨g1, g2, g3⟩ := liveSub_get h3
    refine ⟨by simp only [List.length_cons, g1], fun i b hb hl => ?_, fun i b hb => ?_⟩
    · cases i with
      | zero =>
        simp only [List.getElem?_cons_zero, Option.some.injEq] at hb; subst hb
        refine ⟨x, rfl, ?_⟩
        rcases h1 with h1 | h1
        · exact h1
        · rw [hl] at h1; cases h1
      | succ i => exact g2 i b (by simpa using hb) hl
    · cases i with
      | zero => simp only [List.getElem?_cons_zero, Option.some.injEq] at hb; subst hb; exact h2
      | succ i => exact g3 i b (by simpa using hb)
theorem ListsOK.none {ρ h B w} {hp : List Blk} (hn : ∀ (i : Nat) (b : Blk), hp[i]? = some b → b.isLst = false) : ListsOK ρ h B hp w :=
  ⟨fun i n e hi => (by have := hn i _ hi; cases this), fun i n k hi => (by have := hn i _ hi; cases this), fun i n e j b hi => (by have := hn i _ hi; cases this), fun i j n e m e' g hi => (by have := hn i _ hi; cases this), fun i n k j b hi => (by have := hn i _ hi; cases this), fun i n k j m e g hi => (by have := hn i _ hi; cases this), fun i n e hi => (by have := hn i _ hi; cases this), fun i n k g hi => (by have := hn i _ hi; cases this)⟩

theorem callTry_sound (C : CxW P cx M w0) {ex : Code → St → (Ex → St → Tree) → Tree} (E : ExecOK P M R RP w0 ex) (F : Ex → St → Js → Env → Prop) {f : Nat} {t : TrySh} (ht : find f cx.trys = some t) (hz : t.zero.plain = true) (hz2 : t.zero.scoped 0 0 0 = true)
    {args : List SV} {S : St} {ρ h J a w} {K : OR → St → Tree} {N PN : Value → World → Prop} (r : Rep w0 S ρ h J a w) (hd : (callTry cx ex t args S K).den M R RP F J ρ)
    (hK : KRok M R RP F w0 S ρ h J a K (fun ρ' h' w' r => match r with | .val v => N (v.den ρ' h') w' | .pan v => PN (v.den ρ' h') w' | .skip => True)) :
    (callFunc f (denL ρ h args).toArray).run P w = .ok (.enter f (denL ρ h args).toArray) w ∧
      Calls P f (denL ρ h args).toArray w fun e w' => match e with | .returned v => N v w' | .panicked c => ∃ v, c = panicOf v ∧ PN v w' | .outgrown => False := by
  unfold callTry at hd
  split at hd
  · rename_i n first cap
    split at hd
    · rename_i hsc
      simp only [Bool.and_eq_true] at hsc
      obtain ⟨⟨⟨hsc, hz3⟩, ha1⟩, ha2⟩ := hsc
      have hargs := And.intro ha1 ha2
      clear ha1 ha2
      have hcl : denL ρ h t.cells0 = denL [] hid0 t.cells0 := denL_agree (nv := 0) (nb := 0) (nj := 0) (ρ := []) (h := hid0) ⟨fun _ hi => by omega, fun _ hi => by omega, fun _ hi => by omega, fun _ hi => by omega, fun _ hi => by omega⟩ _ hz3
      have hd0 : ∀ (ρ' : Env) (h' : Hid), denL ρ' h' t.cells0 = denL [] hid0 t.cells0 := fun ρ' h' => denL_agree (nv := 0) (nb := 0) (nj := 0) (ρ := []) (h := hid0) ⟨fun _ hi => by omega, fun _ hi => by omega, fun _ hi => by omega, fun _ hi => by omega, fun _ hi => by omega⟩ _ hz3
      obtain ⟨r1, l1⟩ := r.newBlk hsc (b := .cells t.cells0 t.t1) rfl (o := .cells (denL [] hid0 t.cells0).toArray t.t1) (fun w' hw' => by
        simp only [BlkOK, add_at, hd0]; exact hw')
      have hsc1 : (S.newBlk (.cells t.cells0 t.t1)).scoped = true := by
        obtain ⟨s1, s2, s3, s4⟩ := scoped_parts hsc
        have hz4 : scopedL S.nv (S.nb + 1) S.nj t.cells0 = true := scopedL_mono hz3 (by omega) (by omega) (by omega)
        simp only [St.scoped, St.newBlk, St.nb, Bool.and_eq_true, List.length_append, List.length_cons, List.length_nil]
        refine ⟨⟨⟨scopedL_mono s1 (Nat.le_refl _) (Nat.le_succ _) (Nat.le_refl _), heapScoped_of' fun i b hb => ?_⟩, s3⟩, s4⟩
        rw [List.getElem?_append] at hb
        split at hb
        · exact Blk.scoped_mono (heapScoped_get s2 i b hb) (Nat.le_refl _) (Nat.le_succ _) (Nat.le_refl _)
        · rename_i hge
          have hlt := (List.getElem?_eq_some_iff.1 hb).1
          simp at hlt
          have : i - S.heap.length = 0 := by omega
          rw [this, List.getElem?_cons_zero] at hb
          injection hb with hb; subst hb
          exact hz4
      obtain ⟨r2, l2⟩ := r1.newBlk hsc1 (b := .cells [.int t.k (.z 0)] t.t2) rfl (o := .cells #[.int t.k 0] t.t2) (fun w' hw' => by
        simp only [BlkOK, add_at]; exact hw')
      have l12 := l1.trans l2
      have hT := C.tr f t ht n (denL ρ h first) (denL ρ h cap) w _ N rfl ?_
      · refine ⟨hT.1, Calls.mono hT.2 fun e w' he => ?_⟩
        cases e with
        | returned v => exact he
        | panicked c => exact he.elim
        | outgrown => exact he.elim
      · have hfc : denL ρ (Hid.add (Hid.add h S.nb w.heap.size) (S.newBlk (.cells t.cells0 t.t1)).nb (w.alloc (.cells (denL [] hid0 t.cells0).toArray t.t1)).heap.size) (first ++ cap) = denL ρ h first ++ denL ρ h cap := by
          obtain ⟨s1, s2, s3, s4⟩ := scoped_parts hsc
          rw [denL_append]
          congr 1 <;> exact denL_agree l12.ag _ (by first | exact hargs.1 | exact hargs.2)
        have key := callFn0_sound C E F n (first ++ cap) _ ρ _ J a _ _ (fun v w2 => (w2.heap[w.heap.size]? = some (.cells (denL [] hid0 t.cells0).toArray t.t1 (0, 0)) ∧ w2.heap[w.heap.size + 1]? = some (.cells #[.int t.k 0] t.t2 (0, 0))) ∧ (∃ cs, v = (place t.res 0).1.den cs hid0) ∧ ∀ w3, Below w.heap.size w2 w3 → N (.tuple #[v, .int t.k 0]) w3)
          (fun v w2 => (w2.heap[w.heap.size]? = some (.cells (denL [] hid0 t.cells0).toArray t.t1 (0, 0)) ∧ w2.heap[w.heap.size + 1]? = some (.cells #[.int t.k 0] t.t2 (0, 0))) ∧ ∃ x, v = .iface t.tid x ∧ match t.bad with
            | some b => x = .agg #[] ∧ ∀ w3, Below w.heap.size w2 w3 → N (.tuple #[t.zero.den [] hid0, .int t.k b]) w3
            | none => ∃ z, x = .agg #[.int t.k z] ∧ ∀ w3, Below w.heap.size w2 w3 → N (.tuple #[t.zero.den [] hid0, .int t.k z]) w3) r2 hd ?_
        · rw [hfc] at key
          refine ⟨key.1, Calls.mono key.2 fun e w' he => ?_⟩
          cases e with
          | returned v => exact he
          | panicked c => obtain ⟨v, rfl, hb, x, rfl, hx⟩ := he; exact ⟨hb, x, rfl, hx⟩
          | outgrown => exact he.elim
        · intro rr S' ρ' h' J' w2 hl hr hsl hk
          have hl0 := l12.trans hl
          simp only [] at hk
          split at hk
          case h_2 => exact hk.elim
          rename_i c1 U1 c2 U2 hdrop
          split at hk
          case isFalse => exact hk.elim
          rename_i hls
          simp only [Bool.and_eq_true, nbeq_iff] at hls
          obtain ⟨⟨⟨⟨e1, e2⟩, e3⟩, e4⟩, hls⟩ := hls
          have e1 := SV.beqL_eq e1
          have e3 := SV.beqL_eq e3
          subst e1; subst e2; subst e3; subst e4
          obtain ⟨g1, g2, g3⟩ := liveSub_get hls
          have hnb2 : S.nb ≤ S'.heap.length := by
            rw [List.length_take] at g1; unfold St.nb at *; omega
          have hat : ∀ k, (S'.heap.drop S.nb)[k]? = S'.heap[S.nb + k]? := fun k => List.getElem?_drop
          have ha0 : S'.heap[S.nb]? = some (.cells t.cells0 t.t1) := by have := hat 0; rw [hdrop] at this; exact this.symm
          have ha1 : S'.heap[S.nb + 1]? = some (.cells [.int t.k (.z 0)] t.t2) := by have := hat 1; rw [hdrop] at this; exact this.symm
          have nb1 : (S.newBlk (.cells t.cells0 t.t1)).nb = S.nb + 1 := by simp [St.newBlk, St.nb]
          have nb2 : ((S.newBlk (.cells t.cells0 t.t1)).newBlk (.cells [.int t.k (.z 0)] t.t2)).nb = S.nb + 2 := by simp [St.newBlk, St.nb]
          have b0 : h'.β S.nb = w.heap.size := by
            rw [hl.ag.β _ (by rw [nb2]; omega)]
            simp only [Hid.add, nb1]
            rw [if_neg (by omega)]; simp
          have b1 : h'.β (S.nb + 1) = w.heap.size + 1 := by
            rw [hl.ag.β _ (by rw [nb2]; omega)]
            simp only [Hid.add, nb1, if_true, World.size_alloc]
          have cell0 : w2.heap[w.heap.size]? = some (.cells (denL [] hid0 t.cells0).toArray t.t1 (0, 0)) := by
            have := hr.heap.blk _ _ ha0
            simp only [BlkOK, b0, hd0] at this; exact this
          have cell1 : w2.heap[w.heap.size + 1]? = some (.cells #[.int t.k 0] t.t2 (0, 0)) := by
            have := hr.heap.blk _ _ ha1
            simp only [BlkOK, b1] at this; exact this
          have back : ∀ w3, Below w.heap.size w2 w3 → Rep w0 { S' with heap := S'.heap.take S.nb } ρ' h' J' a w3 ∧ Later S { S' with heap := S'.heap.take S.nb } ρ h J ρ' h' J' := fun w3 hb3 => by
            have sub : ∀ {i : Nat} {b : Blk}, (S'.heap.take S.nb)[i]? = some b → S'.heap[i]? = some b ∧ i < S.nb := fun {i b} hb => by
              rw [List.getElem?_take] at hb
              split at hb
              · rename_i hi; exact ⟨hb, hi⟩
              · cases hb
            have blk : ∀ i b, (S'.heap.take S.nb)[i]? = some b → b.live = true → w3.heap[h'.β i]? = w2.heap[h'.β i]? := fun i b hb hlv => by
              obtain ⟨c, hc, hcl⟩ := g2 i b hb hlv
              have hlt := (r.heap.own i c hc hcl).2
              have hi := (List.getElem?_eq_some_iff.1 hc).1
              rw [hl0.ag.β i hi]
              exact hb3.block _ hlt
            refine ⟨⟨hr.nv, hr.lv, hr.ivl, ⟨hr.fok.iv, hr.fok.facts, hr.fok.defs, hr.fok.lst⟩, hr.slots, hr.defers, ⟨fun i b hb => (hr.heap.blk i b (sub hb).1).world fun hlv => blk i b hb hlv, fun i b hb hlv => ⟨(hr.heap.own i b (sub hb).1 hlv).1, Nat.lt_of_lt_of_le (hr.heap.own i b (sub hb).1 hlv).2 hb3.size⟩, fun i j b c hb hc => hr.heap.inj i j b c (sub hb).1 (sub hc).1, ListsOK.none g3⟩, hr.below.trans (hb3.mono r.below.size)⟩, ⟨hl0.ag, hl0.nv, ?_, hl0.nj, hl0.fid, hl0.J⟩⟩
            simp only [St.nb, List.length_take] at *
            omega
          cases rr with
          | skip => trivial
          | val v =>
            simp only [] at hk
            split at hk
            · rename_i cas hcas
              have hcol := (collect_sound (ρ := ρ') (h := h') (cs := cas.map (CA.den ρ')) 0 hcas (fun i c hi => by rw [Nat.zero_add]; exact get_map_CA hi)).1
              exact ⟨⟨cell0, cell1⟩, ⟨_, hcol⟩, fun w3 hb3 => hK _ _ ρ' h' J' w3 (back w3 hb3).2 (back w3 hb3).1 hsl hk⟩
            · exact hk.elim
          | pan v =>
            cases v with
            | iface T x =>
              simp only [] at hk
              by_cases hT : Nat.beq T t.tid = true
              · rw [if_pos hT] at hk
                rw [nbeq_iff] at hT; subst hT
                refine ⟨⟨cell0, cell1⟩, x.den ρ' h', rfl, ?_⟩
                split at hk
                · rename_i b hbad
                  simp only [hbad]
                  split at hk
                  · refine ⟨rfl, fun w3 hb3 => ?_⟩
                    have := hK _ _ ρ' h' J' w3 (back w3 hb3).2 (back w3 hb3).1 hsl hk
                    simp only [SV.den, denL, plain_den' hz hz2, At.den] at this
                    exact this
                  · exact hk.elim
                · rename_i hbad
                  simp only [hbad]
                  split at hk
                  · rename_i k z
                    split at hk
                    · rename_i hkk
                      rw [keq_iff] at hkk; subst hkk
                      refine ⟨z.den ρ', rfl, fun w3 hb3 => ?_⟩
                      have := hK _ _ ρ' h' J' w3 (back w3 hb3).2 (back w3 hb3).1 hsl hk
                      simp only [SV.den, denL, plain_den' hz hz2] at this
                      exact this
                    · exact hk.elim
                  · exact hk.elim
              · rw [if_neg hT] at hk; exact hk.elim
            | _ => exact hk.elim
    · exact hd.elim
  · exact hd.elim

theorem callAt_sound (C : CxW P cx M w0) (F : Ex → St → Js → Env → Prop) {f : Nat} {t : AtSh} (ht : find f cx.ats = some t)
    {args : List SV} {S : St} {ρ h J a w} {K : OR → St → Tree} {N PN : Value → World → Prop} (r : Rep w0 S ρ h J a w) (hd : (callAt t f args S K).den M R RP F J ρ)
    (hK : KRok M R RP F w0 S ρ h J a K (fun ρ' h' w' r => match r with | .val v => N (v.den ρ' h') w' | .pan v => PN (v.den ρ' h') w' | .skip => True)) :
    (callFunc f (denL ρ h args).toArray).run P w = .ok (.enter f (denL ρ h args).toArray) w ∧
      Calls P f (denL ρ h args).toArray w fun e w' => match e with | .returned v => N v w' | .panicked c => ∃ v, c = panicOf v ∧ PN v w' | .outgrown => False := by
  unfold callAt at hd
  split at hd
  · rename_i id off rest
    split at hd
    · rename_i cs T hid
      dsimp only at hd
      split at hd
      · rename_i hc
        simp only [Bool.and_eq_true, Bool.or_eq_true, nbeq_iff] at hc
        obtain ⟨⟨⟨⟨⟨rfl, rfl⟩, hcs⟩, hz1⟩, hz2⟩, hsc⟩ := hc
        split at hd
        · rename_i cas hcas
          split at hd
          · rename_i hn
            rw [nbeq_iff] at hn
            have cl : ∀ l : List SV, scopedL 0 0 0 l = true → denL ρ h l = denL [] hid0 l := fun l hl => denL_agree (nv := 0) (nb := 0) (nj := 0) (ρ := []) (h := hid0) ⟨fun _ hi => by omega, fun _ hi => by omega, fun _ hi => by omega, fun _ hi => by omega, fun _ hi => by omega⟩ _ hl
            have H := r.heap.blk id _ hid
            simp only [BlkOK] at H
            have H' : w.heap[h.β id]? = some (.cells (denL [] hid0 t.fresh).toArray t.T (0, 0)) ∨ w.heap[h.β id]? = some (.cells (denL [] hid0 t.full).toArray t.T (0, 0)) := by
              rcases hcs with he | he
              · rw [SV.beqL_eq he, cl _ hz1] at H; exact .inl H
              · rw [SV.beqL_eq he, cl _ hz2] at H; exact .inr H
            obtain ⟨hpre, hbind⟩ := hd
            obtain ⟨hfit, happ⟩ := C.at' _ _ ht _ hpre
            have hk := bindEq_apply hbind hfit
            obtain ⟨h1, h2⟩ := happ _ w (h.β id) (collectA_sound r.heap (cs := cas.map (CA.den ρ)) 0 hcas (fun i c hi => by rw [Nat.zero_add]; exact get_map_CA hi)) H'
            have hpl := (place_shift (ρ := ρ) (rs := (M f).out (cas.map (CA.den ρ))) (h := h) t.sp.res 0).1
            rw [Nat.add_zero, ← r.nv] at hpl
            rw [hn] at hk
            refine ⟨h1, Calls.mono h2 ?_⟩
            rintro e w' ⟨w1, rfl, hst, hfull, hb⟩
            obtain ⟨r', l'⟩ := r.setBlk hid rfl rfl hst (c := .cells t.full t.T) (by simp only [BlkOK, cl _ hz2]; exact hfull)
            obtain ⟨r2, l2⟩ := r'.bindL hsc hfit
            have := hK _ _ _ _ _ _ (l'.trans l2) (r2.world (w' := w') (hst.size ▸ hb)) rfl hk
            simp only at this ⊢
            rw [← hpl]
            exact this
          · exact hd.elim
        · exact hd.elim
      · exact hd.elim
    · exact hd.elim
  · exact hd.elim

theorem callFn_sound (C : CxW P cx M w0) {ex : Code → St → (Ex → St → Tree) → Tree} (E : ExecOK P M R RP w0 ex) (F : Ex → St → Js → Env → Prop) : CallhOK P M R RP F w0 (callFn cx ex) := by
  intro f args S ρ h J a w K N PN r hd hK
  unfold callFn at hd
  split at hd
  · rename_i t ht
    split at hd
    · rename_i hz
      simp only [Bool.and_eq_true] at hz
      exact callTry_sound C E F ht hz.1 hz.2 r hd hK
    · exact hd.elim
  · split at hd
    · rename_i t ht
      exact callAt_sound C F ht r hd hK
    · exact callFn0_sound C E F f args S ρ h J a w K N PN r hd hK
end
end Go.SX
