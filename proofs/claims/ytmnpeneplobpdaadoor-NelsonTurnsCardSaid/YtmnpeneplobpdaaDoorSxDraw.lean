/-
  The symbolic executor: a region that draws its order is walked right.
-/
import Derived.Test.YtmnpeneplobpdaaDoorSxCall
namespace Go.SX
open Go Go.RowKit
set_option linter.unusedVariables false
set_option linter.unusedSimpArgs false

section
variable {P : Program} {cx : Ctx} {M : Nat → SpecSem} {R RP : Value → Prop} {w0 : World}

theorem heapBack_get : ∀ {hs hp : List Blk} {n : Nat}, heapBack [] hs hp n = true → ∀ (i : Nat) (b : Blk), hs[i]? = some b → b ≠ Blk.dead → hp[i]? = some b
  | [], _, _, _, i, b, hb, _ => by simp at hb
  | .cells cs T :: r, .cells ds U :: s, n, h, i, b, hb, hl => by
    simp only [heapBack, Bool.and_eq_true, nbeq_iff] at h
    obtain ⟨⟨rfl, h2⟩, h3⟩ := h
    cases i with
    | zero =>
      simp only [List.getElem?_cons_zero, Option.some.injEq] at hb ⊢
      subst hb
      have : ∀ (cs ds : List SV) (j : Nat), cellsBack [] n cs ds j = true → ds = cs := by
        intro cs
        induction cs with
        | nil => intro ds j hh; cases ds with | nil => rfl | cons _ _ => simp [cellsBack] at hh
        | cons x r ih =>
          intro ds j hh
          cases ds with
          | nil => simp [cellsBack] at hh
          | cons y s =>
            simp only [cellsBack, List.any_nil, Bool.or_false, Bool.and_eq_true] at hh
            rw [SV.beq_eq hh.1, ih s _ hh.2]
      rw [this _ _ _ h2]
    | succ i => exact heapBack_get h3 i b (by simpa using hb) hl
  | .row cs T k :: r, .row ds U m :: s, n, h, i, b, hb, hl => by
    simp only [heapBack, Bool.and_eq_true, nbeq_iff] at h
    obtain ⟨⟨⟨rfl, rfl⟩, h2⟩, h3⟩ := h
    cases i with
    | zero =>
      simp only [List.getElem?_cons_zero, Option.some.injEq] at hb ⊢
      subst hb
      have : ∀ (cs ds : List SV) (j : Nat), cellsBack [] n cs ds j = true → ds = cs := by
        intro cs
        induction cs with
        | nil => intro ds j hh; cases ds with | nil => rfl | cons _ _ => simp [cellsBack] at hh
        | cons x r ih =>
          intro ds j hh
          cases ds with
          | nil => simp [cellsBack] at hh
          | cons y s =>
            simp only [cellsBack, List.any_nil, Bool.or_false, Bool.and_eq_true] at hh
            rw [SV.beq_eq hh.1, ih s _ hh.2]
      rw [this _ _ _ h2]
    | succ i => exact heapBack_get h3 i b (by simpa using hb) hl
  | .map es :: r, .map fs :: s, n, h, i, b, hb, hl => by
    simp only [heapBack, Bool.and_eq_true] at h
    cases i with
    | zero => simp only [List.getElem?_cons_zero, Option.some.injEq] at hb ⊢; subst hb; rw [esBeq_eq h.1]
    | succ i => exact heapBack_get h.2 i b (by simpa using hb) hl
  | .dead :: r, c :: s, n, h, i, b, hb, hl => by
    simp only [heapBack] at h
    cases i with
    | zero => simp only [List.getElem?_cons_zero, Option.some.injEq] at hb; subst hb; exact absurd rfl hl
    | succ i => exact heapBack_get h i b (by simpa using hb) hl
  | .own k T :: r, .own m U :: s, n, h, i, b, hb, hl => by
    simp only [heapBack, Bool.and_eq_true, nbeq_iff] at h
    obtain ⟨⟨rfl, rfl⟩, h3⟩ := h
    cases i with
    | zero => exact hb
    | succ i => exact heapBack_get h3 i b (by simpa using hb) hl
  | .view k c :: r, .view m d :: s, n, h, i, b, hb, hl => by
    simp only [heapBack, Bool.and_eq_true, nbeq_iff] at h
    obtain ⟨⟨rfl, rfl⟩, h3⟩ := h
    cases i with
    | zero => exact hb
    | succ i => exact heapBack_get h3 i b (by simpa using hb) hl
theorem live_ne {b : Blk} (h : b.live = true) : b ≠ .dead := by intro e; subst e; cases h

theorem strike_get {ids : List Nat} : ∀ {hp : List Blk} {n : Nat} (i : Nat) (b : Blk), (strike ids hp n)[i]? = some b → b = .dead ∨ hp[i]? = some b
  | [], n, i, b, h => by simp [strike] at h
  | c :: r, n, i, b, h => by
    cases i with
    | zero =>
      simp only [strike, List.getElem?_cons_zero, Option.some.injEq] at h ⊢
      split at h
      · exact .inl h.symm
      · exact .inr h
    | succ i => exact strike_get (hp := r) (n := n + 1) i b (by simpa [strike] using h)
theorem strike_length {ids : List Nat} : ∀ {hp : List Blk} {n : Nat}, (strike ids hp n).length = hp.length
  | [], n => rfl
  | c :: r, n => by simp only [strike, List.length_cons, strike_length (hp := r)]

/-- what stands all through the region -/
theorem HeapOK.strike {ρ h B w ids n} {hp : List Blk} (H : HeapOK ρ h B hp w) : HeapOK ρ h B (strike ids hp n) w := by
  have live : ∀ {i : Nat} {b : Blk}, (SX.strike ids hp n)[i]? = some b → b.live = true → hp[i]? = some b := fun hb hl => by
    rcases strike_get _ _ hb with rfl | hb
    · cases hl
    · exact hb
  refine ⟨fun i b hb => ?_, fun i b hb hl => H.own i b (live hb hl) hl, fun i j b c hb hc hl hl' he => H.inj i j b c (live hb hl) (live hc hl') hl hl' he, ?_⟩
  · rcases strike_get _ _ hb with rfl | hb
    · trivial
    · exact H.blk i b hb
  · refine H.lists.map id (fun i n e hi => ?_) (fun i n k hi => ?_) (fun j b hj hb => ⟨b, live hj hb, hb, rfl⟩) (fun i j n e m e' _ _ h => h) (fun _ _ => rfl)
    · rcases strike_get _ _ hi with h1 | h1
      · cases h1
      · exact ⟨n, h1, rfl, rfl⟩
    · rcases strike_get _ _ hi with h1 | h1
      · cases h1
      · exact ⟨⟨n, h1, rfl⟩, rfl⟩
theorem heapScoped_of : ∀ {hp : List Blk} {nv nb nj : Nat}, (∀ (i : Nat) (b : Blk), hp[i]? = some b → b.scoped nv nb nj = true) → heapScoped nv nb nj hp = true
  | [], _, _, _, _ => rfl
  | c :: r, nv, nb, nj, h => by
    simp only [heapScoped, Bool.and_eq_true]
    exact ⟨h 0 c rfl, heapScoped_of fun i b hb => h (i + 1) b (by simpa using hb)⟩
theorem strike_scoped {hp : List Blk} {nv nb nj n : Nat} {ids} (h : heapScoped nv nb nj hp = true) : heapScoped nv nb nj (strike ids hp n) = true := by
  refine heapScoped_of fun i b hb => ?_
  rcases strike_get _ _ hb with rfl | hb
  · rfl
  · exact heapScoped_get h i b hb

theorem Agree.symm {nv nb nj ρ h ρ' h'} (a : Agree nv nb nj ρ h ρ' h') : Agree nv nb nj ρ' h' ρ h :=
  ⟨fun i hi => (a.env i hi).symm, fun i hi => (a.β i hi).symm, fun i hi => (a.κ i hi).symm, fun i hi => (a.γ i hi).symm, fun i hi => (a.σ i hi).symm⟩

/-- what stood, stands behind an operation -/
theorem stands {S0 : St} {ρ0 h0 ρ h B w} {hs hp : List Blk} (A : Agree S0.nv S0.nb S0.nj ρ0 h0 ρ h) (hl : hs.length = S0.nb) (hsc : heapScoped S0.nv S0.nb S0.nj hs = true) (H : HeapOK ρ h B hp w) (hb : heapBack [] hs hp 0 = true) :
    HeapOK ρ0 h0 B hs w := by
  have lt : ∀ {i : Nat} {b : Blk}, hs[i]? = some b → i < S0.nb := fun hb => hl ▸ (List.getElem?_eq_some_iff.1 hb).1
  refine ⟨fun i b hi => ?_, fun i b hi hlv => ?_, fun i j b c hi hj hlv hlv' he => ?_, ?_⟩
  · cases hlv : b.live with
    | false => cases b <;> simp [Blk.live] at hlv <;> trivial
    | true => exact (H.blk i b (heapBack_get hb i b hi (live_ne hlv))).agree A.symm (lt hi) (heapScoped_get hsc i b hi)
  · rw [← A.β i (lt hi)]; exact H.own i b (heapBack_get hb i b hi (live_ne hlv)) hlv
  · rw [← A.β i (lt hi), ← A.β j (lt hj)] at he
    exact H.inj i j b c (heapBack_get hb i b hi (live_ne hlv)) (heapBack_get hb j c hj (live_ne hlv')) hlv hlv' he
  · refine H.lists.map id (fun i n e hi => ?_) (fun i n k hi => ?_) (fun j b hj hbl => ⟨b, heapBack_get hb j b hj (live_ne hbl), hbl, (A.β j (lt hj)).symm⟩) (fun i j n e m e' _ _ h => h) (fun _ _ => rfl)
    · have := heapScoped_get hsc i _ hi
      simp only [Blk.scoped, blt_iff] at this
      exact ⟨n, heapBack_get hb i _ hi (by simp), by rw [A.env n this], (A.σ i (lt hi)).symm⟩
    · have := heapScoped_get hsc i _ hi
      simp only [Blk.scoped, blt_iff] at this
      exact ⟨⟨n, heapBack_get hb i _ hi (by simp), by rw [A.env n this]⟩, (A.σ i (lt hi)).symm⟩

theorem count_set {l : List Bool} {i : Nat} (h : l[i]? = some false) : (l.set i true).count false + 1 = l.count false := by
  induction l generalizing i with
  | nil => simp at h
  | cons x r ih =>
    cases i with
    | zero =>
      simp only [List.getElem?_cons_zero, Option.some.injEq] at h
      subst h
      simp
    | succ i =>
      have := ih (i := i) (by simpa using h)
      simp only [List.set_cons_succ, List.count_cons]
      omega
theorem count_pos {l : List Bool} {i : Nat} (h : l[i]? = some false) : 0 < l.count false := by have := count_set h; omega

theorem ready_false {all : Array Oper} {l : List Bool} (hlen : l.length = all.size) {i : Nat} (h : i ∈ Region.ready .any all l.toArray) : l[i]? = some false ∧ ∃ o, all[i]? = some o := by
  obtain ⟨h1, o, ho, _⟩ := mem_ready.1 h
  refine ⟨?_, o, ho⟩
  have hlt : i < l.length := by rw [hlen]; exact (Array.getElem?_eq_some_iff.1 ho).1
  simp only [Array.getD_eq_getD_getElem?, List.getElem?_toArray, List.getElem?_eq_getElem hlt, Option.getD_some] at h1
  rw [List.getElem?_eq_getElem hlt, h1]

theorem pickTake_sound {D : Draw} {S : St} {la : Array Bool} : ∀ {rs : List Nat} {i : Nat} {o : Oper}, pickTake cx D S la rs = some (i, o) → i ∈ rs ∧ D.ops[i]? = some o ∧ Region.free .any D.arr la i = true
  | [], i, o, h => by cases h
  | j :: r, i, o, h => by
    simp only [pickTake] at h
    split at h
    · rename_i o' ho'
      split at h
      · rename_i hc
        injection h with h
        injection h with h1 h2
        subst h1; subst h2
        simp only [Bool.and_eq_true] at hc
        exact ⟨by simp, ho', hc.1.2⟩
      · have ⟨g1, g2, g3⟩ := pickTake_sound h
        exact ⟨List.mem_cons_of_mem _ g1, g2, g3⟩
    · have ⟨g1, g2, g3⟩ := pickTake_sound h
      exact ⟨List.mem_cons_of_mem _ g1, g2, g3⟩

theorem takeOp_sound (C : CxW P cx M w0) {F : Ex → St → Js → Env → Prop} {all : Array Oper} {o : Oper} {Q : Exit → Act → World → Prop} {HS : World → Prop} {hs : List Blk} {m i : Nat} {l : List Bool} {a : Act} {w : World}
    (hi : all[i]? = some o) (hns : Region.noSelect all = true) (hf : Region.free .any all l.toArray i = true) (hr : i ∈ Region.ready .any all l.toArray)
    (hQ : ∀ ch a a' w, a.defers = a'.defers → Q (.panic ch) a w → Q (.panic ch) a' w) (hw : Region.wanted o (yielded all a.tmps) = true) (hHS : HS w) :
    ∀ (n : Nat) {S : St} {ρ h J} {K : SV → St → Tree}, Rep w0 S ρ h J a w → (takeOp cx hs o n S K).den M R RP F J ρ →
      (∀ w', HS w' → HeapOK ρ h w0.heap.size hs w') → hs.length ≤ S.nb → heapScoped S.nv hs.length S.nj hs = true →
      (∀ v S' ρ' J', Later S S' ρ h J ρ' h J' → S'.slots = S.slots → S'.heap = S.heap → Rep w0 S' ρ' h J' a w → (K v S').den M R RP F J' ρ' → wpAnyH P .any all Q HS m (l.set i true).toArray (a.put o.dst (v.den ρ' h)) w) →
      wpAnyH P .any all Q HS (m + 1) l.toArray a w
  | 0, S, ρ, h, J, K, r, hd, hH, hle, hsc0, hK => hd.elim
  | n + 1, S, ρ, h, J, K, r, hd, hH, hle, hsc0, hK => by
    simp only [takeOp] at hd
    have hev : ∀ w', HS w' → EvOK w' ρ h ((execOp a.eval o).run P w') (evalV cx S hs o) := fun w' hw' => evalV_sound (P := P) C.cty (hH w' hw') r.fok r.slots o
    have take : ∀ v : Value, (∀ w', HS w' → (execOp a.eval o).run P w' = .ok (.value v) w') → wpAnyH P .any all Q HS m (l.set i true).toArray (a.put o.dst v) w → wpAnyH P .any all Q HS (m + 1) l.toArray a w := fun v hv hn => by
      refine wpAnyH_take hi hns hf (by simpa using hr) (fun ch a' w' hq => hQ ch _ _ w' (by cases o.dst <;> rfl) hq) (.inl ⟨hw, hv⟩) hHS ?_
      rw [List.setIfInBounds_toArray]
      exact hn
    cases hv : evalV cx S hs o with
    | val v =>
      rw [hv] at hd hev
      exact take _ hev (hK v S ρ J .refl rfl rfl r hd)
    | bind e iv k =>
      rw [hv] at hd hev
      simp only [] at hd
      split at hd
      · rename_i x hx
        have hdm := defOf_sound r.fok.defs hx
        have := hK _ S ρ J .refl rfl rfl r hd
        simp only [SV.den, At.den, hdm] at this
        exact take _ (fun w' hw' => (hev w' hw').1) this
      · split at hd
        · rename_i hsc
          simp only [Bool.and_eq_true] at hsc
          have hk := hd _ rfl
          obtain ⟨r', l'⟩ := r.bindI hsc.1 hsc.2 (iv := iv) rfl (hev w hHS).2
          have := hK _ _ _ _ l' rfl rfl r' hk
          have hg : (Env.get (ρ ++ [Cv.i (e.den ρ)]) S.nv) = .i (e.den ρ) := by rw [r.nv]; exact Env.get_append_self
          simp only [SV.den, At.den, hg, Cv.int] at this
          exact take _ (fun w' hw' => (hev w' hw').1) this
        · exact hd.elim
    | split c =>
      rw [hv] at hd
      obtain ⟨S1, hc, r1, hd1⟩ := splitBE_sound r hd
      refine takeOp_sound C hi hns hf hr hQ hw hHS n r1 hd1 hH (by unfold St.nb at *; rw [hc.heap]; exact hle) (by rw [hc.nv, hc.nj]; exact hsc0) fun v S' ρ' J' hl hsl hhp hr' hk => hK v S' ρ' J' (hc.later.trans hl) (hsl.trans hc.slots) (hhp.trans hc.heap) hr' hk
    | need e iv =>
      rw [hv] at hd hev
      simp only [] at hd
      split at hd
      · rename_i hsc
        simp only [Bool.and_eq_true] at hsc
        have hk := hd _ rfl
        obtain ⟨r', l'⟩ := r.bindD hsc.1 hsc.2 (iv := iv) rfl (hev w hHS)
        refine takeOp_sound C hi hns hf hr hQ hw hHS n r' hk (fun w' hw' => HeapOK.agree (nv := S.nv) (nj := S.nj) ⟨fun i hi => l'.ag.env i hi, fun _ _ => rfl, fun _ _ => rfl, fun _ _ => rfl, fun _ _ => rfl⟩ hsc0 (hH w' hw')) hle
          (heapScoped_of' fun i b hb => Blk.scoped_mono (heapScoped_get hsc0 i b hb) (Nat.le_succ _) (Nat.le_refl _) (Nat.le_refl _)) fun v S' ρ' J' hl hsl hhp hr' hk => hK v S' ρ' J' (l'.trans hl) hsl hhp hr' hk
      · exact hd.elim
    | no why =>
      rw [hv] at hd
      exact hd.elim

theorem execDraw_sound (C : CxW P cx M w0) {callh : Nat → List SV → St → (OR → St → Tree) → Tree} (CH : ∀ F, CallhOK P M R RP F w0 callh) {all : Array Oper} {Q : Exit → Act → World → Prop} {S0 : St} {ρ0 h0 J0} {hs : List Blk}
    (hns : Region.noSelect all = true) (hQ : ∀ ch a a' w, a.defers = a'.defers → Q (.panic ch) a w → Q (.panic ch) a' w) (hlen : hs.length = S0.nb) (hsc : heapScoped S0.nv S0.nb S0.nj hs = true) :
    ∀ (n : Nat) (F : Ex → St → Js → Env → Prop) (m : Nat) (l : List Bool) {S : St} {ρ h J a w} {K : Ex → St → Tree}, Later S0 S ρ0 h0 J0 ρ h J → Rep w0 S ρ h J a w → HeapOK ρ0 h0 w0.heap.size hs w → l.length = all.size → l.count false ≤ m →
      (execDraw cx callh { ops := all.toList, arr := all, n0 := S0.nb, hs := hs } n l S K).den M R RP F J ρ → KOK M R RP F w0 Q S0 ρ0 h0 J0 K →
      wpAnyH P .any all Q (fun w => HeapOK ρ0 h0 w0.heap.size hs w) m l.toArray a w
  | 0, F, m, l, S, ρ, h, J, a, w, K, hl, r, hH, hll, hm, hd, hK => hd.elim
  | n + 1, F, m, l, S, ρ, h, J, a, w, K, hl, r, hH, hll, hm, hd, hK => by
    simp only [execDraw] at hd
    split at hd
    · rename_i hready
      refine wpAnyH_done hready ?_ m
      simp only [Draw.fin] at hd
      split at hd
      · rename_i hp sl hg
        obtain ⟨h2, g1, g2, g2s, g3, g4, g5, g6⟩ := gc_sound r.heap hg
        have A : Agree S0.nv S0.nb S0.nj ρ0 h0 ρ h2 := ⟨hl.ag.env, fun i hi => (g1 i hi).trans (hl.ag.β i hi), fun i hi => (g2 i hi).trans (hl.ag.κ i hi), fun i hi => by rw [g3]; exact hl.ag.γ i hi, fun i hi => (g2s i hi).trans (hl.ag.σ i hi)⟩
        exact hK .normal { S with heap := hp, slots := sl } ρ h2 J a w ⟨A, hl.nv, g6, hl.nj, hl.fid, hl.J⟩ ⟨r.nv, r.lv, r.ivl, ⟨r.fok.iv, r.fok.facts, r.fok.defs, r.fok.lst⟩, r.slots.trans g5.symm, r.defers, g4, r.below⟩ hd
      · exact hd.elim
    · rename_i r0 rs0 hready
      have hmem : ∀ {i}, i ∈ r0 :: rs0 → i ∈ Region.ready .any all l.toArray := fun hi => by rw [hready]; exact hi
      split at hd
      · rename_i i o hpick
        obtain ⟨p1, p2, p3⟩ := pickTake_sound hpick
        rw [Array.getElem?_toList] at p2
        have hrd := hmem p1
        have hfalse := (ready_false hll hrd).1
        have hpos := count_pos hfalse
        have hset := count_set hfalse
        obtain ⟨m', rfl⟩ : ∃ m', m = m' + 1 := ⟨m - 1, by omega⟩
        obtain ⟨S1, hc, r1, hd1⟩ := guardOp_sound r hd
        have hl1 := hl.trans (hc.later (ρ := ρ) (h := h) (J := J))
        cases hw : Region.wanted o (yielded all a.tmps) with
        | true =>
          rw [hw] at hd1
          simp only [if_true] at hd1
          split at hd1
          · refine takeOp_sound C p2 hns p3 hrd hQ hw hH 200 r1 hd1 (fun w' hw' => HeapOK.agree (by rw [hlen]; exact hl1.ag) (by rw [hlen]; exact hsc) hw') (by rw [hlen]; exact hl1.nb) (by rw [hlen]; exact heapScoped_of' fun i b hb => Blk.scoped_mono (heapScoped_get hsc i b hb) hl1.nv (Nat.le_refl _) hl1.nj) fun v S' ρ' J' hl' hsl hhp hr' hk => ?_
            exact execDraw_sound C CH hns hQ hlen hsc n F m' (l.set i true) ((hl1.trans hl').trans put_later) (hr'.put o.dst v) hH (by rw [List.length_set]; exact hll) (by omega) hk hK
          · exact execDraw_sound C CH hns hQ hlen hsc n F (m' + 1) l hl1 r1 hH hll hm hd1 hK
        | false =>
          rw [hw] at hd1
          simp only [Bool.false_eq_true, if_false] at hd1
          refine wpAnyH_take (v := undef) p2 hns p3 (by simpa using hrd) (fun ch a' w' hq => hQ ch _ _ w' (by cases o.dst <;> rfl) hq) (.inr ⟨hw, rfl⟩) hH ?_
          rw [List.setIfInBounds_toArray]
          exact execDraw_sound C CH hns hQ hlen hsc n F m' (l.set i true) (hl1.trans put_later) (r1.put o.dst (.tup [])) hH (by rw [List.length_set]; exact hll) (by omega) hd1 hK
      · rw [graft_den] at hd
        have hall := allOf_den _ _ _ _ hd
        have hfalse0 := (ready_false hll (hmem (i := r0) (by simp))).1
        have hpos := count_pos hfalse0
        obtain ⟨m', rfl⟩ : ∃ m', m = m' + 1 := ⟨m - 1, by omega⟩
        refine wpAnyH_all hready (by simp) fun i hi => ?_
        have hrd := hmem hi
        obtain ⟨hfalse, o, ho⟩ := ready_false hll hrd
        have hset := count_set hfalse
        have hdi := hall _ (List.mem_map.2 ⟨i, hi, rfl⟩)
        have hol : all.toList[i]? = some o := by rw [Array.getElem?_toList]; exact ho
        simp only [hol] at hdi
        obtain ⟨S1, hc, r1, hd1⟩ := guardOp_sound r hdi
        have hl1 := hl.trans (hc.later (ρ := ρ) (h := h) (J := J))
        have hfin : KOK M R RP (fun e S J ρ => (K e S).den M R RP F J ρ) w0 Q S0 ρ0 h0 J0 Tree.fin := fun e S' ρ' h' J' a' w' hl' hr' hk => hK e S' ρ' h' J' a' w' hl' hr' hk
        unfold wpOp
        simp only [ho]
        cases hw : Region.wanted o (yielded all a.tmps) with
        | true =>
          rw [hw] at hd1
          simp only [if_true] at hd1 ⊢
          refine .inl (stepOp_sound C (CH _) 200 r1 hd1 fun rr S2 ρ2 h2 J2 w2 hl2 hr2 hsl hk => ?_)
          split at hk
          · rename_i hback
            have hl3 := hl1.trans hl2
            have hst := stands hl3.ag hlen hsc hr2.heap hback
            cases rr with
            | val v =>
              refine ⟨hst, ?_⟩
              rw [List.setIfInBounds_toArray]
              exact execDraw_sound C CH hns hQ hlen hsc n _ m' (l.set i true) (hl3.trans put_later) (hr2.put o.dst v) hst (by rw [List.length_set]; exact hll) (by omega) hk hfin
            | skip =>
              refine ⟨hst, ?_⟩
              rw [List.setIfInBounds_toArray]
              exact execDraw_sound C CH hns hQ hlen hsc n _ m' (l.set i true) (hl3.trans put_later) (hr2.put o.dst (.tup [])) hst (by rw [List.length_set]; exact hll) (by omega) hk hfin
            | pan v => exact hK (.panic v) S2 ρ2 h2 J2 a w2 hl3 hr2 hk
          · exact hk.elim
        | false =>
          rw [hw] at hd1
          simp only [Bool.false_eq_true, if_false] at hd1 ⊢
          refine ⟨hH, ?_⟩
          rw [List.setIfInBounds_toArray]
          exact execDraw_sound C CH hns hQ hlen hsc n _ m' (l.set i true) (hl1.trans put_later) (r1.put o.dst (.tup [])) hH (by rw [List.length_set]; exact hll) (by omega) hd1 hfin
end
end Go.SX
