/-
  The symbolic executor: operations that act are told right: new blocks, stores, maps.
-/
import Derived.Test.YtmnpeneplobpdaaDoorSxRep
namespace Go.SX
open Go Go.RowKit
set_option linter.unusedVariables false
set_option linter.unusedSimpArgs false

section
variable {P : Program} {M : Nat → SpecSem} {R RP : Value → Prop} {F : Ex → St → Js → Env → Prop} {w0 : World}

/-! ### a new block -/
def Hid.add (h : Hid) (nb b : Nat) : Hid := { h with β := fun i => if i = nb then b else h.β i }
theorem add_agree {nv nb nj ρ h b} : Agree nv nb nj ρ h ρ (Hid.add h nb b) :=
  ⟨fun _ _ => rfl, fun i hi => by simp only [Hid.add]; rw [if_neg (by omega)], fun _ _ => rfl, fun _ _ => rfl, fun _ _ => rfl⟩
theorem add_at {h : Hid} {nb b : Nat} : (Hid.add h nb b).β nb = b := by simp [Hid.add]
theorem heap_alloc_old (w : World) (o : Obj) {k : Nat} (h : k < w.heap.size) : (w.alloc o).heap[k]? = w.heap[k]? := Below.heap_alloc w o k h
theorem heap_alloc_new (w : World) (o : Obj) : (w.alloc o).heap[w.heap.size]? = some o := by
  show (w.heap.push o)[w.heap.size]? = some o
  simp

theorem BlkOK.world {ρ h w w' i b} (hb : BlkOK ρ h w i b) (he : b.live = true → w'.heap[h.β i]? = w.heap[h.β i]?) : BlkOK ρ h w' i b := by
  cases b <;> simp only [BlkOK] at * <;> first | trivial | (rw [he rfl]; exact hb)

theorem ListsOK.world {ρ h B hp w w'} (H : ListsOK ρ h B hp w) (hw : ∀ g, LBlk ρ h B w hp g → w'.heap[g]? = w.heap[g]?) : ListsOK ρ h B hp w' :=
  H.map id (fun i n e hi => ⟨n, hi, rfl, rfl⟩) (fun i n k hi => ⟨⟨n, hi, rfl⟩, rfl⟩) (fun j b hj hb => ⟨b, hj, hb, rfl⟩) (fun i j n e m e' _ _ h => h) hw
theorem Rep.newBlk {S : St} {ρ h J a w} (r : Rep w0 S ρ h J a w) (hs : S.scoped = true) {b : Blk} (hbl : b.live = true) {o : Obj}
    (hb : ∀ w', w'.heap[w.heap.size]? = some o → BlkOK ρ (Hid.add h S.nb w.heap.size) w' S.nb b) :
    Rep w0 (S.newBlk b) ρ (Hid.add h S.nb w.heap.size) J a (w.alloc o) ∧ Later S (S.newBlk b) ρ h J ρ (Hid.add h S.nb w.heap.size) J := by
  have A : Agree S.nv S.nb S.nj ρ h ρ (Hid.add h S.nb w.heap.size) := add_agree
  obtain ⟨g1, g2, g3, g4, g5⟩ := r.grow hs A
  refine ⟨⟨r.nv, r.lv, r.ivl, ⟨g5, g3, g4, r.fok.lst⟩, g1, r.defers, ?_, r.below.alloc r.below.size o⟩, ⟨A, Nat.le_refl _, by simp [St.newBlk, St.nb], Nat.le_refl _, rfl, [], by simp⟩⟩
  have hnew : (Hid.add h S.nb w.heap.size).β S.nb = w.heap.size := by simp [Hid.add]
  have part : ∀ {i : Nat} {c : Blk}, (S.newBlk b).heap[i]? = some c → (i < S.nb ∧ S.heap[i]? = some c) ∨ (i = S.nb ∧ c = b) := by
    intro i c hc
    simp only [St.newBlk, List.getElem?_append] at hc
    split at hc
    · rename_i hlt; exact .inl ⟨hlt, hc⟩
    · rename_i hge
      have hlt := (List.getElem?_eq_some_iff.1 hc).1
      simp at hlt
      have hi : i = S.heap.length := by omega
      subst hi
      rw [Nat.sub_self, List.getElem?_cons_zero] at hc
      injection hc with hc
      exact .inr ⟨rfl, hc.symm⟩
  refine ⟨fun i c hc => ?_, fun i c hc hl => ?_, fun i j c d hc hd hl hl' he => ?_, ?_⟩
  rotate_left 3
  · refine (g2.lists.world fun g hg => heap_alloc_old _ _ (g2.lists.lt hg)).pushLive (.inl hbl) fun _ g hg => ?_
    have := g2.lists.lt (g := g) (LBlk.back g2.lists (fun g hg => heap_alloc_old _ _ (g2.lists.lt hg)) hg)
    have e : (Hid.add h S.nb w.heap.size).β S.heap.length = w.heap.size := hnew
    rw [e]; omega
  · rcases part hc with ⟨hlt, hc1⟩ | ⟨rfl, rfl⟩
    · exact (g2.blk i c hc1).world fun hl => heap_alloc_old _ _ (g2.own i c hc1 hl).2
    · exact hb _ (heap_alloc_new w o)
  · rcases part hc with ⟨hlt, hc1⟩ | ⟨rfl, rfl⟩
    · have := g2.own i c hc1 hl; rw [World.size_alloc]; omega
    · rw [hnew, World.size_alloc]; exact ⟨r.below.size, by omega⟩
  · rcases part hc with ⟨hlt, hc1⟩ | ⟨hi, hcb⟩
    · rcases part hd with ⟨hlt', hd1⟩ | ⟨hj, hdb⟩
      · exact g2.inj i j c d hc1 hd1 hl hl' he
      · rw [hj, hnew] at he; have := (g2.own i c hc1 hl).2; omega
    · rcases part hd with ⟨hlt', hd1⟩ | ⟨hj, hdb⟩
      · rw [hi, hnew] at he; have := (g2.own j d hd1 hl').2; omega
      · rw [hi, hj]

/-! ### a store -/
def oneV : Value → Bool
  | .agg _ | .tuple _ => false
  | _ => true
def putV : List Value → Nat → List Value → List Value
  | l, _, [] => l
  | l, i, x :: r => putV (l.set i x) (i + 1) r
theorem denL_putAll {ρ h} : ∀ (vs l : List SV) (i : Nat), denL ρ h (putAll l i vs) = putV (denL ρ h l) i (denL ρ h vs)
  | [], _, _ => rfl
  | x :: r, l, i => by simp only [putAll, denL, putV]; rw [denL_putAll r, denL_set]
theorem oneCells_sound {ρ h} : ∀ {vs : List SV}, oneCells vs = true → ∀ v ∈ denL ρ h vs, oneV v = true
  | [], _, v, hv => by cases hv
  | x :: r, ho, v, hv => by
    cases x <;> simp only [oneCells, Bool.false_eq_true] at ho <;>
    · simp only [denL] at hv
      rcases List.mem_cons.1 hv with rfl | hv
      · rfl
      · exact oneCells_sound ho v hv

theorem store_one (P : Program) {w : World} {b off : Nat} {l : List Value} {E : TypeId} (hb : w.heap[b]? = some (.cells l.toArray E (0, 0))) (hlt : off < l.length) {v : Value} (hv : oneV v = true) :
    (store ⟨b, off, none⟩ v).run P w = .ok () (w.setCell ⟨b, off, none⟩ v) := by
  have hc : w.cell? ⟨b, off, none⟩ = some l[off] := by rw [cell_of_blk hb, List.getElem?_eq_getElem hlt]
  have hf : w.frozen? ⟨b, off, none⟩ = false := by simp [World.frozen?, hb]
  unfold store
  cases v <;> simp only [oneV, Bool.false_eq_true] at hv <;> simp only [Sem.run, hc, hf, Bool.false_eq_true, if_false]

theorem heap_setCell_same {w : World} {b off : Nat} {l : List Value} {E : TypeId} (hb : w.heap[b]? = some (.cells l.toArray E (0, 0))) (v : Value) :
    (w.setCell ⟨b, off, none⟩ v).heap[b]? = some (.cells (l.set off v).toArray E (0, 0)) := by
  simp [World.setCell, Array.getElem?_modify, hb]

structure Stored (w w' : World) (b : Nat) : Prop where
  os : w'.os = w.os
  tape : w'.tape = w.tape
  output : w'.output = w.output
  size : w'.heap.size = w.heap.size
  other : ∀ k, k ≠ b → w'.heap[k]? = w.heap[k]?

theorem run_storeCells' (P : Program) {b off : Nat} {E : TypeId} : ∀ (vs : List Value) (i : Nat) (l : List Value) (w : World), w.heap[b]? = some (.cells l.toArray E (0, 0)) → off + i + vs.length ≤ l.length → (∀ v ∈ vs, oneV v = true) →
    ∃ w', (storeCells ⟨b, off, none⟩ vs i).run P w = .ok () w' ∧ w'.heap[b]? = some (.cells (putV l (off + i) vs).toArray E (0, 0)) ∧ Stored w w' b
  | [], i, l, w, hb, _, _ => ⟨w, by simp only [storeCells, pure, Sem.run], hb, ⟨rfl, rfl, rfl, rfl, fun _ _ => rfl⟩⟩
  | v :: r, i, l, w, hb, hle, hone => by
    simp only [List.length_cons] at hle
    have h1 := store_one P hb (off := off + i) (by omega) (hone v (by simp))
    have hb' := heap_setCell_same (off := off + i) hb v
    obtain ⟨w', g1, g2, g3⟩ := run_storeCells' P (off := off) r (i + 1) _ _ hb' (by rw [List.length_set]; omega) (fun u hu => hone u (List.mem_cons_of_mem _ hu))
    refine ⟨w', ?_, g2, ⟨g3.os, g3.tape, g3.output, g3.size.trans (World.size_setCell _ _ _), fun k hk => (g3.other k hk).trans (Below.heap_setCell _ _ _ _ (by simpa using hk))⟩⟩
    simp only [storeCells, addr_add, Sem.run_bind, h1, Result.andThen_ok, g1]

/-- one block turned, the others as they were -/
theorem Rep.setBlk {S : St} {ρ h J a w w'} (r : Rep w0 S ρ h J a w) {id : Nat} {b c : Blk} (hb : S.heap[id]? = some b) (hl : b.live = true) (hlc : c.live = true) (hst : Stored w w' (h.β id)) (hc : BlkOK ρ h w' id c) :
    Rep w0 { S with heap := S.heap.set id c } ρ h J a w' ∧ Later S { S with heap := S.heap.set id c } ρ h J ρ h J := by
  have hown := r.heap.own id b hb hl
  have hlt := (List.getElem?_eq_some_iff.1 hb).1
  have part : ∀ {i : Nat} {d : Blk}, (S.heap.set id c)[i]? = some d → (i ≠ id ∧ S.heap[i]? = some d) ∨ (i = id ∧ d = c) := by
    intro i d hd
    rw [List.getElem?_set] at hd
    split at hd
    · rename_i he; subst he; simp only [hlt, if_true, Option.some.injEq] at hd; exact .inr ⟨rfl, hd.symm⟩
    · rename_i hne; exact .inl ⟨fun e => hne e.symm, hd⟩
  refine ⟨⟨r.nv, r.lv, r.ivl, ⟨r.fok.iv, r.fok.facts, r.fok.defs, r.fok.lst⟩, r.slots, r.defers, ⟨fun i d hd => ?_, fun i d hd hl' => ?_, fun i j d e hd he hld hle hbe => ?_, ?_⟩, ?_⟩, ⟨.refl, Nat.le_refl _, by simp [St.nb], Nat.le_refl _, rfl, [], by simp⟩⟩
  · rcases part hd with ⟨hne, hd1⟩ | ⟨rfl, rfl⟩
    · exact (r.heap.blk i d hd1).world fun hl' => hst.other _ fun e => hne (r.heap.inj i id d b hd1 hb hl' hl e)
    · exact hc
  · rw [hst.size]
    rcases part hd with ⟨hne, hd1⟩ | ⟨rfl, rfl⟩
    · exact r.heap.own i d hd1 hl'
    · exact hown
  · rcases part hd with ⟨hne, hd1⟩ | ⟨hi, hdb⟩
    · rcases part he with ⟨hne', he1⟩ | ⟨hj, heb⟩
      · exact r.heap.inj i j d e hd1 he1 hld hle hbe
      · rw [hj] at hbe; exact absurd (r.heap.inj i id d b hd1 hb hld hl hbe) hne
    · rcases part he with ⟨hne', he1⟩ | ⟨hj, heb⟩
      · rw [hi] at hbe; exact absurd (r.heap.inj id j b e hb he1 hl hle hbe).symm hne'
      · rw [hi, hj]
  · refine r.heap.lists.map (_root_.id) (fun i n e hi => ?_) (fun i n k hi => ?_) (fun j d hj hd => ?_) (fun i j n e m e' _ _ h => h) (fun g hg => hst.other _ (r.heap.lists.apartL hg hb hl))
    · rcases part hi with ⟨_, h1⟩ | ⟨_, h1⟩
      · exact ⟨n, h1, rfl, rfl⟩
      · rw [← h1] at hlc; cases hlc
    · rcases part hi with ⟨_, h1⟩ | ⟨_, h1⟩
      · exact ⟨⟨n, h1, rfl⟩, rfl⟩
      · rw [← h1] at hlc; cases hlc
    · rcases part hj with ⟨_, h1⟩ | ⟨h1, _⟩
      · exact ⟨d, h1, hd, rfl⟩
      · exact ⟨b, by rw [h1]; exact hb, hl, rfl⟩
  · refine r.below.trans ⟨hst.os, hst.tape, hst.output, Nat.le_of_eq hst.size.symm, fun k hk => hst.other k (by omega)⟩

/-! ### what a call leaves -/
theorem HeapOK.below {ρ h B w w'} {hp : List Blk} (H : HeapOK ρ h B hp w) (hb : Below w.heap.size w w') : HeapOK ρ h B hp w' :=
  ⟨fun i b hi => (H.blk i b hi).world fun hl => hb.block _ (H.own i b hi hl).2, fun i b hi hl => ⟨(H.own i b hi hl).1, Nat.lt_of_lt_of_le (H.own i b hi hl).2 hb.size⟩, H.inj, H.lists.world fun g hg => hb.block _ (H.lists.lt hg)⟩
theorem Rep.world {S : St} {ρ h J a w w'} (r : Rep w0 S ρ h J a w) (hb : Below w.heap.size w w') : Rep w0 S ρ h J a w' :=
  ⟨r.nv, r.lv, r.ivl, r.fok, r.slots, r.defers, r.heap.below hb, r.below.trans (hb.mono r.below.size)⟩

/-- a function's contract is met: a Go function, or one of the model's own -/
def Applies (P : Program) (f : FuncId) (args : Array Value) (w : World) (Q : Value → World → Prop) : Prop :=
  (∃ v w', (callFunc f args).run P w = .ok (.value v) w' ∧ Q v w') ∨
  ((callFunc f args).run P w = .ok (.enter f args) w ∧ Calls P f args w fun e w' => ∃ v, e = .returned v ∧ Q v w')

/-- what arguments are: rows of ints among them, by their lists -/
def ArgsRel (w : World) (cs : Env) : List SV → List Value → Prop
  | [], [] => True
  | .lst n :: r, v :: s => RowIs w v (Env.get cs n).list ∧ ArgsRel w cs r s
  | .sptr n _ k _ :: r, v :: s => RowS w (kS k) v (Env.get cs n).list ∧ ArgsRel w cs r s
  | p :: r, v :: s => v = p.den cs hid0 ∧ ArgsRel w cs r s
  | _, _ => False
def SpecOK (P : Program) (f : Nat) (sp : SpecSh) (m : SpecSem) : Prop :=
  ∀ cs, m.pre cs → Fits sp.sh (m.out cs) ∧ ∀ (vs : List Value) w, m.g.G w → ArgsRel w cs (placeA sp.args 0).1 vs → Applies P f vs.toArray w fun v w' => v = (place sp.res 0).1.den (m.out cs) hid0 ∧ Below w.heap.size w w'

mutual
theorem collect_sound {ρ : Env} {h : Hid} {cs : Env} : ∀ {p x : SV} {l : List CA} (n : Nat), collect p x = some l → (∀ i c, l[i]? = some c → Env.get cs (n + i) = c.den ρ) →
    x.den ρ h = (place p n).1.den cs hid0 ∧ (place p n).2 = n + l.length
  | .int k b, .int k' a, l, n, hc, hg => by
    simp only [collect] at hc
    split at hc
    · rename_i hk; rw [keq_iff] at hk; subst hk
      injection hc with hc; subst hc
      have := hg 0 _ rfl
      simp only [Nat.add_zero, CA.den] at this
      simp only [place, SV.den, At.den, this, Cv.int, List.length_cons, List.length_nil, and_self, Nat.zero_add]
    · cases hc
  | .bool b, .bool e, l, n, hc, hg => by
    simp only [collect, Option.some.injEq] at hc
    subst hc
    have := hg 0 _ rfl
    simp only [Nat.add_zero, CA.den] at this
    simp only [place, SV.den, BE.den, this, Cv.bool, List.length_cons, List.length_nil, and_self, Nat.zero_add]
  | .agg ps, .agg xs, l, n, hc, hg => by
    simp only [collect] at hc
    have ⟨g1, g2⟩ := collectL_sound (h := h) n hc hg
    simp only [place, SV.den, g1, g2, and_self]
  | .tup ps, .tup xs, l, n, hc, hg => by
    simp only [collect] at hc
    have ⟨g1, g2⟩ := collectL_sound (h := h) n hc hg
    simp only [place, SV.den, g1, g2, and_self]
theorem collectL_sound {ρ : Env} {h : Hid} {cs : Env} : ∀ {ps xs : List SV} {l : List CA} (n : Nat), collectL ps xs = some l → (∀ i c, l[i]? = some c → Env.get cs (n + i) = c.den ρ) →
    denL ρ h xs = denL cs hid0 (placeL ps n).1 ∧ (placeL ps n).2 = n + l.length
  | [], [], l, n, hc, hg => by
    simp only [collectL, Option.some.injEq] at hc; subst hc
    simp only [placeL, denL, List.length_nil, Nat.add_zero, and_self]
  | p :: r, x :: s, l, n, hc, hg => by
    simp only [collectL] at hc
    split at hc
    · rename_i la lb ha hb
      injection hc with hc; subst hc
      have ⟨g1, g2⟩ := collect_sound (ρ := ρ) (cs := cs) (h := h) n ha (fun i c hi => hg i c (by rw [List.getElem?_append_left (List.getElem?_eq_some_iff.1 hi).1]; exact hi))
      have ⟨g3, g4⟩ := collectL_sound (ρ := ρ) (cs := cs) (h := h) (n + la.length) hb (fun i c hi => by
        have := hg (la.length + i) c (by rw [List.getElem?_append_right (by omega), Nat.add_sub_cancel_left]; exact hi)
        rw [← this]; congr 1; omega)
      simp only [placeL, denL, g1, g2, g3, g4, List.length_append, Nat.add_assoc, and_self]
    · cases hc
end

theorem intsOf_sound {ρ : Env} {h : Hid} : ∀ {l : List SV} {m : List At}, intsOf l = some m → denL ρ h l = ints (m.map (At.den ρ))
  | [], m, hm => by simp only [intsOf, Option.some.injEq] at hm; subst hm; rfl
  | x :: r, m, hm => by
    unfold intsOf at hm
    split at hm
    · rename_i he; cases he
    · rename_i a r' he
      injection he with e1 e2
      subst e1; subst e2
      split at hm
      · rename_i l hl
        injection hm with hm; subst hm
        simp only [denL, SV.den, ints, List.map_cons]
        rw [intsOf_sound (h := h) hl]
        rfl
      · cases hm
    · cases hm
theorem rowLit_sound {ρ h B w} {hp : List Blk} (H : HeapOK ρ h B hp w) {id d len k : Nat} {cs : List SV} {T : TypeId} (hb : hp[id]? = some (.row cs T k)) (hk : 0 < k) (hle : (d + len) * k ≤ cs.length) {l : List At} (hl : intsOf ((cs.drop (d * k)).take (len * k)) = some l) :
    RowS w k ((SV.row id d len k).den ρ h) (LE.den ρ (.lit l)) := by
  obtain ⟨rest, h1, h2, h3⟩ := H.blk _ _ hb
  have hi := intsOf_sound (ρ := ρ) (h := h) hl
  have hdl : (d + len) * k = d * k + len * k := Nat.add_mul ..
  have hll : l.length = len * k := by
    have := congrArg List.length hi
    rw [denL_length, List.length_take, List.length_drop, ints_length, List.length_map] at this
    omega
  have hml : (LE.den ρ (.lit l)).length = len * k := by simp only [LE.den, List.length_map, hll]
  have hcap : d + len ≤ h.κ id := by
    have : (d + len) * k ≤ h.κ id * k := by omega
    exact Nat.le_of_mul_le_mul_right this hk
  refine .inr ⟨⟨h.β id, d * k, none⟩, len, h.κ id - d, rfl, hml, hk, by omega, by omega, fun i y hy => ?_⟩
  rw [addr_add, cell_of_blk h1]
  have hi' : i < len * k := by rw [← hml]; exact (List.getElem?_eq_some_iff.1 hy).1
  rw [List.getElem?_append_left (by rw [denL_length]; omega)]
  have e := congrArg (fun z => z[i]?) hi
  simp only [denL_take, denL_drop, List.getElem?_take, if_pos hi', List.getElem?_drop] at e
  rw [e]
  simp only [LE.den] at hy
  simp only [ints, List.getElem?_map] at hy ⊢
  cases hq : l[i]? with
  | none => rw [hq] at hy; cases hy
  | some z => rw [hq] at hy; injection hy with hy; simp [hy]
theorem listArg_sound {ρ h B w} {hp : List Blk} (H : HeapOK ρ h B hp w) {x : SV} {e : LE} (hx : listArg hp x = some e) : RowIs w (x.den ρ h) (e.den ρ) := by
  unfold listArg at hx
  split at hx
  · injection hx with hx; subst hx; exact .inl ⟨rfl, rfl⟩
  · rename_i id
    split at hx
    · rename_i n hn
      injection hx with hx; subst hx
      exact listOf_sound H hn
    · cases hx
  · rename_i id d len sz
    split at hx
    · rename_i cs T sz' hb
      split at hx
      · rename_i hc
        simp only [Bool.and_eq_true, nbeq_iff, nble_iff] at hc
        obtain ⟨⟨rfl, rfl⟩, hle⟩ := hc
        split at hx
        · rename_i l hl
          injection hx with hx; subst hx
          exact rowS_one.1 (rowLit_sound H hb (by omega) (by omega) (by rw [Nat.mul_one, Nat.mul_one]; exact hl))
        · cases hx
      · cases hx
    · cases hx
  · cases hx
theorem recArg_sound {ρ h B w} {hp : List Blk} (H : HeapOK ρ h B hp w) {k : Nat} {x : SV} {e : LE} (hx : recArg hp k x = some e) : RowS w k (x.den ρ h) (e.den ρ) := by
  unfold recArg at hx
  split at hx
  · injection hx with hx; subst hx; exact .inl ⟨rfl, rfl⟩
  · rename_i id
    split at hx
    · rename_i n k' hn
      split at hx
      · rename_i hk
        rw [nbeq_iff] at hk; subst hk
        injection hx with hx; subst hx
        exact recOf_sound H hn
      · cases hx
    · cases hx
  · rename_i id d len sz
    split at hx
    · rename_i cs T sz' hb
      split at hx
      · rename_i hc
        simp only [Bool.and_eq_true, nbeq_iff, nble_iff, blt_iff] at hc
        obtain ⟨⟨⟨hk1, hk2⟩, hk⟩, hle⟩ := hc
        subst hk1; subst hk2
        split at hx
        · rename_i l hl
          injection hx with hx; subst hx
          exact rowLit_sound H hb (by omega) hle hl
        · cases hx
      · cases hx
    · cases hx
  · cases hx
theorem ArgsRel.cons {w : World} {cs : Env} {p : SV} {v : Value} {r : List SV} {s : List Value} (hp : ∀ n, p ≠ .lst n) (hp2 : ∀ n a k o, p ≠ .sptr n a k o) (hv : v = p.den cs hid0) (h : ArgsRel w cs r s) : ArgsRel w cs (p :: r) (v :: s) := by
  cases p <;> first | exact ⟨hv, h⟩ | exact absurd rfl (hp _) | exact absurd rfl (hp2 _ _ _ _)
theorem place_noLst : ∀ (p : SV) (n m : Nat), (place p n).1 ≠ .lst m := by
  intro p n m
  cases p <;> simp [place]
theorem place_noSptr : ∀ (p : SV) (n m : Nat) (a : At) (k o : Nat), (place p n).1 ≠ .sptr m a k o := by
  intro p n m a k o
  cases p <;> simp [place]
theorem collectA_sound {ρ h B w} {hp : List Blk} (H : HeapOK ρ h B hp w) {cs : Env} : ∀ {ps xs : List SV} {l : List CA} (n : Nat), collectA hp ps xs = some l → (∀ i c, l[i]? = some c → Env.get cs (n + i) = c.den ρ) →
    ArgsRel w cs (placeA ps n).1 (denL ρ h xs)
  | [], [], l, n, hc, hg => trivial
  | [], _ :: _, l, n, hc, hg => by simp [collectA] at hc
  | p :: r, [], l, n, hc, hg => by cases p <;> simp [collectA] at hc
  | p :: r, x :: s, l, n, hc, hg => by
    by_cases hl : ∃ id, p = .lst id
    · obtain ⟨id, rfl⟩ := hl
      simp only [collectA] at hc
      split at hc
      · rename_i e b he hb
        injection hc with hc; subst hc
        have h0 := hg 0 _ rfl
        rw [Nat.add_zero] at h0
        have ih := collectA_sound H (cs := cs) (n + 1) hb (fun i c hi => by rw [Nat.add_assoc, Nat.add_comm 1 i]; exact hg (i + 1) c hi)
        simp only [placeA, denL, ArgsRel]
        refine ⟨?_, ih⟩
        rw [h0]
        exact listArg_sound H he
      · cases hc
    · by_cases hq : ∃ id a k o, p = .sptr id a k o
      · obtain ⟨id, a0, k, o, rfl⟩ := hq
        simp only [collectA] at hc
        split at hc
        · rename_i e b he hb
          injection hc with hc; subst hc
          have h0 := hg 0 _ rfl
          rw [Nat.add_zero] at h0
          have ih := collectA_sound H (cs := cs) (n + 1) hb (fun i c hi => by rw [Nat.add_assoc, Nat.add_comm 1 i]; exact hg (i + 1) c hi)
          simp only [placeA, denL, ArgsRel]
          refine ⟨?_, ih⟩
          rw [h0]
          exact recArg_sound H he
        · cases hc
      have hl' : ∀ id, p ≠ .lst id := fun id e => hl ⟨id, e⟩
      have hq' : ∀ id a k o, p ≠ .sptr id a k o := fun id a k o e => hq ⟨id, a, k, o, e⟩
      have hpl : placeA (p :: r) n = ((place p n).1 :: (placeA r (place p n).2).1, (placeA r (place p n).2).2) := by
        cases p <;> first | rfl | exact absurd rfl (hl' _) | exact absurd rfl (hq' _ _ _ _)
      have hc' : (match collect p x, collectA hp r s with | some a, some b => some (a ++ b) | _, _ => none) = some l := by
        cases p <;> first | exact hc | exact absurd rfl (hl' _) | exact absurd rfl (hq' _ _ _ _)
      split at hc'
      · rename_i la lb ha hb
        injection hc' with hc'; subst hc'
        have ⟨g1, g2⟩ := collect_sound (ρ := ρ) (cs := cs) (h := h) n ha (fun i c hi => hg i c (by rw [List.getElem?_append_left (List.getElem?_eq_some_iff.1 hi).1]; exact hi))
        have ih := collectA_sound H (cs := cs) (n + la.length) hb (fun i c hi => by
          have := hg (la.length + i) c (by rw [List.getElem?_append_right (by omega), Nat.add_sub_cancel_left]; exact hi)
          rw [← this]; congr 1; omega)
        rw [hpl, g2]
        simp only [denL]
        exact ArgsRel.cons (place_noLst p n) (place_noSptr p n) g1 ih
      · cases hc'

theorem get_map_CA {ρ : Env} : ∀ {l : List CA} {i : Nat} {c : CA}, l[i]? = some c → Env.get (l.map (CA.den ρ)) i = c.den ρ
  | [], i, c, h => by simp at h
  | x :: r, 0, c, h => by simp only [List.getElem?_cons_zero, Option.some.injEq] at h; rw [← h]; rfl
  | x :: r, i + 1, c, h => get_map_CA (l := r) (i := i) (by simpa using h)

mutual
theorem place_shift {ρ rs : Env} {h : Hid} : ∀ (p : SV) (n : Nat), (place p (ρ.length + n)).1.den (ρ ++ rs) h = (place p n).1.den rs hid0 ∧ (place p (ρ.length + n)).2 = ρ.length + (place p n).2
  | .int k _, n => by simp only [place, SV.den, At.den, Env.get_append_right, Nat.add_assoc, and_self]
  | .bool _, n => by simp only [place, SV.den, BE.den, Env.get_append_right, Nat.add_assoc, and_self]
  | .agg ps, n => by have ⟨g1, g2⟩ := placeL_shift (ρ := ρ) (rs := rs) (h := h) ps n; simp only [place, SV.den, g1, g2, and_self]
  | .tup ps, n => by have ⟨g1, g2⟩ := placeL_shift (ρ := ρ) (rs := rs) (h := h) ps n; simp only [place, SV.den, g1, g2, and_self]
  | .str _, n | .ptr _ _, n | .gptr _, n | .nilp, n | .row _ _ _ _, n | .nilRow, n | .map _, n | .nilMap, n | .func _ _ _, n | .nilFunc, n | .nilIface, n | .iface _ _, n | .junk _, n | .lst _, n | .lptr _ _, n | .sptr _ _ _ _, n | .gd _ _, n => by
    simp only [place, SV.den, denL, and_self]
theorem placeL_shift {ρ rs : Env} {h : Hid} : ∀ (ps : List SV) (n : Nat), denL (ρ ++ rs) h (placeL ps (ρ.length + n)).1 = denL rs hid0 (placeL ps n).1 ∧ (placeL ps (ρ.length + n)).2 = ρ.length + (placeL ps n).2
  | [], n => by simp only [placeL, denL, and_self]
  | p :: r, n => by
    have ⟨g1, g2⟩ := place_shift (ρ := ρ) (rs := rs) (h := h) p n
    have ⟨g3, g4⟩ := placeL_shift (ρ := ρ) (rs := rs) (h := h) r (place p n).2
    simp only [placeL, denL, g1, g2, g3, g4, and_self]
end

theorem Rep.bindL {S : St} {ρ h J a w} (r : Rep w0 S ρ h J a w) (hs : S.scoped = true) {sh : List Sh} {rs : List Cv} (hf : Fits sh rs) :
    Rep w0 { S with nv := S.nv + sh.length, ivs := S.ivs ++ sh.map Sh.iv } (ρ ++ rs) h J a w ∧ Later S { S with nv := S.nv + sh.length, ivs := S.ivs ++ sh.map Sh.iv } ρ h J (ρ ++ rs) h J := by
  have A : Agree S.nv S.nb S.nj ρ h (ρ ++ rs) h := agree_append r.nv
  obtain ⟨g1, g2, g3, g4, g5⟩ := r.grow hs A
  have hl := hf.length
  refine ⟨⟨?_, r.lv, ?_, ⟨fun i lo hi hi' => ?_, g3, g4, fun i y hy => (lst_append hy).elim (r.fok.lst i y) fun ⟨j, hj⟩ => hf.lst j y hj⟩, g1, r.defers, g2, r.below⟩, ⟨A, Nat.le_add_right _ _, Nat.le_refl _, Nat.le_refl _, rfl, [], by simp⟩⟩
  · simp [r.nv, hl]
  · simp [r.ivl]
  · simp only [] at hi'
    rw [List.getElem?_append] at hi'
    split at hi'
    · exact g5 i lo hi hi'
    · rename_i hge
      have := hf.iv _ lo hi hi'
      have he : i = ρ.length + (i - S.ivs.length) := by rw [r.ivl, r.nv] at *; omega
      rw [he, Env.get_append_right]
      exact this
end
end Go.SX
