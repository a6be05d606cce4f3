/-
  The symbolic executor: rows of the call's own: made, and appended to.
-/
import Derived.Test.YtmnpeneplobpdaaDoorSxStep
import Derived.ArgAppend
namespace Go.SX
open Go Go.RowKit
set_option linter.unusedVariables false
set_option linter.unusedSimpArgs false

/-- a new row: where it lies, and how great it is -/
def Hid.addR (h : Hid) (nb b k : Nat) : Hid := { h with β := fun i => if i = nb then b else h.β i, κ := fun i => if i = nb then k else h.κ i }
theorem addR_agree {nv nb nj ρ h b k} : Agree nv nb nj ρ h ρ (Hid.addR h nb b k) :=
  ⟨fun _ _ => rfl, fun i hi => by simp only [Hid.addR]; rw [if_neg (by omega)], fun i hi => by simp only [Hid.addR]; rw [if_neg (by omega)], fun _ _ => rfl, fun _ _ => rfl⟩
theorem addR_at {h : Hid} {nb b k : Nat} : (Hid.addR h nb b k).β nb = b := by simp [Hid.addR]
theorem addR_cap {h : Hid} {nb b k : Nat} : (Hid.addR h nb b k).κ nb = k := by simp [Hid.addR]

theorem oneCell_of {v : Value} (h : oneV v = true) : v.oneCell' = true := by cases v <;> first | rfl | cases h

theorem scopedL_take {nv nb nj : Nat} : ∀ {l : List SV} {n : Nat}, scopedL nv nb nj l = true → scopedL nv nb nj (l.take n) = true
  | [], n, h => by simp [scopedL]
  | x :: r, 0, h => rfl
  | x :: r, n + 1, h => by
    simp only [scopedL, Bool.and_eq_true] at h
    simp only [List.take_succ_cons, scopedL, Bool.and_eq_true]
    exact ⟨h.1, scopedL_take h.2⟩
theorem scopedL_append {nv nb nj : Nat} : ∀ {l m : List SV}, scopedL nv nb nj l = true → scopedL nv nb nj m = true → scopedL nv nb nj (l ++ m) = true
  | [], m, _, hm => hm
  | x :: r, m, h, hm => by
    simp only [scopedL, Bool.and_eq_true] at h
    simp only [List.cons_append, scopedL, Bool.and_eq_true]
    exact ⟨h.1, scopedL_append h.2 hm⟩

section
variable {P : Program} {M : Nat → SpecSem} {R RP : Value → Prop} {F : Ex → St → Js → Env → Prop} {w0 : World}

/-- the state with one more row, and blocks that are dead now -/
theorem Rep.growRow {S : St} {ρ h J a w w'} (r : Rep w0 S ρ h J a w) (hs : S.scoped = true) {H : List Blk} {cs : List SV} {e : TypeId} {sz g k : Nat} {rest : List Value}
    (hlen : H.length = S.heap.length) (hold : ∀ i b, H[i]? = some b → b.live = true → S.heap[i]? = some b ∧ w'.heap[h.β i]? = w.heap[h.β i]? ∧ h.β i ≠ g)
    (hlst : ∀ (i : Nat) (b : Blk), H[i]? = some b → b.live = false → S.heap[i]? = some b ∨ b = Blk.dead) (hlk : ∀ k, LBlk ρ h w0.heap.size w S.heap k → w'.heap[k]? = w.heap[k]? ∧ k ≠ g)
    (hb : Below w0.heap.size w w') (hc : scopedL S.nv S.nb S.nj cs = true) (hg : w'.heap[g]? = some (.cells (denL ρ h cs ++ rest).toArray e (0, 0))) (hk : cs.length + rest.length = k * sz) (hkm : k ≤ maxLen) (hgb : w0.heap.size ≤ g) :
    Rep w0 { S with heap := H ++ [.row cs e sz] } ρ (Hid.addR h S.nb g k) J a w' ∧ Later S { S with heap := H ++ [.row cs e sz] } ρ h J ρ (Hid.addR h S.nb g k) J := by
  have A : Agree S.nv S.nb S.nj ρ h ρ (Hid.addR h S.nb g k) := addR_agree
  obtain ⟨g1, g2, g3, g4, g5⟩ := r.grow hs A
  obtain ⟨s1, s2, s3, s4⟩ := scoped_parts hs
  have hnb : S.nb = S.heap.length := rfl
  have part : ∀ {i : Nat} {c : Blk}, (H ++ [Blk.row cs e sz])[i]? = some c → (i < S.nb ∧ H[i]? = some c) ∨ (i = S.nb ∧ c = .row cs e sz) := by
    intro i c hc
    rw [List.getElem?_append] at hc
    split at hc
    · rename_i hlt; exact .inl ⟨by omega, hc⟩
    · rename_i hge
      have hlt := (List.getElem?_eq_some_iff.1 hc).1
      simp at hlt
      have hi : i = H.length := by omega
      subst hi
      rw [Nat.sub_self, List.getElem?_cons_zero] at hc
      injection hc with hc
      exact .inr ⟨by omega, hc.symm⟩
  refine ⟨⟨r.nv, r.lv, r.ivl, ⟨g5, g3, g4, r.fok.lst⟩, g1, r.defers, ⟨fun i c hci => ?_, fun i c hci hl => ?_, fun i j c d hci hdj hl hl' he => ?_, ?_⟩, r.below.trans hb⟩, ⟨A, Nat.le_refl _, by simp [St.nb, hlen], Nat.le_refl _, rfl, [], by simp⟩⟩
  · rcases part hci with ⟨hlt, hc1⟩ | ⟨rfl, rfl⟩
    · cases hlv : c.live with
      | false => cases c <;> simp [Blk.live] at hlv <;> trivial
      | true =>
        obtain ⟨e1, e2, e3⟩ := hold i c hc1 hlv
        have hok := (r.heap.blk i c e1).agree A hlt (heapScoped_get s2 i c e1)
        refine hok.world fun _ => ?_
        rw [A.β i hlt]; exact e2
    · refine ⟨rest, ?_, by rw [addR_cap]; exact hk, by rw [addR_cap]; exact hkm⟩
      rw [addR_at, denL_agree A cs hc]; exact hg
  · rcases part hci with ⟨hlt, hc1⟩ | ⟨rfl, rfl⟩
    · obtain ⟨e1, e2, e3⟩ := hold i c hc1 hl
      have := r.heap.own i c e1 hl
      rw [A.β i hlt]; exact ⟨this.1, Nat.lt_of_lt_of_le this.2 hb.size⟩
    · rw [addR_at]; exact ⟨hgb, by by_cases hh : g < w'.heap.size; exact hh; rw [Array.getElem?_eq_none (by omega)] at hg; cases hg⟩
  · rcases part hci with ⟨hlt, hc1⟩ | ⟨hi, hcb⟩
    · obtain ⟨e1, e2, e3⟩ := hold i c hc1 hl
      rcases part hdj with ⟨hlt', hd1⟩ | ⟨hj, hdb⟩
      · obtain ⟨f1, f2, f3⟩ := hold j d hd1 hl'
        rw [A.β i hlt, A.β j hlt'] at he
        exact r.heap.inj i j c d e1 f1 hl hl' he
      · rw [hj, addR_at, A.β i hlt] at he; exact absurd he e3
    · rcases part hdj with ⟨hlt', hd1⟩ | ⟨hj, hdb⟩
      · obtain ⟨f1, f2, f3⟩ := hold j d hd1 hl'
        rw [hi, addR_at, A.β j hlt'] at he; exact absurd he.symm f3
      · rw [hi, hj]
  · have hm : ListsOK ρ (Hid.addR h S.nb g k) w0.heap.size H w' := by
      refine r.heap.lists.map id (fun i n e hi => ?_) (fun i n k hi => ?_) (fun j b hj hbl => ?_) (fun i j n e m e' _ _ h => h) (fun k hk => (hlk k hk).1)
      · rcases hlst i _ hi rfl with h1 | h1
        · exact ⟨n, h1, rfl, rfl⟩
        · cases h1
      · rcases hlst i _ hi rfl with h1 | h1
        · exact ⟨⟨n, h1, rfl⟩, rfl⟩
        · cases h1
      · obtain ⟨e1, e2, e3⟩ := hold j b hj hbl
        exact ⟨b, e1, hbl, A.β j (by have := (List.getElem?_eq_some_iff.1 e1).1; exact this)⟩
    refine hm.pushLive (.inl rfl) fun _ k' hk' => ?_
    have e : (Hid.addR h S.nb g k).β H.length = g := by rw [hlen]; exact addR_at
    rw [e]
    have hold2 : ∀ {i n : Nat} {e : TypeId}, H[i]? = some (.own n e) → S.heap[i]? = some (.own n e) := fun hi => by
      rcases hlst _ _ hi rfl with h4 | h4
      · exact h4
      · cases h4
    rcases hk' with ⟨i, h1, h2⟩ | ⟨i, n, e, vs, L, h1, h2, h3, h4⟩
    · refine (hlk k' (.inl ⟨i, h1, ?_⟩)).2
      rcases h2 with ⟨n, e, h2⟩ | ⟨n, k, h2, h3⟩
      · exact .inl ⟨n, e, hold2 h2⟩
      · rcases hlst i _ h2 rfl with h4 | h4
        · exact .inr ⟨n, k, h4, h3⟩
        · cases h4
    · have hi := hold2 h1
      obtain ⟨vs', L', h5, _⟩ := r.heap.lists.grid i n e hi h2
      have h6 := h5.keep (w' := w') (fun g hg => (hlk g (.inl ⟨i, hg, .inl ⟨n, e, hi⟩⟩)).1) (fun g hg => (hlk g (.inr ⟨i, n, e, vs', L', hi, h2, h5, hg⟩)).1)
      have e1 : vs' = vs := ownsRow_uniq h6.2.1 h3.2.1
      have e2 : L' = L := enc_inj (h5.1.symm.trans h3.1)
      subst e1 e2
      exact (hlk k' (.inr ⟨i, n, e, vs', L', hi, h2, h5, h4⟩)).2

/-- a row is owned -/
theorem row_owns {S : St} {ρ h J a w} (r : Rep w0 S ρ h J a w) {id n sz : Nat} {cs : List SV} {e : TypeId} (hb : S.heap[id]? = some (.row cs e sz)) (hn : n * sz ≤ cs.length) (hsz : 0 < sz) :
    w.ownsRow w0.heap.size e sz (.slice (some ⟨h.β id, 0, none⟩) n (h.κ id)) n ((denL ρ h cs).take (n * sz)) := by
  obtain ⟨rest, h1, h2, h3⟩ := r.heap.blk _ _ hb
  have hown := r.heap.own _ _ hb rfl
  refine ⟨by rw [List.length_take, denL_length]; omega, .inr ⟨_, _, _, rfl, hown.1, h1, ?_, h3, ?_, ?_⟩⟩
  · have : n * sz ≤ h.κ id * sz := by omega
    exact Nat.le_of_mul_le_mul_right this hsz
  · simp only [List.size_toArray, List.length_append, denL_length]; exact h2
  · simp only [List.take_append, denL_length]
    rw [show n * sz - cs.length = 0 by omega]
    simp

/-- what an append finds, and leaves -/
theorem run_append_row {S : St} {ρ h J a w} (r : Rep w0 S ρ h J a w) {T e ty : TypeId} {te : Ty} {z : SV} {zc : List SV} (hT : P.underlying T = some (.slice e)) (hte : TyOK P e te) (hz : te.zero = some z) (hzc : z.cells = some zc)
    {id2 d2 m sz : Nat} {cs2 : List SV} {e2 : TypeId} (hb2 : S.heap[id2]? = some (.row cs2 e2 sz)) (hsz : te.size = sz) (hle : (d2 + m) * sz ≤ cs2.length) (h0 : 0 < sz) (hm0 : 0 < m) (hzl : zc.length = te.size) (hby : te.bytes ≤ 4096) (hm : m ≤ 100000)
    (hone : oneCells ((cs2.drop (d2 * sz)).take (m * sz)) = true) {v : Value} {n : Nat} {xs : List Value} (hn : n ≤ 100000)
    (hv : v = .slice none 0 0 ∧ n = 0 ∧ xs = [] ∨ ∃ g cap, v = .slice (some ⟨g, 0, none⟩) n cap ∧ w.ownsRow w0.heap.size e sz v n xs) :
    ∃ g k w' rest, (Builtin.append_ #[T, T] ty #[v, .slice (some ⟨h.β id2, d2 * sz, none⟩) m (h.κ id2 - d2)]).run P w = .ok (.slice (some ⟨g, 0, none⟩) (n + m) k) w' ∧
      w'.heap[g]? = some (.cells (xs ++ denL ρ h ((cs2.drop (d2 * sz)).take (m * sz)) ++ rest).toArray e (0, 0)) ∧ (xs.length + ((cs2.drop (d2 * sz)).take (m * sz)).length) + rest.length = k * sz ∧ k ≤ maxLen ∧ w0.heap.size ≤ g ∧
      w.grownBy w' v.ownBlock ∧ (some g = v.ownBlock ∨ w.heap.size ≤ g) := by
  obtain ⟨i, hi, hs, hz', hb'⟩ := hte.info
  have h1 := hz' z hz
  obtain ⟨zv, hzv, hsv⟩ : ∃ zv, i.zero = some zv ∧ svOf zv = some z := by
    cases hzz : i.zero with
    | none => rw [hzz] at h1; cases h1
    | some zv => rw [hzz] at h1; exact ⟨zv, rfl, h1⟩
  have hzd := svOf_sound hsv ρ h
  have hcell := cells_sound (ρ := ρ) (h := h) hzc
  have hzs : zv.cells.size = sz := by rw [← hzd, hcell, List.size_toArray, denL_length]; omega
  obtain ⟨rest2, hblk2, hk2, _⟩ := r.heap.blk _ _ hb2
  have hnl : (denL ρ h ((cs2.drop (d2 * sz)).take (m * sz))).length = m * sz := by
    rw [denL_length, List.length_take, List.length_drop]
    have : (d2 + m) * sz = d2 * sz + m * sz := Nat.add_mul ..
    omega
  have hcells : ∀ j u, (denL ρ h ((cs2.drop (d2 * sz)).take (m * sz)))[j]? = some u → w.cell? ((⟨h.β id2, d2 * sz, none⟩ : Addr).add j) = some u := by
    intro j u hu
    have hj := (List.getElem?_eq_some_iff.1 hu).1
    rw [hnl] at hj
    rw [addr_add, cell_of_blk hblk2, List.getElem?_append_left (by rw [denL_length]; have : (d2 + m) * sz = d2 * sz + m * sz := Nat.add_mul ..; omega)]
    rw [denL_take, denL_drop, List.getElem?_take, if_pos hj, List.getElem?_drop] at hu
    exact hu
  have h1c : ∀ u ∈ denL ρ h ((cs2.drop (d2 * sz)).take (m * sz)), u.oneCell' = true := fun u hu => oneCell_of (oneCells_sound hone u hu)
  have hbytes : (n + m) * i.bytes ≤ 140737488355328 := by
    have : (n + m) * i.bytes ≤ 200000 * 4096 := Nat.mul_le_mul (by omega) (by omega)
    omega
  have hmx : n + m ≤ maxLen := by simp only [maxLen]; omega
  -- out of a row that is owned from B on
  have fin : ∀ {B : Nat} {v' : Value} {w' : World}, (Builtin.append_ #[T, T] ty #[v, .slice (some ⟨h.β id2, d2 * sz, none⟩) m (h.κ id2 - d2)]).run P w = .ok v' w' → w'.ownsRow B e sz v' (n + m) (xs ++ denL ρ h ((cs2.drop (d2 * sz)).take (m * sz))) → w.grownBy w' v.ownBlock →
      w0.heap.size ≤ B → (∀ g k, v' = .slice (some ⟨g, 0, none⟩) (n + m) k → B ≤ g → some g = v.ownBlock ∨ w.heap.size ≤ g) →
      ∃ g k w' rest, (Builtin.append_ #[T, T] ty #[v, .slice (some ⟨h.β id2, d2 * sz, none⟩) m (h.κ id2 - d2)]).run P w = .ok (.slice (some ⟨g, 0, none⟩) (n + m) k) w' ∧
        w'.heap[g]? = some (.cells (xs ++ denL ρ h ((cs2.drop (d2 * sz)).take (m * sz)) ++ rest).toArray e (0, 0)) ∧ (xs.length + ((cs2.drop (d2 * sz)).take (m * sz)).length) + rest.length = k * sz ∧ k ≤ maxLen ∧ w0.heap.size ≤ g ∧
        w.grownBy w' v.ownBlock ∧ (some g = v.ownBlock ∨ w.heap.size ≤ g) := by
    intro B v' w' hr ho hg hB hwhere
    obtain ⟨o1, o2⟩ := ho
    rcases o2 with ⟨_, o3⟩ | ⟨g, cap, cur, rfl, o3, o4, o5, o6, o7, o8⟩
    · omega
    · refine ⟨g, cap, w', cur.toList.drop ((n + m) * sz), hr, ?_, ?_, o6, by omega, hg, hwhere g cap rfl o3⟩
      · rw [← o8, List.take_append_drop]; exact o4
      · rw [← denL_length (ρ := ρ) (h := h) (l := (cs2.drop (d2 * sz)).take (m * sz)), ← List.length_append, o1, List.length_drop, Array.length_toList, o7]
        have : (n + m) * sz ≤ cap * sz := Nat.mul_le_mul_right _ o5
        omega
  rcases hv with ⟨rfl, rfl, rfl⟩ | ⟨g, cap, rfl, hown⟩
  · obtain ⟨v', w', hr, ho, hg, _⟩ := run_append_own (P := P) w w.heap.size T ty e i zv sz i.bytes hT hi hzv (hs.trans hsz) rfl hzs h0 _ 0 [] (World.ownsRow_nil w _ e sz) _ m _ _ hnl hcells h1c hmx hbytes (Nat.le_refl _)
    exact fin hr ho hg r.below.size fun g k _ hB => .inr hB
  · by_cases hroom : n + m ≤ cap
    · obtain ⟨w', hr, ho, hg⟩ := run_append_fits (P := P) w w0.heap.size T ty e i sz hT hi (hs.trans hsz) g n cap xs hown _ m _ _ hnl hcells h1c hroom
      exact fin hr ho hg (Nat.le_refl _) fun g' k hv' _ => .inl (by simp only [Value.slice.injEq, Option.some.injEq, Addr.mk.injEq] at hv'; simp only [Value.ownBlock]; rw [hv'.1.1])
    · have holds : ∀ j u, xs[j]? = some u → w.cell? ((⟨g, 0, none⟩ : Addr).add j) = some u := hown.cells (g := g) rfl
      obtain ⟨v', w', hr, ho, hg⟩ := run_append_arg_grows (P := P) w T ty e i zv sz i.bytes hT hi hzv (hs.trans hsz) rfl hzs h0 ⟨g, 0, none⟩ n cap xs hown.1 holds _ m _ _ hnl hcells (by omega) hmx hbytes
      exact fin hr ho ⟨hg.os, hg.tape, hg.output, hg.size, fun k hk _ => hg.block k hk (by simp)⟩ r.below.size fun g k _ hB => .inr hB

/-- what a row made of parts is -/
theorem run_buildSlice {ρ h w} {T e : TypeId} {te : Ty} (hT : P.underlying T = some (.slice e)) (hte : TyOK P e te) {len : Nat} {zc cs : List SV} {l : List (Nat × SV)} {parts : Array (Nat × Value)}
    (hzc : (if Nat.beq (len * te.size) 0 then some [] else match te.zero with | some z => z.cells | none => none) = some zc)
    (hfill : fillS (fun i => some (i * te.size, te.size)) ((List.range (len * te.size)).map fun i => (zc[i % zc.length]?).getD (.tup [])) l = some cs)
    (hle : len * te.size ≤ 1000) (hz0 : len * te.size = 0 ∨ 0 < zc.length) (hp : parts.toList = l.map (fun p => (p.1, p.2.den ρ h))) :
    (Instr.buildSlice T len parts).run P w = .ok (.slice (some ⟨w.heap.size, 0, none⟩) len len) (w.alloc (.cells (denL ρ h cs).toArray e)) := by
  have hinit : ((Array.range (len * te.size)).map fun i => (denL ρ h zc).toArray[i % (denL ρ h zc).toArray.size]!) = (denL ρ h ((List.range (len * te.size)).map fun i => (zc[i % zc.length]?).getD (.tup []))).toArray := by
    apply Array.ext_getElem?
    intro i
    by_cases hi : i < len * te.size
    · have hlt : i % zc.length < zc.length := Nat.mod_lt _ (by omega)
      simp [hi, denL_get, denL_length, hlt, List.getElem?_eq_getElem hlt]
      apply Option.some.inj
      rw [← List.getElem?_eq_getElem, denL_get, List.getElem?_map, List.getElem?_range hi]
      simp [List.getElem?_eq_getElem hlt]
    · rw [Array.getElem?_eq_none (by simp; omega), Array.getElem?_eq_none (by simp [denL_length]; omega)]
  have hf := fillS_sound (ρ := ρ) (h := h) (place := fun i => some (i * te.size, te.size)) (placeS := fun i => some (i * te.size, te.size)) (fun i => rfl) hfill
  have hng : ¬ len * te.size > 2 ^ 24 := by omega
  have fin : (match Instr.fill (fun i => some (i * te.size, te.size)) ((Array.range (len * te.size)).map fun i => (denL ρ h zc).toArray[i % (denL ρ h zc).toArray.size]!) parts.toList with
      | some cells => (do pure (.slice (some (← newRow e cells)) len len) : Sem Value)
      | _ => stuck "buildSlice: a part of the wrong size").run P w = .ok (.slice (some ⟨w.heap.size, 0, none⟩) len len) (w.alloc (.cells (denL ρ h cs).toArray e)) := by
    rw [hinit, hp, hf]
    simp only [Sem.run_bind, newRow, newObj, Sem.run, pure, Result.andThen_ok]
    rfl
  by_cases h0 : len * te.size = 0
  · rw [if_pos (nbeq_iff.2 h0)] at hzc
    injection hzc with hzc; subst hzc
    simp only [Instr.buildSlice, Sem.run_bind, run_under hT, Result.andThen_ok, run_sizeOf' hte, hng, if_false]
    rw [if_pos h0]
    exact fin
  · rw [if_neg (fun h => h0 (nbeq_iff.1 h))] at hzc
    cases hz : te.zero with
    | none => rw [hz] at hzc; cases hzc
    | some z =>
      rw [hz] at hzc
      simp only [Instr.buildSlice, Sem.run_bind, run_under hT, Result.andThen_ok, run_sizeOf' hte, hng, if_false]
      rw [if_neg h0]
      simp only [Sem.run_bind, run_zeroValue' hte hz ρ h, Result.andThen_ok, cells_sound hzc]
      exact fin
/-! ### rows that lists tell of -/
theorem Rep.letl {S : St} {ρ h J a w} (r : Rep w0 S ρ h J a w) (hs : S.scoped = true) {xs : List Int} (hI : InI xs) :
    Rep w0 { S with nv := S.nv + 1, ivs := S.ivs ++ [none] } (ρ ++ [.l xs]) h J a w ∧ Later S { S with nv := S.nv + 1, ivs := S.ivs ++ [none] } ρ h J (ρ ++ [.l xs]) h J :=
  Rep.bindL (sh := [.l]) (rs := [.l xs]) r hs ⟨hI, trivial⟩
def Hid.addS (h : Hid) (nb : Nat) (v : Value) : Hid := { h with σ := fun i => if i = nb then v else h.σ i }
theorem addS_agree {nv nb nj ρ h v} : Agree nv nb nj ρ h ρ (Hid.addS h nb v) :=
  ⟨fun _ _ => rfl, fun _ _ => rfl, fun _ _ => rfl, fun _ _ => rfl, fun i hi => by simp only [Hid.addS]; rw [if_neg (by omega)]⟩
theorem addS_at {h : Hid} {nb : Nat} {v : Value} : (Hid.addS h nb v).σ nb = v := by simp [Hid.addS]
/-- the state with another heap, and what its rows are -/
theorem Rep.reheap {S : St} {ρ h J a w w'} (r : Rep w0 S ρ h J a w) (hs : S.scoped = true) {H : List Blk} {v : Value}
    (hlen : S.heap.length ≤ H.length) (hold : ∀ i b, H[i]? = some b → b.live = true → i < S.nb ∧ S.heap[i]? = some b ∧ w'.heap[h.β i]? = w.heap[h.β i]?)
    (hb : Below w0.heap.size w w') (hl : ListsOK ρ (Hid.addS h S.nb v) w0.heap.size H w') :
    Rep w0 { S with heap := H } ρ (Hid.addS h S.nb v) J a w' ∧ Later S { S with heap := H } ρ h J ρ (Hid.addS h S.nb v) J := by
  have A : Agree S.nv S.nb S.nj ρ h ρ (Hid.addS h S.nb v) := addS_agree
  obtain ⟨g1, g2, g3, g4, g5⟩ := r.grow hs A
  obtain ⟨s1, s2, s3, s4⟩ := scoped_parts hs
  refine ⟨⟨r.nv, r.lv, r.ivl, ⟨g5, g3, g4, r.fok.lst⟩, g1, r.defers, ⟨fun i c hci => ?_, fun i c hci hl => ?_, fun i j c d hci hdj hl hl' he => ?_, hl⟩, r.below.trans hb⟩, ⟨A, Nat.le_refl _, hlen, Nat.le_refl _, rfl, [], by simp⟩⟩
  · cases hlv : c.live with
    | false => cases c <;> simp [Blk.live] at hlv <;> trivial
    | true =>
      obtain ⟨e0, e1, e2⟩ := hold i c hci hlv
      exact (g2.blk i c e1).world fun _ => e2
  · obtain ⟨e0, e1, e2⟩ := hold i c hci hl
    have := r.heap.own i c e1 hl
    exact ⟨this.1, Nat.lt_of_lt_of_le this.2 hb.size⟩
  · obtain ⟨e0, e1, e2⟩ := hold i c hci hl
    obtain ⟨f0, f1, f2⟩ := hold j d hdj hl'
    exact r.heap.inj i j c d e1 f1 hl hl' he
theorem LBlk.addS {ρ h nb v g B w} {hp : List Blk} (hl : hp.length ≤ nb) : LBlk ρ (Hid.addS h nb v) B w hp g ↔ LBlk ρ h B w hp g := by
  have key : ∀ i b, hp[i]? = some b → (Hid.addS h nb v).σ i = h.σ i := fun i b hb => by
    have := (List.getElem?_eq_some_iff.1 hb).1
    simp only [Hid.addS]; rw [if_neg (by omega)]
  constructor
  · rintro (⟨i, h1, h2⟩ | ⟨i, n, e, vs, L, h1, h2, h3, h4⟩)
    · refine .inl ⟨i, ?_, h2⟩
      rcases h2 with ⟨n, e, h2⟩ | ⟨n, k, h2, _⟩ <;> rw [key i _ h2] at h1 <;> exact h1
    · exact .inr ⟨i, n, e, vs, L, h1, h2, by rw [key i _ h1] at h3; exact h3, h4⟩
  · rintro (⟨i, h1, h2⟩ | ⟨i, n, e, vs, L, h1, h2, h3, h4⟩)
    · refine .inl ⟨i, ?_, h2⟩
      rcases h2 with ⟨n, e, h2⟩ | ⟨n, k, h2, _⟩ <;> rw [key i _ h2] <;> exact h1
    · exact .inr ⟨i, n, e, vs, L, h1, h2, by rw [key i _ h1]; exact h3, h4⟩
/-- one more row of the call's own, in a heap where some blocks are dead now -/
theorem Rep.growOwnG {S : St} {ρ h J a w w'} (r : Rep w0 S ρ h J a w) (hs : S.scoped = true) {H : List Blk} {n : Nat} {e : TypeId} {v : Value}
    (hlen : H.length = S.heap.length) (hold : ∀ (i : Nat) (b : Blk), H[i]? = some b → S.heap[i]? = some b ∨ b = Blk.dead)
    (hb : Below w0.heap.size w w') (hlive : ∀ i b, H[i]? = some b → b.live = true → w'.heap[h.β i]? = w.heap[h.β i]? ∧ v.ownBlock ≠ some (h.β i))
    (hlk : ∀ k, LBlk ρ h w0.heap.size w H k → w'.heap[k]? = w.heap[k]? ∧ v.ownBlock ≠ some k)
    (hown : isG e = false → OwnS w' w0.heap.size e v (ρ.get n).list)
    (hgr : isG e = true → ∃ vs L, GridIs w' w0.heap.size e v (ρ.get n).list vs L ∧ ∀ g, GF vs L g → (∀ j b, H[j]? = some b → b.live = true → h.β j ≠ g) ∧ v.ownBlock ≠ some g ∧ ∀ j m e', H[j]? = some (.own m e') → (h.σ j).ownBlock ≠ some g) :
    Rep w0 { S with heap := H ++ [.own n e] } ρ (Hid.addS h S.nb v) J a w' ∧ Later S { S with heap := H ++ [.own n e] } ρ h J ρ (Hid.addS h S.nb v) J := by
  have hnb : S.nb = S.heap.length := rfl
  refine r.reheap hs (by simp [hlen]) (fun i b hi hl => ?_) hb ?_
  · rw [List.getElem?_append] at hi
    split at hi
    · rename_i hlt
      rcases hold i b hi with h1 | h1
      · exact ⟨by omega, h1, (hlive i b hi hl).1⟩
      · subst h1; cases hl
    · rename_i hge
      have hlt := (List.getElem?_eq_some_iff.1 hi).1
      simp at hlt
      rw [show i - H.length = 0 by omega, List.getElem?_cons_zero] at hi
      injection hi with hi; subst hi; cases hl
  · have kσ : ∀ i b, H[i]? = some b → (Hid.addS h S.nb v).σ i = h.σ i := fun i b hb => by
      have := (List.getElem?_eq_some_iff.1 hb).1
      simp only [Hid.addS]; rw [if_neg (by omega)]
    have hm : ListsOK ρ h w0.heap.size H w := by
      refine r.heap.lists.map id (fun i n e hi => ?_) (fun i n k hi => ?_) (fun j b hj hbl => ?_) (fun i j n e m e' _ _ h => h) (fun _ _ => rfl)
      · rcases hold i _ hi with h1 | h1
        · exact ⟨n, h1, rfl, rfl⟩
        · cases h1
      · rcases hold i _ hi with h1 | h1
        · exact ⟨⟨n, h1, rfl⟩, rfl⟩
        · cases h1
      · rcases hold j _ hj with h1 | h1
        · exact ⟨b, h1, hbl, rfl⟩
        · subst h1; cases hbl
    have hm2 : ListsOK ρ (Hid.addS h S.nb v) w0.heap.size H w' :=
      hm.map id (fun i n e hi => ⟨n, hi, rfl, kσ i _ hi⟩) (fun i n k hi => ⟨⟨n, hi, rfl⟩, kσ i _ hi⟩) (fun j b hj hbl => ⟨b, hj, hbl, rfl⟩) (fun i j n e m e' _ _ h => h) (fun k hk => (hlk k hk).1)
    have e0 : (Hid.addS h S.nb v).σ H.length = v := by rw [hlen]; exact addS_at
    refine hm2.pushOwnG (fun hge => by rw [e0]; exact hown hge) (fun hge => ?_) fun g hg => ?_
    · obtain ⟨vs, L, h1, h2⟩ := hgr hge
      rw [e0]
      exact ⟨vs, L, h1, fun g hg => ⟨(h2 g hg).1, (h2 g hg).2.1, fun j m e' hj => by rw [kσ j _ hj]; exact (h2 g hg).2.2 j m e' hj⟩⟩
    · rw [e0] at hg
      refine ⟨fun hk => (hlk g (LBlk.back hm (fun k hk => (hlk k hk).1) ((LBlk.addS (by omega)).1 hk))).2 hg, fun j b hj hbl he => (hlive j b hj hbl).2 ?_⟩
      rw [hg]; exact congrArg some he.symm
theorem Rep.growOwn {S : St} {ρ h J a w w'} (r : Rep w0 S ρ h J a w) (hs : S.scoped = true) {H : List Blk} {n : Nat} {e : TypeId} {v : Value} (hge : isG e = false)
    (hlen : H.length = S.heap.length) (hold : ∀ (i : Nat) (b : Blk), H[i]? = some b → S.heap[i]? = some b ∨ b = Blk.dead)
    (hb : Below w0.heap.size w w') (hlive : ∀ i b, H[i]? = some b → b.live = true → w'.heap[h.β i]? = w.heap[h.β i]? ∧ v.ownBlock ≠ some (h.β i))
    (hlk : ∀ k, LBlk ρ h w0.heap.size w H k → w'.heap[k]? = w.heap[k]? ∧ v.ownBlock ≠ some k)
    (hown : OwnS w' w0.heap.size e v (ρ.get n).list) :
    Rep w0 { S with heap := H ++ [.own n e] } ρ (Hid.addS h S.nb v) J a w' ∧ Later S { S with heap := H ++ [.own n e] } ρ h J ρ (Hid.addS h S.nb v) J :=
  r.growOwnG hs hlen hold hb hlive hlk (fun _ => hown) (fun h => by rw [hge] at h; cases h)
theorem stE_lt {e : TypeId} (h : isG e = false) : stE e < 1000 := by
  have h1 : ¬ 1000000 ≤ e := fun h2 => by unfold isG at h; rw [nble_iff.2 h2] at h; cases h
  unfold stE
  split
  · decide
  · have h3 : e < 1000000 := Nat.lt_of_not_le h1
    exact Nat.div_lt_of_lt_mul (Nat.lt_of_lt_of_le h3 (by decide))
/-- a row of the call's own is read alone from now on -/
theorem ListsOK.freeze {ρ h B hp w} (H : ListsOK ρ h B hp w) {id n k0 : Nat} (hid : (∃ e, hp[id]? = some (.own n e) ∧ isG e = false ∧ stE e = k0) ∨ ∃ k, hp[id]? = some (.view n k) ∧ kS k = kS k0 ∧ (1000 ≤ k0 → 1000 ≤ k)) : ListsOK ρ h B (hp.set id (.view n k0)) w := by
  have part : ∀ {i : Nat} {d : Blk}, (hp.set id (.view n k0))[i]? = some d → (i ≠ id ∧ hp[i]? = some d) ∨ (i = id ∧ d = .view n k0) := by
    intro i d hd
    rw [List.getElem?_set] at hd
    split at hd
    · rename_i he; subst he
      split at hd
      · injection hd with hd; exact .inr ⟨rfl, hd.symm⟩
      · cases hd
    · rename_i hne; exact .inl ⟨fun e => hne e.symm, hd⟩
  have po : ∀ {i m : Nat} {e : TypeId}, (hp.set id (.view n k0))[i]? = some (.own m e) → i ≠ id ∧ hp[i]? = some (.own m e) := fun hi => by
    rcases part hi with h1 | ⟨_, h1⟩
    · exact h1
    · cases h1
  have pl : ∀ {i : Nat} {b : Blk}, (hp.set id (.view n k0))[i]? = some b → b.live = true → hp[i]? = some b := fun hi hb => by
    rcases part hi with h1 | ⟨_, h1⟩
    · exact h1.2
    · subst h1; cases hb
  refine ⟨fun i m e hi hge => H.own i m e (po hi).2 hge, fun i m k hi => ?_, fun i m e j b hi hj hb => H.apart i m e j b (po hi).2 (pl hj hb) hb, fun i j m e m' e' g hi hj => H.two i j m e m' e' g (po hi).2 (po hj).2, fun i m k j b hi hne hj hb => ?_, fun i m k j m' e g hi hne hj hg => ?_, fun i m e hi hge => ?_, fun i m k g hi hk hne hg => ?_⟩
  rotate_right 1
  · rcases part hi with ⟨_, h1⟩ | ⟨rfl, h1⟩
    · exact H.vold i m k g h1 hk hne hg
    · injection h1 with h1 h2; subst h1; subst h2
      rcases hid with ⟨e, hid, hge, hst⟩ | ⟨k', hid, _, ho⟩
      · have := stE_lt hge; omega
      · exact H.vold _ _ _ _ hid (ho hk) hne hg
  · rcases part hi with ⟨_, h1⟩ | ⟨rfl, h1⟩
    · exact H.view i m k h1
    · injection h1 with h1 h2; subst h1; subst h2
      rcases hid with ⟨e, hid, hge, hk⟩ | ⟨k', hid, hk, _⟩
      · rw [← hk, kS_lt (stE_lt hge)]; exact (H.own _ _ _ hid hge).row
      · rw [← hk]; exact H.view _ _ _ hid
  · rcases part hi with ⟨_, h1⟩ | ⟨rfl, h1⟩
    · exact H.vapart i m k j b h1 hne (pl hj hb) hb
    · injection h1 with h1 h2; subst h1; subst h2
      rcases hid with ⟨e, hid, _⟩ | ⟨k', hid, _⟩
      · exact H.apart _ _ _ _ _ hid (pl hj hb) hb
      · exact H.vapart _ _ _ _ _ hid hne (pl hj hb) hb
  · obtain ⟨hji, hj'⟩ := po hj
    rcases part hi with ⟨_, h1⟩ | ⟨rfl, h1⟩
    · exact H.vtwo i m k j m' e g h1 hne hj' hg
    · injection h1 with h1; subst h1
      rcases hid with ⟨e', hid, _⟩ | ⟨k', hid, _⟩
      · exact fun hg' => hji (H.two _ _ _ _ _ _ g hj' hid hg' hg)
      · exact H.vtwo _ _ _ _ _ _ g hid hne hj' hg
  · obtain ⟨vs, L, h4, h5⟩ := H.grid _ _ _ (po hi).2 hge
    exact ⟨vs, L, h4, fun g hg => ⟨fun j b hj hb => (h5 g hg).1 j b (pl hj hb) hb, fun j m2 e2 hj => (h5 g hg).2 _ _ _ (po hj).2⟩⟩
def subV (v : Value) (a b : Nat) : Value :=
  match v with
  | .slice p _ cap => .slice (if cap = a then p else p.map (·.add a)) (b - a) (cap - a)
  | v => v
theorem subV_block {v : Value} {a b : Nat} : (subV v a b).ownBlock = v.ownBlock := by
  unfold subV
  split
  · rename_i p n cap
    cases p with
    | none => split <;> rfl
    | some x => split <;> simp [Value.ownBlock, addr_block]
  · rfl
theorem addr_add_add (x : Addr) (a i : Nat) (h : a ≠ 0 ∨ i ≠ 0 ∨ True) : ((x.add a).add i).block = x.block := by rw [addr_block, addr_block]
theorem RowIs.sub {w : World} {v : Value} {xs : List Int} (h : RowIs w v xs) {a b : Nat} (h1 : a ≤ b) (h2 : b ≤ xs.length) : RowIs w (subV v a b) ((xs.drop a).take (b - a)) := by
  have hlen : ((xs.drop a).take (b - a)).length = b - a := by rw [List.length_take, List.length_drop]; omega
  rcases h with ⟨rfl, rfl⟩ | ⟨x, cap, rfl, g1, g2, g3⟩
  · simp only [List.length_nil] at h2
    have : a = 0 := by omega
    have : b = 0 := by omega
    subst_vars
    exact .inl ⟨rfl, rfl⟩
  · refine .inr ⟨if cap = a then x else x.add a, cap - a, ?_, by rw [hlen]; omega, by omega, fun i y hy => ?_⟩
    · rw [hlen]; simp only [subV]; split <;> rfl
    · have hi : i < b - a := by rw [← hlen]; exact (List.getElem?_eq_some_iff.1 hy).1
      have hca : ¬ cap = a := by omega
      rw [if_neg hca]
      rw [List.getElem?_take, if_pos hi, List.getElem?_drop] at hy
      have := g3 (a + i) y hy
      rw [← this]
      unfold Addr.add
      by_cases ha : a = 0
      · subst ha; simp
      · by_cases hi0 : i = 0
        · subst hi0; simp [ha]
        · have : ¬ a + i = 0 := by omega
          simp [ha, hi0, Nat.add_assoc]
def subK (v : Value) (k a b : Nat) : Value :=
  match v with
  | .slice p _ cap => .slice (if cap = a then p else p.map (·.add (a * k))) (b - a) (cap - a)
  | v => v
theorem subK_block {v : Value} {k a b : Nat} : (subK v k a b).ownBlock = v.ownBlock := by
  unfold subK
  split
  · rename_i p n cap
    cases p with
    | none => split <;> rfl
    | some x => split <;> simp [Value.ownBlock, addr_block]
  · rfl
theorem RowS.sub {w : World} {k : Nat} {v : Value} {xs : List Int} (h : RowS w k v xs) {a b : Nat} (h1 : a ≤ b) (h2 : b ≤ xs.length / k) :
    RowS w k (subK v k a b) ((xs.drop (a * k)).take ((b - a) * k)) := by
  rcases h with ⟨rfl, rfl⟩ | ⟨x, m, cap, rfl, g0, g1, g2, g2', g3⟩
  · simp only [List.length_nil, Nat.zero_div] at h2
    have : a = 0 := by omega
    have : b = 0 := by omega
    subst_vars
    exact .inl ⟨by simp [subK], by simp⟩
  · rw [g0, Nat.mul_div_cancel _ g1] at h2
    have hbk : b * k ≤ m * k := Nat.mul_le_mul_right k h2
    have hab : (b - a) * k + a * k = b * k := by rw [← Nat.add_mul]; congr 1; omega
    have hlen : ((xs.drop (a * k)).take ((b - a) * k)).length = (b - a) * k := by rw [List.length_take, List.length_drop]; omega
    refine .inr ⟨if cap = a then x else x.add (a * k), b - a, cap - a, ?_, hlen, g1, by omega, by omega, fun i y hy => ?_⟩
    · simp only [subK]; split <;> rfl
    · have hi : i < (b - a) * k := by rw [← hlen]; exact (List.getElem?_eq_some_iff.1 hy).1
      have hca : ¬ cap = a := by
        intro e
        have : b = a := by omega
        rw [this, Nat.sub_self, Nat.zero_mul] at hi; omega
      rw [if_neg hca]
      rw [List.getElem?_take, if_pos hi, List.getElem?_drop] at hy
      rw [addr_add2]
      exact g3 _ y hy
/-- a store into a row of the call's own -/
theorem own_set {w w' : World} {B : Nat} {e : TypeId} {v : Value} {xs : List Int} {i : Nat} {x : Int} (h : w.ownsRow B e 1 v xs.length (ints xs)) (hi : i < xs.length) {g : Nat} (hg : v.ownBlock = some g)
    (hw : ∀ cur, w.heap[g]? = some (.cells cur e (0, 0)) → w'.heap[g]? = some (.cells (cur.setIfInBounds i (.int .i64 x)) e (0, 0))) : w'.ownsRow B e 1 v (xs.set i x).length (ints (xs.set i x)) := by
  rcases h.2 with ⟨rfl, h2⟩ | ⟨g', cap, cur, rfl, h2, h3, h4, h5, h6, h7⟩
  · rw [h2] at hi; exact absurd hi (Nat.not_lt_zero _)
  · simp only [Value.ownBlock, Option.some.injEq] at hg
    subst hg
    refine ⟨by simp [ints], .inr ⟨g', cap, _, by rw [List.length_set], h2, hw cur h3, by rw [List.length_set]; exact h4, h5, by simp only [Array.size_setIfInBounds]; exact h6, ?_⟩⟩
    rw [List.length_set, Array.toList_setIfInBounds, Nat.mul_one]
    rw [Nat.mul_one] at h7
    rw [List.take_set, h7]
    simp [ints, List.map_set]
theorem ListsOK.setOwn {ρ h B hp w w'} (H : ListsOK ρ h B hp w) {id n m : Nat} {e : TypeId} (hid : hp[id]? = some (.own n e)) (hge : isG e = false) (hown : OwnS w' B e (h.σ id) (ρ.get m).list)
    (hk : ∀ g, (h.σ id).ownBlock ≠ some g → w'.heap[g]? = w.heap[g]?) : ListsOK ρ h B (hp.set id (.own m e)) w' := by
  have hlt := (List.getElem?_eq_some_iff.1 hid).1
  have part : ∀ {i : Nat} {d : Blk}, (hp.set id (.own m e))[i]? = some d → (i ≠ id ∧ hp[i]? = some d) ∨ (i = id ∧ d = .own m e) := by
    intro i d hd
    rw [List.getElem?_set] at hd
    split at hd
    · rename_i he; subst he
      injection hd with hd; exact .inr ⟨rfl, hd.symm⟩
    · rename_i hne; exact .inl ⟨fun e => hne e.symm, hd⟩
  have pv : ∀ {i k c : Nat}, (hp.set id (.own m e))[i]? = some (.view k c) → hp[i]? = some (.view k c) := fun hi => by
    rcases part hi with h1 | ⟨_, h1⟩
    · exact h1.2
    · cases h1
  have pl : ∀ {i : Nat} {b : Blk}, (hp.set id (.own m e))[i]? = some b → b.live = true → hp[i]? = some b := fun hi hb => by
    rcases part hi with h1 | ⟨_, h1⟩
    · exact h1.2
    · subst h1; cases hb
  have po : ∀ {i k : Nat} {e' : TypeId}, (hp.set id (.own m e))[i]? = some (.own k e') → ∃ k', hp[i]? = some (.own k' e') := fun hi => by
    rcases part hi with h1 | ⟨h1, h2⟩
    · exact ⟨_, h1.2⟩
    · injection h2 with h2 h3; subst h1; subst h3; exact ⟨n, hid⟩
  refine ⟨fun i k e' hi hge' => ?_, fun i k c hi => ?_, fun i k e' j b hi hj hb => ?_, fun i j k e1 k' e2 g hi hj hg hg' => ?_, fun i k c j b hi hne hj hb => H.vapart i k c j b (pv hi) hne (pl hj hb) hb, fun i k c j k' e' g hi hne hj hg => ?_, fun i k e' hi hge' => ?_, fun i k c g hi => H.vold i k c g (pv hi)⟩
  · rcases part hi with ⟨h0, h1⟩ | ⟨h1, h2⟩
    · exact (H.own i k e' h1 hge').keep fun g hg => hk g fun hg' => h0 (H.two i id k e' n e g h1 hid hg hg')
    · injection h2 with h2 h3; subst h1; subst h2; subst h3; exact hown
  · have h1 := pv hi
    exact (H.view i k c h1).keep fun g hne hg => hk g (H.vtwo i k c id n e g h1 hne hid hg)
  · obtain ⟨k', h1⟩ := po hi
    exact H.apart i k' e' j b h1 (pl hj hb) hb
  · obtain ⟨k1, h1⟩ := po hi
    obtain ⟨k2, h2⟩ := po hj
    exact H.two i j k1 e1 k2 e2 g h1 h2 hg hg'
  · obtain ⟨k2, h2⟩ := po hj
    exact H.vtwo i k c j k2 e' g (pv hi) hne h2 hg
  · rcases part hi with ⟨h0, h1⟩ | ⟨h1, h2⟩
    · obtain ⟨vs, L, h4, h5⟩ := H.grid _ _ _ h1 hge'
      refine ⟨vs, L, h4.keep (fun g hg => hk g fun hg' => h0 (H.two i id k e' n e g h1 hid hg hg')) (fun g hg => hk g ((h5 g hg).2 id n e hid)), fun g hg => ⟨fun j b hj hb => (h5 g hg).1 j b (pl hj hb) hb, fun j m2 e2 hj => ?_⟩⟩
      obtain ⟨k2, h6⟩ := po hj
      exact (h5 g hg).2 _ _ _ h6
    · injection h2 with h2 h3; subst h3; rw [hge] at hge'; cases hge'
theorem LBlk.killed {ρ h B hp w} (H : ListsOK ρ h B hp w) {id n : Nat} {e : TypeId} (hid : hp[id]? = some (.own n e)) {k : Nat} (hk : LBlk ρ h B w (hp.set id .dead) k) : LBlk ρ h B w hp k ∧ (h.σ id).ownBlock ≠ some k := by
  have part : ∀ {i : Nat} {d : Blk}, (hp.set id .dead)[i]? = some d → d ≠ .dead → i ≠ id ∧ hp[i]? = some d := by
    intro i d hd hne
    rw [List.getElem?_set] at hd
    split at hd
    · split at hd
      · injection hd with hd; exact absurd hd.symm hne
      · cases hd
    · rename_i hne; exact ⟨fun e => hne e.symm, hd⟩
  rcases hk with ⟨i, h1, h2⟩ | ⟨i, m, e', vs, L, h1, h2, h3, h4⟩
  · rcases h2 with ⟨m, e', h2⟩ | ⟨m, c, h2, h3⟩
    · obtain ⟨p1, p2⟩ := part h2 (by simp)
      exact ⟨.inl ⟨i, h1, .inl ⟨m, e', p2⟩⟩, fun hg => p1 (H.two i id m e' n e k p2 hid h1 hg)⟩
    · obtain ⟨p1, p2⟩ := part h2 (by simp)
      exact ⟨.inl ⟨i, h1, .inr ⟨m, c, p2, h3⟩⟩, fun hg => H.vtwo i m c id n e k p2 h3 hid h1 hg⟩
  · obtain ⟨p1, p2⟩ := part h1 (by simp)
    exact ⟨.inr ⟨i, m, e', vs, L, p2, h2, h3, h4⟩, (H.gsep p2 h2 h3 h4).2 id n e hid⟩
theorem listOf_cases {hp : List Blk} {id n : Nat} (h : listOf hp id = some n) : (∃ e, hp[id]? = some (.own n e) ∧ isG e = false ∧ stE e = 1) ∨ ∃ k, hp[id]? = some (.view n k) ∧ kS k = 1 := by
  unfold listOf at h
  split at h
  · rename_i m e hb
    split at h
    · cases h
    · rename_i hge
      simp only [Bool.or_eq_true, Bool.not_eq_true', not_or, Bool.not_eq_true, Bool.not_eq_false] at hge
      injection h with h; subst h; exact .inl ⟨e, hb, hge.1, pE_iff.1 hge.2⟩
  · rename_i m k hb
    split at h
    · rename_i hk
      rw [nbeq_iff] at hk
      injection h with h; subst h; exact .inr ⟨k, hb, hk⟩
    · cases h
  · cases h
/-- a part of a row -/
theorem Rep.growView {S : St} {ρ h J a w} (r : Rep w0 S ρ h J a w) (hs : S.scoped = true) {id n m k : Nat} (hid : (∃ e, S.heap[id]? = some (.own n e) ∧ isG e = false ∧ stE e = k) ∨ ∃ k', S.heap[id]? = some (.view n k') ∧ kS k' = kS k ∧ (1000 ≤ k → 1000 ≤ k')) {v : Value}
    (hrow : RowS w (kS k) (h.σ id) (ρ.get n).list → RowS w (kS k) v (ρ.get m).list) (hblk : v.ownBlock = (h.σ id).ownBlock) (hnil : (ρ.get n).list = [] → (ρ.get m).list = []) :
    Rep w0 { S with heap := S.heap.set id (.view n k) ++ [.view m k] } ρ (Hid.addS h S.nb v) J a w ∧ Later S { S with heap := S.heap.set id (.view n k) ++ [.view m k] } ρ h J ρ (Hid.addS h S.nb v) J := by
  have hnb : S.nb = S.heap.length := rfl
  have hlt : id < S.heap.length := by
    rcases hid with ⟨e, h, _⟩ | ⟨k', h, _⟩ <;> exact (List.getElem?_eq_some_iff.1 h).1
  have kσ : ∀ i, i < S.heap.length → (Hid.addS h S.nb v).σ i = h.σ i := fun i hi => by
    simp only [Hid.addS]; rw [if_neg (by omega)]
  refine r.reheap hs (by simp) (fun i b hi hl => ?_) (Below.refl _ w) ?_
  · rw [List.getElem?_append] at hi
    split at hi
    · rename_i hlt'
      rw [List.getElem?_set] at hi
      simp only [hlt, if_true] at hi
      split at hi
      · injection hi with hi; subst hi; cases hl
      · exact ⟨(List.getElem?_eq_some_iff.1 hi).1, hi, rfl⟩
    · have hlt' := (List.getElem?_eq_some_iff.1 hi).1
      simp at hlt'
      rename_i hge
      simp at hge
      rw [List.length_set, show i - S.heap.length = 0 by omega, List.getElem?_cons_zero] at hi
      injection hi with hi; subst hi; cases hl
  · have l1 := r.heap.lists.freeze hid
    have l2 : ListsOK ρ (Hid.addS h S.nb v) w0.heap.size (S.heap.set id (.view n k)) w :=
      l1.map (_root_.id) (fun i n e hi => ⟨n, hi, rfl, kσ i (by have := (List.getElem?_eq_some_iff.1 hi).1; simpa using this)⟩) (fun i n k hi => ⟨⟨n, hi, rfl⟩, kσ i (by have := (List.getElem?_eq_some_iff.1 hi).1; simpa using this)⟩) (fun j b hj hbl => ⟨b, hj, hbl, rfl⟩) (fun i j n e m e' _ _ h => h) (fun _ _ => rfl)
    have e0 : (Hid.addS h S.nb v).σ (S.heap.set id (.view n k)).length = v := by rw [List.length_set]; exact addS_at
    have hidv : (S.heap.set id (.view n k))[id]? = some (.view n k) := by rw [List.getElem?_set]; simp [hlt]
    have hr := l1.view id n k hidv
    refine l2.pushView (by rw [e0]; exact hrow hr) (fun hk g hne hg => by rw [e0, hblk] at hg; exact l1.vold id n k g hidv hk (fun e => hne (hnil e)) hg) fun g hne hg => ?_
    rw [e0, hblk] at hg
    have hne' : (ρ.get n).list ≠ [] := fun e => hne (hnil e)
    refine ⟨fun j c e hj hgj => ?_, fun j b hj hb he => ?_⟩
    · rw [kσ j (by have := (List.getElem?_eq_some_iff.1 hj).1; simpa using this)] at hgj
      exact l1.vtwo id n k j c e g hidv hne' hj hg hgj
    · exact l1.vapart id n k j b hidv hne' hj hb (by rw [hg]; exact congrArg some he.symm)
/-! ### rows that are frozen -/
theorem freezeIds_length : ∀ (l : List Nat) (hp : List Blk), (freezeIds l hp).length = hp.length
  | [], hp => rfl
  | id :: r, hp => by
    simp only [freezeIds]
    rw [freezeIds_length r]
    split
    · split
      · rfl
      · exact List.length_set
    · rfl
theorem HeapOK.freeze1 {ρ h B hp w} (H : HeapOK ρ h B hp w) {id n : Nat} {e : TypeId} (hid : hp[id]? = some (.own n e)) (hge : isG e = false) : HeapOK ρ h B (hp.set id (.view n (stE e))) w := by
  have part : ∀ {i : Nat} {d : Blk}, (hp.set id (.view n (stE e)))[i]? = some d → hp[i]? = some d ∨ d = .view n (stE e) := by
    intro i d hd
    rw [List.getElem?_set] at hd
    split at hd
    · split at hd
      · injection hd with hd; exact .inr hd.symm
      · cases hd
    · exact .inl hd
  refine ⟨fun i b hb => ?_, fun i b hb hl => ?_, fun i j b c hb hc hbl hcl => ?_, H.lists.freeze (.inl ⟨e, hid, hge, rfl⟩)⟩
  · rcases part hb with h1 | rfl
    · exact H.blk i b h1
    · trivial
  · rcases part hb with h1 | rfl
    · exact H.own i b h1 hl
    · cases hl
  · rcases part hb with h1 | rfl
    · rcases part hc with h2 | rfl
      · exact H.inj i j b c h1 h2 hbl hcl
      · cases hcl
    · cases hbl
theorem HeapOK.freezeIds {ρ h B w} : ∀ (l : List Nat) {hp : List Blk}, HeapOK ρ h B hp w → HeapOK ρ h B (freezeIds l hp) w
  | [], _, H => H
  | id :: r, hp, H => by
    simp only [SX.freezeIds]
    split
    · rename_i n e hid
      split
      · exact HeapOK.freezeIds r H
      · rename_i hge; exact HeapOK.freezeIds r (H.freeze1 hid (by simpa using hge))
    · exact HeapOK.freezeIds r H
theorem Rep.frozen {S : St} {ρ h J a w} (l : List Nat) (r : Rep w0 S ρ h J a w) : Rep w0 (S.frozen l) ρ h J a w :=
  ⟨r.nv, r.lv, r.ivl, ⟨r.fok.1, r.fok.2, r.fok.3, r.fok.4⟩, r.slots, r.defers, r.heap.freezeIds l, r.below⟩
theorem Later.frozen {S : St} {ρ h J} (l : List Nat) : Later S (S.frozen l) ρ h J ρ h J :=
  ⟨.refl, Nat.le_refl _, Nat.le_of_eq (freezeIds_length l S.heap).symm, Nat.le_refl _, rfl, [], by simp⟩


/-! ### rows of rows -/
theorem freezeIds_get : ∀ (l : List Nat) {hp : List Blk} {i : Nat} {b : Blk}, (freezeIds l hp)[i]? = some b → hp[i]? = some b ∨ ∃ n e, b = .view n (stE e) ∧ hp[i]? = some (.own n e) ∧ isG e = false
  | [], hp, i, b, h => .inl h
  | id :: r, hp, i, b, h => by
    simp only [SX.freezeIds] at h
    have ih := freezeIds_get r h
    split at ih
    · rename_i n e hid
      split at ih
      · exact ih
      · rename_i hge
        have part : ∀ {d : Blk}, (hp.set id (.view n (stE e)))[i]? = some d → hp[i]? = some d ∨ (i = id ∧ d = .view n (stE e)) := by
          intro d hd
          rw [List.getElem?_set] at hd
          split at hd
          · split at hd
            · rename_i h1 h2; injection hd with hd; exact .inr ⟨h1.symm, hd.symm⟩
            · cases hd
          · exact .inl hd
        rcases ih with h1 | ⟨m, e', h1, h2, h3⟩
        · rcases part h1 with h1 | ⟨rfl, rfl⟩
          · exact .inl h1
          · exact .inr ⟨n, e, rfl, hid, by simpa using hge⟩
        · rcases part h2 with h2 | ⟨_, h2⟩
          · exact .inr ⟨m, e', h1, h2, h3⟩
          · cases h2
    · exact ih
theorem isG_add (e : TypeId) : isG (e + 1000000) = true := by
  simp only [isG]; exact nble_iff.2 (Nat.le_add_left _ _)
theorem eT_add (e : TypeId) : eT (e + 1000000) = e := by
  have h : ∀ n : Nat, n + 1000000 - 1000000 = n := fun n => by omega
  exact h e
theorem RowIs.slice {w : World} {v : Value} {xs : List Int} (h : RowIs w v xs) : ∃ p n c, v = .slice p n c := by
  rcases h with ⟨h, _⟩ | ⟨x, c, h, _⟩ <;> exact ⟨_, _, _, h⟩
theorem Rows.one {w : World} : ∀ {vs : List Value} {L : List (List Int)}, Rows w vs L → ∀ v ∈ vs, v.oneCell' = true
  | [], [], _, v, hv => by simp at hv
  | u :: vs, xs :: L, h, v, hv => by
    rcases List.mem_cons.1 hv with rfl | hv
    · obtain ⟨p, n, c, rfl⟩ := h.1.slice; rfl
    · exact Rows.one h.2 v hv
theorem Rows.append {w : World} : ∀ {vs : List Value} {L : List (List Int)} {us : List Value} {M : List (List Int)}, Rows w vs L → Rows w us M → Rows w (vs ++ us) (L ++ M)
  | [], [], _, _, _, h => h
  | v :: vs, xs :: L, _, _, h, h' => ⟨h.1, Rows.append h.2 h'⟩
theorem GF.append : ∀ {vs : List Value} {L : List (List Int)} {us : List Value} {M : List (List Int)} {g : Nat}, vs.length = L.length → GF (vs ++ us) (L ++ M) g → GF vs L g ∨ GF us M g
  | [], [], _, _, _, _, h => .inr h
  | [], _ :: _, _, _, _, hl, _ => by simp at hl
  | _ :: _, [], _, _, _, hl, _ => by simp at hl
  | v :: vs, xs :: L, _, _, _, hl, h => by
    rcases h with h | h
    · exact .inl (.inl h)
    · rcases GF.append (vs := vs) (L := L) (by simpa using hl) h with h | h
      · exact .inl (.inr h)
      · exact .inr h
/-- one more row that is read alone, wherever it came from -/
theorem Rep.growV {S : St} {ρ h J a w} (r : Rep w0 S ρ h J a w) (hs : S.scoped = true) {m k0 : Nat} {v : Value} (hk0 : k0 < 1000) (hrow : RowS w (kS k0) v (ρ.get m).list)
    (hsep : ∀ g, (ρ.get m).list ≠ [] → v.ownBlock = some g → (∀ j k e, S.heap[j]? = some (Blk.own k e) → (h.σ j).ownBlock ≠ some g) ∧ ∀ j b, S.heap[j]? = some b → b.live = true → h.β j ≠ g) :
    Rep w0 { S with heap := S.heap ++ [.view m k0] } ρ (Hid.addS h S.nb v) J a w ∧ Later S { S with heap := S.heap ++ [.view m k0] } ρ h J ρ (Hid.addS h S.nb v) J := by
  have hnb : S.nb = S.heap.length := rfl
  have kσ : ∀ i, i < S.heap.length → (Hid.addS h S.nb v).σ i = h.σ i := fun i hi => by
    simp only [Hid.addS]; rw [if_neg (by omega)]
  refine r.reheap hs (by simp) (fun i b hi hl => ?_) (Below.refl _ w) ?_
  · rw [List.getElem?_append] at hi
    split at hi
    · exact ⟨by omega, hi, rfl⟩
    · have hlt' := (List.getElem?_eq_some_iff.1 hi).1
      simp at hlt'
      rename_i hge
      rw [show i - S.heap.length = 0 by omega, List.getElem?_cons_zero] at hi
      injection hi with hi; subst hi; cases hl
  · have l2 : ListsOK ρ (Hid.addS h S.nb v) w0.heap.size S.heap w :=
      r.heap.lists.map (_root_.id) (fun i n e hi => ⟨n, hi, rfl, kσ i (List.getElem?_eq_some_iff.1 hi).1⟩) (fun i n k hi => ⟨⟨n, hi, rfl⟩, kσ i (List.getElem?_eq_some_iff.1 hi).1⟩) (fun j b hj hbl => ⟨b, hj, hbl, rfl⟩) (fun i j n e m e' _ _ h => h) (fun _ _ => rfl)
    have e0 : (Hid.addS h S.nb v).σ S.heap.length = v := addS_at
    refine l2.pushView (by rw [e0]; exact hrow) (fun hk => by omega) fun g hne hg => ?_
    rw [e0] at hg
    obtain ⟨h1, h2⟩ := hsep g hne hg
    refine ⟨fun j k e hj => ?_, fun j b hj hb => h2 j b hj hb⟩
    rw [kσ j (List.getElem?_eq_some_iff.1 hj).1]
    exact h1 j k e hj


theorem run_build1 {w : World} {T e : TypeId} {te : Ty} (hT : P.underlying T = some (.slice e)) (hte : TyOK P e te) (hsz : te.size = 1) {z : SV} (hz : te.zero = some z) {zc : List SV} (hzc : z.cells = some zc) (ρ : Env) (h : Hid) {v : Value} (hv : ∃ p n c, v = .slice p n c) {parts : Array (Nat × Value)} (hp : parts.toList = [(0, v)]) :
    (Instr.buildSlice T 1 parts).run P w = .ok (.slice (some ⟨w.heap.size, 0, none⟩) 1 1) (w.alloc (.cells #[v] e)) := by
  obtain ⟨p, n, c, rfl⟩ := hv
  have hfin : ∀ x : Value, Instr.fill (fun i => some (i * 1, 1)) #[x] [(0, Value.slice p n c)] = some #[.slice p n c] := fun x => by
    simp [Instr.fill, Value.cells]
  have hrange : ∀ f : Nat → Value, (Array.range (1 * 1)).map f = #[f 0] := fun f => by
    rw [← Array.toList_inj]; simp [List.range_succ]
  simp only [Instr.buildSlice, Sem.run_bind, run_under hT, Result.andThen_ok, run_sizeOf' hte, hsz]
  rw [if_neg (by decide), if_neg (by decide)]
  simp only [Sem.run_bind, run_zeroValue' hte hz ρ h, Result.andThen_ok, cells_sound hzc, pure, Sem.run, hrange, hp, hfin, newRow, newObj]
  rfl
/-- one row, laid as a row of rows -/
theorem buildG_sound {S : St} {ρ h J a w} (r : Rep w0 S ρ h J a w) {T e : TypeId} {te : Ty} (hT : P.underlying T = some (.slice e)) (hte : TyOK P e te) {len : Nat} {l : List (Nat × SV)} {parts : Array (Nat × Value)} {zc : List SV}
    (hzc : (if Nat.beq (len * te.size) 0 then some [] else match te.zero with | some z => z.cells | none => none) = some zc)
    (hp : parts.toList = l.map (fun p => (p.1, p.2.den ρ h))) {K : OR → St → Tree} (hd : (buildG e te len l S K).den M R RP F J ρ) :
    ∃ S' ρ' h' w' id', (Instr.buildSlice T len parts).run P w = .ok (h'.σ id') w' ∧ Rep w0 S' ρ' h' J a w' ∧ Later S S' ρ h J ρ' h' J ∧ S'.slots = S.slots ∧ (K (.val (.lst id')) S').den M R RP F J ρ' := by
  unfold buildG at hd
  split at hd
  · rename_i R
    split at hd
    · rename_i m hm
      split at hd
      · rename_i hc
        simp only [Bool.and_eq_true, nbeq_iff, blt_iff] at hc
        obtain ⟨⟨⟨c1, c2⟩, c3⟩, c4⟩ := hc
        subst c1
        simp only [] at hd
        split at hd
        · rename_i hc2
          simp only [Bool.and_eq_true] at hc2
          obtain ⟨⟨c5, c6⟩, c7⟩ := hc2
          rw [if_neg (by rw [nbeq_iff]; omega)] at hzc
          cases hz : te.zero with
          | none => rw [hz] at hzc; cases hzc
          | some z =>
          rw [hz] at hzc
          have hrow := listOf_sound r.heap hm
          obtain ⟨r1, l1⟩ := And.intro (r.frozen [R]) (Later.frozen (S := S) (ρ := ρ) (h := h) (J := J) [R])
          have hnews : InI (LE.den ρ (.row1 m)) := by
            simp only [LE.den]
            intro x hx
            rcases List.mem_cons.1 hx with rfl | hx
            · have := hrow.len; simp only [maxLen] at this; omega
            · exact r.fok.lst m x hx
          have hk := hd _ rfl
          obtain ⟨r2, l2⟩ := r1.letl c5 hnews
          have hnv : S.nv = ρ.length := r.nv
          have hg1 : (Env.get (ρ ++ [Cv.l (LE.den ρ (.row1 m))]) S.nv).list = enc [(ρ.get m).list] := by
            rw [r.nv, Env.get_append_self]; simp [LE.den, enc, Cv.list]
          have hk := hk _ rfl
          obtain ⟨r3, l3⟩ := r2.bindD c6 (e := .rows S.nv) (iv := some (1, 1)) (by simp only [IE.scoped, blt_iff]; exact Nat.lt_succ_self _) rfl (fun lo hi e => by
            injection e with e; injection e with e1 e2
            subst e1; subst e2
            simp only [IE.den, hg1, dec_enc]
            exact ⟨Int.le_refl _, Int.le_refl _⟩)
          have hw : ∀ k, k < w.heap.size → (w.alloc (.cells #[h.σ R] e)).heap[k]? = w.heap[k]? := fun k hk => heap_alloc_old _ _ hk
          have hg3 : (Env.get (ρ ++ [Cv.l (LE.den ρ (.row1 m))] ++ [Cv.i (IE.den (ρ ++ [Cv.l (LE.den ρ (.row1 m))]) (.rows S.nv))]) S.nv).list = enc [(ρ.get m).list] := by
            rw [Env.get_append_left (by rw [List.length_append, List.length_singleton, hnv]; exact Nat.lt_succ_self _), hg1]
          have hRv : ∃ kk, (S.frozen [R]).heap[R]? = some (.view m kk) := by
            simp only [St.frozen, SX.freezeIds]
            rcases listOf_cases hm with ⟨e', hb, hge, hst⟩ | ⟨kk, hb, _⟩
            · refine ⟨1, ?_⟩
              rw [hb]; simp only [hge, hst, Bool.false_eq_true, if_false]; rw [List.getElem?_set]; simp [(List.getElem?_eq_some_iff.1 hb).1]
            · refine ⟨kk, ?_⟩
              rw [hb]; exact hb
          obtain ⟨kk, hRv⟩ := hRv
          have hgm : (Env.get (ρ ++ [Cv.l (LE.den ρ (.row1 m))] ++ [Cv.i (IE.den (ρ ++ [Cv.l (LE.den ρ (.row1 m))]) (.rows S.nv))]) m).list = (ρ.get m).list := by
            rw [Env.get_append_left (by rw [List.length_append, List.length_singleton]; omega), Env.get_append_left (by omega)]
          obtain ⟨r4, l4⟩ := r3.growOwnG (w' := w.alloc (.cells #[h.σ R] e)) c7 (H := (S.frozen [R]).heap) (n := S.nv) (e := e + 1000000) (v := .slice (some ⟨w.heap.size, 0, none⟩) 1 1) rfl (fun i b hb => .inl hb)
            (Below.refl _ _ |>.alloc r.below.size _)
            (fun i b hb hlv => by have := (r3.heap.own i b hb hlv).2; exact ⟨hw _ this, by simp only [Value.ownBlock, ne_eq, Option.some.injEq]; omega⟩)
            (fun k hk => by have := r3.heap.lists.lt hk; exact ⟨hw _ this, by simp only [Value.ownBlock, ne_eq, Option.some.injEq]; omega⟩)
            (fun hge => by rw [isG_add] at hge; cases hge)
            (fun _ => ⟨[h.σ R], [(ρ.get m).list], ⟨hg3, by
                rw [eT_add]
                exact ⟨rfl, .inr ⟨w.heap.size, 1, #[h.σ R], rfl, r.below.size, heap_alloc_new w _, Nat.le_refl _, by simp only [maxLen]; omega, rfl, rfl⟩⟩, hrow.keep fun g hne hg => hw g (hrow.lt hne hg), trivial⟩, fun g hg => by
              rcases hg with ⟨hne, hg⟩ | hg
              · refine ⟨fun j b hj hb he => ?_, ?_, fun j m' e' hj hgj => ?_⟩
                · exact r3.heap.lists.vapart R m kk j b hRv (by rw [hgm]; exact hne) hj hb (by rw [hg]; exact congrArg some he.symm)
                · have := hrow.lt hne hg
                  simp only [Value.ownBlock, ne_eq, Option.some.injEq]; omega
                · exact r3.heap.lists.vtwo R m kk j m' e' g hRv (by rw [hgm]; exact hne) hj hg hgj
              · exact hg.elim⟩)
          refine ⟨_, _, _, _, S.nb, ?_, r4, ((l1.trans l2).trans l3).trans l4, rfl, hk⟩
          rw [run_build1 hT hte c2 hz hzc ρ h hrow.slice hp]
          congr 1
          have : (S.frozen [R]).nb = S.nb := freezeIds_length [R] S.heap
          exact (by rw [← this]; exact addS_at.symm)
        · exact hd.elim
      · exact hd.elim
    · exact hd.elim
  · exact hd.elim
/-- a row of rows, read -/
theorem loadG_sound {S : St} {ρ h J a w} (r : Rep w0 S ρ h J a w) (hs : S.scoped = true) {T e : TypeId} {te : Ty} (hT : TyOK P T te) (hte : te.d = .slice e) {id n : Nat} {b : At} (hg : gridOf S.heap id = some n) (hi : gidx S n b = .at) (hb : b.scoped S.nv = true) {x : Operand} (hx : a.eval x = elemP (h.σ id) (b.den ρ).toNat) :
    ∃ xs v, xs = LE.den ρ (.rowAt n b) ∧ (Instr.loadAt T (a.eval x)).run P w = .ok v w ∧
      Rep w0 { S with nv := S.nv + 1, ivs := S.ivs ++ [none], heap := S.heap ++ [.view S.nv 1] } (ρ ++ [.l xs]) (Hid.addS h S.nb v) J a w ∧ Later S { S with nv := S.nv + 1, ivs := S.ivs ++ [none], heap := S.heap ++ [.view S.nv 1] } ρ h J (ρ ++ [.l xs]) (Hid.addS h S.nb v) J := by
  obtain ⟨i1, i2⟩ := gidx_sound r.fok hi
  obtain ⟨e', vs, hown, hge, hgr⟩ := gridOf_sound r.heap hg
  obtain ⟨_, g2, g3, g4⟩ := hgr.form
  have hlt : (b.den ρ).toNat < (dec (ρ.get n).list).length := by omega
  have hv : vs[(b.den ρ).toNat]? = some vs[(b.den ρ).toNat] := List.getElem?_eq_getElem (by omega)
  obtain ⟨xs, hxs, hrow⟩ := hgr.2.2.get hv
  generalize vs[(b.den ρ).toNat] = v at hv hrow
  have hmem : xs ∈ dec (ρ.get n).list := List.mem_of_getElem? hxs
  have hI : InI xs := fun y hy => r.fok.lst n y (by rw [hgr.1]; exact mem_enc hmem hy)
  have hden : xs = LE.den ρ (.rowAt n b) := by simp only [LE.den, List.getD_eq_getElem?_getD, hxs, Option.getD_some]
  obtain ⟨r1, l1⟩ := r.letl hs hI
  have hs1 : ({ S with nv := S.nv + 1, ivs := S.ivs ++ [none] } : St).scoped = true := St.scoped_mono hs (Nat.le_succ _)
  have hget : (Env.get (ρ ++ [Cv.l xs]) S.nv).list = xs := by rw [r.nv, Env.get_append_self]; rfl
  have hsn := heapScoped_get (scoped_parts hs).2.1 _ _ hown
  simp only [Blk.scoped, blt_iff] at hsn
  have hgn : (Env.get (ρ ++ [Cv.l xs]) n).list = (ρ.get n).list := by rw [Env.get_append_left (by rw [← r.nv]; exact hsn)]
  obtain ⟨r2, l2⟩ := r1.growV hs1 (m := S.nv) (k0 := 1) (v := v) (by decide) (by rw [hget]; exact rowS_one.2 hrow) (fun g hne hgv => by
    rw [hget] at hne
    obtain ⟨p1, p2⟩ := r1.heap.lists.gsep hown hge (vs := vs) (L := dec (ρ.get n).list) (by rw [hgn]; exact hgr) (GF.get hv hxs hne hgv)
    exact ⟨fun j k e hj => p2 j k e hj, p1⟩)
  refine ⟨xs, v, hden, ?_, r2, l1.trans l2⟩
  rcases g4 with ⟨_, h2⟩ | ⟨x', cap, hv', h1⟩
  · rw [h2] at hlt; simp at hlt
  · have hcell := h1 _ _ hv
    simp only [Instr.loadAt, hx, hv', elemP, Instr.sureAddr, Sem.run_bind, pure, Sem.run, Result.andThen_ok, loadVar, run_isAgg' hT, hte, TD.isAgg, Bool.false_eq_true, if_false, load, hcell]

theorem own_base {w : World} {B B' : Nat} {e : TypeId} {v : Value} {n : Nat} {xs : List Value} (hB : B ≤ B') (h : w.ownsRow B' e 1 v n xs) : w.ownsRow B e 1 v n xs := by
  refine ⟨h.1, ?_⟩
  rcases h.2 with h1 | ⟨g, cap, cur, h1, h2, h3⟩
  · exact .inl h1
  · exact .inr ⟨g, cap, cur, h1, by omega, h3⟩
/-- an append to a row that is owned: where it lies then -/
theorem run_append_own2 {w : World} {B : Nat} (hB : B ≤ w.heap.size) {T e ty : TypeId} {te : Ty} {z : SV} {zc : List SV} (hT : P.underlying T = some (.slice e)) (hte : TyOK P e te) (hz : te.zero = some z) (hzc : z.cells = some zc)
    (hsz : te.size = 1) (hzl : zc.length = 1) (hby : te.bytes ≤ 4096) {v : Value} {n : Nat} {xs : List Value} (hn : n ≤ 100000) (hown : w.ownsRow B e 1 v n xs)
    {x2 : Addr} {m c : Nat} {ys : List Value} (hm : m ≤ 100000) (hm0 : 0 < m) (hnl : ys.length = m) (hcells : ∀ j u, ys[j]? = some u → w.cell? (x2.add j) = some u) (h1c : ∀ u ∈ ys, u.oneCell' = true) :
    ∃ g k w', (Builtin.append_ #[T, T] ty #[v, .slice (some x2) m c]).run P w = .ok (.slice (some ⟨g, 0, none⟩) (n + m) k) w' ∧ w'.ownsRow B e 1 (.slice (some ⟨g, 0, none⟩) (n + m) k) (n + m) (xs ++ ys) ∧
      w.grownBy w' v.ownBlock ∧ (some g = v.ownBlock ∨ w.heap.size ≤ g) ∧ B ≤ g := by
  obtain ⟨i, hi, hs, hz', hb'⟩ := hte.info
  have h1 := hz' z hz
  obtain ⟨zv, hzv, hsv⟩ : ∃ zv, i.zero = some zv ∧ svOf zv = some z := by
    cases hzz : i.zero with
    | none => rw [hzz] at h1; cases h1
    | some zv => rw [hzz] at h1; exact ⟨zv, rfl, h1⟩
  have hzd := svOf_sound hsv [] { β := fun _ => 0, κ := fun _ => 0, γ := fun _ => undef, σ := fun _ => undef }
  have hcell := cells_sound (ρ := []) (h := { β := fun _ => 0, κ := fun _ => 0, γ := fun _ => undef, σ := fun _ => undef }) hzc
  have hzs : zv.cells.size = 1 := by rw [← hzd, hcell, List.size_toArray, denL_length]; exact hzl
  have hbytes : (n + m) * i.bytes ≤ 140737488355328 := by
    have : (n + m) * i.bytes ≤ 200000 * 4096 := Nat.mul_le_mul (by omega) (by omega)
    omega
  have hmx : n + m ≤ maxLen := by simp only [maxLen]; omega
  have hnl1 : ys.length = m * 1 := by omega
  have form : ∀ {B' : Nat} {v' : Value} {w' : World}, w'.ownsRow B' e 1 v' (n + m) (xs ++ ys) → ∃ g k, v' = .slice (some ⟨g, 0, none⟩) (n + m) k ∧ B' ≤ g := by
    intro B' v' w' ho
    rcases ho.2 with ⟨_, o3⟩ | ⟨g, cap, cur, o1, o2, _⟩
    · omega
    · exact ⟨g, cap, o1, o2⟩
  rcases hown.2 with ⟨q1, q2⟩ | ⟨g, cap, cur, q1, q2, _⟩
  · subst q1; subst q2
    obtain ⟨v', w', hr, ho, hg, _⟩ := run_append_own (P := P) w w.heap.size T ty e i zv 1 i.bytes hT hi hzv (hs.trans hsz) rfl hzs (by omega) _ 0 [] (World.ownsRow_nil w _ e 1) x2 m c ys hnl1 hcells h1c hmx hbytes (Nat.le_refl _)
    have hxs : xs = [] := List.eq_nil_of_length_eq_zero (by have := hown.1; omega)
    subst hxs
    obtain ⟨g, k, rfl, hBg⟩ := form ho
    exact ⟨g, k, w', hr, own_base hB ho, hg, .inr hBg, by omega⟩
  · subst q1
    by_cases hroom : n + m ≤ cap
    · obtain ⟨w', hr, ho, hg⟩ := run_append_fits (P := P) w B T ty e i 1 hT hi (hs.trans hsz) g n cap xs hown x2 m c ys hnl1 hcells h1c hroom
      exact ⟨g, cap, w', hr, ho, hg, .inl rfl, q2⟩
    · have holds : ∀ j u, xs[j]? = some u → w.cell? ((⟨g, 0, none⟩ : Addr).add j) = some u := hown.cells (g := g) rfl
      obtain ⟨v', w', hr, ho, hg⟩ := run_append_arg_grows (P := P) w T ty e i zv 1 i.bytes hT hi hzv (hs.trans hsz) rfl hzs (by omega) ⟨g, 0, none⟩ n cap xs hown.1 holds x2 m c ys hnl1 hcells (by omega) hmx hbytes
      obtain ⟨g', k, rfl, hBg⟩ := form ho
      exact ⟨g', k, w', hr, own_base hB ho, ⟨hg.os, hg.tape, hg.output, hg.size, fun k hk _ => hg.block k hk (by simp)⟩, .inr hBg, by omega⟩
/-- rows behind rows -/
theorem appG_sound {S : St} {ρ h J a w} (r : Rep w0 S ρ h J a w) {T e ty : TypeId} {te : Ty} (hT : P.underlying T = some (.slice e)) (hte : TyOK P e te) {id id2 : Nat} {K : OR → St → Tree} (hd : (appG e te id id2 S K).den M R RP F J ρ) :
    ∃ S' ρ' h' w' id', (Builtin.append_ #[T, T] ty #[h.σ id, h.σ id2]).run P w = .ok (h'.σ id') w' ∧ Rep w0 S' ρ' h' J a w' ∧ Later S S' ρ h J ρ' h' J ∧ S'.slots = S.slots ∧ (K (.val (.lst id')) S').den M R RP F J ρ' := by
  unfold appG at hd
  split at hd
  case h_2 => exact hd.elim
  rename_i n E m E2 z hb hb2 hz
  split at hd
  case h_2 => exact hd.elim
  rename_i zc hzc
  split at hd
  case isFalse => exact hd.elim
  rename_i hc
  simp only [Bool.and_eq_true, nbeq_iff, nble_iff, Bool.not_eq_true'] at hc
  obtain ⟨⟨⟨⟨⟨⟨⟨c1, c2⟩, c3⟩, c4⟩, c5⟩, c6⟩, c7⟩, c8⟩ := hc
  subst c2; subst c3
  have c7 : id ≠ id2 := fun e => by rw [e] at c7; have := nbeq_iff.2 (rfl : id2 = id2); rw [this] at c7; cases c7
  obtain ⟨vs, L, hg, _⟩ := r.heap.lists.grid _ _ _ hb c1
  obtain ⟨us, M', hg2, _⟩ := r.heap.lists.grid _ _ _ hb2 c1
  have d1 := hg.form.1
  have d2 := hg2.form.1
  subst d1; subst d2
  obtain ⟨_, g2, g3, _⟩ := hg.form
  obtain ⟨_, f2, f3, f4⟩ := hg2.form
  have hsn := heapScoped_get (scoped_parts c8).2.1 _ _ hb
  have hsm := heapScoped_get (scoped_parts c8).2.1 _ _ hb2
  simp only [Blk.scoped, blt_iff] at hsn hsm
  obtain ⟨n', S1, ρ1, r1, l1, sl1, hp1, hn', env1, hd⟩ := withRows_sound r g3 hd
  obtain ⟨S2, k2, r2, hd⟩ := splitBE_sound r1 hd
  split at hd
  case isFalse => exact hd.elim
  rename_i b1
  have e1 : (At.v n').den ρ1 ≤ (At.z 100000).den ρ1 := of_decide_eq_true b1
  have e10 : (At.z 100000).den ρ1 = 100000 := rfl
  rw [hn', e10] at e1
  have lat2 := l1.trans k2.later
  obtain ⟨m', S3, ρ2, r3, l3, sl3, hp3, hm', env3, hd⟩ := withRows_sound r2 (by rw [env1 m hsm]; exact f3) hd
  obtain ⟨S4, k4, r4, hd⟩ := splitBE_sound r3 hd
  split at hd
  case isFalse => exact hd.elim
  rename_i b2
  obtain ⟨S5, k5, r5, hd⟩ := splitBE_sound r4 hd
  split at hd
  case isFalse => exact hd.elim
  rename_i b3
  simp only [Bool.and_eq_true] at b3
  have e2 : (At.v m').den ρ2 ≤ (At.z 100000).den ρ2 := of_decide_eq_true b2
  have e3 : (At.z 1).den ρ2 ≤ (At.v m').den ρ2 := of_decide_eq_true b3.1
  have e20 : (At.z 100000).den ρ2 = 100000 := rfl
  have e30 : (At.z 1).den ρ2 = 1 := rfl
  rw [hm', env1 m hsm, e20] at e2
  rw [hm', env1 m hsm, e30] at e3
  have lat5 := ((lat2.trans l3).trans k4.later).trans k5.later
  have hk := hd _ rfl
  have hnn : (ρ2.get n).list = (ρ.get n).list := by rw [lat5.ag.env n hsn]
  have hmm : (ρ2.get m).list = (ρ.get m).list := by rw [lat5.ag.env m hsm]
  have hden : LE.den ρ2 (.cat n m) = (ρ.get n).list ++ (ρ.get m).list := by simp only [LE.den, hnn, hmm]
  have hnews : InI (LE.den ρ2 (.cat n m)) := by
    rw [hden]
    intro x hx
    rcases List.mem_append.1 hx with hx | hx
    · exact r.fok.lst n x hx
    · exact r.fok.lst m x hx
  have hH : S5.heap = S.heap := by rw [k5.heap, k4.heap, hp3, k2.heap, hp1]
  have hsl : S5.slots = S.slots := by rw [k5.slots, k4.slots, sl3, k2.slots, sl1]
  obtain ⟨r6, l6⟩ := r5.letl b3.2 hnews
  have hs6 : ({ S5 with nv := S5.nv + 1, ivs := S5.ivs ++ [none] } : St).scoped = true := St.scoped_mono b3.2 (Nat.le_succ _)
  have hget : (Env.get (ρ2 ++ [Cv.l (LE.den ρ2 (.cat n m))]) S5.nv).list = enc (dec (ρ.get n).list ++ dec (ρ.get m).list) := by
    rw [r5.nv, Env.get_append_self, enc_append, ← hg.1, ← hg2.1, ← hden]; rfl
  -- what runs
  have hus : us.length = (dec (ρ.get m).list).length := f2
  have hL1 : vs.length ≤ 100000 := by omega
  have hM1 : us.length ≤ 100000 := by omega
  have hM0 : 0 < us.length := by omega
  obtain ⟨x2, c2, hv2, hcells⟩ : ∃ x2 c2, h.σ id2 = .slice (some x2) us.length c2 ∧ ∀ (i : Nat) (u : Value), us[i]? = some u → w.cell? (x2.add i) = some u := by
    rcases f4 with ⟨q1, q2⟩ | ⟨x, cap, q1, q2⟩
    · have h0 : us.length = 0 := by rw [hus, q2]; rfl
      omega
    · exact ⟨x, cap, by rw [q1, hus], q2⟩
  obtain ⟨g, k, w', hr, ho, hgr, hwh, hBg⟩ := run_append_own2 (ty := ty) r.below.size hT hte hz hzc c4 c5 c6 hL1 hg.2.1 (x2 := x2) (c := c2) hM1 hM0 rfl hcells (Rows.one hg2.2.2)
  have hb' : S5.heap[id]? = some (.own n E) := by rw [hH]; exact hb
  have hb2' : S5.heap[id2]? = some (.own m E) := by rw [hH]; exact hb2
  have part : ∀ {i : Nat} {c : Blk}, ((S5.heap.set id .dead).set id2 .dead)[i]? = some c → c = .dead ∨ (i ≠ id ∧ i ≠ id2 ∧ S5.heap[i]? = some c) := by
    intro i c hci
    rw [List.getElem?_set] at hci
    split at hci
    · split at hci
      · injection hci with hci; exact .inl hci.symm
      · cases hci
    · rename_i q1
      rw [List.getElem?_set] at hci
      split at hci
      · split at hci
        · injection hci with hci; exact .inl hci.symm
        · cases hci
      · rename_i q2; exact .inr ⟨fun e => q2 e.symm, fun e => q1 e.symm, hci⟩
  have hgk : ∀ k', k' < w.heap.size → (h.σ id).ownBlock ≠ some k' → w'.heap[k']? = w.heap[k']? ∧ (Value.slice (some ⟨g, 0, none⟩) (vs.length + us.length) k).ownBlock ≠ some k' := fun k' hk' hne => by
    refine ⟨hgr.block _ hk' fun e => hne e.symm, fun he => ?_⟩
    simp only [Value.ownBlock, Option.some.injEq] at he
    rcases hwh with h6 | h6
    · exact hne (by rw [← h6, he])
    · omega
  have H6 := r6.heap.lists
  have hn6 : (Env.get (ρ2 ++ [Cv.l (LE.den ρ2 (.cat n m))]) n).list = (ρ.get n).list := by
    rw [Env.get_append_left (by rw [← r5.nv]; exact Nat.lt_of_lt_of_le hsn lat5.nv), hnn]
  have hm6 : (Env.get (ρ2 ++ [Cv.l (LE.den ρ2 (.cat n m))]) m).list = (ρ.get m).list := by
    rw [Env.get_append_left (by rw [← r5.nv]; exact Nat.lt_of_lt_of_le hsm lat5.nv), hmm]
  have sep1 := fun g' => H6.gsep (g := g') hb' c1 (vs := vs) (L := dec (ρ.get n).list) (by rw [hn6]; exact hg)
  have sep2 := fun g' => H6.gsep (g := g') hb2' c1 (vs := us) (L := dec (ρ.get m).list) (by rw [hm6]; exact hg2)
  have sep : ∀ g', GF (vs ++ us) (dec (ρ.get n).list ++ dec (ρ.get m).list) g' → ((∀ j b, S5.heap[j]? = some b → b.live = true → h.β j ≠ g') ∧ ∀ j m e', S5.heap[j]? = some (.own m e') → (h.σ j).ownBlock ≠ some g') ∧ g' < w.heap.size := by
    intro g' hg'
    rcases GF.append g2 hg' with h1 | h1
    · exact ⟨sep1 g' h1, hg.2.2.lt h1⟩
    · exact ⟨sep2 g' h1, hg2.2.2.lt h1⟩
  obtain ⟨r7, l7⟩ := r6.growOwnG (w' := w') hs6 (H := (S5.heap.set id .dead).set id2 .dead) (n := S5.nv) (e := E) (v := .slice (some ⟨g, 0, none⟩) (vs.length + us.length) k) (by simp)
    (fun i b hbi => by
      rcases part hbi with h1 | ⟨_, _, h1⟩
      · exact .inr h1
      · exact .inl h1)
    ((Below.refl _ w).grown hgr r.below.size (fun k hk => (hg.2.1.lt k hk).1))
    (fun i b hbi hlv => by
      rcases part hbi with h1 | ⟨_, _, h1⟩
      · subst h1; cases hlv
      · exact hgk _ (r6.heap.own i b h1 hlv).2 (H6.apart id n E i b hb' h1 hlv))
    (fun k' hk' => by
      rcases hk' with ⟨i, p1, ⟨m1, e1', p2⟩ | ⟨m1, c1', p2, p3⟩⟩ | ⟨i, m1, e1', vs1, L1, p2, p3, p4, p5⟩
      · rcases part p2 with h1 | ⟨h1, _, h2⟩
        · cases h1
        · exact hgk _ (H6.ownB h2 p1).2 fun hq => h1 (H6.two i id m1 e1' n E k' h2 hb' p1 hq)
      · rcases part p2 with h1 | ⟨h1, _, h2⟩
        · cases h1
        · exact hgk _ ((H6.view i m1 c1' h2).lt p3 p1) (H6.vtwo i m1 c1' id n E k' h2 p3 hb' p1)
      · rcases part p2 with h1 | ⟨h1, _, h2⟩
        · cases h1
        · exact hgk _ (p4.2.2.lt p5) ((H6.gsep h2 p3 p4 p5).2 id n E hb'))
    (fun hge => by rw [c1] at hge; cases hge)
    (fun _ => ⟨vs ++ us, dec (ρ.get n).list ++ dec (ρ.get m).list, ⟨hget, by rw [List.length_append]; exact ho, (Rows.append hg.2.2 hg2.2.2).keep fun g' hg' => (hgk g' (sep g' hg').2 ((sep g' hg').1.2 id n E hb')).1⟩, fun g' hg' => by
      obtain ⟨⟨q1, q2⟩, q3⟩ := sep g' hg'
      refine ⟨fun j b hj hb => ?_, (hgk g' q3 (q2 id n E hb')).2, fun j m1 e1' hj => ?_⟩
      · rcases part hj with h1 | ⟨_, _, h1⟩
        · subst h1; cases hb
        · exact q1 j b h1 hb
      · rcases part hj with h1 | ⟨_, _, h1⟩
        · cases h1
        · exact q2 j m1 e1' h1⟩)
  refine ⟨_, _, _, _, S5.nb, ?_, r7, (lat5.trans l6).trans l7, hsl, hk⟩
  rw [hv2, hr]
  congr 1
  exact addS_at.symm
theorem run_append_none {w : World} {T e ty : TypeId} {te : Ty} (hT : P.underlying T = some (.slice e)) (hte : TyOK P e te) {B : Nat} {v : Value} (hv : (v = .slice none 0 0 ∧ (0 : Nat) = 0) ∨ ∃ g cap cur, v = .slice (some ⟨g, 0, none⟩) 0 cap ∧ B ≤ g ∧ w.heap[g]? = some (.cells cur e (0, 0)) ∧ 0 ≤ cap ∧ cap ≤ maxLen ∧ cur.size = cap * 1 ∧ cur.toList.take (0 * 1) = []) (p2 : Option Addr) (cc : Nat) :
    (Builtin.append_ #[T, T] ty #[v, .slice p2 0 cc]).run P w = .ok v w := by
  obtain ⟨i, hi, hs, _⟩ := hte.info
  have hf : (Builtin.firstCells i.size 0 (.slice p2 0 cc)).run P w = .ok #[] w := by
    cases p2 with
    | none => rfl
    | some x => simp [Builtin.firstCells, loadCells, loadCellsFrom, Sem.run, pure]
  rcases hv with ⟨rfl, _⟩ | ⟨g, cap, cur, rfl, _⟩
  · simp [Builtin.append_, run_underlying hT, sizeOf, typeInfo, hi, Builtin.lenOf, hf, Sem.run, pure]
  · simp [Builtin.append_, run_underlying hT, sizeOf, typeInfo, hi, Builtin.lenOf, hf, storeCells, Sem.run, pure]
/-- a list behind an empty row -/
theorem appL_sound {S : St} {ρ h J a w} (r : Rep w0 S ρ h J a w) {T e ty : TypeId} {te : Ty} (hT : P.underlying T = some (.slice e)) (hte : TyOK P e te) {s : SV} {id2 : Nat} {K : OR → St → Tree} (hd : (appL e te s id2 S K).den M R RP F J ρ) :
    (∃ S' ρ', (Builtin.append_ #[T, T] ty #[s.den ρ h, h.σ id2]).run P w = .ok (s.den ρ h) w ∧ s.den ρ' h = s.den ρ h ∧ Rep w0 S' ρ' h J a w ∧ Later S S' ρ h J ρ' h J ∧ S'.slots = S.slots ∧ (K (.val s) S').den M R RP F J ρ') ∨
    ∃ S' ρ' h' w' id', (Builtin.append_ #[T, T] ty #[s.den ρ h, h.σ id2]).run P w = .ok (h'.σ id') w' ∧ Rep w0 S' ρ' h' J a w' ∧ Later S S' ρ h J ρ' h' J ∧ S'.slots = S.slots ∧ (K (.val (.lst id')) S').den M R RP F J ρ' := by
  unfold appL at hd
  split at hd
  case h_2 => exact hd.elim
  rename_i m z hm hz
  split at hd
  case h_2 => exact hd.elim
  rename_i zc hzc
  split at hd
  case isFalse => exact hd.elim
  rename_i hc
  simp only [Bool.and_eq_true, nbeq_iff, nble_iff, blt_iff] at hc
  obtain ⟨⟨⟨⟨⟨⟨c1, c2⟩, c3⟩, c4⟩, c5⟩, c6⟩, c7⟩ := hc
  have hrow := listOf_sound r.heap hm
  -- what is empty
  have hemp : (s.den ρ h = .slice none 0 0 ∧ killRow s S.heap = S.heap) ∨ ∃ id cs, s = .row id 0 0 1 ∧ S.heap[id]? = some (.row cs e 1) := by
    unfold emptyRow at c6
    split at c6
    · exact .inl ⟨rfl, rfl⟩
    · rename_i id
      split at c6
      · rename_i cs E hb; rw [nbeq_iff] at c6; subst c6; exact .inr ⟨id, cs, rfl, hb⟩
      · cases c6
    · cases c6
  have hown : w.ownsRow w0.heap.size e 1 (s.den ρ h) 0 [] := by
    rcases hemp with ⟨h1, _⟩ | ⟨id, cs, rfl, hb⟩
    · rw [h1]; exact World.ownsRow_nil w _ _ _
    · have := row_owns r hb (n := 0) (by omega) (by omega)
      simp only [Nat.zero_mul, List.take_zero] at this
      simpa only [SV.den, Nat.zero_mul, Nat.sub_zero] using this
  obtain ⟨m', S1, ρ1, r1, l1, sl1, hp1, hm', env1, hd⟩ := withLen_sound r hrow.len hd
  obtain ⟨S2, k2, r2, hd⟩ := splitBE_sound r1 hd
  split at hd
  case isFalse =>
    rename_i hb
    have e1 : ¬ ((At.z 1).den ρ1 ≤ (At.v m').den ρ1) := fun hle => hb (decide_eq_true hle)
    have e10 : (At.z 1).den ρ1 = 1 := rfl
    rw [hm', e10] at e1
    have hnil : (ρ.get m).list = [] := List.eq_nil_of_length_eq_zero (by omega)
    refine .inl ⟨S2, ρ1, ?_, ?_, r2, l1.trans k2.later, by rw [k2.slots, sl1], hd⟩
    · obtain ⟨i, hi, hs, _⟩ := hte.info
      have hs2 : ∃ p c, h.σ id2 = .slice p 0 c := by
        rcases hrow with ⟨h1, _⟩ | ⟨x, cap, h1, _⟩
        · exact ⟨_, _, h1⟩
        · rw [hnil] at h1; exact ⟨_, _, h1⟩
      obtain ⟨p2, cc, hs2⟩ := hs2
      rw [hs2]
      exact run_append_none hT hte hown.2 p2 cc
    · rcases hemp with ⟨h1, h2⟩ | ⟨id, cs, rfl, hb⟩
      · unfold emptyRow at c6
        split at c6
        · rfl
        · rfl
        · cases c6
      · rfl
  rename_i b1
  obtain ⟨S3, k3, r3, hd⟩ := splitBE_sound r2 hd
  split at hd
  case isFalse => exact hd.elim
  rename_i b2
  simp only [Bool.and_eq_true] at b2
  have e1 : (At.z 1).den ρ1 ≤ (At.v m').den ρ1 := of_decide_eq_true b1
  have e2 : (At.v m').den ρ1 ≤ (At.z 100000).den ρ1 := of_decide_eq_true b2.1
  have e10 : (At.z 1).den ρ1 = 1 := rfl
  have e20 : (At.z 100000).den ρ1 = 100000 := rfl
  rw [hm', e10] at e1
  rw [hm', e20] at e2
  have lat := (l1.trans k2.later).trans k3.later
  have hk := hd _ rfl
  have hmm : (ρ1.get m).list = (ρ.get m).list := by rw [env1 m c7]
  have hden : LE.den ρ1 (.v m) = (ρ.get m).list := hmm
  have hnews : InI (LE.den ρ1 (.v m)) := by rw [hden]; exact fun x hx => r.fok.lst m x hx
  have hH : S3.heap = S.heap := by rw [k3.heap, k2.heap, hp1]
  have hsl : S3.slots = S.slots := by rw [k3.slots, k2.slots, sl1]
  obtain ⟨r4, l4⟩ := r3.letl b2.2 hnews
  have hs4 : ({ S3 with nv := S3.nv + 1, ivs := S3.ivs ++ [none] } : St).scoped = true := St.scoped_mono b2.2 (Nat.le_succ _)
  have hget : (Env.get (ρ1 ++ [Cv.l (LE.den ρ1 (.v m))]) S3.nv).list = (ρ.get m).list := by
    rw [r3.nv, Env.get_append_self, ← hden]; rfl
  obtain ⟨x2, c2', hv2, hcells⟩ : ∃ x2 c2, h.σ id2 = .slice (some x2) (ρ.get m).list.length c2 ∧ ∀ (i : Nat) (u : Value), (ints (ρ.get m).list)[i]? = some u → w.cell? (x2.add i) = some u := by
    rcases hrow with ⟨q1, q2⟩ | ⟨x, cap, q1, q2, q3, q4⟩
    · rw [q2] at e1; simp at e1
    · refine ⟨x, cap, q1, fun i u hu => ?_⟩
      simp only [ints, List.getElem?_map, Option.map_eq_some_iff] at hu
      obtain ⟨y, hy, rfl⟩ := hu
      exact q4 i y hy
  obtain ⟨g, k, w', hr, ho, hgr, hwh, hBg⟩ := run_append_own2 (ty := ty) r.below.size hT hte hz hzc c1 c2 c3 (n := 0) (xs := []) (by omega) hown (x2 := x2) (c := c2') (m := (ρ.get m).list.length) (ys := ints (ρ.get m).list) (by omega) (by omega) ints_length hcells (fun u hu => by
    simp only [ints, List.mem_map] at hu
    obtain ⟨y, _, rfl⟩ := hu; rfl)
  rw [Nat.zero_add, List.nil_append] at ho
  have part : ∀ {i : Nat} {c : Blk}, (killRow s S3.heap)[i]? = some c → c = .dead ∨ ((∀ id cs, s = .row id 0 0 1 → S.heap[id]? = some (.row cs e 1) → i ≠ id) ∧ S3.heap[i]? = some c) := by
    intro i c hci
    rcases hemp with ⟨h1, h2⟩ | ⟨id, cs, rfl, hb⟩
    · have : killRow s S3.heap = S3.heap := by rw [hH]; exact h2
      rw [this] at hci
      exact .inr ⟨fun id cs hs _ => (by subst hs; simp [SV.den] at h1), hci⟩
    · simp only [killRow] at hci
      rw [List.getElem?_set] at hci
      split at hci
      · split at hci
        · injection hci with hci; exact .inl hci.symm
        · cases hci
      · rename_i q1
        refine .inr ⟨fun id' cs' hs _ => ?_, hci⟩
        injection hs with hs; subst hs
        exact fun e => q1 e.symm
  have hklen : (killRow s S3.heap).length = S3.heap.length := by
    unfold killRow; split
    · rw [List.length_set]
    · rfl
  have hne : ∀ {i : Nat} {c : Blk}, (killRow s S3.heap)[i]? = some c → c.live = true → (s.den ρ h).ownBlock ≠ some (h.β i) := fun {i c} hci hlv he => by
    rcases part hci with rfl | ⟨h1, h2⟩
    · cases hlv
    · rcases hemp with ⟨q1, _⟩ | ⟨id, cs, hs, hb⟩
      · rw [q1] at he; cases he
      · subst hs
        simp only [SV.den, Value.ownBlock, Option.some.injEq] at he
        rw [hH] at h2
        exact h1 id cs rfl hb (r.heap.inj i id _ _ h2 hb hlv rfl he.symm)
  have hgk : ∀ k', k' < w.heap.size → (s.den ρ h).ownBlock ≠ some k' → w'.heap[k']? = w.heap[k']? ∧ (Value.slice (some ⟨g, 0, none⟩) (0 + (ρ.get m).list.length) k).ownBlock ≠ some k' := fun k' hk' hn => by
    refine ⟨hgr.block _ hk' fun e => hn e.symm, fun he => ?_⟩
    simp only [Value.ownBlock, Option.some.injEq] at he
    rcases hwh with h6 | h6
    · exact hn (by rw [← h6, he])
    · omega
  obtain ⟨r5, l5⟩ := r4.growOwn (w' := w') hs4 (H := killRow s S3.heap) (n := S3.nv) (e := e) (v := .slice (some ⟨g, 0, none⟩) (0 + (ρ.get m).list.length) k) (by unfold isG; rw [Bool.eq_false_iff]; intro hh; rw [nble_iff] at hh; have : e < 10000 := c5; omega) hklen
    (fun i b hbi => by
      rcases part hbi with h1 | ⟨_, h1⟩
      · exact .inr h1
      · exact .inl h1)
    ((Below.refl _ w).grown hgr r.below.size (fun k hk => (hown.lt k hk).1))
    (fun i b hbi hlv => by
      rcases part hbi with h1 | ⟨_, h1⟩
      · subst h1; cases hlv
      · exact hgk _ (r4.heap.own i b h1 hlv).2 (hne hbi hlv))
    (fun k' hk' => by
      -- where lists' rows lie
      have hl4 : LBlk (ρ1 ++ [Cv.l (LE.den ρ1 (.v m))]) h w0.heap.size w S3.heap k' := by
        rcases hk' with ⟨i, p1, ⟨m1, e1', p2⟩ | ⟨m1, c1', p2, p3⟩⟩ | ⟨i, m1, e1', vs1, L1, p2, p3, p4, p5⟩
        · rcases part p2 with h1 | ⟨_, h1⟩
          · cases h1
          · exact .inl ⟨i, p1, .inl ⟨m1, e1', h1⟩⟩
        · rcases part p2 with h1 | ⟨_, h1⟩
          · cases h1
          · exact .inl ⟨i, p1, .inr ⟨m1, c1', h1, p3⟩⟩
        · rcases part p2 with h1 | ⟨_, h1⟩
          · cases h1
          · exact .inr ⟨i, m1, e1', vs1, L1, h1, p3, p4, p5⟩
      refine hgk k' (r4.heap.lists.lt hl4) fun he => ?_
      rcases hemp with ⟨q1, _⟩ | ⟨id, cs, hs, hb⟩
      · rw [q1] at he; cases he
      · subst hs
        simp only [SV.den, Value.ownBlock, Option.some.injEq] at he
        have hb3 : S3.heap[id]? = some (.row cs e 1) := by rw [hH]; exact hb
        exact r4.heap.lists.apartL hl4 hb3 rfl he.symm)
    (by
      have ht : tE e = e := by unfold tE; rw [if_pos (blt_iff.2 c5)]
      have hp : pE e = true := by rw [pE_iff]; unfold stE; rw [if_pos (blt_iff.2 c5)]
      refine (OwnS.plain hp).2 ?_
      rw [ht, hget, Nat.zero_add]
      exact ho)
  refine .inr ⟨_, _, _, _, S3.nb, ?_, r5, (lat.trans l4).trans l5, hsl, hk⟩
  rw [hv2, hr]
  congr 1
  exact addS_at.symm
theorem atOf_sound {S : St} {ρ h J a w} (r : Rep w0 S ρ h J a w) {x : Option Operand} {d b : At} (hx : atOf S x d = some b) : (x = none ∧ b = d) ∨ ∃ o k, x = some o ∧ a.eval o = .int k (b.den ρ) := by
  unfold atOf at hx
  split at hx
  · injection hx with hx; exact .inl ⟨rfl, hx.symm⟩
  · rename_i o
    split at hx
    · rename_i k c ho; injection hx with hx; subst hx; exact .inr ⟨o, k, rfl, opd_sound r.slots ho⟩
    · cases hx
end
end Go.SX
