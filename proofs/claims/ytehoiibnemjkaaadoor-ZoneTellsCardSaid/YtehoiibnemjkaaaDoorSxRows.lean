/-
  The symbolic executor: rows of the call's own: made, and appended to.
-/
import Derived.Test.YtehoiibnemjkaaaDoorSxStep
import Derived.ArgAppend
namespace Go.SX
open Go Go.RowKit
set_option linter.unusedVariables false
set_option linter.unusedSimpArgs false

/-- a new row: where it lies, and how great it is -/
def Hid.addR (h : Hid) (nb b k : Nat) : Hid := { h with β := fun i => if i = nb then b else h.β i, κ := fun i => if i = nb then k else h.κ i }
theorem addR_agree {nv nb nj ρ h b k} : Agree nv nb nj ρ h ρ (Hid.addR h nb b k) :=
  ⟨fun _ _ => rfl, fun i hi => by simp only [Hid.addR]; rw [if_neg (by omega)], fun i hi => by simp only [Hid.addR]; rw [if_neg (by omega)], fun _ _ => rfl, fun _ _ => rfl⟩
theorem addR_at {h : Hid} {nb b k : Nat} : (Hid.addR h nb b k).β nb = b := by simp [Hid.addR]
theorem addR_cap {h : Hid} {nb b k : Nat} : (Hid.addR h nb b k).κ nb = k := by simp [Hid.addR]

theorem oneCell_of {v : Value} (h : oneV v = true) : v.oneCell' = true := by cases v <;> first | rfl | cases h

theorem scopedL_take {nv nb nj : Nat} : ∀ {l : List SV} {n : Nat}, scopedL nv nb nj l = true → scopedL nv nb nj (l.take n) = true
  | [], n, h => by simp [scopedL]
  | x :: r, 0, h => rfl
  | x :: r, n + 1, h => by
    simp only [scopedL, Bool.and_eq_true] at h
    simp only [List.take_succ_cons, scopedL, Bool.and_eq_true]
    exact ⟨h.1, scopedL_take h.2⟩
theorem scopedL_append {nv nb nj : Nat} : ∀ {l m : List SV}, scopedL nv nb nj l = true → scopedL nv nb nj m = true → scopedL nv nb nj (l ++ m) = true
  | [], m, _, hm => hm
  | x :: r, m, h, hm => by
    simp only [scopedL, Bool.and_eq_true] at h
    simp only [List.cons_append, scopedL, Bool.and_eq_true]
    exact ⟨h.1, scopedL_append h.2 hm⟩

section
variable {P : Program} {M : Nat → SpecSem} {R RP : Value → Prop} {F : Ex → St → Js → Env → Prop} {w0 : World}

/-- the state with one more row, and blocks that are dead now -/
theorem Rep.growRow {S : St} {ρ h J a w w'} (r : Rep w0 S ρ h J a w) (hs : S.scoped = true) {H : List Blk} {cs : List SV} {e : TypeId} {sz g k : Nat} {rest : List Value}
    (hlen : H.length = S.heap.length) (hold : ∀ i b, H[i]? = some b → b.live = true → S.heap[i]? = some b ∧ w'.heap[h.β i]? = w.heap[h.β i]? ∧ h.β i ≠ g)
    (hlst : ∀ (i : Nat) (b : Blk), H[i]? = some b → b.live = false → S.heap[i]? = some b ∨ b = Blk.dead) (hlk : ∀ k, LBlk ρ h S.heap k → w'.heap[k]? = w.heap[k]? ∧ k ≠ g)
    (hb : Below w0.heap.size w w') (hc : scopedL S.nv S.nb S.nj cs = true) (hg : w'.heap[g]? = some (.cells (denL ρ h cs ++ rest).toArray e (0, 0))) (hk : cs.length + rest.length = k * sz) (hkm : k ≤ maxLen) (hgb : w0.heap.size ≤ g) :
    Rep w0 { S with heap := H ++ [.row cs e sz] } ρ (Hid.addR h S.nb g k) J a w' ∧ Later S { S with heap := H ++ [.row cs e sz] } ρ h J ρ (Hid.addR h S.nb g k) J := by
  have A : Agree S.nv S.nb S.nj ρ h ρ (Hid.addR h S.nb g k) := addR_agree
  obtain ⟨g1, g2, g3, g4, g5⟩ := r.grow hs A
  obtain ⟨s1, s2, s3, s4⟩ := scoped_parts hs
  have hnb : S.nb = S.heap.length := rfl
  have part : ∀ {i : Nat} {c : Blk}, (H ++ [Blk.row cs e sz])[i]? = some c → (i < S.nb ∧ H[i]? = some c) ∨ (i = S.nb ∧ c = .row cs e sz) := by
    intro i c hc
    rw [List.getElem?_append] at hc
    split at hc
    · rename_i hlt; exact .inl ⟨by omega, hc⟩
    · rename_i hge
      have hlt := (List.getElem?_eq_some_iff.1 hc).1
      simp at hlt
      have hi : i = H.length := by omega
      subst hi
      rw [Nat.sub_self, List.getElem?_cons_zero] at hc
      injection hc with hc
      exact .inr ⟨by omega, hc.symm⟩
  refine ⟨⟨r.nv, r.lv, r.ivl, ⟨g5, g3, g4, r.fok.lst⟩, g1, r.defers, ⟨fun i c hci => ?_, fun i c hci hl => ?_, fun i j c d hci hdj hl hl' he => ?_, ?_⟩, r.below.trans hb⟩, ⟨A, Nat.le_refl _, by simp [St.nb, hlen], Nat.le_refl _, rfl, [], by simp⟩⟩
  · rcases part hci with ⟨hlt, hc1⟩ | ⟨rfl, rfl⟩
    · cases hlv : c.live with
      | false => cases c <;> simp [Blk.live] at hlv <;> trivial
      | true =>
        obtain ⟨e1, e2, e3⟩ := hold i c hc1 hlv
        have hok := (r.heap.blk i c e1).agree A hlt (heapScoped_get s2 i c e1)
        refine hok.world fun _ => ?_
        rw [A.β i hlt]; exact e2
    · refine ⟨rest, ?_, by rw [addR_cap]; exact hk, by rw [addR_cap]; exact hkm⟩
      rw [addR_at, denL_agree A cs hc]; exact hg
  · rcases part hci with ⟨hlt, hc1⟩ | ⟨rfl, rfl⟩
    · obtain ⟨e1, e2, e3⟩ := hold i c hc1 hl
      have := r.heap.own i c e1 hl
      rw [A.β i hlt]; exact ⟨this.1, Nat.lt_of_lt_of_le this.2 hb.size⟩
    · rw [addR_at]; exact ⟨hgb, by by_cases hh : g < w'.heap.size; exact hh; rw [Array.getElem?_eq_none (by omega)] at hg; cases hg⟩
  · rcases part hci with ⟨hlt, hc1⟩ | ⟨hi, hcb⟩
    · obtain ⟨e1, e2, e3⟩ := hold i c hc1 hl
      rcases part hdj with ⟨hlt', hd1⟩ | ⟨hj, hdb⟩
      · obtain ⟨f1, f2, f3⟩ := hold j d hd1 hl'
        rw [A.β i hlt, A.β j hlt'] at he
        exact r.heap.inj i j c d e1 f1 hl hl' he
      · rw [hj, addR_at, A.β i hlt] at he; exact absurd he e3
    · rcases part hdj with ⟨hlt', hd1⟩ | ⟨hj, hdb⟩
      · obtain ⟨f1, f2, f3⟩ := hold j d hd1 hl'
        rw [hi, addR_at, A.β j hlt'] at he; exact absurd he.symm f3
      · rw [hi, hj]
  · have hm : ListsOK ρ (Hid.addR h S.nb g k) w0.heap.size H w' := by
      refine r.heap.lists.map id (fun i n e hi => ?_) (fun i n hi => ?_) (fun j b hj hbl => ?_) (fun i j n e m e' _ _ h => h) (fun k hk => (hlk k hk).1)
      · rcases hlst i _ hi rfl with h1 | h1
        · exact ⟨n, h1, rfl, rfl⟩
        · cases h1
      · rcases hlst i _ hi rfl with h1 | h1
        · exact ⟨⟨n, h1, rfl⟩, rfl⟩
        · cases h1
      · obtain ⟨e1, e2, e3⟩ := hold j b hj hbl
        exact ⟨b, e1, hbl, A.β j (by have := (List.getElem?_eq_some_iff.1 e1).1; exact this)⟩
    refine hm.pushLive (.inl rfl) fun _ k' hk' => ?_
    have e : (Hid.addR h S.nb g k).β H.length = g := by rw [hlen]; exact addR_at
    rw [e]
    obtain ⟨i, h1, h2⟩ := hk'
    refine (hlk k' ⟨i, h1, ?_⟩).2
    rcases h2 with ⟨n, e, h2⟩ | ⟨n, h2, h3⟩
    · rcases hlst i _ h2 rfl with h4 | h4
      · exact .inl ⟨n, e, h4⟩
      · cases h4
    · rcases hlst i _ h2 rfl with h4 | h4
      · exact .inr ⟨n, h4, h3⟩
      · cases h4

/-- a row is owned -/
theorem row_owns {S : St} {ρ h J a w} (r : Rep w0 S ρ h J a w) {id n sz : Nat} {cs : List SV} {e : TypeId} (hb : S.heap[id]? = some (.row cs e sz)) (hn : n * sz ≤ cs.length) (hsz : 0 < sz) :
    w.ownsRow w0.heap.size e sz (.slice (some ⟨h.β id, 0, none⟩) n (h.κ id)) n ((denL ρ h cs).take (n * sz)) := by
  obtain ⟨rest, h1, h2, h3⟩ := r.heap.blk _ _ hb
  have hown := r.heap.own _ _ hb rfl
  refine ⟨by rw [List.length_take, denL_length]; omega, .inr ⟨_, _, _, rfl, hown.1, h1, ?_, h3, ?_, ?_⟩⟩
  · have : n * sz ≤ h.κ id * sz := by omega
    exact Nat.le_of_mul_le_mul_right this hsz
  · simp only [List.size_toArray, List.length_append, denL_length]; exact h2
  · simp only [List.take_append, denL_length]
    rw [show n * sz - cs.length = 0 by omega]
    simp

/-- what an append finds, and leaves -/
theorem run_append_row {S : St} {ρ h J a w} (r : Rep w0 S ρ h J a w) {T e ty : TypeId} {te : Ty} {z : SV} {zc : List SV} (hT : P.underlying T = some (.slice e)) (hte : TyOK P e te) (hz : te.zero = some z) (hzc : z.cells = some zc)
    {id2 d2 m sz : Nat} {cs2 : List SV} {e2 : TypeId} (hb2 : S.heap[id2]? = some (.row cs2 e2 sz)) (hsz : te.size = sz) (hle : (d2 + m) * sz ≤ cs2.length) (h0 : 0 < sz) (hm0 : 0 < m) (hzl : zc.length = te.size) (hby : te.bytes ≤ 4096) (hm : m ≤ 100000)
    (hone : oneCells ((cs2.drop (d2 * sz)).take (m * sz)) = true) {v : Value} {n : Nat} {xs : List Value} (hn : n ≤ 100000)
    (hv : v = .slice none 0 0 ∧ n = 0 ∧ xs = [] ∨ ∃ g cap, v = .slice (some ⟨g, 0, none⟩) n cap ∧ w.ownsRow w0.heap.size e sz v n xs) :
    ∃ g k w' rest, (Builtin.append_ #[T, T] ty #[v, .slice (some ⟨h.β id2, d2 * sz, none⟩) m (h.κ id2 - d2)]).run P w = .ok (.slice (some ⟨g, 0, none⟩) (n + m) k) w' ∧
      w'.heap[g]? = some (.cells (xs ++ denL ρ h ((cs2.drop (d2 * sz)).take (m * sz)) ++ rest).toArray e (0, 0)) ∧ (xs.length + ((cs2.drop (d2 * sz)).take (m * sz)).length) + rest.length = k * sz ∧ k ≤ maxLen ∧ w0.heap.size ≤ g ∧
      w.grownBy w' v.ownBlock ∧ (some g = v.ownBlock ∨ w.heap.size ≤ g) := by
  obtain ⟨i, hi, hs, hz', hb'⟩ := hte.info
  have h1 := hz' z hz
  obtain ⟨zv, hzv, hsv⟩ : ∃ zv, i.zero = some zv ∧ svOf zv = some z := by
    cases hzz : i.zero with
    | none => rw [hzz] at h1; cases h1
    | some zv => rw [hzz] at h1; exact ⟨zv, rfl, h1⟩
  have hzd := svOf_sound hsv ρ h
  have hcell := cells_sound (ρ := ρ) (h := h) hzc
  have hzs : zv.cells.size = sz := by rw [← hzd, hcell, List.size_toArray, denL_length]; omega
  obtain ⟨rest2, hblk2, hk2, _⟩ := r.heap.blk _ _ hb2
  have hnl : (denL ρ h ((cs2.drop (d2 * sz)).take (m * sz))).length = m * sz := by
    rw [denL_length, List.length_take, List.length_drop]
    have : (d2 + m) * sz = d2 * sz + m * sz := Nat.add_mul ..
    omega
  have hcells : ∀ j u, (denL ρ h ((cs2.drop (d2 * sz)).take (m * sz)))[j]? = some u → w.cell? ((⟨h.β id2, d2 * sz, none⟩ : Addr).add j) = some u := by
    intro j u hu
    have hj := (List.getElem?_eq_some_iff.1 hu).1
    rw [hnl] at hj
    rw [addr_add, cell_of_blk hblk2, List.getElem?_append_left (by rw [denL_length]; have : (d2 + m) * sz = d2 * sz + m * sz := Nat.add_mul ..; omega)]
    rw [denL_take, denL_drop, List.getElem?_take, if_pos hj, List.getElem?_drop] at hu
    exact hu
  have h1c : ∀ u ∈ denL ρ h ((cs2.drop (d2 * sz)).take (m * sz)), u.oneCell' = true := fun u hu => oneCell_of (oneCells_sound hone u hu)
  have hbytes : (n + m) * i.bytes ≤ 140737488355328 := by
    have : (n + m) * i.bytes ≤ 200000 * 4096 := Nat.mul_le_mul (by omega) (by omega)
    omega
  have hmx : n + m ≤ maxLen := by simp only [maxLen]; omega
  -- out of a row that is owned from B on
  have fin : ∀ {B : Nat} {v' : Value} {w' : World}, (Builtin.append_ #[T, T] ty #[v, .slice (some ⟨h.β id2, d2 * sz, none⟩) m (h.κ id2 - d2)]).run P w = .ok v' w' → w'.ownsRow B e sz v' (n + m) (xs ++ denL ρ h ((cs2.drop (d2 * sz)).take (m * sz))) → w.grownBy w' v.ownBlock →
      w0.heap.size ≤ B → (∀ g k, v' = .slice (some ⟨g, 0, none⟩) (n + m) k → B ≤ g → some g = v.ownBlock ∨ w.heap.size ≤ g) →
      ∃ g k w' rest, (Builtin.append_ #[T, T] ty #[v, .slice (some ⟨h.β id2, d2 * sz, none⟩) m (h.κ id2 - d2)]).run P w = .ok (.slice (some ⟨g, 0, none⟩) (n + m) k) w' ∧
        w'.heap[g]? = some (.cells (xs ++ denL ρ h ((cs2.drop (d2 * sz)).take (m * sz)) ++ rest).toArray e (0, 0)) ∧ (xs.length + ((cs2.drop (d2 * sz)).take (m * sz)).length) + rest.length = k * sz ∧ k ≤ maxLen ∧ w0.heap.size ≤ g ∧
        w.grownBy w' v.ownBlock ∧ (some g = v.ownBlock ∨ w.heap.size ≤ g) := by
    intro B v' w' hr ho hg hB hwhere
    obtain ⟨o1, o2⟩ := ho
    rcases o2 with ⟨_, o3⟩ | ⟨g, cap, cur, rfl, o3, o4, o5, o6, o7, o8⟩
    · omega
    · refine ⟨g, cap, w', cur.toList.drop ((n + m) * sz), hr, ?_, ?_, o6, by omega, hg, hwhere g cap rfl o3⟩
      · rw [← o8, List.take_append_drop]; exact o4
      · rw [← denL_length (ρ := ρ) (h := h) (l := (cs2.drop (d2 * sz)).take (m * sz)), ← List.length_append, o1, List.length_drop, Array.length_toList, o7]
        have : (n + m) * sz ≤ cap * sz := Nat.mul_le_mul_right _ o5
        omega
  rcases hv with ⟨rfl, rfl, rfl⟩ | ⟨g, cap, rfl, hown⟩
  · obtain ⟨v', w', hr, ho, hg, _⟩ := run_append_own (P := P) w w.heap.size T ty e i zv sz i.bytes hT hi hzv (hs.trans hsz) rfl hzs h0 _ 0 [] (World.ownsRow_nil w _ e sz) _ m _ _ hnl hcells h1c hmx hbytes (Nat.le_refl _)
    exact fin hr ho hg r.below.size fun g k _ hB => .inr hB
  · by_cases hroom : n + m ≤ cap
    · obtain ⟨w', hr, ho, hg⟩ := run_append_fits (P := P) w w0.heap.size T ty e i sz hT hi (hs.trans hsz) g n cap xs hown _ m _ _ hnl hcells h1c hroom
      exact fin hr ho hg (Nat.le_refl _) fun g' k hv' _ => .inl (by simp only [Value.slice.injEq, Option.some.injEq, Addr.mk.injEq] at hv'; simp only [Value.ownBlock]; rw [hv'.1.1])
    · have holds : ∀ j u, xs[j]? = some u → w.cell? ((⟨g, 0, none⟩ : Addr).add j) = some u := hown.cells (g := g) rfl
      obtain ⟨v', w', hr, ho, hg⟩ := run_append_arg_grows (P := P) w T ty e i zv sz i.bytes hT hi hzv (hs.trans hsz) rfl hzs h0 ⟨g, 0, none⟩ n cap xs hown.1 holds _ m _ _ hnl hcells (by omega) hmx hbytes
      exact fin hr ho ⟨hg.os, hg.tape, hg.output, hg.size, fun k hk _ => hg.block k hk (by simp)⟩ r.below.size fun g k _ hB => .inr hB

/-- what a row made of parts is -/
theorem run_buildSlice {ρ h w} {T e : TypeId} {te : Ty} (hT : P.underlying T = some (.slice e)) (hte : TyOK P e te) {len : Nat} {zc cs : List SV} {l : List (Nat × SV)} {parts : Array (Nat × Value)}
    (hzc : (if Nat.beq (len * te.size) 0 then some [] else match te.zero with | some z => z.cells | none => none) = some zc)
    (hfill : fillS (fun i => some (i * te.size, te.size)) ((List.range (len * te.size)).map fun i => (zc[i % zc.length]?).getD (.tup [])) l = some cs)
    (hle : len * te.size ≤ 1000) (hz0 : len * te.size = 0 ∨ 0 < zc.length) (hp : parts.toList = l.map (fun p => (p.1, p.2.den ρ h))) :
    (Instr.buildSlice T len parts).run P w = .ok (.slice (some ⟨w.heap.size, 0, none⟩) len len) (w.alloc (.cells (denL ρ h cs).toArray e)) := by
  have hinit : ((Array.range (len * te.size)).map fun i => (denL ρ h zc).toArray[i % (denL ρ h zc).toArray.size]!) = (denL ρ h ((List.range (len * te.size)).map fun i => (zc[i % zc.length]?).getD (.tup []))).toArray := by
    apply Array.ext_getElem?
    intro i
    by_cases hi : i < len * te.size
    · have hlt : i % zc.length < zc.length := Nat.mod_lt _ (by omega)
      simp [hi, denL_get, denL_length, hlt, List.getElem?_eq_getElem hlt]
      apply Option.some.inj
      rw [← List.getElem?_eq_getElem, denL_get, List.getElem?_map, List.getElem?_range hi]
      simp [List.getElem?_eq_getElem hlt]
    · rw [Array.getElem?_eq_none (by simp; omega), Array.getElem?_eq_none (by simp [denL_length]; omega)]
  have hf := fillS_sound (ρ := ρ) (h := h) (place := fun i => some (i * te.size, te.size)) (placeS := fun i => some (i * te.size, te.size)) (fun i => rfl) hfill
  have hng : ¬ len * te.size > 2 ^ 24 := by omega
  have fin : (match Instr.fill (fun i => some (i * te.size, te.size)) ((Array.range (len * te.size)).map fun i => (denL ρ h zc).toArray[i % (denL ρ h zc).toArray.size]!) parts.toList with
      | some cells => (do pure (.slice (some (← newRow e cells)) len len) : Sem Value)
      | _ => stuck "buildSlice: a part of the wrong size").run P w = .ok (.slice (some ⟨w.heap.size, 0, none⟩) len len) (w.alloc (.cells (denL ρ h cs).toArray e)) := by
    rw [hinit, hp, hf]
    simp only [Sem.run_bind, newRow, newObj, Sem.run, pure, Result.andThen_ok]
    rfl
  by_cases h0 : len * te.size = 0
  · rw [if_pos (nbeq_iff.2 h0)] at hzc
    injection hzc with hzc; subst hzc
    simp only [Instr.buildSlice, Sem.run_bind, run_under hT, Result.andThen_ok, run_sizeOf' hte, hng, if_false]
    rw [if_pos h0]
    exact fin
  · rw [if_neg (fun h => h0 (nbeq_iff.1 h))] at hzc
    cases hz : te.zero with
    | none => rw [hz] at hzc; cases hzc
    | some z =>
      rw [hz] at hzc
      simp only [Instr.buildSlice, Sem.run_bind, run_under hT, Result.andThen_ok, run_sizeOf' hte, hng, if_false]
      rw [if_neg h0]
      simp only [Sem.run_bind, run_zeroValue' hte hz ρ h, Result.andThen_ok, cells_sound hzc]
      exact fin
/-! ### rows that lists tell of -/
theorem Rep.letl {S : St} {ρ h J a w} (r : Rep w0 S ρ h J a w) (hs : S.scoped = true) {xs : List Int} (hI : InI xs) :
    Rep w0 { S with nv := S.nv + 1, ivs := S.ivs ++ [none] } (ρ ++ [.l xs]) h J a w ∧ Later S { S with nv := S.nv + 1, ivs := S.ivs ++ [none] } ρ h J (ρ ++ [.l xs]) h J :=
  Rep.bindL (sh := [.l]) (rs := [.l xs]) r hs ⟨hI, trivial⟩
def Hid.addS (h : Hid) (nb : Nat) (v : Value) : Hid := { h with σ := fun i => if i = nb then v else h.σ i }
theorem addS_agree {nv nb nj ρ h v} : Agree nv nb nj ρ h ρ (Hid.addS h nb v) :=
  ⟨fun _ _ => rfl, fun _ _ => rfl, fun _ _ => rfl, fun _ _ => rfl, fun i hi => by simp only [Hid.addS]; rw [if_neg (by omega)]⟩
theorem addS_at {h : Hid} {nb : Nat} {v : Value} : (Hid.addS h nb v).σ nb = v := by simp [Hid.addS]
/-- the state with another heap, and what its rows are -/
theorem Rep.reheap {S : St} {ρ h J a w w'} (r : Rep w0 S ρ h J a w) (hs : S.scoped = true) {H : List Blk} {v : Value}
    (hlen : S.heap.length ≤ H.length) (hold : ∀ i b, H[i]? = some b → b.live = true → i < S.nb ∧ S.heap[i]? = some b ∧ w'.heap[h.β i]? = w.heap[h.β i]?)
    (hb : Below w0.heap.size w w') (hl : ListsOK ρ (Hid.addS h S.nb v) w0.heap.size H w') :
    Rep w0 { S with heap := H } ρ (Hid.addS h S.nb v) J a w' ∧ Later S { S with heap := H } ρ h J ρ (Hid.addS h S.nb v) J := by
  have A : Agree S.nv S.nb S.nj ρ h ρ (Hid.addS h S.nb v) := addS_agree
  obtain ⟨g1, g2, g3, g4, g5⟩ := r.grow hs A
  obtain ⟨s1, s2, s3, s4⟩ := scoped_parts hs
  refine ⟨⟨r.nv, r.lv, r.ivl, ⟨g5, g3, g4, r.fok.lst⟩, g1, r.defers, ⟨fun i c hci => ?_, fun i c hci hl => ?_, fun i j c d hci hdj hl hl' he => ?_, hl⟩, r.below.trans hb⟩, ⟨A, Nat.le_refl _, hlen, Nat.le_refl _, rfl, [], by simp⟩⟩
  · cases hlv : c.live with
    | false => cases c <;> simp [Blk.live] at hlv <;> trivial
    | true =>
      obtain ⟨e0, e1, e2⟩ := hold i c hci hlv
      exact (g2.blk i c e1).world fun _ => e2
  · obtain ⟨e0, e1, e2⟩ := hold i c hci hl
    have := r.heap.own i c e1 hl
    exact ⟨this.1, Nat.lt_of_lt_of_le this.2 hb.size⟩
  · obtain ⟨e0, e1, e2⟩ := hold i c hci hl
    obtain ⟨f0, f1, f2⟩ := hold j d hdj hl'
    exact r.heap.inj i j c d e1 f1 hl hl' he
theorem LBlk.addS {ρ h nb v g} {hp : List Blk} (hl : hp.length ≤ nb) : LBlk ρ (Hid.addS h nb v) hp g ↔ LBlk ρ h hp g := by
  have key : ∀ i b, hp[i]? = some b → (Hid.addS h nb v).σ i = h.σ i := fun i b hb => by
    have := (List.getElem?_eq_some_iff.1 hb).1
    simp only [Hid.addS]; rw [if_neg (by omega)]
  constructor
  · rintro ⟨i, h1, h2⟩
    refine ⟨i, ?_, h2⟩
    rcases h2 with ⟨n, e, h2⟩ | ⟨n, h2, _⟩ <;> rw [key i _ h2] at h1 <;> exact h1
  · rintro ⟨i, h1, h2⟩
    refine ⟨i, ?_, h2⟩
    rcases h2 with ⟨n, e, h2⟩ | ⟨n, h2, _⟩ <;> rw [key i _ h2] <;> exact h1
/-- one more row of the call's own, in a heap where some blocks are dead now -/
theorem Rep.growOwn {S : St} {ρ h J a w w'} (r : Rep w0 S ρ h J a w) (hs : S.scoped = true) {H : List Blk} {n : Nat} {e : TypeId} {v : Value}
    (hlen : H.length = S.heap.length) (hold : ∀ (i : Nat) (b : Blk), H[i]? = some b → S.heap[i]? = some b ∨ b = Blk.dead)
    (hb : Below w0.heap.size w w') (hlive : ∀ i b, H[i]? = some b → b.live = true → w'.heap[h.β i]? = w.heap[h.β i]? ∧ v.ownBlock ≠ some (h.β i))
    (hlk : ∀ k, LBlk ρ h H k → w'.heap[k]? = w.heap[k]? ∧ v.ownBlock ≠ some k)
    (hown : w'.ownsRow w0.heap.size e 1 v (ρ.get n).list.length (ints (ρ.get n).list)) :
    Rep w0 { S with heap := H ++ [.own n e] } ρ (Hid.addS h S.nb v) J a w' ∧ Later S { S with heap := H ++ [.own n e] } ρ h J ρ (Hid.addS h S.nb v) J := by
  have hnb : S.nb = S.heap.length := rfl
  refine r.reheap hs (by simp [hlen]) (fun i b hi hl => ?_) hb ?_
  · rw [List.getElem?_append] at hi
    split at hi
    · rename_i hlt
      rcases hold i b hi with h1 | h1
      · exact ⟨by omega, h1, (hlive i b hi hl).1⟩
      · subst h1; cases hl
    · rename_i hge
      have hlt := (List.getElem?_eq_some_iff.1 hi).1
      simp at hlt
      rw [show i - H.length = 0 by omega, List.getElem?_cons_zero] at hi
      injection hi with hi; subst hi; cases hl
  · have kσ : ∀ i b, H[i]? = some b → (Hid.addS h S.nb v).σ i = h.σ i := fun i b hb => by
      have := (List.getElem?_eq_some_iff.1 hb).1
      simp only [Hid.addS]; rw [if_neg (by omega)]
    have hm : ListsOK ρ h w0.heap.size H w := by
      refine r.heap.lists.map id (fun i n e hi => ?_) (fun i n hi => ?_) (fun j b hj hbl => ?_) (fun i j n e m e' _ _ h => h) (fun _ _ => rfl)
      · rcases hold i _ hi with h1 | h1
        · exact ⟨n, h1, rfl, rfl⟩
        · cases h1
      · rcases hold i _ hi with h1 | h1
        · exact ⟨⟨n, h1, rfl⟩, rfl⟩
        · cases h1
      · rcases hold j _ hj with h1 | h1
        · exact ⟨b, h1, hbl, rfl⟩
        · subst h1; cases hbl
    have hm2 : ListsOK ρ (Hid.addS h S.nb v) w0.heap.size H w' :=
      hm.map id (fun i n e hi => ⟨n, hi, rfl, kσ i _ hi⟩) (fun i n hi => ⟨⟨n, hi, rfl⟩, kσ i _ hi⟩) (fun j b hj hbl => ⟨b, hj, hbl, rfl⟩) (fun i j n e m e' _ _ h => h) (fun k hk => (hlk k hk).1)
    have e0 : (Hid.addS h S.nb v).σ H.length = v := by rw [hlen]; exact addS_at
    refine hm2.pushOwn (by rw [e0]; exact hown) fun g hg => ?_
    rw [e0] at hg
    refine ⟨fun hk => (hlk g ((LBlk.addS (by omega)).1 hk)).2 hg, fun j b hj hbl he => (hlive j b hj hbl).2 ?_⟩
    rw [hg]; exact congrArg some he.symm
/-- a row of the call's own is read alone from now on -/
theorem ListsOK.freeze {ρ h B hp w} (H : ListsOK ρ h B hp w) {id n : Nat} (hid : (∃ e, hp[id]? = some (.own n e)) ∨ hp[id]? = some (.view n)) : ListsOK ρ h B (hp.set id (.view n)) w := by
  have part : ∀ {i : Nat} {d : Blk}, (hp.set id (.view n))[i]? = some d → (i ≠ id ∧ hp[i]? = some d) ∨ (i = id ∧ d = .view n) := by
    intro i d hd
    rw [List.getElem?_set] at hd
    split at hd
    · rename_i he; subst he
      split at hd
      · injection hd with hd; exact .inr ⟨rfl, hd.symm⟩
      · cases hd
    · rename_i hne; exact .inl ⟨fun e => hne e.symm, hd⟩
  have po : ∀ {i m : Nat} {e : TypeId}, (hp.set id (.view n))[i]? = some (.own m e) → i ≠ id ∧ hp[i]? = some (.own m e) := fun hi => by
    rcases part hi with h1 | ⟨_, h1⟩
    · exact h1
    · cases h1
  have pl : ∀ {i : Nat} {b : Blk}, (hp.set id (.view n))[i]? = some b → b.live = true → hp[i]? = some b := fun hi hb => by
    rcases part hi with h1 | ⟨_, h1⟩
    · exact h1.2
    · subst h1; cases hb
  refine ⟨fun i m e hi => H.own i m e (po hi).2, fun i m hi => ?_, fun i m e j b hi hj hb => H.apart i m e j b (po hi).2 (pl hj hb) hb, fun i j m e m' e' g hi hj => H.two i j m e m' e' g (po hi).2 (po hj).2, fun i m j b hi hne hj hb => ?_, fun i m j m' e g hi hne hj hg => ?_⟩
  · rcases part hi with ⟨_, h1⟩ | ⟨rfl, h1⟩
    · exact H.view i m h1
    · injection h1 with h1; subst h1
      rcases hid with ⟨e, hid⟩ | hid
      · exact own_row (H.own _ _ _ hid)
      · exact H.view _ _ hid
  · rcases part hi with ⟨_, h1⟩ | ⟨rfl, h1⟩
    · exact H.vapart i m j b h1 hne (pl hj hb) hb
    · injection h1 with h1; subst h1
      rcases hid with ⟨e, hid⟩ | hid
      · exact H.apart _ _ _ _ _ hid (pl hj hb) hb
      · exact H.vapart _ _ _ _ hid hne (pl hj hb) hb
  · obtain ⟨hji, hj'⟩ := po hj
    rcases part hi with ⟨_, h1⟩ | ⟨rfl, h1⟩
    · exact H.vtwo i m j m' e g h1 hne hj' hg
    · injection h1 with h1; subst h1
      rcases hid with ⟨e', hid⟩ | hid
      · exact fun hg' => hji (H.two _ _ _ _ _ _ g hj' hid hg' hg)
      · exact H.vtwo _ _ _ _ _ g hid hne hj' hg
def subV (v : Value) (a b : Nat) : Value :=
  match v with
  | .slice p _ cap => .slice (if cap = a then p else p.map (·.add a)) (b - a) (cap - a)
  | v => v
theorem subV_block {v : Value} {a b : Nat} : (subV v a b).ownBlock = v.ownBlock := by
  unfold subV
  split
  · rename_i p n cap
    cases p with
    | none => split <;> rfl
    | some x => split <;> simp [Value.ownBlock, addr_block]
  · rfl
theorem addr_add_add (x : Addr) (a i : Nat) (h : a ≠ 0 ∨ i ≠ 0 ∨ True) : ((x.add a).add i).block = x.block := by rw [addr_block, addr_block]
theorem RowIs.sub {w : World} {v : Value} {xs : List Int} (h : RowIs w v xs) {a b : Nat} (h1 : a ≤ b) (h2 : b ≤ xs.length) : RowIs w (subV v a b) ((xs.drop a).take (b - a)) := by
  have hlen : ((xs.drop a).take (b - a)).length = b - a := by rw [List.length_take, List.length_drop]; omega
  rcases h with ⟨rfl, rfl⟩ | ⟨x, cap, rfl, g1, g2, g3⟩
  · simp only [List.length_nil] at h2
    have : a = 0 := by omega
    have : b = 0 := by omega
    subst_vars
    exact .inl ⟨rfl, rfl⟩
  · refine .inr ⟨if cap = a then x else x.add a, cap - a, ?_, by rw [hlen]; omega, by omega, fun i y hy => ?_⟩
    · rw [hlen]; simp only [subV]; split <;> rfl
    · have hi : i < b - a := by rw [← hlen]; exact (List.getElem?_eq_some_iff.1 hy).1
      have hca : ¬ cap = a := by omega
      rw [if_neg hca]
      rw [List.getElem?_take, if_pos hi, List.getElem?_drop] at hy
      have := g3 (a + i) y hy
      rw [← this]
      unfold Addr.add
      by_cases ha : a = 0
      · subst ha; simp
      · by_cases hi0 : i = 0
        · subst hi0; simp [ha]
        · have : ¬ a + i = 0 := by omega
          simp [ha, hi0, Nat.add_assoc]
/-- a store into a row of the call's own -/
theorem own_set {w w' : World} {B : Nat} {e : TypeId} {v : Value} {xs : List Int} {i : Nat} {x : Int} (h : w.ownsRow B e 1 v xs.length (ints xs)) (hi : i < xs.length) {g : Nat} (hg : v.ownBlock = some g)
    (hw : ∀ cur, w.heap[g]? = some (.cells cur e (0, 0)) → w'.heap[g]? = some (.cells (cur.setIfInBounds i (.int .i64 x)) e (0, 0))) : w'.ownsRow B e 1 v (xs.set i x).length (ints (xs.set i x)) := by
  rcases h.2 with ⟨rfl, h2⟩ | ⟨g', cap, cur, rfl, h2, h3, h4, h5, h6, h7⟩
  · rw [h2] at hi; exact absurd hi (Nat.not_lt_zero _)
  · simp only [Value.ownBlock, Option.some.injEq] at hg
    subst hg
    refine ⟨by simp [ints], .inr ⟨g', cap, _, by rw [List.length_set], h2, hw cur h3, by rw [List.length_set]; exact h4, h5, by simp only [Array.size_setIfInBounds]; exact h6, ?_⟩⟩
    rw [List.length_set, Array.toList_setIfInBounds, Nat.mul_one]
    rw [Nat.mul_one] at h7
    rw [List.take_set, h7]
    simp [ints, List.map_set]
theorem ListsOK.setOwn {ρ h B hp w w'} (H : ListsOK ρ h B hp w) {id n m : Nat} {e : TypeId} (hid : hp[id]? = some (.own n e)) (hown : w'.ownsRow B e 1 (h.σ id) (ρ.get m).list.length (ints (ρ.get m).list))
    (hk : ∀ g, (h.σ id).ownBlock ≠ some g → w'.heap[g]? = w.heap[g]?) : ListsOK ρ h B (hp.set id (.own m e)) w' := by
  have hlt := (List.getElem?_eq_some_iff.1 hid).1
  have part : ∀ {i : Nat} {d : Blk}, (hp.set id (.own m e))[i]? = some d → (i ≠ id ∧ hp[i]? = some d) ∨ (i = id ∧ d = .own m e) := by
    intro i d hd
    rw [List.getElem?_set] at hd
    split at hd
    · rename_i he; subst he
      injection hd with hd; exact .inr ⟨rfl, hd.symm⟩
    · rename_i hne; exact .inl ⟨fun e => hne e.symm, hd⟩
  have pv : ∀ {i k : Nat}, (hp.set id (.own m e))[i]? = some (.view k) → hp[i]? = some (.view k) := fun hi => by
    rcases part hi with h1 | ⟨_, h1⟩
    · exact h1.2
    · cases h1
  have pl : ∀ {i : Nat} {b : Blk}, (hp.set id (.own m e))[i]? = some b → b.live = true → hp[i]? = some b := fun hi hb => by
    rcases part hi with h1 | ⟨_, h1⟩
    · exact h1.2
    · subst h1; cases hb
  have po : ∀ {i k : Nat} {e' : TypeId}, (hp.set id (.own m e))[i]? = some (.own k e') → ∃ k', hp[i]? = some (.own k' e') := fun hi => by
    rcases part hi with h1 | ⟨h1, h2⟩
    · exact ⟨_, h1.2⟩
    · injection h2 with h2 h3; subst h1; subst h3; exact ⟨n, hid⟩
  refine ⟨fun i k e' hi => ?_, fun i k hi => ?_, fun i k e' j b hi hj hb => ?_, fun i j k e1 k' e2 g hi hj hg hg' => ?_, fun i k j b hi hne hj hb => H.vapart i k j b (pv hi) hne (pl hj hb) hb, fun i k j k' e' g hi hne hj hg => ?_⟩
  · rcases part hi with ⟨h0, h1⟩ | ⟨h1, h2⟩
    · exact own_keep (H.own i k e' h1) fun g hg => hk g fun hg' => h0 (H.two i id k e' n e g h1 hid hg hg')
    · injection h2 with h2 h3; subst h1; subst h2; subst h3; exact hown
  · have h1 := pv hi
    exact (H.view i k h1).keep fun g hne hg => hk g (H.vtwo i k id n e g h1 hne hid hg)
  · obtain ⟨k', h1⟩ := po hi
    exact H.apart i k' e' j b h1 (pl hj hb) hb
  · obtain ⟨k1, h1⟩ := po hi
    obtain ⟨k2, h2⟩ := po hj
    exact H.two i j k1 e1 k2 e2 g h1 h2 hg hg'
  · obtain ⟨k2, h2⟩ := po hj
    exact H.vtwo i k j k2 e' g (pv hi) hne h2 hg
theorem LBlk.killed {ρ h B hp w} (H : ListsOK ρ h B hp w) {id n : Nat} {e : TypeId} (hid : hp[id]? = some (.own n e)) {k : Nat} (hk : LBlk ρ h (hp.set id .dead) k) : LBlk ρ h hp k ∧ (h.σ id).ownBlock ≠ some k := by
  have part : ∀ {i : Nat} {d : Blk}, (hp.set id .dead)[i]? = some d → d ≠ .dead → i ≠ id ∧ hp[i]? = some d := by
    intro i d hd hne
    rw [List.getElem?_set] at hd
    split at hd
    · split at hd
      · injection hd with hd; exact absurd hd.symm hne
      · cases hd
    · rename_i hne; exact ⟨fun e => hne e.symm, hd⟩
  obtain ⟨i, h1, h2⟩ := hk
  rcases h2 with ⟨m, e', h2⟩ | ⟨m, h2, h3⟩
  · obtain ⟨p1, p2⟩ := part h2 (by simp)
    exact ⟨⟨i, h1, .inl ⟨m, e', p2⟩⟩, fun hg => p1 (H.two i id m e' n e k p2 hid h1 hg)⟩
  · obtain ⟨p1, p2⟩ := part h2 (by simp)
    exact ⟨⟨i, h1, .inr ⟨m, p2, h3⟩⟩, fun hg => H.vtwo i m id n e k p2 h3 hid h1 hg⟩
theorem listOf_cases {hp : List Blk} {id n : Nat} (h : listOf hp id = some n) : (∃ e, hp[id]? = some (.own n e)) ∨ hp[id]? = some (.view n) := by
  unfold listOf at h
  split at h
  · rename_i m e hb; injection h with h; subst h; exact .inl ⟨e, hb⟩
  · rename_i m hb; injection h with h; subst h; exact .inr hb
  · cases h
/-- a part of a row -/
theorem Rep.growView {S : St} {ρ h J a w} (r : Rep w0 S ρ h J a w) (hs : S.scoped = true) {id n m lo hi : Nat} (hid : listOf S.heap id = some n) (h1 : lo ≤ hi) (h2 : hi ≤ (ρ.get n).list.length)
    (hm : (ρ.get m).list = ((ρ.get n).list.drop lo).take (hi - lo)) :
    Rep w0 { S with heap := S.heap.set id (.view n) ++ [.view m] } ρ (Hid.addS h S.nb (subV (h.σ id) lo hi)) J a w ∧ Later S { S with heap := S.heap.set id (.view n) ++ [.view m] } ρ h J ρ (Hid.addS h S.nb (subV (h.σ id) lo hi)) J := by
  have hnb : S.nb = S.heap.length := rfl
  have hid' := listOf_cases hid
  have hlt : id < S.heap.length := by
    rcases hid' with ⟨e, h⟩ | h <;> exact (List.getElem?_eq_some_iff.1 h).1
  generalize hv : subV (h.σ id) lo hi = v
  have kσ : ∀ i, i < S.heap.length → (Hid.addS h S.nb v).σ i = h.σ i := fun i hi => by
    simp only [Hid.addS]; rw [if_neg (by omega)]
  refine r.reheap hs (by simp) (fun i b hi hl => ?_) (Below.refl _ w) ?_
  · rw [List.getElem?_append] at hi
    split at hi
    · rename_i hlt'
      rw [List.getElem?_set] at hi
      simp only [hlt, if_true] at hi
      split at hi
      · injection hi with hi; subst hi; cases hl
      · exact ⟨(List.getElem?_eq_some_iff.1 hi).1, hi, rfl⟩
    · have hlt' := (List.getElem?_eq_some_iff.1 hi).1
      simp at hlt'
      rename_i hge
      simp at hge
      rw [List.length_set, show i - S.heap.length = 0 by omega, List.getElem?_cons_zero] at hi
      injection hi with hi; subst hi; cases hl
  · have l1 := r.heap.lists.freeze hid'
    have l2 : ListsOK ρ (Hid.addS h S.nb v) w0.heap.size (S.heap.set id (.view n)) w :=
      l1.map (_root_.id) (fun i n e hi => ⟨n, hi, rfl, kσ i (by have := (List.getElem?_eq_some_iff.1 hi).1; simpa using this)⟩) (fun i n hi => ⟨⟨n, hi, rfl⟩, kσ i (by have := (List.getElem?_eq_some_iff.1 hi).1; simpa using this)⟩) (fun j b hj hbl => ⟨b, hj, hbl, rfl⟩) (fun i j n e m e' _ _ h => h) (fun _ _ => rfl)
    have e0 : (Hid.addS h S.nb v).σ (S.heap.set id (.view n)).length = v := by rw [List.length_set]; exact addS_at
    have hidv : (S.heap.set id (.view n))[id]? = some (.view n) := by rw [List.getElem?_set]; simp [hlt]
    have hrow := l1.view id n hidv
    refine l2.pushView (by rw [e0, ← hv, hm]; exact hrow.sub h1 h2) fun g hne hg => ?_
    rw [e0, ← hv, subV_block] at hg
    have hne' : (ρ.get n).list ≠ [] := fun e => hne (by rw [hm, e]; simp)
    refine ⟨fun j k e hj hgj => ?_, fun j b hj hb he => ?_⟩
    · rw [kσ j (by have := (List.getElem?_eq_some_iff.1 hj).1; simpa using this)] at hgj
      exact l1.vtwo id n j k e g hidv hne' hj hg hgj
    · exact l1.vapart id n j b hidv hne' hj hb (by rw [hg]; exact congrArg some he.symm)
theorem atOf_sound {S : St} {ρ h J a w} (r : Rep w0 S ρ h J a w) {x : Option Operand} {d b : At} (hx : atOf S x d = some b) : (x = none ∧ b = d) ∨ ∃ o k, x = some o ∧ a.eval o = .int k (b.den ρ) := by
  unfold atOf at hx
  split at hx
  · injection hx with hx; exact .inl ⟨rfl, hx.symm⟩
  · rename_i o
    split at hx
    · rename_i k c ho; injection hx with hx; subst hx; exact .inr ⟨o, k, rfl, opd_sound r.slots ho⟩
    · cases hx
end
end Go.SX
