/-
  The symbolic executor: rows of the call's own: made, and appended to.
-/
import Derived.Test.YtlhmhcjpdpakkaaSxStep
import Derived.ArgAppend
namespace Go.SX
open Go Go.RowKit
set_option linter.unusedVariables false
set_option linter.unusedSimpArgs false

/-- a new row: where it lies, and how great it is -/
def Hid.addR (h : Hid) (nb b k : Nat) : Hid := { h with β := fun i => if i = nb then b else h.β i, κ := fun i => if i = nb then k else h.κ i }
theorem addR_agree {nv nb nj ρ h b k} : Agree nv nb nj ρ h ρ (Hid.addR h nb b k) :=
  ⟨fun _ _ => rfl, fun i hi => by simp only [Hid.addR]; rw [if_neg (by omega)], fun i hi => by simp only [Hid.addR]; rw [if_neg (by omega)], fun _ _ => rfl⟩
theorem addR_at {h : Hid} {nb b k : Nat} : (Hid.addR h nb b k).β nb = b := by simp [Hid.addR]
theorem addR_cap {h : Hid} {nb b k : Nat} : (Hid.addR h nb b k).κ nb = k := by simp [Hid.addR]

theorem oneCell_of {v : Value} (h : oneV v = true) : v.oneCell' = true := by cases v <;> first | rfl | cases h

theorem scopedL_take {nv nb nj : Nat} : ∀ {l : List SV} {n : Nat}, scopedL nv nb nj l = true → scopedL nv nb nj (l.take n) = true
  | [], n, h => by simp [scopedL]
  | x :: r, 0, h => rfl
  | x :: r, n + 1, h => by
    simp only [scopedL, Bool.and_eq_true] at h
    simp only [List.take_succ_cons, scopedL, Bool.and_eq_true]
    exact ⟨h.1, scopedL_take h.2⟩
theorem scopedL_append {nv nb nj : Nat} : ∀ {l m : List SV}, scopedL nv nb nj l = true → scopedL nv nb nj m = true → scopedL nv nb nj (l ++ m) = true
  | [], m, _, hm => hm
  | x :: r, m, h, hm => by
    simp only [scopedL, Bool.and_eq_true] at h
    simp only [List.cons_append, scopedL, Bool.and_eq_true]
    exact ⟨h.1, scopedL_append h.2 hm⟩

section
variable {P : Program} {M : Nat → SpecSem} {R RP : Value → Prop} {F : Ex → St → Js → Env → Prop} {w0 : World}

/-- the state with one more row, and blocks that are dead now -/
theorem Rep.growRow {S : St} {ρ h J a w w'} (r : Rep w0 S ρ h J a w) (hs : S.scoped = true) {H : List Blk} {cs : List SV} {e : TypeId} {sz g k : Nat} {rest : List Value}
    (hlen : H.length = S.heap.length) (hold : ∀ i b, H[i]? = some b → b.live = true → S.heap[i]? = some b ∧ w'.heap[h.β i]? = w.heap[h.β i]? ∧ h.β i ≠ g)
    (hb : Below w0.heap.size w w') (hc : scopedL S.nv S.nb S.nj cs = true) (hg : w'.heap[g]? = some (.cells (denL ρ h cs ++ rest).toArray e (0, 0))) (hk : cs.length + rest.length = k * sz) (hkm : k ≤ maxLen) (hgb : w0.heap.size ≤ g) :
    Rep w0 { S with heap := H ++ [.row cs e sz] } ρ (Hid.addR h S.nb g k) J a w' ∧ Later S { S with heap := H ++ [.row cs e sz] } ρ h J ρ (Hid.addR h S.nb g k) J := by
  have A : Agree S.nv S.nb S.nj ρ h ρ (Hid.addR h S.nb g k) := addR_agree
  obtain ⟨g1, g2, g3, g4, g5⟩ := r.grow hs A
  obtain ⟨s1, s2, s3, s4⟩ := scoped_parts hs
  have hnb : S.nb = S.heap.length := rfl
  have part : ∀ {i : Nat} {c : Blk}, (H ++ [Blk.row cs e sz])[i]? = some c → (i < S.nb ∧ H[i]? = some c) ∨ (i = S.nb ∧ c = .row cs e sz) := by
    intro i c hc
    rw [List.getElem?_append] at hc
    split at hc
    · rename_i hlt; exact .inl ⟨by omega, hc⟩
    · rename_i hge
      have hlt := (List.getElem?_eq_some_iff.1 hc).1
      simp at hlt
      have hi : i = H.length := by omega
      subst hi
      rw [Nat.sub_self, List.getElem?_cons_zero] at hc
      injection hc with hc
      exact .inr ⟨by omega, hc.symm⟩
  refine ⟨⟨r.nv, r.lv, r.ivl, ⟨g5, g3, g4⟩, g1, r.defers, ⟨fun i c hci => ?_, fun i c hci hl => ?_, fun i j c d hci hdj hl hl' he => ?_⟩, r.below.trans hb⟩, ⟨A, Nat.le_refl _, by simp [St.nb, hlen], Nat.le_refl _, rfl, [], by simp⟩⟩
  · rcases part hci with ⟨hlt, hc1⟩ | ⟨rfl, rfl⟩
    · cases hlv : c.live with
      | false => cases c <;> simp [Blk.live] at hlv; trivial
      | true =>
        obtain ⟨e1, e2, e3⟩ := hold i c hc1 hlv
        have hok := (r.heap.blk i c e1).agree A hlt (heapScoped_get s2 i c e1)
        refine hok.world fun _ => ?_
        rw [A.β i hlt]; exact e2
    · refine ⟨rest, ?_, by rw [addR_cap]; exact hk, by rw [addR_cap]; exact hkm⟩
      rw [addR_at, denL_agree A cs hc]; exact hg
  · rcases part hci with ⟨hlt, hc1⟩ | ⟨rfl, rfl⟩
    · obtain ⟨e1, e2, e3⟩ := hold i c hc1 hl
      have := r.heap.own i c e1 hl
      rw [A.β i hlt]; exact ⟨this.1, Nat.lt_of_lt_of_le this.2 hb.size⟩
    · rw [addR_at]; exact ⟨hgb, by by_cases hh : g < w'.heap.size; exact hh; rw [Array.getElem?_eq_none (by omega)] at hg; cases hg⟩
  · rcases part hci with ⟨hlt, hc1⟩ | ⟨hi, hcb⟩
    · obtain ⟨e1, e2, e3⟩ := hold i c hc1 hl
      rcases part hdj with ⟨hlt', hd1⟩ | ⟨hj, hdb⟩
      · obtain ⟨f1, f2, f3⟩ := hold j d hd1 hl'
        rw [A.β i hlt, A.β j hlt'] at he
        exact r.heap.inj i j c d e1 f1 hl hl' he
      · rw [hj, addR_at, A.β i hlt] at he; exact absurd he e3
    · rcases part hdj with ⟨hlt', hd1⟩ | ⟨hj, hdb⟩
      · obtain ⟨f1, f2, f3⟩ := hold j d hd1 hl'
        rw [hi, addR_at, A.β j hlt'] at he; exact absurd he.symm f3
      · rw [hi, hj]

/-- a row is owned -/
theorem row_owns {S : St} {ρ h J a w} (r : Rep w0 S ρ h J a w) {id n sz : Nat} {cs : List SV} {e : TypeId} (hb : S.heap[id]? = some (.row cs e sz)) (hn : n * sz ≤ cs.length) (hsz : 0 < sz) :
    w.ownsRow w0.heap.size e sz (.slice (some ⟨h.β id, 0, none⟩) n (h.κ id)) n ((denL ρ h cs).take (n * sz)) := by
  obtain ⟨rest, h1, h2, h3⟩ := r.heap.blk _ _ hb
  have hown := r.heap.own _ _ hb rfl
  refine ⟨by rw [List.length_take, denL_length]; omega, .inr ⟨_, _, _, rfl, hown.1, h1, ?_, h3, ?_, ?_⟩⟩
  · have : n * sz ≤ h.κ id * sz := by omega
    exact Nat.le_of_mul_le_mul_right this hsz
  · simp only [List.size_toArray, List.length_append, denL_length]; exact h2
  · simp only [List.take_append, denL_length]
    rw [show n * sz - cs.length = 0 by omega]
    simp

/-- what an append finds, and leaves -/
theorem run_append_row {S : St} {ρ h J a w} (r : Rep w0 S ρ h J a w) {T e ty : TypeId} {te : Ty} {z : SV} {zc : List SV} (hT : P.underlying T = some (.slice e)) (hte : TyOK P e te) (hz : te.zero = some z) (hzc : z.cells = some zc)
    {id2 d2 m sz : Nat} {cs2 : List SV} {e2 : TypeId} (hb2 : S.heap[id2]? = some (.row cs2 e2 sz)) (hsz : te.size = sz) (hle : (d2 + m) * sz ≤ cs2.length) (h0 : 0 < sz) (hm0 : 0 < m) (hzl : zc.length = te.size) (hby : te.bytes ≤ 4096) (hm : m ≤ 100000)
    (hone : oneCells ((cs2.drop (d2 * sz)).take (m * sz)) = true) {v : Value} {n : Nat} {xs : List Value} (hn : n ≤ 100000)
    (hv : v = .slice none 0 0 ∧ n = 0 ∧ xs = [] ∨ ∃ g cap, v = .slice (some ⟨g, 0, none⟩) n cap ∧ w.ownsRow w0.heap.size e sz v n xs) :
    ∃ g k w' rest, (Builtin.append_ #[T, T] ty #[v, .slice (some ⟨h.β id2, d2 * sz, none⟩) m (h.κ id2 - d2)]).run P w = .ok (.slice (some ⟨g, 0, none⟩) (n + m) k) w' ∧
      w'.heap[g]? = some (.cells (xs ++ denL ρ h ((cs2.drop (d2 * sz)).take (m * sz)) ++ rest).toArray e (0, 0)) ∧ (xs.length + ((cs2.drop (d2 * sz)).take (m * sz)).length) + rest.length = k * sz ∧ k ≤ maxLen ∧ w0.heap.size ≤ g ∧
      w.grownBy w' v.ownBlock ∧ (some g = v.ownBlock ∨ w.heap.size ≤ g) := by
  obtain ⟨i, hi, hs, hz', hb'⟩ := hte.info
  have h1 := hz' z hz
  obtain ⟨zv, hzv, hsv⟩ : ∃ zv, i.zero = some zv ∧ svOf zv = some z := by
    cases hzz : i.zero with
    | none => rw [hzz] at h1; cases h1
    | some zv => rw [hzz] at h1; exact ⟨zv, rfl, h1⟩
  have hzd := svOf_sound hsv ρ h
  have hcell := cells_sound (ρ := ρ) (h := h) hzc
  have hzs : zv.cells.size = sz := by rw [← hzd, hcell, List.size_toArray, denL_length]; omega
  obtain ⟨rest2, hblk2, hk2, _⟩ := r.heap.blk _ _ hb2
  have hnl : (denL ρ h ((cs2.drop (d2 * sz)).take (m * sz))).length = m * sz := by
    rw [denL_length, List.length_take, List.length_drop]
    have : (d2 + m) * sz = d2 * sz + m * sz := Nat.add_mul ..
    omega
  have hcells : ∀ j u, (denL ρ h ((cs2.drop (d2 * sz)).take (m * sz)))[j]? = some u → w.cell? ((⟨h.β id2, d2 * sz, none⟩ : Addr).add j) = some u := by
    intro j u hu
    have hj := (List.getElem?_eq_some_iff.1 hu).1
    rw [hnl] at hj
    rw [addr_add, cell_of_blk hblk2, List.getElem?_append_left (by rw [denL_length]; have : (d2 + m) * sz = d2 * sz + m * sz := Nat.add_mul ..; omega)]
    rw [denL_take, denL_drop, List.getElem?_take, if_pos hj, List.getElem?_drop] at hu
    exact hu
  have h1c : ∀ u ∈ denL ρ h ((cs2.drop (d2 * sz)).take (m * sz)), u.oneCell' = true := fun u hu => oneCell_of (oneCells_sound hone u hu)
  have hbytes : (n + m) * i.bytes ≤ 140737488355328 := by
    have : (n + m) * i.bytes ≤ 200000 * 4096 := Nat.mul_le_mul (by omega) (by omega)
    omega
  have hmx : n + m ≤ maxLen := by simp only [maxLen]; omega
  -- out of a row that is owned from B on
  have fin : ∀ {B : Nat} {v' : Value} {w' : World}, (Builtin.append_ #[T, T] ty #[v, .slice (some ⟨h.β id2, d2 * sz, none⟩) m (h.κ id2 - d2)]).run P w = .ok v' w' → w'.ownsRow B e sz v' (n + m) (xs ++ denL ρ h ((cs2.drop (d2 * sz)).take (m * sz))) → w.grownBy w' v.ownBlock →
      w0.heap.size ≤ B → (∀ g k, v' = .slice (some ⟨g, 0, none⟩) (n + m) k → B ≤ g → some g = v.ownBlock ∨ w.heap.size ≤ g) →
      ∃ g k w' rest, (Builtin.append_ #[T, T] ty #[v, .slice (some ⟨h.β id2, d2 * sz, none⟩) m (h.κ id2 - d2)]).run P w = .ok (.slice (some ⟨g, 0, none⟩) (n + m) k) w' ∧
        w'.heap[g]? = some (.cells (xs ++ denL ρ h ((cs2.drop (d2 * sz)).take (m * sz)) ++ rest).toArray e (0, 0)) ∧ (xs.length + ((cs2.drop (d2 * sz)).take (m * sz)).length) + rest.length = k * sz ∧ k ≤ maxLen ∧ w0.heap.size ≤ g ∧
        w.grownBy w' v.ownBlock ∧ (some g = v.ownBlock ∨ w.heap.size ≤ g) := by
    intro B v' w' hr ho hg hB hwhere
    obtain ⟨o1, o2⟩ := ho
    rcases o2 with ⟨_, o3⟩ | ⟨g, cap, cur, rfl, o3, o4, o5, o6, o7, o8⟩
    · omega
    · refine ⟨g, cap, w', cur.toList.drop ((n + m) * sz), hr, ?_, ?_, o6, by omega, hg, hwhere g cap rfl o3⟩
      · rw [← o8, List.take_append_drop]; exact o4
      · rw [← denL_length (ρ := ρ) (h := h) (l := (cs2.drop (d2 * sz)).take (m * sz)), ← List.length_append, o1, List.length_drop, Array.length_toList, o7]
        have : (n + m) * sz ≤ cap * sz := Nat.mul_le_mul_right _ o5
        omega
  rcases hv with ⟨rfl, rfl, rfl⟩ | ⟨g, cap, rfl, hown⟩
  · obtain ⟨v', w', hr, ho, hg, _⟩ := run_append_own (P := P) w w.heap.size T ty e i zv sz i.bytes hT hi hzv (hs.trans hsz) rfl hzs h0 _ 0 [] (World.ownsRow_nil w _ e sz) _ m _ _ hnl hcells h1c hmx hbytes (Nat.le_refl _)
    exact fin hr ho hg r.below.size fun g k _ hB => .inr hB
  · by_cases hroom : n + m ≤ cap
    · obtain ⟨w', hr, ho, hg⟩ := run_append_fits (P := P) w w0.heap.size T ty e i sz hT hi (hs.trans hsz) g n cap xs hown _ m _ _ hnl hcells h1c hroom
      exact fin hr ho hg (Nat.le_refl _) fun g' k hv' _ => .inl (by simp only [Value.slice.injEq, Option.some.injEq, Addr.mk.injEq] at hv'; simp only [Value.ownBlock]; rw [hv'.1.1])
    · have holds : ∀ j u, xs[j]? = some u → w.cell? ((⟨g, 0, none⟩ : Addr).add j) = some u := hown.cells (g := g) rfl
      obtain ⟨v', w', hr, ho, hg⟩ := run_append_arg_grows (P := P) w T ty e i zv sz i.bytes hT hi hzv (hs.trans hsz) rfl hzs h0 ⟨g, 0, none⟩ n cap xs hown.1 holds _ m _ _ hnl hcells (by omega) hmx hbytes
      exact fin hr ho ⟨hg.os, hg.tape, hg.output, hg.size, fun k hk _ => hg.block k hk (by simp)⟩ r.below.size fun g k _ hB => .inr hB

/-- what a row made of parts is -/
theorem run_buildSlice {ρ h w} {T e : TypeId} {te : Ty} (hT : P.underlying T = some (.slice e)) (hte : TyOK P e te) {len : Nat} {zc cs : List SV} {l : List (Nat × SV)} {parts : Array (Nat × Value)}
    (hzc : (if Nat.beq (len * te.size) 0 then some [] else match te.zero with | some z => z.cells | none => none) = some zc)
    (hfill : fillS (fun i => some (i * te.size, te.size)) ((List.range (len * te.size)).map fun i => (zc[i % zc.length]?).getD (.tup [])) l = some cs)
    (hle : len * te.size ≤ 1000) (hz0 : len * te.size = 0 ∨ 0 < zc.length) (hp : parts.toList = l.map (fun p => (p.1, p.2.den ρ h))) :
    (Instr.buildSlice T len parts).run P w = .ok (.slice (some ⟨w.heap.size, 0, none⟩) len len) (w.alloc (.cells (denL ρ h cs).toArray e)) := by
  have hinit : ((Array.range (len * te.size)).map fun i => (denL ρ h zc).toArray[i % (denL ρ h zc).toArray.size]!) = (denL ρ h ((List.range (len * te.size)).map fun i => (zc[i % zc.length]?).getD (.tup []))).toArray := by
    apply Array.ext_getElem?
    intro i
    by_cases hi : i < len * te.size
    · have hlt : i % zc.length < zc.length := Nat.mod_lt _ (by omega)
      simp [hi, denL_get, denL_length, hlt, List.getElem?_eq_getElem hlt]
      apply Option.some.inj
      rw [← List.getElem?_eq_getElem, denL_get, List.getElem?_map, List.getElem?_range hi]
      simp [List.getElem?_eq_getElem hlt]
    · rw [Array.getElem?_eq_none (by simp; omega), Array.getElem?_eq_none (by simp [denL_length]; omega)]
  have hf := fillS_sound (ρ := ρ) (h := h) (place := fun i => some (i * te.size, te.size)) (placeS := fun i => some (i * te.size, te.size)) (fun i => rfl) hfill
  have hng : ¬ len * te.size > 2 ^ 24 := by omega
  have fin : (match Instr.fill (fun i => some (i * te.size, te.size)) ((Array.range (len * te.size)).map fun i => (denL ρ h zc).toArray[i % (denL ρ h zc).toArray.size]!) parts.toList with
      | some cells => (do pure (.slice (some (← newRow e cells)) len len) : Sem Value)
      | _ => stuck "buildSlice: a part of the wrong size").run P w = .ok (.slice (some ⟨w.heap.size, 0, none⟩) len len) (w.alloc (.cells (denL ρ h cs).toArray e)) := by
    rw [hinit, hp, hf]
    simp only [Sem.run_bind, newRow, newObj, Sem.run, pure, Result.andThen_ok]
    rfl
  by_cases h0 : len * te.size = 0
  · rw [if_pos (nbeq_iff.2 h0)] at hzc
    injection hzc with hzc; subst hzc
    simp only [Instr.buildSlice, Sem.run_bind, run_under hT, Result.andThen_ok, run_sizeOf' hte, hng, if_false]
    rw [if_pos h0]
    exact fin
  · rw [if_neg (fun h => h0 (nbeq_iff.1 h))] at hzc
    cases hz : te.zero with
    | none => rw [hz] at hzc; cases hzc
    | some z =>
      rw [hz] at hzc
      simp only [Instr.buildSlice, Sem.run_bind, run_under hT, Result.andThen_ok, run_sizeOf' hte, hng, if_false]
      rw [if_neg h0]
      simp only [Sem.run_bind, run_zeroValue' hte hz ρ h, Result.andThen_ok, cells_sound hzc]
      exact fin
end
end Go.SX
