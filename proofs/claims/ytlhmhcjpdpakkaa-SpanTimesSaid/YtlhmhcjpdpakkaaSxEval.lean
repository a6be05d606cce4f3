/-
  The symbolic executor: operations that only look, or reckon, are told right.
-/
import Derived.Test.YtlhmhcjpdpakkaaSxBase
import Derived.Laws.Sem
import Derived.Laws.Entries
import Derived.Laws.World
namespace Go.SX
open Go
set_option linter.unusedVariables false
set_option linter.unusedSimpArgs false

/-! ### numbers that go round -/
theorem wrap_id {k : IntKind} {x : Int} (h0 : klo k ≤ x) (h1 : x ≤ khi k) : k.wrap x = x := by
  cases k <;> simp only [klo, khi] at h0 h1 <;> simp only [IntKind.wrap, IntKind.bits, IntKind.signed, Bool.true_and, Bool.false_and, Bool.false_eq_true, if_false, decide_eq_true_eq, ge_iff_le, Nat.reduceSub, Nat.reducePow, Int.reducePow] <;> (try split) <;> omega
theorem wrap_rng {k : IntKind} {x : Int} : klo k ≤ k.wrap x ∧ k.wrap x ≤ khi k := by
  cases k <;> simp only [klo, khi] <;> simp only [IntKind.wrap, IntKind.bits, IntKind.signed, Bool.true_and, Bool.false_and, Bool.false_eq_true, if_false, decide_eq_true_eq, ge_iff_le, Nat.reduceSub, Nat.reducePow, Int.reducePow] <;> (try split) <;> omega
theorem within_id {k : IntKind} {p : Int × Int} {x : Int} (h : within k p = true) (h0 : p.1 ≤ x) (h1 : x ≤ p.2) : k.wrap x = x := by
  simp only [within, Bool.and_eq_true, ile_iff] at h
  exact wrap_id (by omega) (by omega)
theorem kiv_rng {k : IntKind} {x : Int} : ∀ lo hi, some (kiv k) = some (lo, hi) → lo ≤ k.wrap x ∧ k.wrap x ≤ hi := by
  intro lo hi h
  injection h with h
  simp only [kiv, Prod.mk.injEq] at h
  rw [← h.1, ← h.2]
  exact wrap_rng
theorem pow2_eq (n : Nat) : pow2 n = 2 ^ n := by
  induction n with
  | zero => rfl
  | succ n ih => rw [pow2, ih, Nat.pow_succ, Nat.mul_comm]

theorem mul_between {a b x : Int} {y : Int} (h0 : a ≤ x) (h1 : x ≤ b) : imin (a * y) (b * y) ≤ x * y ∧ x * y ≤ imax (a * y) (b * y) := by
  rcases Int.le_total 0 y with hy | hy
  · exact ⟨Int.le_trans imin_le_left (Int.mul_le_mul_of_nonneg_right h0 hy), Int.le_trans (Int.mul_le_mul_of_nonneg_right h1 hy) le_imax_right⟩
  · exact ⟨Int.le_trans imin_le_right (Int.mul_le_mul_of_nonpos_right h1 hy), Int.le_trans (Int.mul_le_mul_of_nonpos_right h0 hy) le_imax_left⟩
theorem imin_mono {a b c d : Int} (h1 : a ≤ c) (h2 : b ≤ d) : imin a b ≤ imin c d := le_imin (Int.le_trans imin_le_left h1) (Int.le_trans imin_le_right h2)
theorem imax_mono {a b c d : Int} (h1 : a ≤ c) (h2 : b ≤ d) : imax a b ≤ imax c d := imax_le (Int.le_trans h1 le_imax_left) (Int.le_trans h2 le_imax_right)
theorem mulIv_sound {p q : Int × Int} {x y : Int} (hx : p.1 ≤ x ∧ x ≤ p.2) (hy : q.1 ≤ y ∧ y ≤ q.2) : (mulIv p q).1 ≤ x * y ∧ x * y ≤ (mulIv p q).2 := by
  obtain ⟨a, b⟩ := p
  obtain ⟨c, d⟩ := q
  simp only at hx hy
  simp only [mulIv]
  have h1 := mul_between (y := y) hx.1 hx.2
  have h2 := mul_between (y := a) hy.1 hy.2
  have h3 := mul_between (y := b) hy.1 hy.2
  simp only [Int.mul_comm c, Int.mul_comm d, Int.mul_comm y] at h2 h3
  constructor
  · exact Int.le_trans (imin_mono h2.1 h3.1) h1.1
  · exact Int.le_trans h1.2 (imax_mono h2.2 h3.2)

/-! ### the tables -/
def cellEq : Value → Value → Option Bool
  | .int k a, .int j b => if k = j then some (decide (a = b)) else none
  | .bool a, .bool b => some (a == b)
  | _, _ => none
def allEq : List Value → List Value → Option Bool
  | [], [] => some true
  | x :: r, y :: s => match cellEq x y, allEq r s with
    | some a, some b => some (a && b)
    | _, _ => none
  | _, _ => none
def kindV : List Value → List Bool → Bool
  | [], [] => true
  | .int _ _ :: r, false :: s => kindV r s
  | .bool _ :: r, true :: s => kindV r s
  | _, _ => false
theorem kindS_sound {ρ h} : ∀ {xs : List SV} {ks : List Bool}, kindsS xs ks = true → kindV (denL ρ h xs) ks = true
  | [], [], _ => rfl
  | .int _ _ :: r, false :: s, hk => kindS_sound (xs := r) (ks := s) hk
  | .bool _ :: r, true :: s, hk => kindS_sound (xs := r) (ks := s) hk
/-- two plain structs are held against one another cell by cell -/
def EqOK (P : Program) (t : TypeId) (ks : List Bool) : Prop :=
  ∀ (xs ys : List Value) (b : Bool) (op : BinOp) (x y : Operand) (w : World), kindV xs ks = true → kindV ys ks = true → allEq xs ys = some b →
    (eqGuard op t x y (.agg xs.toArray) (.agg ys.toArray)).run P w = .ok () w ∧ (Op.equal t (.agg xs.toArray) (.agg ys.toArray)).run P w = .ok b w

structure TyOK (P : Program) (t : TypeId) (ty : Ty) : Prop where
  d : (P.underlying t).map tdOf = some ty.d
  info : ∃ i, P.info? t = some i ∧ i.size = ty.size ∧ (∀ z, ty.zero = some z → i.zero.bind svOf = some z) ∧ i.bytes = ty.bytes
  eqs : ∀ ks, ty.eqs = some ks → EqOK P t ks

section
variable {P : Program} {w : World}
theorem run_typeInfo' {t : TypeId} {i : TypeInfo} (h : P.info? t = some i) : (typeInfo t).run P w = .ok i w := by
  simp [typeInfo, h]
theorem run_sizeOf' {t : TypeId} {ty : Ty} (h : TyOK P t ty) : (sizeOf t).run P w = .ok ty.size w := by
  obtain ⟨i, hi, hs, _⟩ := h.info
  simp [sizeOf, run_typeInfo' hi, hs]
theorem cellOf_sound {v : Value} {z : SV} (h : cellOf v = some z) (ρ : Env) (hd : Hid) : z.den ρ hd = v := by
  unfold cellOf at h
  split at h <;> first | (cases h; done) | (injection h with h; subst h; simp [SV.den, At.den, BE.den, denL])
  rename_i b
  cases b <;> rfl
theorem cellsOf_sound : ∀ {l : List Value} {z : List SV}, cellsOf l = some z → ∀ (ρ : Env) (hd : Hid), denL ρ hd z = l
  | [], z, h, ρ, hd => by simp only [cellsOf, Option.some.injEq] at h; subst h; rfl
  | v :: r, z, h, ρ, hd => by
    simp only [cellsOf] at h
    split at h
    · rename_i x l hx hl
      injection h with h
      subst h
      simp only [denL, cellOf_sound hx ρ hd, cellsOf_sound hl ρ hd]
    · cases h
theorem svOf_sound {v : Value} {z : SV} (h : svOf v = some z) (ρ : Env) (hd : Hid) : z.den ρ hd = v := by
  unfold svOf at h
  split at h
  · split at h
    · rename_i cs l hl; injection h with h; subst h; simp only [SV.den, cellsOf_sound hl ρ hd]
    · cases h
  · split at h
    · rename_i cs l hl; injection h with h; subst h; simp only [SV.den, cellsOf_sound hl ρ hd]
    · cases h
  · exact cellOf_sound h ρ hd
theorem run_zeroValue' {t : TypeId} {ty : Ty} {z : SV} (h : TyOK P t ty) (hz : ty.zero = some z) (ρ : Env) (hd : Hid) : (zeroValue t).run P w = .ok (z.den ρ hd) w := by
  obtain ⟨i, hi, hs, hz', _⟩ := h.info
  have h1 := hz' z hz
  cases hzz : i.zero with
  | none => rw [hzz] at h1; cases h1
  | some v =>
    rw [hzz] at h1
    have := svOf_sound h1 ρ hd
    simp [zeroValue, run_typeInfo' hi, hzz, this]
theorem TyOK.under {t : TypeId} {ty : Ty} (h : TyOK P t ty) : ∃ d, P.underlying t = some d ∧ tdOf d = ty.d := by
  have := h.d
  cases hu : P.underlying t with
  | none => rw [hu] at this; cases this
  | some d => rw [hu] at this; injection this with this; exact ⟨d, rfl, this⟩
theorem run_under {t : TypeId} {d : TypeDesc} (h : P.underlying t = some d) : (underlying t).run P w = .ok d w := run_underlying h w
theorem td_int {d : TypeDesc} {k} (h : tdOf d = .int k) : d = .int k := by cases d <;> simp [tdOf] at h; rw [h]
theorem td_bool {d : TypeDesc} (h : tdOf d = .bool) : d = .bool := by cases d <;> simp [tdOf] at h; rfl
theorem td_slice {d : TypeDesc} {e} (h : tdOf d = .slice e) : d = .slice e := by cases d <;> simp [tdOf] at h; rw [h]
theorem td_arr {d : TypeDesc} {n e} (h : tdOf d = .arr n e) : d = .array n e := by cases d <;> simp [tdOf] at h; rw [h.1, h.2]
theorem td_map {d : TypeDesc} {n e} (h : tdOf d = .map n e) : d = .map n e := by cases d <;> simp [tdOf] at h; rw [h.1, h.2]
theorem td_struct {d : TypeDesc} {l} (h : tdOf d = .struct l) : ∃ fs, d = .struct fs ∧ fs.toList.map (fun f => (f.type, f.offset)) = l := by
  cases d <;> simp [tdOf] at h
  rename_i fs
  exact ⟨fs, rfl, by simpa using h⟩
theorem td_notAgg {d : TypeDesc} (h : (tdOf d).isAgg = false) : (∀ fs, d ≠ .struct fs) ∧ (∀ n e, d ≠ .array n e) := by
  constructor
  · rintro fs rfl; simp [tdOf, TD.isAgg] at h
  · rintro n e rfl; simp [tdOf, TD.isAgg] at h
theorem td_isAgg {d : TypeDesc} (h : (tdOf d).isAgg = true) : (∃ fs, d = .struct fs) ∨ (∃ n e, d = .array n e) := by
  cases d <;> simp [tdOf, TD.isAgg] at h
  · exact .inr ⟨_, _, rfl⟩
  · exact .inl ⟨_, rfl⟩
theorem run_isAgg' {t : TypeId} {ty : Ty} (h : TyOK P t ty) : (isAgg t).run P w = .ok ty.d.isAgg w := by
  obtain ⟨d, hu, hd⟩ := h.under
  rw [← hd]
  simp only [isAgg, Sem.run_bind, run_under hu, Result.andThen_ok]
  cases d <;> simp [tdOf, TD.isAgg, Sem.run, pure]
end

structure CxTy (P : Program) (cx : Ctx) : Prop where
  ty : ∀ t ty, find t cx.tys = some ty → TyOK P t ty

/-! ### memory -/
def BlkOK (ρ : Env) (h : Hid) (w : World) (i : Nat) : Blk → Prop
  | .cells cs T => w.heap[h.β i]? = some (.cells (denL ρ h cs).toArray T (0, 0))
  | .row cs T sz => ∃ rest : List Value, w.heap[h.β i]? = some (.cells (denL ρ h cs ++ rest).toArray T (0, 0)) ∧ cs.length + rest.length = h.κ i * sz ∧ h.κ i ≤ maxLen
  | .map es => ∃ E c, w.heap[h.β i]? = some (.map E c) ∧ E.toList.map (fun e => (e.key, e.val)) = es.map (fun p => (p.1.den ρ h, p.2.den ρ h))
  | .dead => True
def Blk.live : Blk → Bool
  | .dead => false
  | _ => true
structure HeapOK (ρ : Env) (h : Hid) (B : Nat) (hp : List Blk) (w : World) : Prop where
  blk : ∀ i b, hp[i]? = some b → BlkOK ρ h w i b
  own : ∀ i b, hp[i]? = some b → b.live = true → B ≤ h.β i ∧ h.β i < w.heap.size
  inj : ∀ i j b c, hp[i]? = some b → hp[j]? = some c → b.live = true → c.live = true → h.β i = h.β j → i = j

/-- a block of cells: what stands in it -/
theorem HeapOK.cells {ρ h B hp w} (H : HeapOK ρ h B hp w) {id : Nat} {b : Blk} {cs : List SV} (hb : hp[id]? = some b) (hc : blkCells b = some cs) :
    ∃ (rest : List Value) (T : TypeId), w.heap[h.β id]? = some (.cells (denL ρ h cs ++ rest).toArray T (0, 0)) := by
  have := H.blk id b hb
  cases b <;> simp only [blkCells, Option.some.injEq, reduceCtorEq] at hc
  · subst hc; exact ⟨[], _, by simpa [BlkOK] using this⟩
  · subst hc; obtain ⟨rest, h1, _⟩ := this; exact ⟨rest, _, h1⟩
theorem cell_of_blk {w : World} {b : Nat} {l : List Value} {T : TypeId} {fz} (hb : w.heap[b]? = some (.cells l.toArray T fz)) (off : Nat) :
    w.cell? ⟨b, off, none⟩ = l[off]? := by
  simp [World.cell?, hb]

theorem addr_add (b off i : Nat) : (⟨b, off, none⟩ : Addr).add i = ⟨b, off + i, none⟩ := by
  unfold Addr.add
  split
  · rename_i h; subst h; rfl
  · rfl
theorem run_loadCells' {P : Program} {w : World} {b off : Nat} {l : List Value} {T : TypeId} {fz} (hb : w.heap[b]? = some (.cells l.toArray T fz)) :
    ∀ (n i : Nat) (acc : Array Value), off + i + n ≤ l.length → (loadCellsFrom ⟨b, off, none⟩ i n acc).run P w = .ok (acc ++ ((l.drop (off + i)).take n).toArray) w := by
  intro n
  induction n with
  | zero => intro i acc h; simp [loadCellsFrom, Sem.run, pure]
  | succ n ih =>
    intro i acc h
    have hlt : off + i < l.length := by omega
    simp only [loadCellsFrom, addr_add, load, Sem.run_bind, Sem.run, cell_of_blk hb, List.getElem?_eq_getElem hlt, Result.andThen_ok]
    rw [ih (i + 1) _ (by omega)]
    congr 1
    rw [← List.getElem_cons_drop hlt]
    simp [Nat.add_assoc]
/-- what is read of a block's cells -/
theorem run_loadVar' {P : Program} {w : World} {cx : Ctx} (C : CxTy P cx) {ρ h} {T : TypeId} {b off : Nat} {cs : List SV} {rest : List Value} {E : TypeId} {fz} {v : SV}
    (hb : w.heap[b]? = some (.cells (denL ρ h cs ++ rest).toArray E fz)) (hr : readAt cx T cs off = some v) : (loadVar T ⟨b, off, none⟩).run P w = .ok (v.den ρ h) w := by
  simp only [readAt] at hr
  split at hr
  · rename_i ty hty
    have hT := C.ty _ _ hty
    split at hr
    · rename_i hagg
      split at hr
      · rename_i hle
        rw [nble_iff] at hle
        injection hr with hr
        subst hr
        simp only [loadVar, Sem.run_bind, run_isAgg' hT, Result.andThen_ok, hagg, if_true, run_sizeOf' hT, loadCells]
        rw [run_loadCells' hb _ _ _ (by rw [List.length_append, denL_length]; omega)]
        simp only [Result.andThen_ok, Sem.run, pure, SV.den, denL_take, denL_drop, Nat.add_zero]
        congr 2
        rw [List.drop_append_of_le_length (by rw [denL_length]; omega), List.take_append_of_le_length (by rw [List.length_drop, denL_length]; omega)]
        simp
      · cases hr
    · rename_i hagg
      have hlt : off < cs.length := (List.getElem?_eq_some_iff.1 hr).1
      simp only [loadVar, Sem.run_bind, run_isAgg' hT, Result.andThen_ok, hagg, load, Sem.run, cell_of_blk hb, Bool.false_eq_true, if_false]
      rw [List.getElem?_append_left (by rw [denL_length]; exact hlt), denL_get, hr]
      simp [Sem.run]
  · cases hr
/-- a part of a value -/
theorem run_part' {P : Program} {w : World} {cx : Ctx} (C : CxTy P cx) {ρ h} {T : TypeId} {off : Nat} {cs : List SV} {v : SV} (hr : readAt cx T cs off = some v) :
    (part T (denL ρ h cs).toArray off).run P w = .ok (v.den ρ h) w := by
  simp only [readAt] at hr
  split at hr
  · rename_i ty hty
    have hT := C.ty _ _ hty
    split at hr
    · rename_i hagg
      split at hr
      · rename_i hle
        injection hr with hr
        subst hr
        simp only [part, Sem.run_bind, run_isAgg' hT, Result.andThen_ok, hagg, if_true, run_sizeOf' hT, Sem.run, pure, SV.den, denL_take, denL_drop]
        congr 2
        simp [List.extract_toArray, List.take_drop, Nat.add_sub_cancel_left]
      · cases hr
    · rename_i hagg
      simp only [part, Sem.run_bind, run_isAgg' hT, Result.andThen_ok, hagg, Bool.false_eq_true, if_false, List.getElem?_toArray, denL_get, hr, Option.map_some]
      rfl
  · cases hr

/-! ### operands -/
section
variable {ρ : Env} {h : Hid} {sl : List SV} {a : Act}
theorem slot_sound (hs : a.tmps.toList = denL ρ h sl) (t : Nat) : a.tmps[t]? = (sl[t]?).map (SV.den ρ h) := by
  rw [← Array.getElem?_toList, hs, denL_get]
theorem opd_sound (hs : a.tmps.toList = denL ρ h sl) {x : Operand} {v : SV} (hx : opd sl x = some v) : a.eval x = v.den ρ h := by
  cases x with
  | tmp t =>
    simp only [opd] at hx
    have h1 := slot_sound hs t
    simp only [Act.eval, Array.getD_eq_getD_getElem?]
    split at hx
    · rename_i u hu
      injection hx with hx; subst hx
      rw [h1, hu]; rfl
    · rename_i hu
      injection hx with hx; subst hx
      rw [h1, hu]; rfl
  | const v => exact (svOf_sound hx ρ h).symm
  | global g => simp only [opd, Option.some.injEq] at hx; subst hx; rfl
  | func f => simp only [opd, Option.some.injEq] at hx; subst hx; rfl
theorem opds_sound (hs : a.tmps.toList = denL ρ h sl) : ∀ {l : List Operand} {vs : List SV}, opds sl l = some vs → l.map a.eval = denL ρ h vs
  | [], vs, hx => by simp only [opds, Option.some.injEq] at hx; subst hx; rfl
  | x :: r, vs, hx => by
    simp only [opds] at hx
    split at hx
    · rename_i v l hv hl
      injection hx with hx; subst hx
      simp only [List.map_cons, denL, opd_sound hs hv, opds_sound hs hl]
    · cases hx
theorem opdsA_sound (hs : a.tmps.toList = denL ρ h sl) {l : Array Operand} {vs : List SV} (hx : opds sl l.toList = some vs) : l.map a.eval = (denL ρ h vs).toArray := by
  rw [← opds_sound hs hx, ← Array.toList_map, Array.toArray_toList]
theorem pairUp_sound (hs : a.tmps.toList = denL ρ h sl) : ∀ {l : List (Nat × Operand)} {vs : List (Nat × SV)}, pairUp sl l = some vs → l.map (fun p => (p.1, a.eval p.2)) = vs.map (fun p => (p.1, p.2.den ρ h))
  | [], vs, hx => by simp only [pairUp, Option.some.injEq] at hx; subst hx; rfl
  | (i, x) :: r, vs, hx => by
    simp only [pairUp] at hx
    split at hx
    · rename_i v l hv hl
      injection hx with hx; subst hx
      simp only [List.map_cons, opd_sound hs hv, pairUp_sound hs hl]
    · cases hx
end
end Go.SX
