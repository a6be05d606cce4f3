/-
  The symbolic executor: operations that only look, or reckon, are told right.
-/
import Derived.Test.YtmnpeneplobpdaaDoorSxBase
import Derived.Laws.Sem
import Derived.Laws.Entries
import Derived.Laws.World
import Derived.Laws.AppendOwn
namespace Go.SX
open Go
set_option linter.unusedVariables false
set_option linter.unusedSimpArgs false

/-! ### numbers that go round -/
theorem wrap_id {k : IntKind} {x : Int} (h0 : klo k ≤ x) (h1 : x ≤ khi k) : k.wrap x = x := by
  cases k <;> simp only [klo, khi] at h0 h1 <;> simp only [IntKind.wrap, IntKind.bits, IntKind.signed, Bool.true_and, Bool.false_and, Bool.false_eq_true, if_false, decide_eq_true_eq, ge_iff_le, Nat.reduceSub, Nat.reducePow, Int.reducePow] <;> (try split) <;> omega
theorem wrap_rng {k : IntKind} {x : Int} : klo k ≤ k.wrap x ∧ k.wrap x ≤ khi k := by
  cases k <;> simp only [klo, khi] <;> simp only [IntKind.wrap, IntKind.bits, IntKind.signed, Bool.true_and, Bool.false_and, Bool.false_eq_true, if_false, decide_eq_true_eq, ge_iff_le, Nat.reduceSub, Nat.reducePow, Int.reducePow] <;> (try split) <;> omega
theorem within_id {k : IntKind} {p : Int × Int} {x : Int} (h : within k p = true) (h0 : p.1 ≤ x) (h1 : x ≤ p.2) : k.wrap x = x := by
  simp only [within, Bool.and_eq_true, ile_iff] at h
  exact wrap_id (by omega) (by omega)
theorem kiv_rng {k : IntKind} {x : Int} : ∀ lo hi, some (kiv k) = some (lo, hi) → lo ≤ k.wrap x ∧ k.wrap x ≤ hi := by
  intro lo hi h
  injection h with h
  simp only [kiv, Prod.mk.injEq] at h
  rw [← h.1, ← h.2]
  exact wrap_rng
theorem pow2_eq (n : Nat) : pow2 n = 2 ^ n := by
  induction n with
  | zero => rfl
  | succ n ih => rw [pow2, ih, Nat.pow_succ, Nat.mul_comm]

theorem mul_between {a b x : Int} {y : Int} (h0 : a ≤ x) (h1 : x ≤ b) : imin (a * y) (b * y) ≤ x * y ∧ x * y ≤ imax (a * y) (b * y) := by
  rcases Int.le_total 0 y with hy | hy
  · exact ⟨Int.le_trans imin_le_left (Int.mul_le_mul_of_nonneg_right h0 hy), Int.le_trans (Int.mul_le_mul_of_nonneg_right h1 hy) le_imax_right⟩
  · exact ⟨Int.le_trans imin_le_right (Int.mul_le_mul_of_nonpos_right h1 hy), Int.le_trans (Int.mul_le_mul_of_nonpos_right h0 hy) le_imax_left⟩
theorem imin_mono {a b c d : Int} (h1 : a ≤ c) (h2 : b ≤ d) : imin a b ≤ imin c d := le_imin (Int.le_trans imin_le_left h1) (Int.le_trans imin_le_right h2)
theorem imax_mono {a b c d : Int} (h1 : a ≤ c) (h2 : b ≤ d) : imax a b ≤ imax c d := imax_le (Int.le_trans h1 le_imax_left) (Int.le_trans h2 le_imax_right)
theorem mulIv_sound {p q : Int × Int} {x y : Int} (hx : p.1 ≤ x ∧ x ≤ p.2) (hy : q.1 ≤ y ∧ y ≤ q.2) : (mulIv p q).1 ≤ x * y ∧ x * y ≤ (mulIv p q).2 := by
  obtain ⟨a, b⟩ := p
  obtain ⟨c, d⟩ := q
  simp only at hx hy
  simp only [mulIv]
  have h1 := mul_between (y := y) hx.1 hx.2
  have h2 := mul_between (y := a) hy.1 hy.2
  have h3 := mul_between (y := b) hy.1 hy.2
  simp only [Int.mul_comm c, Int.mul_comm d, Int.mul_comm y] at h2 h3
  constructor
  · exact Int.le_trans (imin_mono h2.1 h3.1) h1.1
  · exact Int.le_trans h1.2 (imax_mono h2.2 h3.2)

/-! ### the tables -/
def cellEq : Value → Value → Option Bool
  | .int k a, .int j b => if k = j then some (decide (a = b)) else none
  | .bool a, .bool b => some (a == b)
  | _, _ => none
def allEq : List Value → List Value → Option Bool
  | [], [] => some true
  | x :: r, y :: s => match cellEq x y, allEq r s with
    | some a, some b => some (a && b)
    | _, _ => none
  | _, _ => none
def kindV : List Value → List Bool → Bool
  | [], [] => true
  | .int _ _ :: r, false :: s => kindV r s
  | .bool _ :: r, true :: s => kindV r s
  | _, _ => false
theorem kindS_sound {ρ h} : ∀ {xs : List SV} {ks : List Bool}, kindsS xs ks = true → kindV (denL ρ h xs) ks = true
  | [], [], _ => rfl
  | .int _ _ :: r, false :: s, hk => kindS_sound (xs := r) (ks := s) hk
  | .bool _ :: r, true :: s, hk => kindS_sound (xs := r) (ks := s) hk
/-- two plain structs are held against one another cell by cell -/
def EqOK (P : Program) (t : TypeId) (ks : List Bool) : Prop :=
  ∀ (xs ys : List Value) (b : Bool) (op : BinOp) (x y : Operand) (w : World), kindV xs ks = true → kindV ys ks = true → allEq xs ys = some b →
    (eqGuard op t x y (.agg xs.toArray) (.agg ys.toArray)).run P w = .ok () w ∧ (Op.equal t (.agg xs.toArray) (.agg ys.toArray)).run P w = .ok b w

structure TyOK (P : Program) (t : TypeId) (ty : Ty) : Prop where
  d : (P.underlying t).map tdOf = some ty.d
  info : ∃ i, P.info? t = some i ∧ i.size = ty.size ∧ (∀ z, ty.zero = some z → i.zero.bind svOf = some z) ∧ i.bytes = ty.bytes
  eqs : ∀ ks, ty.eqs = some ks → EqOK P t ks

section
variable {P : Program} {w : World}
theorem run_typeInfo' {t : TypeId} {i : TypeInfo} (h : P.info? t = some i) : (typeInfo t).run P w = .ok i w := by
  simp [typeInfo, h]
theorem run_sizeOf' {t : TypeId} {ty : Ty} (h : TyOK P t ty) : (sizeOf t).run P w = .ok ty.size w := by
  obtain ⟨i, hi, hs, _⟩ := h.info
  simp [sizeOf, run_typeInfo' hi, hs]
theorem cellOf_sound {v : Value} {z : SV} (h : cellOf v = some z) (ρ : Env) (hd : Hid) : z.den ρ hd = v := by
  unfold cellOf at h
  split at h <;> first | (cases h; done) | (injection h with h; subst h; simp [SV.den, At.den, BE.den, denL])
  rename_i b
  cases b <;> rfl
theorem cellsOf_sound : ∀ {l : List Value} {z : List SV}, cellsOf l = some z → ∀ (ρ : Env) (hd : Hid), denL ρ hd z = l
  | [], z, h, ρ, hd => by simp only [cellsOf, Option.some.injEq] at h; subst h; rfl
  | v :: r, z, h, ρ, hd => by
    simp only [cellsOf] at h
    split at h
    · rename_i x l hx hl
      injection h with h
      subst h
      simp only [denL, cellOf_sound hx ρ hd, cellsOf_sound hl ρ hd]
    · cases h
theorem svOf_sound {v : Value} {z : SV} (h : svOf v = some z) (ρ : Env) (hd : Hid) : z.den ρ hd = v := by
  unfold svOf at h
  split at h
  · split at h
    · rename_i cs l hl; injection h with h; subst h; simp only [SV.den, cellsOf_sound hl ρ hd]
    · cases h
  · split at h
    · rename_i cs l hl; injection h with h; subst h; simp only [SV.den, cellsOf_sound hl ρ hd]
    · cases h
  · exact cellOf_sound h ρ hd
theorem run_zeroValue' {t : TypeId} {ty : Ty} {z : SV} (h : TyOK P t ty) (hz : ty.zero = some z) (ρ : Env) (hd : Hid) : (zeroValue t).run P w = .ok (z.den ρ hd) w := by
  obtain ⟨i, hi, hs, hz', _⟩ := h.info
  have h1 := hz' z hz
  cases hzz : i.zero with
  | none => rw [hzz] at h1; cases h1
  | some v =>
    rw [hzz] at h1
    have := svOf_sound h1 ρ hd
    simp [zeroValue, run_typeInfo' hi, hzz, this]
theorem TyOK.under {t : TypeId} {ty : Ty} (h : TyOK P t ty) : ∃ d, P.underlying t = some d ∧ tdOf d = ty.d := by
  have := h.d
  cases hu : P.underlying t with
  | none => rw [hu] at this; cases this
  | some d => rw [hu] at this; injection this with this; exact ⟨d, rfl, this⟩
theorem run_under {t : TypeId} {d : TypeDesc} (h : P.underlying t = some d) : (underlying t).run P w = .ok d w := run_underlying h w
theorem td_int {d : TypeDesc} {k} (h : tdOf d = .int k) : d = .int k := by cases d <;> simp [tdOf] at h; rw [h]
theorem td_bool {d : TypeDesc} (h : tdOf d = .bool) : d = .bool := by cases d <;> simp [tdOf] at h; rfl
theorem td_slice {d : TypeDesc} {e} (h : tdOf d = .slice e) : d = .slice e := by cases d <;> simp [tdOf] at h; rw [h]
theorem td_arr {d : TypeDesc} {n e} (h : tdOf d = .arr n e) : d = .array n e := by cases d <;> simp [tdOf] at h; rw [h.1, h.2]
theorem td_map {d : TypeDesc} {n e} (h : tdOf d = .map n e) : d = .map n e := by cases d <;> simp [tdOf] at h; rw [h.1, h.2]
theorem td_struct {d : TypeDesc} {l} (h : tdOf d = .struct l) : ∃ fs, d = .struct fs ∧ fs.toList.map (fun f => (f.type, f.offset)) = l := by
  cases d <;> simp [tdOf] at h
  rename_i fs
  exact ⟨fs, rfl, by simpa using h⟩
theorem td_notAgg {d : TypeDesc} (h : (tdOf d).isAgg = false) : (∀ fs, d ≠ .struct fs) ∧ (∀ n e, d ≠ .array n e) := by
  constructor
  · rintro fs rfl; simp [tdOf, TD.isAgg] at h
  · rintro n e rfl; simp [tdOf, TD.isAgg] at h
theorem td_isAgg {d : TypeDesc} (h : (tdOf d).isAgg = true) : (∃ fs, d = .struct fs) ∨ (∃ n e, d = .array n e) := by
  cases d <;> simp [tdOf, TD.isAgg] at h
  · exact .inr ⟨_, _, rfl⟩
  · exact .inl ⟨_, rfl⟩
theorem run_isAgg' {t : TypeId} {ty : Ty} (h : TyOK P t ty) : (isAgg t).run P w = .ok ty.d.isAgg w := by
  obtain ⟨d, hu, hd⟩ := h.under
  rw [← hd]
  simp only [isAgg, Sem.run_bind, run_under hu, Result.andThen_ok]
  cases d <;> simp [tdOf, TD.isAgg, Sem.run, pure]
end

structure CxTy (P : Program) (cx : Ctx) : Prop where
  ty : ∀ t ty, find t cx.tys = some ty → TyOK P t ty

/-! ### memory -/
def BlkOK (ρ : Env) (h : Hid) (w : World) (i : Nat) : Blk → Prop
  | .cells cs T => w.heap[h.β i]? = some (.cells (denL ρ h cs).toArray T (0, 0))
  | .row cs T sz => ∃ rest : List Value, w.heap[h.β i]? = some (.cells (denL ρ h cs ++ rest).toArray T (0, 0)) ∧ cs.length + rest.length = h.κ i * sz ∧ h.κ i ≤ maxLen
  | .map es => ∃ E c, w.heap[h.β i]? = some (.map E c) ∧ E.toList.map (fun e => (e.key, e.val)) = es.map (fun p => (p.1.den ρ h, p.2.den ρ h))
  | _ => True
def Blk.live : Blk → Bool
  | .dead | .own _ _ | .view _ _ => false
  | _ => true
/-- a row of ints is read -/
def RowIs (w : World) (v : Value) (xs : List Int) : Prop :=
  (v = .slice none 0 0 ∧ xs = []) ∨ ∃ x cap, v = .slice (some x) xs.length cap ∧ xs.length ≤ cap ∧ cap ≤ maxLen ∧ ∀ (i : Nat) (y : Int), xs[i]? = some y → w.cell? (x.add i) = some (.int .i64 y)
def ints (xs : List Int) : List Value := xs.map (Value.int .i64)
/-- a row of records of k ints is read -/
def RowS (w : World) (k : Nat) (v : Value) (xs : List Int) : Prop :=
  (v = .slice none 0 0 ∧ xs = []) ∨ ∃ x m cap, v = .slice (some x) m cap ∧ xs.length = m * k ∧ 0 < k ∧ m ≤ cap ∧ cap ≤ maxLen ∧ ∀ (i : Nat) (y : Int), xs[i]? = some y → w.cell? (x.add i) = some (.int .i64 y)
theorem rowS_one {w : World} {v : Value} {xs : List Int} : RowS w 1 v xs ↔ RowIs w v xs := by
  constructor
  · rintro (h | ⟨x, m, cap, h1, h2, h3, h4, h5, h6⟩)
    · exact .inl h
    · rw [Nat.mul_one] at h2; subst h2; exact .inr ⟨x, cap, h1, h4, h5, h6⟩
  · rintro (h | ⟨x, cap, h1, h2, h3, h4⟩)
    · exact .inl h
    · exact .inr ⟨x, xs.length, cap, h1, (Nat.mul_one _).symm, Nat.one_pos, h2, h3, h4⟩
theorem addr_block (x : Addr) (i : Nat) : (x.add i).block = x.block := by unfold Addr.add; split <;> rfl
theorem ints_length {xs : List Int} : (ints xs).length = xs.length := by simp [ints]
theorem RowIs.lt {w : World} {v : Value} {xs : List Int} (h : RowIs w v xs) (hne : xs ≠ []) {g : Nat} (hg : v.ownBlock = some g) : g < w.heap.size := by
  rcases h with ⟨rfl, rfl⟩ | ⟨x, cap, rfl, h1, h2, h3⟩
  · exact absurd rfl hne
  · obtain ⟨y, ys, rfl⟩ := List.exists_cons_of_ne_nil hne
    have := h3 0 y rfl
    have hl := World.block_lt_of_cell? w _ this
    rw [addr_block] at hl
    simp only [Value.ownBlock, Option.some.injEq] at hg
    omega
theorem RowIs.keep {w w' : World} {v : Value} {xs : List Int} (h : RowIs w v xs) (hk : ∀ g, xs ≠ [] → v.ownBlock = some g → w'.heap[g]? = w.heap[g]?) : RowIs w' v xs := by
  rcases h with h | ⟨x, cap, rfl, h1, h2, h3⟩
  · exact .inl h
  · refine .inr ⟨x, cap, rfl, h1, h2, fun i y hy => ?_⟩
    rw [World.cell?_of_block (w := w)]
    · exact h3 i y hy
    · rw [addr_block]; exact hk x.block (fun e => by rw [e] at hy; cases hy) rfl
theorem RowS.lt {w : World} {k : Nat} {v : Value} {xs : List Int} (h : RowS w k v xs) (hne : xs ≠ []) {g : Nat} (hg : v.ownBlock = some g) : g < w.heap.size := by
  rcases h with ⟨rfl, rfl⟩ | ⟨x, m, cap, rfl, h0, h1, h2, h2', h3⟩
  · exact absurd rfl hne
  · obtain ⟨y, ys, rfl⟩ := List.exists_cons_of_ne_nil hne
    have := h3 0 y rfl
    have hl := World.block_lt_of_cell? w _ this
    rw [addr_block] at hl
    simp only [Value.ownBlock, Option.some.injEq] at hg
    omega
theorem RowS.keep {w w' : World} {k : Nat} {v : Value} {xs : List Int} (h : RowS w k v xs) (hk : ∀ g, xs ≠ [] → v.ownBlock = some g → w'.heap[g]? = w.heap[g]?) : RowS w' k v xs := by
  rcases h with h | ⟨x, m, cap, rfl, h0, h1, h2, h2', h3⟩
  · exact .inl h
  · refine .inr ⟨x, m, cap, rfl, h0, h1, h2, h2', fun i y hy => ?_⟩
    rw [World.cell?_of_block (w := w)]
    · exact h3 i y hy
    · rw [addr_block]; exact hk x.block (fun e => by rw [e] at hy; cases hy) rfl
theorem RowS.cnt {w : World} {k : Nat} {v : Value} {xs : List Int} (h : RowS w k v xs) : xs.length / k ≤ maxLen := by
  rcases h with ⟨_, rfl⟩ | ⟨x, m, cap, _, h0, h1, h2, h2', _⟩
  · simp
  · rw [h0, Nat.mul_div_cancel _ h1]; omega
theorem RowS.slice {w : World} {k : Nat} {v : Value} {xs : List Int} (h : RowS w k v xs) : ∃ p n c, v = .slice p n c := by
  rcases h with ⟨h, _⟩ | ⟨x, m, c, h, _⟩ <;> exact ⟨_, _, _, h⟩
theorem RowIs.len {w : World} {v : Value} {xs : List Int} (h : RowIs w v xs) : xs.length ≤ maxLen := by
  rcases h with ⟨_, rfl⟩ | ⟨x, cap, _, h1, h2, _⟩
  · simp
  · omega
theorem own_row {w : World} {B : Nat} {e : TypeId} {v : Value} {xs : List Int} (h : w.ownsRow B e 1 v xs.length (ints xs)) : RowIs w v xs := by
  rcases h.2 with ⟨h1, h2⟩ | ⟨g, cap, cur, h1, h2, h3, h4, h5, h6, h7⟩
  · exact .inl ⟨h1, List.eq_nil_of_length_eq_zero h2⟩
  · subst h1
    refine .inr ⟨⟨g, 0, none⟩, cap, rfl, h4, h5, fun i y hy => ?_⟩
    have := h.cells (g := g) rfl i (.int .i64 y) (by simp [ints, hy])
    exact this
theorem own_rowS {w : World} {B : Nat} {e : TypeId} {k m : Nat} {v : Value} {xs : List Int} (hk : 0 < k) (hm : xs.length = m * k) (h : w.ownsRow B e k v m (ints xs)) : RowS w k v xs := by
  rcases h.2 with ⟨h1, h2⟩ | ⟨g, cap, cur, h1, h2, h3, h4, h5, h6, h7⟩
  · subst h2; rw [Nat.zero_mul] at hm; exact .inl ⟨h1, List.eq_nil_of_length_eq_zero hm⟩
  · subst h1
    refine .inr ⟨⟨g, 0, none⟩, m, cap, rfl, hm, hk, h4, h5, fun i y hy => ?_⟩
    exact h.cells (g := g) rfl i (.int .i64 y) (by simp [ints, hy])
theorem own_keep {w w' : World} {B : Nat} {e : TypeId} {sz : Nat} {v : Value} {n : Nat} {xs : List Value} (h : w.ownsRow B e sz v n xs) (hk : ∀ g, v.ownBlock = some g → w'.heap[g]? = w.heap[g]?) : w'.ownsRow B e sz v n xs := by
  refine ⟨h.1, ?_⟩
  rcases h.2 with h1 | ⟨g, cap, cur, rfl, h2, h3, h4⟩
  · exact .inl h1
  · exact .inr ⟨g, cap, cur, rfl, h2, by rw [hk g rfl]; exact h3, h4⟩
/-! rows of rows: the list holds each row behind its length -/
def enc : List (List Int) → List Int
  | [] => []
  | r :: L => (r.length : Int) :: (r ++ enc L)
theorem enc_append : ∀ {L M : List (List Int)}, enc (L ++ M) = enc L ++ enc M
  | [], M => rfl
  | r :: L, M => by simp only [List.cons_append, enc, enc_append (L := L), List.append_assoc]
theorem decF_enc : ∀ {L : List (List Int)} {k : Nat}, (enc L).length ≤ k → decF k (enc L) = L
  | [], 0, _ => rfl
  | [], _ + 1, _ => rfl
  | r :: L, 0, h => by simp [enc] at h
  | r :: L, k + 1, h => by
    simp only [enc, decF, Int.toNat_natCast, List.take_left, List.drop_left]
    rw [decF_enc (by simp only [enc, List.length_cons, List.length_append] at h; omega)]
theorem dec_enc {L : List (List Int)} : dec (enc L) = L := decF_enc (Nat.le_refl _)
theorem mem_enc : ∀ {L : List (List Int)} {r : List Int} {x : Int}, r ∈ L → x ∈ r → x ∈ enc L
  | [], r, x, h, _ => by simp at h
  | s :: L, r, x, h, hx => by
    simp only [enc, List.mem_cons, List.mem_append]
    rcases List.mem_cons.1 h with h | h
    · subst h; exact .inr (.inl hx)
    · exact .inr (.inr (mem_enc h hx))
/-- rows, each read -/
def Rows (w : World) : List Value → List (List Int) → Prop
  | [], [] => True
  | v :: vs, xs :: L => RowIs w v xs ∧ Rows w vs L
  | _, _ => False
/-- a block that one of them lies in -/
def GF : List Value → List (List Int) → Nat → Prop
  | v :: vs, xs :: L, g => (xs ≠ [] ∧ v.ownBlock = some g) ∨ GF vs L g
  | _, _, _ => False
theorem Rows.lt {w : World} : ∀ {vs : List Value} {L : List (List Int)} {g : Nat}, Rows w vs L → GF vs L g → g < w.heap.size
  | v :: vs, xs :: L, g, h, hg => by
    rcases hg with ⟨h1, h2⟩ | hg
    · exact h.1.lt h1 h2
    · exact Rows.lt h.2 hg
theorem Rows.keep {w w' : World} : ∀ {vs : List Value} {L : List (List Int)}, Rows w vs L → (∀ g, GF vs L g → w'.heap[g]? = w.heap[g]?) → Rows w' vs L
  | [], [], _, _ => trivial
  | v :: vs, xs :: L, h, hk => ⟨h.1.keep fun g hne hg => hk g (.inl ⟨hne, hg⟩), Rows.keep h.2 fun g hg => hk g (.inr hg)⟩
/-- rows of rows, read, and held by the call -/
def GridIs (w : World) (B : Nat) (e : TypeId) (v : Value) (xs : List Int) (vs : List Value) (L : List (List Int)) : Prop :=
  xs = enc L ∧ w.ownsRow B (eT e) 1 v vs.length vs ∧ Rows w vs L
theorem kS_one : kS 1 = 1 := rfl
theorem kS_lt {k : Nat} (h : k < 1000) : kS k = k := by unfold kS; rw [if_pos (blt_iff.2 h)]
theorem stE_pos {e : TypeId} : 0 < stE e := by
  unfold stE
  split
  · exact Nat.one_pos
  · rename_i h
    rw [Bool.not_eq_true, ← Bool.not_eq_true, blt_iff] at h
    have h2 : 10000 ≤ e := Nat.le_of_not_lt h
    exact Nat.div_pos h2 (by decide)
/-- a row of the call's own, of ints or of records of ints -/
def OwnS (w : World) (B : Nat) (e : TypeId) (v : Value) (xs : List Int) : Prop := ∃ m, xs.length = m * stE e ∧ w.ownsRow B (tE e) (stE e) v m (ints xs)
theorem OwnS.row {w : World} {B : Nat} {e : TypeId} {v : Value} {xs : List Int} (h : OwnS w B e v xs) : RowS w (stE e) v xs := by
  obtain ⟨m, h1, h2⟩ := h; exact own_rowS stE_pos h1 h2
theorem OwnS.keep {w w' : World} {B : Nat} {e : TypeId} {v : Value} {xs : List Int} (h : OwnS w B e v xs) (hk : ∀ g, v.ownBlock = some g → w'.heap[g]? = w.heap[g]?) : OwnS w' B e v xs := by
  obtain ⟨m, h1, h2⟩ := h; exact ⟨m, h1, own_keep h2 hk⟩
theorem OwnS.lt {w : World} {B : Nat} {e : TypeId} {v : Value} {xs : List Int} (h : OwnS w B e v xs) {g : Nat} (hg : v.ownBlock = some g) : B ≤ g ∧ g < w.heap.size := by
  obtain ⟨m, h1, h2⟩ := h; exact h2.lt g hg
theorem pE_iff {e : TypeId} : pE e = true ↔ stE e = 1 := by unfold pE; exact nbeq_iff
theorem OwnS.plain {w : World} {B : Nat} {e : TypeId} {v : Value} {xs : List Int} (hp : pE e = true) : OwnS w B e v xs ↔ w.ownsRow B (tE e) 1 v xs.length (ints xs) := by
  have h1 := pE_iff.1 hp
  unfold OwnS
  rw [h1]
  constructor
  · rintro ⟨m, h2, h3⟩; rw [Nat.mul_one] at h2; rw [h2]; exact h3
  · intro h; exact ⟨_, (Nat.mul_one _).symm, h⟩
/-- the rows that lists tell of: where they lie nothing else does -/
structure ListsOK (ρ : Env) (h : Hid) (B : Nat) (hp : List Blk) (w : World) : Prop where
  own : ∀ i n e, hp[i]? = some (.own n e) → isG e = false → OwnS w B e (h.σ i) (ρ.get n).list
  view : ∀ i n k, hp[i]? = some (.view n k) → RowS w (kS k) (h.σ i) (ρ.get n).list
  apart : ∀ i n e j b, hp[i]? = some (.own n e) → hp[j]? = some b → b.live = true → (h.σ i).ownBlock ≠ some (h.β j)
  two : ∀ i j n e m e' g, hp[i]? = some (.own n e) → hp[j]? = some (.own m e') → (h.σ i).ownBlock = some g → (h.σ j).ownBlock = some g → i = j
  vapart : ∀ i n k j b, hp[i]? = some (.view n k) → (ρ.get n).list ≠ [] → hp[j]? = some b → b.live = true → (h.σ i).ownBlock ≠ some (h.β j)
  vtwo : ∀ i n k j m e g, hp[i]? = some (.view n k) → (ρ.get n).list ≠ [] → hp[j]? = some (.own m e) → (h.σ i).ownBlock = some g → (h.σ j).ownBlock ≠ some g
  grid : ∀ i n e, hp[i]? = some (.own n e) → isG e = true → ∃ vs L, GridIs w B e (h.σ i) (ρ.get n).list vs L ∧
    ∀ g, GF vs L g → (∀ j b, hp[j]? = some b → b.live = true → h.β j ≠ g) ∧ ∀ j m e', hp[j]? = some (.own m e') → (h.σ j).ownBlock ≠ some g
  vold : ∀ i n k g, hp[i]? = some (.view n k) → 1000 ≤ k → (ρ.get n).list ≠ [] → (h.σ i).ownBlock = some g → g < B
/-- what a row of the call's own holds -/
theorem ListsOK.ownB {ρ h B hp w} (H : ListsOK ρ h B hp w) {i n : Nat} {e : TypeId} (hi : hp[i]? = some (.own n e)) {g : Nat} (hg : (h.σ i).ownBlock = some g) : B ≤ g ∧ g < w.heap.size := by
  cases he : isG e with
  | false => exact (H.own i n e hi he).lt hg
  | true => obtain ⟨vs, L, ⟨_, h2, _⟩, _⟩ := H.grid i n e hi he; exact h2.lt g hg
/-- a block that a list's row lies in -/
def LBlk (ρ : Env) (h : Hid) (B : Nat) (w : World) (hp : List Blk) (g : Nat) : Prop :=
  (∃ i, (h.σ i).ownBlock = some g ∧ ((∃ n e, hp[i]? = some (.own n e)) ∨ ∃ n k, hp[i]? = some (.view n k) ∧ (ρ.get n).list ≠ [])) ∨
  ∃ i n e vs L, hp[i]? = some (.own n e) ∧ isG e = true ∧ GridIs w B e (h.σ i) (ρ.get n).list vs L ∧ GF vs L g
theorem enc_inj : ∀ {L M : List (List Int)}, enc L = enc M → L = M
  | [], [], _ => rfl
  | [], m :: M, h => by simp [enc] at h
  | l :: L, [], h => by simp [enc] at h
  | l :: L, m :: M, h => by
    simp only [enc, List.cons.injEq] at h
    obtain ⟨h1, h2⟩ := h
    have hl : l.length = m.length := by omega
    obtain ⟨h3, h4⟩ := List.append_inj h2 hl
    rw [h3, enc_inj h4]
theorem ownsRow_uniq {w : World} {B : Nat} {e : TypeId} {v : Value} {xs ys : List Value} (h : w.ownsRow B e 1 v xs.length xs) (h' : w.ownsRow B e 1 v ys.length ys) : xs = ys := by
  rcases h.2 with ⟨h1, h2⟩ | ⟨g, cap, cur, h1, h2, h3, h4, h5, h6, h7⟩
  · rcases h'.2 with ⟨h1', h2'⟩ | ⟨g', cap', cur', h1', _⟩
    · rw [List.eq_nil_of_length_eq_zero h2, List.eq_nil_of_length_eq_zero h2']
    · rw [h1] at h1'; cases h1'
  · rcases h'.2 with ⟨h1', h2'⟩ | ⟨g', cap', cur', h1', h2', h3', h4', h5', h6', h7'⟩
    · rw [h1] at h1'; cases h1'
    · rw [h1] at h1'
      injection h1' with e1 e2 e3
      injection e1 with e1
      injection e1 with e1
      subst e1
      rw [h3] at h3'
      injection h3' with h3'
      injection h3' with h3'
      subst h3'
      rw [← h7, ← h7', e2]
/-- where the rows of rows lie, whichever way they are read -/
theorem ListsOK.gsep {ρ h B hp w} (H : ListsOK ρ h B hp w) {i n : Nat} {e : TypeId} {vs : List Value} {L : List (List Int)} (hi : hp[i]? = some (.own n e)) (he : isG e = true) (hg : GridIs w B e (h.σ i) (ρ.get n).list vs L) {g : Nat} (hf : GF vs L g) :
    (∀ j b, hp[j]? = some b → b.live = true → h.β j ≠ g) ∧ ∀ j m e', hp[j]? = some (.own m e') → (h.σ j).ownBlock ≠ some g := by
  obtain ⟨vs', L', ⟨h1, h2, h3⟩, h4⟩ := H.grid i n e hi he
  have e1 : vs' = vs := ownsRow_uniq h2 hg.2.1
  have e2 : L' = L := enc_inj (h1.symm.trans hg.1)
  subst e1 e2
  exact h4 g hf
theorem ListsOK.lt {ρ h B hp w} (H : ListsOK ρ h B hp w) {g : Nat} (hg : LBlk ρ h B w hp g) : g < w.heap.size := by
  rcases hg with ⟨i, h1, ⟨n, e, h2⟩ | ⟨n, k, h2, h3⟩⟩ | ⟨i, n, e, vs, L, h1, h2, h3, h4⟩
  · exact (H.ownB h2 h1).2
  · exact (H.view i n k h2).lt h3 h1
  · exact h3.2.2.lt h4
theorem ListsOK.apartL {ρ h B hp w} (H : ListsOK ρ h B hp w) {g : Nat} (hg : LBlk ρ h B w hp g) {j : Nat} {b : Blk} (hb : hp[j]? = some b) (hl : b.live = true) : g ≠ h.β j := by
  rcases hg with ⟨i, h1, ⟨n, e, h2⟩ | ⟨n, k, h2, h3⟩⟩ | ⟨i, n, e, vs, L, h1, h2, h3, h4⟩
  · exact fun e' => H.apart i n e j b h2 hb hl (by rw [h1, e'])
  · exact fun e' => H.vapart i n k j b h2 h3 hb hl (by rw [h1, e'])
  · exact fun e' => (H.gsep h1 h2 h3 h4).1 j b hb hl e'.symm
theorem ListsOK.nil {ρ h B w} : ListsOK ρ h B [] w := ⟨fun i n e h => by simp at h, fun i n k h => by simp at h, fun i n e j b h => by simp at h, fun i j n e m e' g h => by simp at h, fun i n k j b h => by simp at h, fun i n k j m e g h => by simp at h, fun i n e h => by simp at h, fun i n k g h => by simp at h⟩
theorem GridIs.keep {w w' : World} {B : Nat} {e : TypeId} {v : Value} {xs : List Int} {vs : List Value} {L : List (List Int)} (h : GridIs w B e v xs vs L) (h1 : ∀ g, v.ownBlock = some g → w'.heap[g]? = w.heap[g]?) (h2 : ∀ g, GF vs L g → w'.heap[g]? = w.heap[g]?) : GridIs w' B e v xs vs L :=
  ⟨h.1, own_keep h.2.1 h1, h.2.2.keep h2⟩
/-- another heap, whose blocks were there before -/
theorem ListsOK.map {ρ h B hp w ρ' h' hp' w'} (H : ListsOK ρ h B hp w) (f : Nat → Nat)
    (ho : ∀ i n e, hp'[i]? = some (.own n e) → ∃ m, hp[f i]? = some (.own m e) ∧ (ρ'.get n).list = (ρ.get m).list ∧ h'.σ i = h.σ (f i))
    (hv : ∀ i n k, hp'[i]? = some (.view n k) → (∃ m, hp[f i]? = some (.view m k) ∧ (ρ'.get n).list = (ρ.get m).list) ∧ h'.σ i = h.σ (f i))
    (hl : ∀ j b, hp'[j]? = some b → b.live = true → ∃ c, hp[f j]? = some c ∧ c.live = true ∧ h'.β j = h.β (f j))
    (hinj : ∀ i j n e m e', hp'[i]? = some (.own n e) → hp'[j]? = some (.own m e') → f i = f j → i = j)
    (hw : ∀ g, LBlk ρ h B w hp g → w'.heap[g]? = w.heap[g]?) : ListsOK ρ' h' B hp' w' := by
  refine ⟨fun i n e hi hge => ?_, fun i n k hi => ?_, fun i n e j b hi hj hb => ?_, fun i j n e m e' g hi hj hg hg' => ?_, fun i n k j b hi hne hj hb => ?_, fun i n k j m e g hi hne hj hg => ?_, fun i n e hi hge => ?_, fun i n k g hi hk hne hg => ?_⟩
  rotate_right 1
  · obtain ⟨⟨m, h1, h2⟩, h3⟩ := hv i n k hi
    rw [h3] at hg
    exact H.vold _ _ _ _ h1 hk (by rw [← h2]; exact hne) hg
  · obtain ⟨m, h1, h2, h3⟩ := ho i n e hi
    rw [h2, h3]
    exact (H.own _ _ _ h1 hge).keep fun g hg => hw g (.inl ⟨f i, hg, .inl ⟨m, e, h1⟩⟩)
  · obtain ⟨⟨m, h1, h2⟩, h3⟩ := hv i n k hi
    rw [h2, h3]
    exact (H.view _ _ _ h1).keep fun g hne hg => hw g (.inl ⟨f i, hg, .inr ⟨m, k, h1, hne⟩⟩)
  · obtain ⟨m, h1, h2, h3⟩ := ho i n e hi
    obtain ⟨c, h4, h5, h6⟩ := hl j b hj hb
    rw [h3, h6]; exact H.apart _ _ _ _ _ h1 h4 h5
  · obtain ⟨m1, h1, h2, h3⟩ := ho i n e hi
    obtain ⟨m2, h4, h5, h6⟩ := ho j m e' hj
    rw [h3] at hg
    rw [h6] at hg'
    exact hinj i j n e m e' hi hj (H.two _ _ _ _ _ _ g h1 h4 hg hg')
  · obtain ⟨⟨m, h1, h2⟩, h3⟩ := hv i n k hi
    obtain ⟨c, h4, h5, h6⟩ := hl j b hj hb
    rw [h3, h6]; exact H.vapart _ _ _ _ _ h1 (by rw [← h2]; exact hne) h4 h5
  · obtain ⟨⟨m1, h1, h2⟩, h3⟩ := hv i n k hi
    obtain ⟨m2, h4, h5, h6⟩ := ho j m e hj
    rw [h3] at hg
    rw [h6]; exact H.vtwo _ _ _ _ _ _ g h1 (by rw [← h2]; exact hne) h4 hg
  · obtain ⟨m, h1, h2, h3⟩ := ho i n e hi
    obtain ⟨vs, L, h4, h5⟩ := H.grid _ _ _ h1 hge
    refine ⟨vs, L, ?_, fun g hg => ⟨fun j b hj hb => ?_, fun j m' e' hj => ?_⟩⟩
    · rw [h2, h3]
      exact h4.keep (fun g hg => hw g (.inl ⟨f i, hg, .inl ⟨m, e, h1⟩⟩)) (fun g hg => hw g (.inr ⟨f i, m, e, vs, L, h1, hge, h4, hg⟩))
    · obtain ⟨c, h6, h7, h8⟩ := hl j b hj hb
      rw [h8]; exact (h5 g hg).1 _ _ h6 h7
    · obtain ⟨m2, h6, h7, h8⟩ := ho j m' e' hj
      rw [h8]; exact (h5 g hg).2 _ _ _ h6
/-- what is a block of a list's row behind a step was one ahead of it -/
theorem LBlk.back {ρ h B hp w w'} (H : ListsOK ρ h B hp w) (hw : ∀ g, LBlk ρ h B w hp g → w'.heap[g]? = w.heap[g]?) {g : Nat} (hk : LBlk ρ h B w' hp g) : LBlk ρ h B w hp g := by
  rcases hk with hk | ⟨i, n, e, vs, L, h1, h2, h3, h4⟩
  · exact .inl hk
  · obtain ⟨vs', L', h5, _⟩ := H.grid i n e h1 h2
    have h6 := h5.keep (w' := w') (fun g hg => hw g (.inl ⟨i, hg, .inl ⟨n, e, h1⟩⟩)) (fun g hg => hw g (.inr ⟨i, n, e, vs', L', h1, h2, h5, hg⟩))
    have e1 : vs' = vs := ownsRow_uniq h6.2.1 h3.2.1
    have e2 : L' = L := enc_inj (h5.1.symm.trans h3.1)
    subst e1 e2
    exact .inr ⟨i, n, e, vs', L', h1, h2, h5, h4⟩
/-- one more block, where no list's row lies -/
theorem ListsOK.pushLive {ρ h B hp w} (H : ListsOK ρ h B hp w) {b : Blk} (hb : b.live = true ∨ b = .dead) (hn : b.live = true → ∀ g, LBlk ρ h B w hp g → g ≠ h.β hp.length) : ListsOK ρ h B (hp ++ [b]) w := by
  have part : ∀ {i : Nat} {c : Blk}, (hp ++ [b])[i]? = some c → hp[i]? = some c ∨ (i = hp.length ∧ c = b) := by
    intro i c hc
    rw [List.getElem?_append] at hc
    split at hc
    · exact .inl hc
    · rename_i hge
      have hlt := (List.getElem?_eq_some_iff.1 hc).1
      simp at hlt
      have hi : i - hp.length = 0 := by omega
      rw [hi, List.getElem?_cons_zero] at hc
      injection hc with hc
      exact .inr ⟨by omega, hc.symm⟩
  have po : ∀ {i n : Nat} {e : TypeId}, (hp ++ [b])[i]? = some (Blk.own n e) → hp[i]? = some (Blk.own n e) := fun hi => by
    rcases part hi with h1 | ⟨_, rfl⟩
    · exact h1
    · rcases hb with hb | hb <;> cases hb
  have pv : ∀ {i n k : Nat}, (hp ++ [b])[i]? = some (Blk.view n k) → hp[i]? = some (Blk.view n k) := fun hi => by
    rcases part hi with h1 | ⟨_, rfl⟩
    · exact h1
    · rcases hb with hb | hb <;> cases hb
  refine ⟨fun i n e hi => H.own i n e (po hi), fun i n k hi => H.view i n k (pv hi), fun i n e j c hi hj hc => ?_, fun i j n e m e' g hi hj => H.two i j n e m e' g (po hi) (po hj), fun i n k j c hi hne hj hc => ?_, fun i n k j m e g hi hne hj => H.vtwo i n k j m e g (pv hi) hne (po hj), fun i n e hi hge => ?_, fun i n k g hi => H.vold i n k g (pv hi)⟩
  · rcases part hj with h1 | ⟨rfl, rfl⟩
    · exact H.apart i n e j c (po hi) h1 hc
    · exact fun he => hn hc _ (.inl ⟨i, he, .inl ⟨n, e, po hi⟩⟩) rfl
  · rcases part hj with h1 | ⟨rfl, rfl⟩
    · exact H.vapart i n k j c (pv hi) hne h1 hc
    · exact fun he => hn hc _ (.inl ⟨i, he, .inr ⟨n, k, pv hi, hne⟩⟩) rfl
  · obtain ⟨vs, L, h4, h5⟩ := H.grid _ _ _ (po hi) hge
    refine ⟨vs, L, h4, fun g hg => ⟨fun j c hj hc => ?_, fun j m e' hj => (h5 g hg).2 _ _ _ (po hj)⟩⟩
    rcases part hj with h1 | ⟨rfl, rfl⟩
    · exact (h5 g hg).1 j c h1 hc
    · exact fun he => hn hc g (.inr ⟨i, n, e, vs, L, po hi, hge, h4, hg⟩) he.symm
/-- one more row of the call's own -/
theorem ListsOK.pushOwnG {ρ h B hp w} (H : ListsOK ρ h B hp w) {n : Nat} {e : TypeId} (ho : isG e = false → OwnS w B e (h.σ hp.length) (ρ.get n).list)
    (hgr : isG e = true → ∃ vs L, GridIs w B e (h.σ hp.length) (ρ.get n).list vs L ∧ ∀ g, GF vs L g → (∀ j b, hp[j]? = some b → b.live = true → h.β j ≠ g) ∧ (h.σ hp.length).ownBlock ≠ some g ∧ ∀ j m e', hp[j]? = some (.own m e') → (h.σ j).ownBlock ≠ some g)
    (hn : ∀ g, (h.σ hp.length).ownBlock = some g → ¬ LBlk ρ h B w hp g ∧ ∀ j b, hp[j]? = some b → b.live = true → h.β j ≠ g) : ListsOK ρ h B (hp ++ [Blk.own n e]) w := by
  have part : ∀ {i : Nat} {c : Blk}, (hp ++ [Blk.own n e])[i]? = some c → hp[i]? = some c ∨ (i = hp.length ∧ c = Blk.own n e) := by
    intro i c hc
    rw [List.getElem?_append] at hc
    split at hc
    · exact .inl hc
    · rename_i hge
      have hlt := (List.getElem?_eq_some_iff.1 hc).1
      simp at hlt
      have hi : i - hp.length = 0 := by omega
      rw [hi, List.getElem?_cons_zero] at hc
      injection hc with hc
      exact .inr ⟨by omega, hc.symm⟩
  have pl : ∀ {i : Nat} {c : Blk}, (hp ++ [Blk.own n e])[i]? = some c → c.live = true → hp[i]? = some c := fun hi hc => by
    rcases part hi with h1 | ⟨_, rfl⟩
    · exact h1
    · cases hc
  have pv : ∀ {i m k : Nat}, (hp ++ [Blk.own n e])[i]? = some (Blk.view m k) → hp[i]? = some (Blk.view m k) := fun hi => by
    rcases part hi with h1 | ⟨_, h2⟩
    · exact h1
    · cases h2
  refine ⟨fun i m e' hi hge => ?_, fun i m k hi => H.view i m k (pv hi), fun i m e' j c hi hj hc => ?_, fun i j m e1 m' e2 g hi hj hg hg' => ?_, fun i m k j c hi hne hj hc => H.vapart i m k j c (pv hi) hne (pl hj hc) hc, fun i m k j m' e' g hi hne hj hg => ?_, fun i m e' hi hge => ?_, fun i m k g hi => H.vold i m k g (pv hi)⟩
  · rcases part hi with h1 | ⟨rfl, h2⟩
    · exact H.own i m e' h1 hge
    · injection h2 with h2 h3; subst h2; subst h3; exact ho hge
  · have hj' := pl hj hc
    rcases part hi with h1 | ⟨rfl, h2⟩
    · exact H.apart i m e' j c h1 hj' hc
    · exact fun he => (hn _ he).2 j c hj' hc rfl
  · rcases part hi with h1 | ⟨rfl, h2⟩
    · rcases part hj with h3 | ⟨rfl, h4⟩
      · exact H.two i j m e1 m' e2 g h1 h3 hg hg'
      · exact absurd (.inl ⟨i, hg, .inl ⟨m, e1, h1⟩⟩) (hn g hg').1
    · rcases part hj with h3 | ⟨rfl, h4⟩
      · exact absurd (.inl ⟨j, hg', .inl ⟨m', e2, h3⟩⟩) (hn g hg).1
      · rfl
  · rcases part hj with h3 | ⟨rfl, h4⟩
    · exact H.vtwo i m k j m' e' g (pv hi) hne h3 hg
    · exact fun he => (hn g he).1 (.inl ⟨i, hg, .inr ⟨m, k, pv hi, hne⟩⟩)
  · rcases part hi with h1 | ⟨rfl, h2⟩
    · obtain ⟨vs, L, h4, h5⟩ := H.grid _ _ _ h1 hge
      refine ⟨vs, L, h4, fun g hg => ⟨fun j c hj hc => (h5 g hg).1 j c (pl hj hc) hc, fun j m2 e2 hj => ?_⟩⟩
      rcases part hj with h6 | ⟨rfl, h6⟩
      · exact (h5 g hg).2 _ _ _ h6
      · exact fun he => (hn g he).1 (.inr ⟨i, m, e', vs, L, h1, hge, h4, hg⟩)
    · injection h2 with h2 h3; subst h2; subst h3
      obtain ⟨vs, L, h4, h5⟩ := hgr hge
      refine ⟨vs, L, h4, fun g hg => ⟨fun j c hj hc => (h5 g hg).1 j c (pl hj hc) hc, fun j m2 e2 hj => ?_⟩⟩
      rcases part hj with h6 | ⟨rfl, h6⟩
      · exact (h5 g hg).2.2 _ _ _ h6
      · exact (h5 g hg).2.1
theorem ListsOK.pushOwn {ρ h B hp w} (H : ListsOK ρ h B hp w) {n : Nat} {e : TypeId} (hge : isG e = false) (ho : OwnS w B e (h.σ hp.length) (ρ.get n).list)
    (hn : ∀ g, (h.σ hp.length).ownBlock = some g → ¬ LBlk ρ h B w hp g ∧ ∀ j b, hp[j]? = some b → b.live = true → h.β j ≠ g) : ListsOK ρ h B (hp ++ [Blk.own n e]) w :=
  H.pushOwnG (fun _ => ho) (fun h => by rw [hge] at h; cases h) hn
/-- one more row that is read alone -/
theorem ListsOK.pushView {ρ h B hp w} (H : ListsOK ρ h B hp w) {n k0 : Nat} (ho : RowS w (kS k0) (h.σ hp.length) (ρ.get n).list) (hold : 1000 ≤ k0 → ∀ g, (ρ.get n).list ≠ [] → (h.σ hp.length).ownBlock = some g → g < B)
    (hn : ∀ g, (ρ.get n).list ≠ [] → (h.σ hp.length).ownBlock = some g → (∀ j m e, hp[j]? = some (Blk.own m e) → (h.σ j).ownBlock ≠ some g) ∧ ∀ j b, hp[j]? = some b → b.live = true → h.β j ≠ g) : ListsOK ρ h B (hp ++ [Blk.view n k0]) w := by
  have part : ∀ {i : Nat} {c : Blk}, (hp ++ [Blk.view n k0])[i]? = some c → hp[i]? = some c ∨ (i = hp.length ∧ c = Blk.view n k0) := by
    intro i c hc
    rw [List.getElem?_append] at hc
    split at hc
    · exact .inl hc
    · rename_i hge
      have hlt := (List.getElem?_eq_some_iff.1 hc).1
      simp at hlt
      have hi : i - hp.length = 0 := by omega
      rw [hi, List.getElem?_cons_zero] at hc
      injection hc with hc
      exact .inr ⟨by omega, hc.symm⟩
  have pl : ∀ {i : Nat} {c : Blk}, (hp ++ [Blk.view n k0])[i]? = some c → c.live = true → hp[i]? = some c := fun hi hc => by
    rcases part hi with h1 | ⟨_, rfl⟩
    · exact h1
    · cases hc
  have po : ∀ {i m : Nat} {e : TypeId}, (hp ++ [Blk.view n k0])[i]? = some (Blk.own m e) → hp[i]? = some (Blk.own m e) := fun hi => by
    rcases part hi with h1 | ⟨_, h2⟩
    · exact h1
    · cases h2
  refine ⟨fun i m e' hi => H.own i m e' (po hi), fun i m k hi => ?_, fun i m e' j c hi hj hc => H.apart i m e' j c (po hi) (pl hj hc) hc, fun i j m e1 m' e2 g hi hj => H.two i j m e1 m' e2 g (po hi) (po hj), fun i m k j c hi hne hj hc => ?_, fun i m k j m' e' g hi hne hj hg => ?_, fun i m e' hi hge => ?_, fun i m k g hi hk hne hg => ?_⟩
  rotate_right 1
  · rcases part hi with h1 | ⟨rfl, h2⟩
    · exact H.vold i m k g h1 hk hne hg
    · injection h2 with h2 h3; subst h2; subst h3; exact hold hk g hne hg
  · rcases part hi with h1 | ⟨rfl, h2⟩
    · exact H.view i m k h1
    · injection h2 with h2 h3; subst h2; subst h3; exact ho
  · have hj' := pl hj hc
    rcases part hi with h1 | ⟨rfl, h2⟩
    · exact H.vapart i m k j c h1 hne hj' hc
    · injection h2 with h2 h3; subst h2; exact fun he => (hn _ hne he).2 j c hj' hc rfl
  · have hj' := po hj
    rcases part hi with h1 | ⟨rfl, h2⟩
    · exact H.vtwo i m k j m' e' g h1 hne hj' hg
    · injection h2 with h2 h3; subst h2; exact (hn g hne hg).1 j m' e' hj'
  · obtain ⟨vs, L, h4, h5⟩ := H.grid _ _ _ (po hi) hge
    exact ⟨vs, L, h4, fun g hg => ⟨fun j c hj hc => (h5 g hg).1 j c (pl hj hc) hc, fun j m2 e2 hj => (h5 g hg).2 _ _ _ (po hj)⟩⟩
structure HeapOK (ρ : Env) (h : Hid) (B : Nat) (hp : List Blk) (w : World) : Prop where
  blk : ∀ i b, hp[i]? = some b → BlkOK ρ h w i b
  own : ∀ i b, hp[i]? = some b → b.live = true → B ≤ h.β i ∧ h.β i < w.heap.size
  inj : ∀ i j b c, hp[i]? = some b → hp[j]? = some c → b.live = true → c.live = true → h.β i = h.β j → i = j
  lists : ListsOK ρ h B hp w

/-- a block of cells: what stands in it -/
theorem HeapOK.cells {ρ h B hp w} (H : HeapOK ρ h B hp w) {id : Nat} {b : Blk} {cs : List SV} (hb : hp[id]? = some b) (hc : blkCells b = some cs) :
    ∃ (rest : List Value) (T : TypeId), w.heap[h.β id]? = some (.cells (denL ρ h cs ++ rest).toArray T (0, 0)) := by
  have := H.blk id b hb
  cases b <;> simp only [blkCells, Option.some.injEq, reduceCtorEq] at hc
  · subst hc; exact ⟨[], _, by simpa [BlkOK] using this⟩
  · subst hc; obtain ⟨rest, h1, _⟩ := this; exact ⟨rest, _, h1⟩
theorem cell_of_blk {w : World} {b : Nat} {l : List Value} {T : TypeId} {fz} (hb : w.heap[b]? = some (.cells l.toArray T fz)) (off : Nat) :
    w.cell? ⟨b, off, none⟩ = l[off]? := by
  simp [World.cell?, hb]

theorem addr_add (b off i : Nat) : (⟨b, off, none⟩ : Addr).add i = ⟨b, off + i, none⟩ := by
  unfold Addr.add
  split
  · rename_i h; subst h; rfl
  · rfl
theorem run_loadCells' {P : Program} {w : World} {b off : Nat} {l : List Value} {T : TypeId} {fz} (hb : w.heap[b]? = some (.cells l.toArray T fz)) :
    ∀ (n i : Nat) (acc : Array Value), off + i + n ≤ l.length → (loadCellsFrom ⟨b, off, none⟩ i n acc).run P w = .ok (acc ++ ((l.drop (off + i)).take n).toArray) w := by
  intro n
  induction n with
  | zero => intro i acc h; simp [loadCellsFrom, Sem.run, pure]
  | succ n ih =>
    intro i acc h
    have hlt : off + i < l.length := by omega
    simp only [loadCellsFrom, addr_add, load, Sem.run_bind, Sem.run, cell_of_blk hb, List.getElem?_eq_getElem hlt, Result.andThen_ok]
    rw [ih (i + 1) _ (by omega)]
    congr 1
    rw [← List.getElem_cons_drop hlt]
    simp [Nat.add_assoc]
/-- what is read of a block's cells -/
theorem run_loadVar' {P : Program} {w : World} {cx : Ctx} (C : CxTy P cx) {ρ h} {T : TypeId} {b off : Nat} {cs : List SV} {rest : List Value} {E : TypeId} {fz} {v : SV}
    (hb : w.heap[b]? = some (.cells (denL ρ h cs ++ rest).toArray E fz)) (hr : readAt cx T cs off = some v) : (loadVar T ⟨b, off, none⟩).run P w = .ok (v.den ρ h) w := by
  simp only [readAt] at hr
  split at hr
  · rename_i ty hty
    have hT := C.ty _ _ hty
    split at hr
    · rename_i hagg
      split at hr
      · rename_i hle
        rw [nble_iff] at hle
        injection hr with hr
        subst hr
        simp only [loadVar, Sem.run_bind, run_isAgg' hT, Result.andThen_ok, hagg, if_true, run_sizeOf' hT, loadCells]
        rw [run_loadCells' hb _ _ _ (by rw [List.length_append, denL_length]; omega)]
        simp only [Result.andThen_ok, Sem.run, pure, SV.den, denL_take, denL_drop, Nat.add_zero]
        congr 2
        rw [List.drop_append_of_le_length (by rw [denL_length]; omega), List.take_append_of_le_length (by rw [List.length_drop, denL_length]; omega)]
        simp
      · cases hr
    · rename_i hagg
      have hlt : off < cs.length := (List.getElem?_eq_some_iff.1 hr).1
      simp only [loadVar, Sem.run_bind, run_isAgg' hT, Result.andThen_ok, hagg, load, Sem.run, cell_of_blk hb, Bool.false_eq_true, if_false]
      rw [List.getElem?_append_left (by rw [denL_length]; exact hlt), denL_get, hr]
      simp [Sem.run]
  · cases hr
/-- a part of a value -/
theorem run_part' {P : Program} {w : World} {cx : Ctx} (C : CxTy P cx) {ρ h} {T : TypeId} {off : Nat} {cs : List SV} {v : SV} (hr : readAt cx T cs off = some v) :
    (part T (denL ρ h cs).toArray off).run P w = .ok (v.den ρ h) w := by
  simp only [readAt] at hr
  split at hr
  · rename_i ty hty
    have hT := C.ty _ _ hty
    split at hr
    · rename_i hagg
      split at hr
      · rename_i hle
        injection hr with hr
        subst hr
        simp only [part, Sem.run_bind, run_isAgg' hT, Result.andThen_ok, hagg, if_true, run_sizeOf' hT, Sem.run, pure, SV.den, denL_take, denL_drop]
        congr 2
        simp [List.extract_toArray, List.take_drop, Nat.add_sub_cancel_left]
      · cases hr
    · rename_i hagg
      simp only [part, Sem.run_bind, run_isAgg' hT, Result.andThen_ok, hagg, Bool.false_eq_true, if_false, List.getElem?_toArray, denL_get, hr, Option.map_some]
      rfl
  · cases hr

/-! ### operands -/
section
variable {ρ : Env} {h : Hid} {sl : List SV} {a : Act}
theorem slot_sound (hs : a.tmps.toList = denL ρ h sl) (t : Nat) : a.tmps[t]? = (sl[t]?).map (SV.den ρ h) := by
  rw [← Array.getElem?_toList, hs, denL_get]
theorem opd_sound (hs : a.tmps.toList = denL ρ h sl) {x : Operand} {v : SV} (hx : opd sl x = some v) : a.eval x = v.den ρ h := by
  cases x with
  | tmp t =>
    simp only [opd] at hx
    have h1 := slot_sound hs t
    simp only [Act.eval, Array.getD_eq_getD_getElem?]
    split at hx
    · rename_i u hu
      injection hx with hx; subst hx
      rw [h1, hu]; rfl
    · rename_i hu
      injection hx with hx; subst hx
      rw [h1, hu]; rfl
  | const v => exact (svOf_sound hx ρ h).symm
  | global g => simp only [opd, Option.some.injEq] at hx; subst hx; rfl
  | func f => simp only [opd, Option.some.injEq] at hx; subst hx; rfl
theorem opds_sound (hs : a.tmps.toList = denL ρ h sl) : ∀ {l : List Operand} {vs : List SV}, opds sl l = some vs → l.map a.eval = denL ρ h vs
  | [], vs, hx => by simp only [opds, Option.some.injEq] at hx; subst hx; rfl
  | x :: r, vs, hx => by
    simp only [opds] at hx
    split at hx
    · rename_i v l hv hl
      injection hx with hx; subst hx
      simp only [List.map_cons, denL, opd_sound hs hv, opds_sound hs hl]
    · cases hx
theorem opdsA_sound (hs : a.tmps.toList = denL ρ h sl) {l : Array Operand} {vs : List SV} (hx : opds sl l.toList = some vs) : l.map a.eval = (denL ρ h vs).toArray := by
  rw [← opds_sound hs hx, ← Array.toList_map, Array.toArray_toList]
theorem pairUp_sound (hs : a.tmps.toList = denL ρ h sl) : ∀ {l : List (Nat × Operand)} {vs : List (Nat × SV)}, pairUp sl l = some vs → l.map (fun p => (p.1, a.eval p.2)) = vs.map (fun p => (p.1, p.2.den ρ h))
  | [], vs, hx => by simp only [pairUp, Option.some.injEq] at hx; subst hx; rfl
  | (i, x) :: r, vs, hx => by
    simp only [pairUp] at hx
    split at hx
    · rename_i v l hv hl
      injection hx with hx; subst hx
      simp only [List.map_cons, opd_sound hs hv, pairUp_sound hs hl]
    · cases hx
end
end Go.SX
