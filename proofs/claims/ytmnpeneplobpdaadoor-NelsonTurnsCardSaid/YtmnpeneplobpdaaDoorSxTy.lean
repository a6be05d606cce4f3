/-
  The symbolic executor: the rows of the table of types, out of closed facts; plain structs held against one another.
-/
import Derived.Test.YtmnpeneplobpdaaDoorSxSound
import Derived.Laws.StructEq
import Derived.ChangeKeysEq
namespace Go.SX
open Go Go.RowKit
set_option linter.unusedVariables false
set_option linter.unusedSimpArgs false

def eqF (rec_ : TypeId → Option (List Bool × Bool)) : List Field → Nat → Option (List Bool)
  | [], o => some []
  | f :: r, o => if f.name != "_" && Nat.beq f.offset o then match rec_ f.type with
      | some (ks, _) => match eqF rec_ r (o + ks.length) with
        | some ls => some (ks ++ ls)
        | none => none
      | none => none
    else none
def repK : Nat → List Bool → List Bool
  | 0, _ => []
  | n + 1, ks => ks ++ repK n ks
/-- the cells of a plain type: true: a bool; and whether it is a struct or an array -/
def eqT (P : Program) : Nat → TypeId → Option (List Bool × Bool)
  | 0, _ => none
  | k + 1, t => match P.underlying t, P.info? t with
    | some (.int _), some i => if Nat.beq i.size 1 then some ([false], false) else none
    | some .bool, some i => if Nat.beq i.size 1 then some ([true], false) else none
    | some (.struct fs), some i => if P.stoodInHeld t then none else match eqF (eqT P k) fs.toList 0 with
      | some ks => if Nat.beq i.size ks.length then some (ks, true) else none
      | none => none
    | some (.array n e), some i => match eqT P k e, P.info? e with
      | some (ks, _), some j => if Nat.beq j.size ks.length && Nat.beq i.size (repK n ks).length then some (repK n ks, true) else none
      | _, _ => none
    | _, _ => none

def valOf (ag : Bool) (xs : List Value) : Value := if ag then .agg xs.toArray else xs.headD undef

theorem allEq_split : ∀ {x1 y1 x2 y2 : List Value} {b : Bool}, x1.length = y1.length → allEq (x1 ++ x2) (y1 ++ y2) = some b → ∃ b1 b2, allEq x1 y1 = some b1 ∧ allEq x2 y2 = some b2 ∧ b = (b1 && b2)
  | [], [], x2, y2, b, _, h => ⟨true, b, rfl, h, by simp⟩
  | x :: r, y :: s, x2, y2, b, hl, h => by
    simp only [List.cons_append, allEq] at h
    split at h
    · rename_i a c ha hc
      obtain ⟨b1, b2, h1, h2, h3⟩ := allEq_split (x1 := r) (y1 := s) (by simpa using hl) hc
      injection h with h
      exact ⟨a && b1, b2, by simp only [allEq, ha, h1], h2, by rw [← h, h3, Bool.and_assoc]⟩
    · cases h
theorem kindV_length : ∀ {xs : List Value} {ks : List Bool}, kindV xs ks = true → xs.length = ks.length
  | [], [], _ => rfl
  | .int _ _ :: r, false :: s, h => by simp only [List.length_cons, kindV_length (xs := r) (ks := s) h]
  | .bool _ :: r, true :: s, h => by simp only [List.length_cons, kindV_length (xs := r) (ks := s) h]
theorem kindV_split : ∀ {xs : List Value} {k1 k2 : List Bool}, kindV xs (k1 ++ k2) = true → kindV (xs.take k1.length) k1 = true ∧ kindV (xs.drop k1.length) k2 = true
  | xs, [], k2, h => ⟨by cases xs <;> rfl, h⟩
  | .int _ _ :: r, false :: s, k2, h => kindV_split (xs := r) (k1 := s) h
  | .bool _ :: r, true :: s, k2, h => kindV_split (xs := r) (k1 := s) h

theorem kindV_int : ∀ {xs : List Value}, kindV xs [false] = true → ∃ k x, xs = [.int k x]
  | [.int k x], _ => ⟨k, x, rfl⟩
  | .int _ _ :: _ :: _, h => by simp [kindV] at h
theorem kindV_bool : ∀ {xs : List Value}, kindV xs [true] = true → ∃ x, xs = [.bool x]
  | [.bool x], _ => ⟨x, rfl⟩
  | .bool _ :: _ :: _, h => by simp [kindV] at h
section
variable {P : Program}
theorem part_flat {w : World} {t : TypeId} {ks : List Bool} {ag : Bool} {k : Nat} (h : eqT P k t = some (ks, ag)) {xs : List Value} {off : Nat} (hle : off + ks.length ≤ xs.length) :
    (part t xs.toArray off).run P w = .ok (valOf ag ((xs.drop off).take ks.length)) w := by
  cases k with
  | zero => simp [eqT] at h
  | succ k =>
    simp only [eqT] at h
    split at h
    · rename_i q i hu hi
      split at h
      · injection h with h; injection h with h1 h2; subst h1; subst h2
        have hlt : off < xs.length := by simp at hle; omega
        simp only [part, isAgg, Sem.run_bind, run_under hu, Result.andThen_ok, pure, Sem.run, Bool.false_eq_true, if_false, List.getElem?_toArray, List.getElem?_eq_getElem hlt, valOf]
        congr 1
        rw [← List.getElem_cons_drop hlt]
        rfl
      · cases h
    · rename_i i hu hi
      split at h
      · injection h with h; injection h with h1 h2; subst h1; subst h2
        have hlt : off < xs.length := by simp at hle; omega
        simp only [part, isAgg, Sem.run_bind, run_under hu, Result.andThen_ok, pure, Sem.run, Bool.false_eq_true, if_false, List.getElem?_toArray, List.getElem?_eq_getElem hlt, valOf]
        congr 1
        rw [← List.getElem_cons_drop hlt]
        rfl
      · cases h
    · rename_i fs i hu hi
      split at h
      · cases h
      · split at h
        · rename_i m hm
          split at h
          · rename_i hsz
            rw [nbeq_iff] at hsz
            injection h with h; injection h with h1 h2; subst h1; subst h2
            simp only [part, isAgg, Sem.run_bind, run_under hu, Result.andThen_ok, pure, Sem.run, if_true, sizeOf, run_typeInfo' hi, valOf, hsz]
            congr 2
            simp [List.extract_toArray, List.take_drop, Nat.add_sub_cancel_left]
          · cases h
        · cases h
    · rename_i n e i hu hi
      split at h
      · rename_i m ag1 j hm hj
        split at h
        · rename_i hsz
          simp only [Bool.and_eq_true, nbeq_iff] at hsz
          injection h with h; injection h with h1 h2; subst h1; subst h2
          simp only [part, isAgg, Sem.run_bind, run_under hu, Result.andThen_ok, pure, Sem.run, if_true, sizeOf, run_typeInfo' hi, valOf, hsz.2]
          congr 2
          simp [List.extract_toArray, List.take_drop, Nat.add_sub_cancel_left]
        · cases h
      · cases h
    · cases h

theorem eqFields_flat {k d : Nat}
    (IH : ∀ t ks ag, eqT P k t = some (ks, ag) → ∀ (xs ys : List Value) (b : Bool) (w : World), kindV xs ks = true → kindV ys ks = true → allEq xs ys = some b → (Op.equalIn d t (valOf ag xs) (valOf ag ys)).run P w = .ok b w) {X Y : List Value} (hXY : X.length = Y.length) :
    ∀ {fs : List Field} {o : Nat} {ks : List Bool} {b : Bool} {w : World}, eqF (eqT P k) fs o = some ks → o ≤ X.length → kindV (X.drop o) ks = true → kindV (Y.drop o) ks = true → allEq (X.drop o) (Y.drop o) = some b → (Op.eqFields d X.toArray Y.toArray fs).run P w = .ok b w
  | [], o, ks, b, w, hf, ho, hx, hy, ha => by
    simp only [eqF, Option.some.injEq] at hf
    subst hf
    have lx := kindV_length hx
    have ly := kindV_length hy
    rw [List.length_eq_zero_iff.1 lx, List.length_eq_zero_iff.1 ly] at ha
    simp only [allEq, Option.some.injEq] at ha
    subst ha
    simp only [Op.eqFields, pure, Sem.run]
  | f :: r, o, ks, b, w, hf, ho, hx, hy, ha => by
    simp only [eqF] at hf
    split at hf
    · rename_i hc
      simp only [Bool.and_eq_true, bne_iff_ne, ne_eq, nbeq_iff] at hc
      split at hf
      · rename_i k1 ag hT
        split at hf
        · rename_i ls hls
          injection hf with hf
          subst hf
          obtain ⟨x1, x2⟩ := kindV_split hx
          obtain ⟨y1, y2⟩ := kindV_split hy
          rw [List.drop_drop] at x2 y2
          have lx := kindV_length hx
          have ly := kindV_length hy
          simp only [List.length_drop, List.length_append] at lx ly
          have hxx : X.drop o = (X.drop o).take k1.length ++ X.drop (o + k1.length) := by rw [← List.drop_drop, List.take_append_drop]
          have hyy : Y.drop o = (Y.drop o).take k1.length ++ Y.drop (o + k1.length) := by rw [← List.drop_drop, List.take_append_drop]
          rw [hxx, hyy] at ha
          obtain ⟨b1, b2, h1, h2, h3⟩ := allEq_split (by simp only [List.length_take, List.length_drop]; omega) ha
          have p1 := part_flat (w := w) hT (xs := X) (off := o) (by omega)
          have p2 := part_flat (w := w) hT (xs := Y) (off := o) (by omega)
          have p3 := IH _ _ _ hT _ _ _ w x1 y1 h1
          have p4 := eqFields_flat IH hXY (fs := r) (o := o + k1.length) (w := w) hls (by omega) x2 y2 h2
          rw [Op.eqFields, if_pos hc.1]
          simp only [Sem.run_bind, hc.2, p1, p2, p3, Result.andThen_ok]
          subst h3
          cases b1
          · simp only [Bool.not_false, if_true, pure, Sem.run, Bool.false_and]
          · simp only [Bool.not_true, Bool.false_eq_true, if_false, Bool.true_and]; exact p4
        · cases hf
      · cases hf
    · cases hf

theorem repK_length : ∀ (n : Nat) (ks : List Bool), (repK n ks).length = n * ks.length
  | 0, ks => by simp [repK]
  | n + 1, ks => by simp [repK, repK_length n ks, Nat.succ_mul, Nat.add_comm]
theorem eqItems_flat {k d : Nat} {e : TypeId} {k1 : List Bool} {ag : Bool} (hT : eqT P k e = some (k1, ag))
    (IH : ∀ (xs ys : List Value) (b : Bool) (w : World), kindV xs k1 = true → kindV ys k1 = true → allEq xs ys = some b → (Op.equalIn d e (valOf ag xs) (valOf ag ys)).run P w = .ok b w) {X Y : List Value} (hXY : X.length = Y.length) :
    ∀ (m s : Nat) {b : Bool} {w : World}, s * k1.length ≤ X.length → kindV (X.drop (s * k1.length)) (repK m k1) = true → kindV (Y.drop (s * k1.length)) (repK m k1) = true → allEq (X.drop (s * k1.length)) (Y.drop (s * k1.length)) = some b → (Op.eqItems d e k1.length X.toArray Y.toArray (List.range' s m)).run P w = .ok b w
  | 0, s, b, w, ho, hx, hy, ha => by
    have lx := kindV_length hx
    have ly := kindV_length hy
    rw [List.length_eq_zero_iff.1 lx, List.length_eq_zero_iff.1 ly] at ha
    simp only [allEq, Option.some.injEq] at ha
    subst ha
    simp only [List.range', Op.eqItems, pure, Sem.run]
  | m + 1, s, b, w, ho, hx, hy, ha => by
    simp only [repK] at hx hy
    obtain ⟨x1, x2⟩ := kindV_split hx
    obtain ⟨y1, y2⟩ := kindV_split hy
    rw [List.drop_drop] at x2 y2
    have hs1 : s * k1.length + k1.length = (s + 1) * k1.length := by rw [Nat.succ_mul]
    rw [hs1] at x2 y2
    have lx := kindV_length hx
    have ly := kindV_length hy
    simp only [List.length_drop, List.length_append] at lx ly
    have hxx : X.drop (s * k1.length) = (X.drop (s * k1.length)).take k1.length ++ X.drop ((s + 1) * k1.length) := by rw [← hs1, ← List.drop_drop, List.take_append_drop]
    have hyy : Y.drop (s * k1.length) = (Y.drop (s * k1.length)).take k1.length ++ Y.drop ((s + 1) * k1.length) := by rw [← hs1, ← List.drop_drop, List.take_append_drop]
    rw [hxx, hyy] at ha
    obtain ⟨b1, b2, h1, h2, h3⟩ := allEq_split (by simp only [List.length_take, List.length_drop]; omega) ha
    have p1 := part_flat (w := w) hT (xs := X) (off := s * k1.length) (by omega)
    have p2 := part_flat (w := w) hT (xs := Y) (off := s * k1.length) (by omega)
    have p3 := IH _ _ _ w x1 y1 h1
    have p4 := eqItems_flat hT IH hXY m (s + 1) (w := w) (by omega) x2 y2 h2
    rw [List.range', Op.eqItems]
    simp only [Sem.run_bind, p1, p2, p3, Result.andThen_ok]
    subst h3
    cases b1
    · simp only [Bool.not_false, if_true, pure, Sem.run, Bool.false_and]
    · simp only [Bool.not_true, Bool.false_eq_true, if_false, Bool.true_and]; exact p4

theorem eqT_sound : ∀ (k : Nat) {d : Nat} {t : TypeId} {ks : List Bool} {ag : Bool}, eqT P k t = some (ks, ag) → ∀ (xs ys : List Value) (b : Bool) (w : World), kindV xs ks = true → kindV ys ks = true → allEq xs ys = some b →
    (Op.equalIn (k + d) t (valOf ag xs) (valOf ag ys)).run P w = .ok b w
  | 0, d, t, ks, ag, h, _, _, _, _, _, _, _ => by simp [eqT] at h
  | k + 1, d, t, ks, ag, h, xs, ys, b, w, hx, hy, ha => by
    have hk : k + 1 + d = (k + d) + 1 := by omega
    rw [hk]
    simp only [eqT] at h
    split at h
    · rename_i q i hu hi
      split at h
      · injection h with h; injection h with h1 h2; subst h1; subst h2
        obtain ⟨k1, x, rfl⟩ := kindV_int hx
        obtain ⟨k2, y, rfl⟩ := kindV_int hy
        · simp only [allEq, cellEq] at ha
          split at ha
          · rename_i a c hc1 hc2
            split at hc1
            · rename_i hkk; subst hkk
              injection hc1 with hc1; injection hc2 with hc2; injection ha with ha
              subst hc1; subst hc2; subst ha
              simp only [valOf, Bool.false_eq_true, if_false, List.headD_cons, Op.equalIn, Sem.run_bind, run_under hu, Result.andThen_ok, if_true, pure, Sem.run, Bool.and_true]
              rfl
            · cases hc1
          · cases ha
      · cases h
    · rename_i i hu hi
      split at h
      · injection h with h; injection h with h1 h2; subst h1; subst h2
        obtain ⟨x, rfl⟩ := kindV_bool hx
        obtain ⟨y, rfl⟩ := kindV_bool hy
        · simp only [allEq, cellEq, Bool.and_true, Option.some.injEq] at ha
          subst ha
          simp only [valOf, Bool.false_eq_true, if_false, List.headD_cons, Op.equalIn, Sem.run_bind, run_under hu, Result.andThen_ok, pure, Sem.run]
      · cases h
    · rename_i fs i hu hi
      split at h
      · cases h
      · rename_i hst
        split at h
        · rename_i m hm
          split at h
          · injection h with h; injection h with h1 h2; subst h1; subst h2
            simp only [valOf, if_true]
            have hf : P.fieldsOf t = fs := by simp [Program.fieldsOf, hu]
            rw [run_equalIn_struct (P := P) w (k + d) t _ _ (by rw [hf]; exact hu) (by simpa using hst), hf]
            exact eqFields_flat (k := k) (fun t n ag h xs ys b w h1 h2 h3 => eqT_sound k h xs ys b w h1 h2 h3) (by rw [kindV_length hx, kindV_length hy]) (o := 0) hm (Nat.zero_le _) (by simpa using hx) (by simpa using hy) (by simpa using ha)
          · cases h
        · cases h
    · rename_i n e i hu hi
      split at h
      · rename_i m ag1 j hm hj
        split at h
        · rename_i hsz
          simp only [Bool.and_eq_true, nbeq_iff] at hsz
          injection h with h; injection h with h1 h2; subst h1; subst h2
          simp only [valOf, if_true]
          have hc : P.cellsOf e = m.length := by simp [Program.cellsOf, hj, hsz.1]
          rw [run_equalIn_array (P := P) w (k + d) _ _ hu hj, hc, List.range_eq_range']
          exact eqItems_flat hm (fun xs ys b w h1 h2 h3 => eqT_sound k hm xs ys b w h1 h2 h3) (by rw [kindV_length hx, kindV_length hy]) n 0 (by omega) (by simpa using hx) (by simpa using hy) (by simpa using ha)
        · cases h
      · cases h
    · cases h

theorem eqOK_of {t : TypeId} {ks : List Bool} (h : eqT P 20 t = some (ks, true)) (hg : P.eqGuardType P.depth t = false) : EqOK P t ks := by
  intro xs ys b op x y w hx hy ha
  refine ⟨run_eqGuard_agg w op t x y _ _ hg, ?_⟩
  have h1 : Op.equal t (.agg xs.toArray) (.agg ys.toArray) = Op.equalIn (20 + 9980) t (valOf true xs) (valOf true ys) := rfl
  rw [h1]
  exact eqT_sound 20 h xs ys b w hx hy ha

/-- a row of the table -/
theorem tyMk {t : TypeId} {ty : Ty} (h1 : (P.underlying t).map tdOf = some ty.d) (h2 : (P.info? t).map (fun i => (i.size, i.zero.bind svOf, i.bytes)) = some (ty.size, ty.zero, ty.bytes)) (h3 : ∀ ks, ty.eqs = some ks → EqOK P t ks) : TyOK P t ty := by
  refine ⟨h1, ?_, h3⟩
  cases hi : P.info? t with
  | none => rw [hi] at h2; cases h2
  | some i =>
    rw [hi] at h2
    simp only [Option.map_some, Option.some.injEq, Prod.mk.injEq] at h2
    exact ⟨i, rfl, h2.1, fun z hz => by rw [h2.2.1, hz], h2.2.2⟩
theorem noEq {t : TypeId} : ∀ ks, (none : Option (List Bool)) = some ks → EqOK P t ks := fun _ h => by cases h
theorem someEq {t : TypeId} {ls : List Bool} (h : EqOK P t ls) : ∀ ks, some ls = some ks → EqOK P t ks := fun ks hk => by injection hk with hk; exact hk ▸ h
end

/-! ### for the texts that use it -/
def IvsB : List (Option (Int × Int)) → List Cv → Prop
  | [], [] => True
  | some (lo, hi) :: r, .i x :: s => lo ≤ Cv.int (.i x) ∧ Cv.int (.i x) ≤ hi ∧ IvsB r s
  | none :: r, .l xs :: s => InI xs ∧ IvsB r s
  | none :: r, .i _ :: s => IvsB r s
  | none :: r, .b _ :: s => IvsB r s
  | _, _ => False
theorem IvsB.ok : ∀ {ivs : List (Option (Int × Int))} {cs : List Cv}, IvsB ivs cs → IvsOK ivs cs := by
  intro ivs
  induction ivs with
  | nil =>
    intro cs hb
    cases cs with
    | nil => exact ⟨fun i lo hi h => by simp at h, fun i x hx => by cases hx⟩
    | cons _ _ => exact hb.elim
  | cons p r ih =>
    intro cs hb
    cases cs with
    | nil => cases p <;> exact hb.elim
    | cons c s =>
      have key : IvsB r s ∧ (∀ lo hi, p = some (lo, hi) → lo ≤ c.int ∧ c.int ≤ hi) ∧ ∀ x, x ∈ c.list → -9223372036854775808 ≤ x ∧ x ≤ 9223372036854775807 := by
        rcases p with _ | ⟨lo, hi⟩ <;> cases c
        · exact ⟨hb, fun lo hi h => (by cases h), fun x hx => (by cases hx)⟩
        · exact ⟨hb, fun lo hi h => (by cases h), fun x hx => (by cases hx)⟩
        · exact ⟨hb.2, fun lo hi h => (by cases h), fun x hx => hb.1 x hx⟩
        · exact ⟨hb.2.2, fun lo' hi' h => (by injection h with h; injection h with h1 h2; subst h1; subst h2; exact ⟨hb.1, hb.2.1⟩), fun x hx => (by cases hx)⟩
        · exact hb.elim
        · exact hb.elim
      obtain ⟨k1, k2, k3⟩ := key
      obtain ⟨i1, i2⟩ := ih k1
      refine ⟨fun i lo hi h => ?_, fun i x hx => ?_⟩
      · cases i with
        | zero => exact k2 lo hi (by simpa using h)
        | succ i => exact i1 i lo hi (by simpa using h)
      · cases i with
        | zero => exact k3 x hx
        | succ i => exact i2 i x hx

/-! ### no rows among the arguments -/
theorem noLst_args {w : World} {cs : Env} : ∀ {args : List SV} {n : Nat}, noLst args = true → (placeA args n).1 = (placeL args n).1 ∧ ∀ {vs : List Value}, ArgsRel w cs (placeA args n).1 vs ↔ vs = denL cs hid0 (placeL args n).1
  | [], n, _ => ⟨rfl, fun {vs} => by cases vs <;> simp [placeA, placeL, ArgsRel, denL]⟩
  | p :: r, n, h => by
    have hp : ∀ m, p ≠ .lst m := fun m e => by subst e; cases h
    have hp2 : ∀ n a k o, p ≠ .sptr n a k o := fun n a k o e => by subst e; cases h
    have hr : noLst r = true := by cases p <;> first | exact h | cases h
    obtain ⟨i1, i2⟩ := noLst_args (w := w) (cs := cs) (args := r) (n := (place p n).2) hr
    rw [placeA_cons hp hp2]
    refine ⟨by simp only [placeL, i1], fun {vs} => ?_⟩
    cases vs with
    | nil =>
      constructor
      · intro hh; cases hpp : (place p n).1 <;> rw [hpp] at hh <;> exact hh.elim
      · intro hh; simp only [placeL, denL] at hh; cases hh
    | cons v s =>
      simp only [placeL, denL, List.cons.injEq]
      constructor
      · intro hh
        obtain ⟨h1, h2⟩ := argsRel_cons (place_noLst p n) (place_noSptr p n) hh
        exact ⟨h1, i2.1 h2⟩
      · rintro ⟨h1, h2⟩
        exact ArgsRel.cons (place_noLst p n) (place_noSptr p n) h1 (i2.2 h2)

/-- a function of the model's own: its contract, out of its run -/
theorem spec_of_run {P : Program} {f : Nat} {sp : SpecSh} {m : SpecSem} (h : ∀ cs, m.pre cs → Fits sp.sh (m.out cs) ∧ ∀ w, ∃ w', (callFunc f (denL cs hid0 (placeL sp.args 0).1).toArray).run P w = .ok (.value ((place sp.res 0).1.den (m.out cs) hid0)) w' ∧ Below w.heap.size w w') (hn : noLst sp.args = true := by rfl) : SpecOK P f sp m := by
  intro cs hpre
  obtain ⟨h1, h2⟩ := h cs hpre
  refine ⟨h1, fun vs w _ hvs => .inl ?_⟩
  rw [(noLst_args hn).2.1 hvs]
  obtain ⟨w', h3, h4⟩ := h2 w
  exact ⟨_, w', h3, rfl, h4⟩
theorem spec_of_calls {P : Program} {f : Nat} {sp : SpecSh} {m : SpecSem} {fn : Func} (hf : P.funcs[f]? = some fn) (hname : (fn.name == "runtime.NumGoroutine") = false) (hbody : fn.body.isNone = false)
    (h : ∀ cs, m.pre cs → Fits sp.sh (m.out cs) ∧ ∀ w, Calls P f (denL cs hid0 (placeL sp.args 0).1).toArray w fun e w' => e = .returned ((place sp.res 0).1.den (m.out cs) hid0) ∧ Below w.heap.size w w') (hn : noLst sp.args = true := by rfl) : SpecOK P f sp m := by
  intro cs hpre
  obtain ⟨h1, h2⟩ := h cs hpre
  refine ⟨h1, fun vs w _ hvs => .inr ⟨?_, ?_⟩⟩
  · simp only [callFunc, Sem.run_bind, program, Sem.run, Result.andThen_ok, hf, hname, hbody, Bool.false_eq_true, if_false]
    rfl
  · rw [(noLst_args hn).2.1 hvs]
    exact Calls.mono (h2 w) fun e w' ⟨he, hb⟩ => ⟨_, he, rfl, hb⟩
/-- the same, of a call that asks something of the world -/
theorem spec_of_callsG {P : Program} {f : Nat} {sp : SpecSh} {m : SpecSem} {fn : Func} (hf : P.funcs[f]? = some fn) (hname : (fn.name == "runtime.NumGoroutine") = false) (hbody : fn.body.isNone = false)
    (h : ∀ cs, m.pre cs → Fits sp.sh (m.out cs) ∧ ∀ w, m.g.G w → Calls P f (denL cs hid0 (placeL sp.args 0).1).toArray w fun e w' => e = .returned ((place sp.res 0).1.den (m.out cs) hid0) ∧ Below w.heap.size w w') (hn : noLst sp.args = true := by rfl) : SpecOK P f sp m := by
  intro cs hpre
  obtain ⟨h1, h2⟩ := h cs hpre
  refine ⟨h1, fun vs w hg hvs => .inr ⟨?_, ?_⟩⟩
  · simp only [callFunc, Sem.run_bind, program, Sem.run, Result.andThen_ok, hf, hname, hbody, Bool.false_eq_true, if_false]
    rfl
  · rw [(noLst_args hn).2.1 hvs]
    exact Calls.mono (h2 w hg) fun e w' ⟨he, hb⟩ => ⟨_, he, rfl, hb⟩
theorem eq_t {a b : Int} : (Cmp.den .eq a b = true) ↔ a = b := by simp [Cmp.den]
theorem eq_f {a b : Int} : (Cmp.den .eq a b = false) ↔ ¬ a = b := by simp [Cmp.den]
theorem lt_t {a b : Int} : (Cmp.den .lt a b = true) ↔ a < b := by simp [Cmp.den]
theorem lt_f {a b : Int} : (Cmp.den .lt a b = false) ↔ b ≤ a := by simp [Cmp.den]
theorem le_t {a b : Int} : (Cmp.den .le a b = true) ↔ a ≤ b := by simp [Cmp.den]
theorem le_f {a b : Int} : (Cmp.den .le a b = false) ↔ b < a := by simp [Cmp.den]
theorem b_dec {x : Bool} {p : Prop} [Decidable p] : (x = decide p) ↔ (x = true ↔ p) := by cases x <;> simp
/-- a told Bool: as good as what it tells -/
theorem bool_is {x y : Bool} (h : x = true ↔ y = true) : x = y := by cases x <;> cases y <;> simp_all
theorem agg_inj {l m : List Value} : Value.agg l.toArray = Value.agg m.toArray ↔ l = m := by simp
theorem tup_inj {l m : List Value} : Value.tuple l.toArray = Value.tuple m.toArray ↔ l = m := by simp
/-- a Go function's contract, as a call -/
theorem SpecOK.callsL {P : Program} {f : Nat} {sp : SpecSh} {m : SpecSem} {fn : Func} (h : SpecOK P f sp m) (hf : P.funcs[f]? = some fn) (hname : (fn.name == "runtime.NumGoroutine") = false) (hbody : fn.body.isNone = false) {cs : List Cv} (hp : m.pre cs) {vs : List Value} (w : World) (hvs : ArgsRel w cs (placeA sp.args 0).1 vs) (hg : m.g.G w := by exact trivial) :
    Calls P f vs.toArray w fun e w' => e = .returned ((place sp.res 0).1.den (m.out cs) hid0) ∧ Below w.heap.size w w' := by
  rcases (h cs hp).2 vs w hg hvs with ⟨v, w', h1, _⟩ | ⟨_, h2⟩
  · simp only [callFunc, Sem.run_bind, program, Sem.run, Result.andThen_ok, hf, hname, hbody, Bool.false_eq_true, if_false] at h1
    cases h1
  · exact Calls.mono h2 fun e w' ⟨v, he, hv, hb⟩ => ⟨by rw [he, hv], hb⟩
theorem SpecOK.calls {P : Program} {f : Nat} {sp : SpecSh} {m : SpecSem} {fn : Func} (h : SpecOK P f sp m) (hf : P.funcs[f]? = some fn) (hname : (fn.name == "runtime.NumGoroutine") = false) (hbody : fn.body.isNone = false) {cs : List Cv} (hp : m.pre cs) (w : World) (hn : noLst sp.args = true := by rfl) (hg : m.g.G w := by exact trivial) :
    Calls P f (denL cs hid0 (placeL sp.args 0).1).toArray w fun e w' => e = .returned ((place sp.res 0).1.den (m.out cs) hid0) ∧ Below w.heap.size w w' :=
  h.callsL hf hname hbody hp w ((noLst_args hn).2.2 rfl) hg
theorem wf_rng {k : IntKind} {x : Int} (h : (Lit.int k x).wf = true) : klo k ≤ x ∧ x ≤ khi k := by
  simp only [Lit.wf, Bool.and_eq_true, decide_eq_true_eq] at h
  cases k <;> simp only [klo, khi] <;> simp only [IntKind.min, IntKind.max, IntKind.bits, IntKind.signed, Bool.false_eq_true, if_false, if_true, Nat.reduceSub, Int.reducePow] at h <;> omega
def noSem : SpecSem := { pre := fun _ => False, out := fun _ => [] }
end Go.SX
