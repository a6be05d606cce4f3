/-
  The symbolic executor: operations that only look, or reckon, are told right: all together.
-/
import Derived.Test.YtmnpeneplobpdaaDoorSxEval3
namespace Go.SX
open Go
set_option linter.unusedVariables false
set_option linter.unusedSimpArgs false

def EvOK (w : World) (ρ : Env) (h : Hid) (r : Result Next) : VR → Prop
  | .val v => r = .ok (.value (v.den ρ h)) w
  | .bind e iv k => r = .ok (.value (.int k (e.den ρ))) w ∧ ∀ lo hi, iv = some (lo, hi) → lo ≤ e.den ρ ∧ e.den ρ ≤ hi
  | .need e iv => ∀ lo hi, iv = some (lo, hi) → lo ≤ e.den ρ ∧ e.den ρ ≤ hi
  | _ => True

section
variable {P : Program} {w : World} {ρ : Env} {h : Hid} {S : St} {cx : Ctx} {hp : List Blk} {B : Nat} {a : Act}

theorem EvOK.lift {s : Sem Value} {r : VR} (hv : VOK P w ρ h (s.run P w) r) : EvOK w ρ h ((do pure (.value (← s)) : Sem Next).run P w) r := by
  cases r with
  | val v => simp only [VOK] at hv; simp only [EvOK, Sem.run_bind, hv, Result.andThen_ok]; rfl
  | bind e iv k => simp only [VOK] at hv; refine ⟨?_, hv.2⟩; simp only [Sem.run_bind, hv.1, Result.andThen_ok]; rfl
  | split => trivial
  | need => exact hv.elim
  | no => trivial
theorem EvOK.lift1 {s : Sem Value} {v : SV} (hv : s.run P w = .ok (v.den ρ h) w) : EvOK w ρ h ((do pure (.value (← s)) : Sem Next).run P w) (.val v) := EvOK.lift (r := .val v) hv

theorem struct_field {d : TypeDesc} {l : List (TypeId × Nat)} (hd : tdOf d = .struct l) {f : Nat} {t o : Nat} (hf : l[f]? = some (t, o)) :
    ∃ (fs : Array Field) (F : Field), d = .struct fs ∧ fs[f]? = some F ∧ F.type = t ∧ F.offset = o := by
  obtain ⟨fs, rfl, hl⟩ := td_struct hd
  rw [← hl, List.getElem?_map, Array.getElem?_toList] at hf
  cases hF : fs[f]? with
  | none => rw [hF] at hf; cases hf
  | some F => rw [hF] at hf; injection hf with hf; injection hf with h1 h2; exact ⟨fs, F, rfl, hF, h1, h2⟩

theorem fieldPlaces_run (C : CxTy P cx) : ∀ {l : List Field} {pl : List (Nat × Nat)}, fieldPlaces cx (l.map fun f => (f.type, f.offset)) = some pl →
    (l.mapM (fun f => do pure (f.offset, ← sizeOf f.type) : Field → Sem (Nat × Nat))).run P w = .ok pl w
  | [], pl, hp => by simp only [List.map_nil, fieldPlaces, Option.some.injEq] at hp; subst hp; rfl
  | f :: r, pl, hp => by
    simp only [List.map_cons, fieldPlaces] at hp
    split at hp
    · rename_i ty l hty hl
      injection hp with hp; subst hp
      rw [List.mapM_cons]
      have ih := fieldPlaces_run C hl
      simp only [pure] at ih ⊢
      simp only [Sem.run_bind, run_sizeOf' (C.ty _ _ hty), Result.andThen_ok, ih, Sem.run]
    · cases hp

theorem idx_sound {a : At} {len n : Nat} (F : FOK S ρ) (hx : idx S a len = .at n) : a.den ρ = n ∧ n < len := by
  unfold idx at hx
  split at hx
  · rename_i m hm
    split at hx
    · rename_i hh
      simp only [Bool.and_eq_true, ile_iff, ilt_iff] at hh
      injection hx with hx; subst hx
      rw [St.lit_sound F hm]; omega
    · cases hx
  · split at hx
    · split at hx
      · cases hx
      · split at hx <;> cases hx
    · cases hx

theorem equal_bool {t : TypeId} (hu : P.underlying t = some .bool) (x y : Bool) : (Op.equal t (.bool x) (.bool y)).run P w = .ok (x == y) w := by
  have h1 : Op.equal t (.bool x) (.bool y) = Op.equalIn (9999 + 1) t (.bool x) (.bool y) := rfl
  rw [h1, Op.equalIn]
  simp only [Sem.run_bind, run_under hu, Result.andThen_ok]
  rfl
theorem checkKey_int {t : TypeId} {k : IntKind} (hu : P.underlying t = some (.int k)) (em : Bool) (kk : IntKind) (x : Int) : (Instr.checkKey em 10000 t (.int kk x)).run P w = .ok () w := by
  have h1 : Instr.checkKey em 10000 t (.int kk x) = Instr.checkKey em (9999 + 1) t (.int kk x) := rfl
  rw [h1, Instr.checkKey]
  simp only [Sem.run_bind, run_under hu, Result.andThen_ok]
  rfl
theorem bound_sound (F : FOK S ρ) (hs : a.tmps.toList = denL ρ h S.slots) {x : Option Operand} {n l : Nat} (hb : bound S x n = some l) :
    (x = none ∧ l = n) ∨ ∃ o k, x = some o ∧ a.eval o = .int k (l : Int) := by
  unfold bound at hb
  split at hb
  · injection hb with hb; exact .inl ⟨rfl, hb.symm⟩
  · rename_i o
    split at hb
    · rename_i k p ho
      split at hb
      · rename_i z hz
        split at hb
        · rename_i h0
          injection hb with hb
          rw [ile_iff] at h0
          refine .inr ⟨o, k, rfl, ?_⟩
          rw [opd_sound hs ho, SV.den, St.lit_sound F hz, ← hb]
          congr 1
          omega
        · cases hb
      · cases hb
    · cases hb
theorem run_sliceBound {k : IntKind} {l y : Nat} {code : BoundsCode} (hl : l ≤ y) : (Instr.sliceBound (.int k (l : Int)) y code).run P w = .ok l w := by
  have : (0 : Int) ≤ (l : Int) ∧ (l : Int) ≤ (y : Int) := by omega
  simp only [Instr.sliceBound, asIntOf, Sem.run_bind, pure, Sem.run, Result.andThen_ok, this, and_self, if_true, Int.toNat_natCast]
theorem run_sliceBounds {low high : Option Operand} {l hi len cap : Nat} (hlo : (low = none ∧ l = 0) ∨ ∃ o k, low = some o ∧ a.eval o = .int k (l : Int)) (hhi : (high = none ∧ hi = len) ∨ ∃ o k, high = some o ∧ a.eval o = .int k (hi : Int)) (h1 : l ≤ hi) (h2 : hi ≤ cap) :
    (Instr.sliceBounds true len cap (low.map a.eval) (high.map a.eval) none).run P w = .ok (l, hi, cap) w := by
  rcases hlo with ⟨rfl, rfl⟩ | ⟨o, k, rfl, ho⟩ <;> rcases hhi with ⟨rfl, rfl⟩ | ⟨o', k', rfl, ho'⟩ <;>
    simp only [Instr.sliceBounds, Option.map_none, Option.map_some, Sem.run_bind, pure, Sem.run, Result.andThen_ok, *, run_sliceBound h1, run_sliceBound h2, Option.isSome_none, if_true, Bool.false_eq_true, if_false]
/-! ### guarded values, picks -/
theorem resV_den {S1 : St} (F : FOK S1 ρ) (v : SV) : (resV S1 v).den ρ h = v.den ρ h := by
  cases v <;> try rfl
  rename_i g v
  simp only [resV]
  cases hd : S1.decide g with
  | none => rfl
  | some b =>
    have := St.decide_sound F hd
    cases b <;> simp only [SV.den, this, if_true, Bool.false_eq_true, if_false, denL]
theorem pickV_sound {r : Result Next} (F : FOK S ρ) {e : BE} {u v : SV} (hr : r = .ok (.value (if e.den ρ then u.den ρ h else v.den ρ h)) w) : EvOK w ρ h r (pickV S e u v) := by
  have ht : e.den ρ = true → (resV (S.assume e true) u).den ρ h = u.den ρ h := fun he => resV_den (St.assume_sound F he) u
  have hf : e.den ρ = false → (resV (S.assume e false) v).den ρ h = v.den ρ h := fun he => resV_den (St.assume_sound F he) v
  unfold pickV
  split
  · rename_i x y hx hy
    rw [hx] at ht
    rw [hy] at hf
    simp only [EvOK, hr, SV.den, bite_den]
    cases he : e.den ρ with
    | true => simp only [if_true]; rw [← ht he]; rfl
    | false => simp only [Bool.false_eq_true, if_false]; rw [← hf he]; rfl
  · rename_i k x k' y hx hy
    rw [hx] at ht
    rw [hy] at hf
    split
    · rename_i hk
      rw [keq_iff] at hk
      subst hk
      refine ⟨?_, fun lo hi hh => ?_⟩
      · rw [hr]
        simp only [IE.den]
        cases he : e.den ρ with
        | true => simp only [if_true]; rw [← ht he]; rfl
        | false => simp only [Bool.false_eq_true, if_false]; rw [← hf he]; rfl
      · obtain ⟨h1, h2⟩ := hull2_sound F hh
        simp only [IE.den]
        split <;> omega
    · trivial
  · trivial

/-! ### rows that lists tell of -/
theorem lidx_sound (F : FOK S ρ) {n : Nat} {b : At} (hl : lidx S n b = .at) : 0 ≤ b.den ρ ∧ b.den ρ < ((ρ.get n).list.length : Int) := by
  unfold lidx at hl
  split at hl
  · cases hl
  · rename_i m hm
    have hd := defOf_sound F.defs hm
    split at hl
    · rename_i h1
      have e1 := St.decide_sound F h1
      split at hl
      · rename_i h2
        have e2 := St.decide_sound F h2
        have f1 : (At.z 0).den ρ ≤ b.den ρ := of_decide_eq_true e1
        have f2 : b.den ρ < (At.v m).den ρ := of_decide_eq_true e2
        have f3 : (At.v m).den ρ = ((ρ.get n).list.length : Int) := hd
        have f4 : (At.z 0).den ρ = 0 := rfl
        omega
      · cases hl
      · cases hl
    · cases hl
    · cases hl
theorem listOf_sound (H : HeapOK ρ h B hp w) {id n : Nat} (hl : listOf hp id = some n) : RowIs w (h.σ id) (ρ.get n).list := by
  unfold listOf at hl
  split at hl
  · rename_i m e hb
    split at hl
    · cases hl
    · rename_i hge
      injection hl with hl; subst hl
      simp only [Bool.or_eq_true, Bool.not_eq_true', not_or, Bool.not_eq_true, Bool.not_eq_false] at hge
      have := (H.lists.own _ _ _ hb hge.1).row
      rw [pE_iff.1 hge.2] at this
      exact rowS_one.1 this
  · rename_i m k hb
    split at hl
    · rename_i hk
      rw [nbeq_iff] at hk
      injection hl with hl; subst hl
      have := H.lists.view _ _ _ hb
      rw [hk] at this
      exact rowS_one.1 this
    · cases hl
  · cases hl
theorem recOf_cases {hp : List Blk} {id n k : Nat} (hl : recOf hp id = some (n, k)) : ((∃ e, hp[id]? = some (.own n e) ∧ isG e = false ∧ stE e = k ∧ viewK hp id = k) ∨ (hp[id]? = some (.view n (viewK hp id)) ∧ kS (viewK hp id) = k)) ∧ 1 < k := by
  unfold recOf at hl
  split at hl
  · rename_i m e hb
    split at hl
    · cases hl
    · rename_i hge
      simp only [Bool.or_eq_true, Bool.not_eq_true', not_or, Bool.not_eq_true, Bool.not_eq_false] at hge
      injection hl with hl; injection hl with h1 h2; subst h1; subst h2
      exact ⟨.inl ⟨e, hb, hge.1, rfl, by unfold viewK; rw [hb]⟩, blt_iff.1 hge.2⟩
  · rename_i m j hb
    split at hl
    · rename_i hk
      injection hl with hl; injection hl with h1 h2; subst h1; subst h2
      have hv : viewK hp id = j := by unfold viewK; rw [hb]
      rw [hv]
      exact ⟨.inr ⟨hb, rfl⟩, blt_iff.1 hk⟩
    · cases hl
  · cases hl
theorem recOf_sound (H : HeapOK ρ h B hp w) {id n k : Nat} (hl : recOf hp id = some (n, k)) : RowS w k (h.σ id) (ρ.get n).list := by
  obtain ⟨⟨e, h1, h2, h3, _⟩ | ⟨h1, h2⟩, _⟩ := recOf_cases hl
  · subst h3; exact (H.lists.own _ _ _ h1 h2).row
  · have := H.lists.view _ _ _ h1
    rw [h2] at this
    exact this
theorem cidx_sound (F : FOK S ρ) {n k : Nat} {b : At} (hl : cidx S n k b = .at) : 0 ≤ b.den ρ ∧ b.den ρ < (((ρ.get n).list.length / k : Nat) : Int) := by
  unfold cidx at hl
  split at hl
  · cases hl
  · rename_i m hm
    have hd := defOf_sound F.defs hm
    split at hl
    · rename_i h1
      have e1 := St.decide_sound F h1
      split at hl
      · rename_i h2
        have e2 := St.decide_sound F h2
        have f1 : (At.z 0).den ρ ≤ b.den ρ := of_decide_eq_true e1
        have f2 : b.den ρ < (At.v m).den ρ := of_decide_eq_true e2
        have f3 : (At.v m).den ρ = (((ρ.get n).list.length / k : Nat) : Int) := hd
        have f4 : (At.z 0).den ρ = 0 := rfl
        omega
      · cases hl
      · cases hl
    · cases hl
    · cases hl
/-- a place in a row of records -/
theorem rec_place (F : FOK S ρ) {w : World} {n k : Nat} {v : Value} (hr : RowS w k v (ρ.get n).list) {b : At} (hi : cidx S n k b = .at) :
    ∃ x m cap, v = .slice (some x) m cap ∧ (ρ.get n).list.length = m * k ∧ 0 < k ∧ 0 ≤ b.den ρ ∧ b.den ρ < (m : Int) ∧ (b.den ρ).toNat * k + k ≤ (ρ.get n).list.length ∧
      ∀ (i : Nat) (y : Int), (ρ.get n).list[i]? = some y → w.cell? (x.add i) = some (.int .i64 y) := by
  obtain ⟨i1, i2⟩ := cidx_sound F hi
  rcases hr with ⟨_, h2⟩ | ⟨x, m, cap, h1, h2, h3, h4, h5, h6⟩
  · rw [h2] at i2; simp at i2; omega
  · rw [h2, Nat.mul_div_cancel _ h3] at i2
    refine ⟨x, m, cap, h1, h2, h3, i1, i2, ?_, h6⟩
    have : (b.den ρ).toNat + 1 ≤ m := by omega
    have := Nat.mul_le_mul_right k this
    rw [Nat.add_mul, Nat.one_mul] at this
    omega
theorem addr_add2 (x : Addr) (i j : Nat) : (x.add i).add j = x.add (i + j) := by
  unfold Addr.add
  by_cases hi : i = 0
  · subst hi; simp
  · by_cases hj : j = 0
    · subst hj; simp [hi]
    · have : ¬ i + j = 0 := by omega
      simp [hi, hj, Nat.add_assoc]
theorem recVars_sound (F : FOK S ρ) {h : Hid} {n k : Nat} {b : At} : ∀ (m o : Nat) {l : List SV} {q : Nat}, recVars S n k b m o = (some l, q) → (b.den ρ).toNat * k + o + m ≤ (ρ.get n).list.length →
    denL ρ h l = ints (((ρ.get n).list.drop ((b.den ρ).toNat * k + o)).take m)
  | 0, o, l, q, hr, hle => by
    simp only [recVars, Prod.mk.injEq, Option.some.injEq] at hr
    rw [← hr.1]; simp [denL, ints]
  | m + 1, o, l, q, hr, hle => by
    simp only [recVars] at hr
    split at hr
    · cases hr
    · rename_i v hv
      split at hr
      · rename_i l' q' hl'
        simp only [Prod.mk.injEq, Option.some.injEq] at hr
        rw [← hr.1]
        have hd := defOf_sound F.defs hv
        have ih := recVars_sound F (h := h) m (o + 1) hl' (by omega)
        have hlt : (b.den ρ).toNat * k + o < (ρ.get n).list.length := by omega
        have e1 : (At.v v).den ρ = (ρ.get n).list[(b.den ρ).toNat * k + o] := by
          have : (At.v v).den ρ = (ρ.get n).list.getD ((b.den ρ).toNat * k + o) 0 := hd
          rw [this, List.getD_eq_getElem?_getD, List.getElem?_eq_getElem hlt]; rfl
        rw [← List.getElem_cons_drop hlt]
        simp only [denL, SV.den, e1, List.take_succ_cons, ints, List.map_cons]
        rw [ih]; rfl
      · cases hr
/-- the cells of a record are read -/
theorem run_loadCellsA {P : Program} {w : World} {x : Addr} {ys : List Value} (hy : ∀ j u, ys[j]? = some u → w.cell? (x.add j) = some u) :
    ∀ (n i : Nat) (acc : Array Value), i + n = ys.length → (loadCellsFrom x i n acc).run P w = .ok (acc ++ (ys.drop i).toArray) w := by
  intro n
  induction n with
  | zero => intro i acc h; rw [List.drop_of_length_le (by omega)]; simp [loadCellsFrom, Sem.run, pure]
  | succ n ih =>
    intro i acc h
    have hlt : i < ys.length := by omega
    have hc := hy i ys[i] (List.getElem?_eq_getElem hlt)
    simp only [loadCellsFrom, load, Sem.run_bind, Sem.run, hc, Result.andThen_ok]
    rw [ih (i + 1) _ (by omega)]
    congr 1
    rw [← List.getElem_cons_drop hlt]
    simp
theorem gidx_sound (F : FOK S ρ) {n : Nat} {b : At} (hl : gidx S n b = .at) : 0 ≤ b.den ρ ∧ b.den ρ < ((dec (ρ.get n).list).length : Int) := by
  unfold gidx at hl
  split at hl
  · cases hl
  · rename_i m hm
    have hd := defOf_sound F.defs hm
    split at hl
    · rename_i h1
      have e1 := St.decide_sound F h1
      split at hl
      · rename_i h2
        have e2 := St.decide_sound F h2
        have f1 : (At.z 0).den ρ ≤ b.den ρ := of_decide_eq_true e1
        have f2 : b.den ρ < (At.v m).den ρ := of_decide_eq_true e2
        have f3 : (At.v m).den ρ = ((dec (ρ.get n).list).length : Int) := hd
        have f4 : (At.z 0).den ρ = 0 := rfl
        omega
      · cases hl
      · cases hl
    · cases hl
    · cases hl
theorem gridOf_cases {hp : List Blk} {id n : Nat} (hl : gridOf hp id = some n) : ∃ e, hp[id]? = some (.own n e) ∧ isG e = true := by
  unfold gridOf at hl
  split at hl
  · rename_i m e hb
    split at hl
    · rename_i hge; injection hl with hl; subst hl; exact ⟨e, hb, hge⟩
    · cases hl
  · cases hl
theorem Rows.length {w : World} : ∀ {vs : List Value} {L : List (List Int)}, Rows w vs L → vs.length = L.length
  | [], [], _ => rfl
  | v :: vs, xs :: L, h => by simp only [List.length_cons, Rows.length h.2]
theorem Rows.get {w : World} : ∀ {vs : List Value} {L : List (List Int)} {i : Nat} {v : Value}, Rows w vs L → vs[i]? = some v → ∃ xs, L[i]? = some xs ∧ RowIs w v xs
  | v :: vs, xs :: L, 0, u, h, hu => by simp only [List.getElem?_cons_zero, Option.some.injEq] at hu; subst hu; exact ⟨xs, rfl, h.1⟩
  | v :: vs, xs :: L, i + 1, u, h, hu => by
    obtain ⟨ys, h1, h2⟩ := Rows.get (i := i) h.2 (by simpa using hu)
    exact ⟨ys, by simpa using h1, h2⟩
theorem GF.get : ∀ {vs : List Value} {L : List (List Int)} {i g : Nat} {v : Value} {xs : List Int}, vs[i]? = some v → L[i]? = some xs → xs ≠ [] → v.ownBlock = some g → GF vs L g
  | v :: vs, xs :: L, 0, g, u, ys, hu, hy, hne, hg => by
    simp only [List.getElem?_cons_zero, Option.some.injEq] at hu hy; subst hu; subst hy; exact .inl ⟨hne, hg⟩
  | v :: vs, xs :: L, i + 1, g, u, ys, hu, hy, hne, hg => .inr (GF.get (i := i) (by simpa using hu) (by simpa using hy) hne hg)
  | [], _, i, g, u, ys, hu, hy, hne, hg => by simp at hu
  | _ :: _, [], i, g, u, ys, hu, hy, hne, hg => by simp at hy
/-- what a row of rows is -/
theorem GridIs.form {w : World} {B : Nat} {e : TypeId} {v : Value} {xs : List Int} {vs : List Value} {L : List (List Int)} (h : GridIs w B e v xs vs L) :
    dec xs = L ∧ vs.length = L.length ∧ L.length ≤ maxLen ∧ ((v = .slice none 0 0 ∧ L = []) ∨ ∃ x cap, v = .slice (some x) L.length cap ∧ ∀ (i : Nat) (u : Value), vs[i]? = some u → w.cell? (x.add i) = some u) := by
  obtain ⟨h1, h2, h3⟩ := h
  have hl := h3.length
  refine ⟨by rw [h1, dec_enc], hl, ?_⟩
  rcases h2.2 with ⟨q1, q2⟩ | ⟨g, cap, cur, q1, q2, q3, q4, q5, q6, q7⟩
  · have : L = [] := List.eq_nil_of_length_eq_zero (by omega)
    subst this
    exact ⟨by simp, .inl ⟨q1, rfl⟩⟩
  · refine ⟨by omega, .inr ⟨⟨g, 0, none⟩, cap, by rw [q1, hl], fun i u hu => ?_⟩⟩
    subst q1
    exact h2.cells (g := g) rfl i u hu
theorem gridOf_sound (H : HeapOK ρ h B hp w) {id n : Nat} (hl : gridOf hp id = some n) : ∃ e vs, hp[id]? = some (.own n e) ∧ isG e = true ∧ GridIs w B e (h.σ id) (ρ.get n).list vs (dec (ρ.get n).list) := by
  obtain ⟨e, hb, hge⟩ := gridOf_cases hl
  obtain ⟨vs, L, hg, _⟩ := H.lists.grid _ _ _ hb hge
  have := hg.form.1
  subst this
  exact ⟨e, vs, hb, hge, hg⟩
theorem lenR_rng {xs : List (List Int)} (hl : xs.length ≤ maxLen) : ∀ lo hi, some ((0 : Int), lenMax) = some (lo, hi) → lo ≤ (xs.length : Int) ∧ (xs.length : Int) ≤ hi := by
  intro lo hi e
  injection e with e; injection e with e1 e2
  subst e1; subst e2
  simp only [maxLen] at hl
  simp only [lenMax]
  omega
theorem len_rng {xs : List Int} (hl : xs.length ≤ maxLen) : ∀ lo hi, some ((0 : Int), lenMax) = some (lo, hi) → lo ≤ (xs.length : Int) ∧ (xs.length : Int) ≤ hi := by
  intro lo hi e
  injection e with e; injection e with e1 e2
  subst e1; subst e2
  simp only [maxLen] at hl
  simp only [lenMax]
  omega
theorem cnt_rng {n : Nat} (hl : n ≤ maxLen) : ∀ lo hi, some ((0 : Int), lenMax) = some (lo, hi) → lo ≤ (n : Int) ∧ (n : Int) ≤ hi := by
  intro lo hi e
  injection e with e; injection e with e1 e2
  subst e1; subst e2
  simp only [maxLen] at hl
  simp only [lenMax]
  omega
theorem run_len_slice {T e : TypeId} (hu : P.underlying T = some (.slice e)) (ty : TypeId) (p : Option Addr) (n c : Nat) : (Builtin.len_ #[T] ty #[.slice p n c]).run P w = .ok (goInt n) w := by
  simp [Builtin.len_, run_under hu, Sem.run, pure]

set_option maxHeartbeats 2000000 in
theorem evalV_sound (C : CxTy P cx) (H : HeapOK ρ h B hp w) (F : FOK S ρ) (hs : a.tmps.toList = denL ρ h S.slots) (o : Oper) :
    EvOK w ρ h ((execOp a.eval o).run P w) (evalV cx S hp o) := by
  obtain ⟨dst, op, type, pos, after, guard⟩ := o
  cases op
  case move x =>
    simp only [evalV]
    split
    · rename_i v hv; simp only [EvOK, execOp, opd_sound hs hv]; rfl
    · trivial
  case assign x =>
    simp only [evalV]
    split
    · rename_i v hv; simp only [EvOK, execOp, opd_sound hs hv]; rfl
    · trivial
  case pick c x y =>
    simp only [evalV]
    split
    · rename_i e he
      cases hd : S.decide e with
      | none =>
        simp only []
        split
        · split
          · rename_i u v hu hv
            refine pickV_sound F ?_
            have hc : a.eval c = .bool (e.den ρ) := opd_sound hs he
            simp only [execOp, hc, asBool, Sem.run_bind, pure, Sem.run, Result.andThen_ok]
            cases e.den ρ <;> simp only [if_true, Bool.false_eq_true, if_false, opd_sound hs hu, opd_sound hs hv]
          · trivial
        · trivial
      | some b =>
        have hb := St.decide_sound F hd
        have hc : a.eval c = .bool b := by rw [opd_sound hs he, SV.den, hb]
        cases b
        · simp only []
          split
          · rename_i v hv; simp only [EvOK, execOp, hc, asBool, Sem.run_bind, pure, Sem.run, Result.andThen_ok, Bool.false_eq_true, if_false, opd_sound hs hv]
          · trivial
        · simp only []
          split
          · rename_i v hv; simp only [EvOK, execOp, hc, asBool, Sem.run_bind, pure, Sem.run, Result.andThen_ok, if_true, opd_sound hs hv]
          · trivial
    · trivial
  case build T ps =>
    simp only [evalV]
    split
    · rename_i ty l hty hl
      have hT := C.ty _ _ hty
      obtain ⟨d, hu, hd⟩ := hT.under
      have hparts : (ps.map fun x => match x with | (i, x) => (i, a.eval x)).toList = l.map (fun p => (p.1, p.2.den ρ h)) := by
        rw [← pairUp_sound hs hl, Array.toList_map]
      split
      · rename_i fs z hds hz
        rw [hds] at hd
        obtain ⟨FS, rfl, hFS⟩ := td_struct hd
        split
        · rename_i pl hpl
          split
          · rename_i cs hcs
            refine EvOK.lift1 ?_
            have hzr := fun w => run_zeroValue' (P := P) (w := w) hT hz ρ h
            have hpl' := fieldPlaces_run (P := P) (w := w) C (l := FS.toList) (by rw [hFS]; exact hpl)
            have hm : (FS.mapM (fun f => do pure (f.offset, ← sizeOf f.type) : Field → Sem (Nat × Nat))).run P w = .ok pl.toArray w := by
              rw [Array.mapM_eq_mapM_toList]
              simp only [Sem.run_map, hpl', Result.andThen_ok]
            have hfill := fillS_sound (ρ := ρ) (h := h) (place := fun i => pl.toArray[i]?) (placeS := fun i => pl[i]?) (fun i => by simp) hcs
            simp only [Instr.build, Sem.run_bind, hzr, Result.andThen_ok, run_under hu, hm, SV.den, Value.cells, hparts]
            rw [hfill]
            rfl
          · trivial
        · trivial
      · rename_i n e z hds hz
        rw [hds] at hd
        have hda := td_arr hd
        subst hda
        split
        · rename_i te hte
          split
          · rename_i cs hcs
            refine EvOK.lift1 ?_
            have hzr := fun w => run_zeroValue' (P := P) (w := w) hT hz ρ h
            have hfill := fillS_sound (ρ := ρ) (h := h) (place := fun i => some (i * te.size, te.size)) (placeS := fun i => some (i * te.size, te.size)) (fun i => rfl) hcs
            simp only [Instr.build, Sem.run_bind, hzr, Result.andThen_ok, run_under hu, run_sizeOf' (C.ty _ _ hte), SV.den, Value.cells, hparts]
            rw [hfill]
            rfl
          · trivial
        · trivial
      · trivial
    · trivial
  case load T x =>
    simp only [evalV]
    split
    · rename_i id off hx
      split
      · rename_i b hb
        split
        · rename_i cs hcs
          split
          · rename_i v hv
            refine EvOK.lift1 ?_
            obtain ⟨rest, E, hblk⟩ := H.cells hb hcs
            simp only [Instr.loadAt, opd_sound hs hx, SV.den, Instr.sureAddr, Sem.run_bind, pure, Sem.run, Result.andThen_ok]
            exact run_loadVar' C hblk hv
          · trivial
        · trivial
      · trivial
    · rename_i id b hx
      split
      · rename_i n s0 z0 b0 q0 hl hty
        split
        · rename_i hi
          obtain ⟨i1, i2⟩ := lidx_sound F hi
          have hT := C.ty _ _ hty
          have hrow := listOf_sound H hl
          generalize hxs : (ρ.get n).list = xs at hrow i2
          have hlt : (b.den ρ).toNat < xs.length := by omega
          have hget : xs[(b.den ρ).toNat]? = some xs[(b.den ρ).toNat] := List.getElem?_eq_getElem hlt
          rcases hrow with ⟨_, h2⟩ | ⟨x', cap, hv, h1, h2, h3⟩
          · rw [h2] at hlt; simp at hlt
          · have hcell := h3 _ _ hget
            have hnth : xs.getD (b.den ρ).toNat 0 = xs[(b.den ρ).toNat] := by rw [List.getD_eq_getElem?_getD, hget]; rfl
            refine ⟨?_, fun lo hi' e => ?_⟩
            · simp only [execOp, Instr.loadAt, opd_sound hs hx, SV.den, hv, elemP, Instr.sureAddr, Sem.run_bind, pure, Sem.run, Result.andThen_ok, loadVar, run_isAgg' hT, TD.isAgg, Bool.false_eq_true, if_false, load, hcell, IE.den, hxs, hnth]
            · simp only [IE.den, hxs, hnth]
              have hm := F.lst n xs[(b.den ρ).toNat] (by rw [hxs]; exact List.getElem_mem hlt)
              injection e with e
              injection e with e1 e2
              subst e1; subst e2
              exact hm
        · trivial
      · trivial
    · rename_i id b k o hx
      split
      · rename_i n k' z0 b0 q0 hl hty
        split
        · rename_i hc
          simp only [Bool.and_eq_true, nbeq_iff, blt_iff] at hc
          obtain ⟨rfl, ho⟩ := hc
          split
          · rename_i hi
            have hT := C.ty _ _ hty
            obtain ⟨x', m, cap, hv, h1, h2, h3, h4, h5, h6⟩ := rec_place F (recOf_sound H hl) hi
            have hlt : (b.den ρ).toNat * k + o < (ρ.get n).list.length := by omega
            have hget : (ρ.get n).list[(b.den ρ).toNat * k + o]? = some (ρ.get n).list[(b.den ρ).toNat * k + o] := List.getElem?_eq_getElem hlt
            have hcell := h6 _ _ hget
            have hnth : (ρ.get n).list.getD ((b.den ρ).toNat * k + o) 0 = (ρ.get n).list[(b.den ρ).toNat * k + o] := by rw [List.getD_eq_getElem?_getD, hget]; rfl
            refine ⟨?_, fun lo hi' e => ?_⟩
            · simp only [execOp, Instr.loadAt, opd_sound hs hx, SV.den, hv, elemP, Instr.sureAddr, Sem.run_bind, pure, Sem.run, Result.andThen_ok, loadVar, run_isAgg' hT, TD.isAgg, Bool.false_eq_true, if_false, load, hcell, IE.den, hnth]
            · simp only [IE.den, hnth]
              have hm := F.lst n (ρ.get n).list[(b.den ρ).toNat * k + o] (List.getElem_mem hlt)
              injection e with e
              injection e with e1 e2
              subst e1; subst e2
              exact hm
          · trivial
        · trivial
      · rename_i n k' fs sz zs b0 q0 hl hty
        split
        · rename_i hc
          simp only [Bool.and_eq_true, nbeq_iff] at hc
          obtain ⟨⟨⟨⟨hk1, hk2⟩, hk3⟩, hzl⟩, hall⟩ := hc
          subst hk1; subst hk2
          split
          · rename_i hi
            have hT := C.ty _ _ hty
            obtain ⟨x', m, cap, hv, h1, h2, h3, h4, h5, h6⟩ := rec_place F (recOf_sound H hl) hi
            split
            · rename_i l q hrv
              have hden := recVars_sound F (h := h) _ _ hrv (by omega)
              have hlen : (((ρ.get n).list.drop ((b.den ρ).toNat * k + 0)).take k).length = k := by
                rw [List.length_take, List.length_drop]; omega
              refine EvOK.lift1 ?_
              have hcells : ∀ j u, (denL ρ h l)[j]? = some u → w.cell? ((x'.add ((b.den ρ).toNat * k + 0)).add j) = some u := by
                intro j u hu
                rw [hden] at hu
                simp only [ints, List.getElem?_map, Option.map_eq_some_iff] at hu
                obtain ⟨y, hy, rfl⟩ := hu
                have hj : j < k := by rw [← hlen]; exact (List.getElem?_eq_some_iff.1 hy).1
                rw [List.getElem?_take, if_pos hj, List.getElem?_drop] at hy
                rw [addr_add2]
                exact h6 _ _ hy
              have hlk : (denL ρ h l).length = k := by rw [hden, ints_length, hlen]
              have hrun := run_loadCellsA (P := P) (w := w) hcells k 0 #[] (by omega)
              simp only [Instr.loadAt, opd_sound hs hx, SV.den, hv, elemP, Instr.sureAddr, Sem.run_bind, pure, Sem.run, Result.andThen_ok, loadVar, run_isAgg' hT, TD.isAgg, if_true, run_sizeOf' hT, loadCells, hk3, Nat.add_zero] at hrun ⊢
              rw [hrun]
              simp
            · rename_i q hrv
              split
              · rename_i hq
                rw [blt_iff] at hq
                intro lo hi' e
                have hlt : (b.den ρ).toNat * k + q < (ρ.get n).list.length := by omega
                have hget : (ρ.get n).list[(b.den ρ).toNat * k + q]? = some (ρ.get n).list[(b.den ρ).toNat * k + q] := List.getElem?_eq_getElem hlt
                have hnth : (ρ.get n).list.getD ((b.den ρ).toNat * k + q) 0 = (ρ.get n).list[(b.den ρ).toNat * k + q] := by rw [List.getD_eq_getElem?_getD, hget]; rfl
                have hm := F.lst n (ρ.get n).list[(b.den ρ).toNat * k + q] (List.getElem_mem hlt)
                injection e with e
                injection e with e1 e2
                subst e1; subst e2
                simp only [IE.den, hnth]
                exact hm
              · trivial
          · trivial
        · trivial
      · trivial
    · trivial
  case nilCheck x =>
    simp only [evalV]
    split
    · rename_i id off hx; simp only [EvOK, execOp, opd_sound hs hx, SV.den]; rfl
    · rename_i f c d hx; simp only [EvOK, execOp, opd_sound hs hx, SV.den]; rfl
    · rename_i id dd len sz hx; simp only [EvOK, execOp, opd_sound hs hx, SV.den]; rfl
    · trivial
  case binOp op T x y yT =>
    simp only [evalV]
    split
    · rename_i k p k' q hx hy
      have e1 : a.eval x = .int k (p.den ρ) := opd_sound hs hx
      have e2 : a.eval y = .int k' (q.den ρ) := opd_sound hs hy
      have hsh : (op = .shl ∨ op = .shr) → EvOK w ρ h ((execOp a.eval ⟨dst, .binOp op T x y yT, type, pos, after, guard⟩).run P w) (binShift S op k p q) := fun ho => by
        refine EvOK.lift ?_
        simp only [Sem.run_bind, e1, e2, eqGuard_int, Result.andThen_ok]
        exact binShift_sound F op ho T k k' p q
      have hin : keq k k' = true → EvOK w ρ h ((execOp a.eval ⟨dst, .binOp op T x y yT, type, pos, after, guard⟩).run P w) (binInt S op k p q) := fun hk => by
        rw [keq_iff] at hk; subst hk
        refine EvOK.lift ?_
        simp only [Sem.run_bind, e1, e2, eqGuard_int, Result.andThen_ok]
        exact binInt_sound F op T k p q
      split
      · exact hsh (.inl rfl)
      · exact hsh (.inr rfl)
      · split
        · rename_i hk; exact hin hk
        · trivial
    · rename_i p q hx hy
      have e1 : a.eval x = .bool (p.den ρ) := opd_sound hs hx
      have e2 : a.eval y = .bool (q.den ρ) := opd_sound hs hy
      split
      · rename_i ty1 ty2 ty3 ty4 hty
        have hT := C.ty _ _ hty
        obtain ⟨d, hu, hd⟩ := hT.under
        have := td_bool hd; subst this
        refine EvOK.lift1 ?_
        simp only [Sem.run_bind, e1, e2, eqGuard_bool, Result.andThen_ok, binOp, equal_bool hu, SV.den, beqv_den]
        rfl
      · rename_i ty1 ty2 ty3 ty4 hty
        have hT := C.ty _ _ hty
        obtain ⟨d, hu, hd⟩ := hT.under
        have := td_bool hd; subst this
        refine EvOK.lift1 ?_
        simp only [Sem.run_bind, e1, e2, eqGuard_bool, Result.andThen_ok, binOp, equal_bool hu, SV.den, bnot_den, beqv_den]
        rfl
      · trivial
    · rename_i xs ys hx hy
      have e1 : a.eval x = .agg (denL ρ h xs).toArray := opd_sound hs hx
      have e2 : a.eval y = .agg (denL ρ h ys).toArray := opd_sound hs hy
      split
      · rename_i ty1 ty2 ty3 ty4 ks hty
        split
        · rename_i hn
          simp only [Bool.and_eq_true] at hn
          split
          · rename_i e he
            have hq := (C.ty _ _ hty).eqs ks rfl (denL ρ h xs) (denL ρ h ys) (e.den ρ) .eql x y w (kindS_sound hn.1) (kindS_sound hn.2) (eqCells_sound he)
            refine EvOK.lift1 ?_
            simp only [Sem.run_bind, e1, e2, hq.1, Result.andThen_ok, binOp, hq.2, SV.den]
            rfl
          · trivial
        · trivial
      · rename_i ty1 ty2 ty3 ty4 ks hty
        split
        · rename_i hn
          simp only [Bool.and_eq_true] at hn
          split
          · rename_i e he
            have hq := (C.ty _ _ hty).eqs ks rfl (denL ρ h xs) (denL ρ h ys) (e.den ρ) .neq x y w (kindS_sound hn.1) (kindS_sound hn.2) (eqCells_sound he)
            refine EvOK.lift1 ?_
            simp only [Sem.run_bind, e1, e2, hq.1, Result.andThen_ok, binOp, hq.2, SV.den, bnot_den]
            rfl
          · trivial
        · trivial
      · trivial
    · trivial
  case unOp op T x =>
    simp only [evalV]
    split
    · rename_i k p hx
      have e1 : a.eval x = .int k (p.den ρ) := opd_sound hs hx
      refine EvOK.lift ?_
      have := binInt_sound (P := P) (w := w) (h := h) F .sub 0 k (.z 0) p
      simpa only [e1, Op.unary, binOp, ne_eq, not_true_eq_false, if_false, At.den_z] using this
    · rename_i e hx
      have e1 : a.eval x = .bool (e.den ρ) := opd_sound hs hx
      refine EvOK.lift1 ?_
      simp only [e1, Op.unary, SV.den, bnot_den]
      rfl
    · trivial
  case convert src dst' x =>
    simp only [evalV]
    split
    · rename_i k0 s0 z0 b0 q0 k s1 z1 b1 q1 k2 p hsrc hdst hx
      have hT1 := C.ty _ _ hsrc
      have hT2 := C.ty _ _ hdst
      obtain ⟨d1, hu1, hd1⟩ := hT1.under
      obtain ⟨d2, hu2, hd2⟩ := hT2.under
      have e1 := td_int hd1
      have e2 := td_int hd2
      subst e1; subst e2
      have e3 : a.eval x = .int k2 (p.den ρ) := opd_sound hs hx
      have hrun : (convert src dst' (a.eval x)).run P w = .ok (.int k (k.wrap (p.den ρ))) w := by
        simp only [convert, Sem.run_bind, run_under hu1, run_under hu2, Result.andThen_ok, e3, Conv.intToInt, pure, Sem.run]
      split
      · rename_i n hn
        refine EvOK.lift1 ?_
        rw [hrun, St.lit_sound F hn]
        rfl
      · split
        · rename_i pr hr
          have h1 := St.rng_sound F (a := p) (lo := pr.1) (hi := pr.2) hr
          split
          · rename_i hw
            refine EvOK.lift1 ?_
            rw [hrun, within_id hw h1.1 h1.2]
            rfl
          · refine EvOK.lift ?_
            rw [hrun]
            exact ⟨rfl, kiv_rng⟩
        · refine EvOK.lift ?_
          rw [hrun]
          exact ⟨rfl, kiv_rng⟩
    · trivial
  case makeInterface T x =>
    simp only [evalV]
    split
    · rename_i ty v hty hv
      have hT := C.ty _ _ hty
      obtain ⟨d, hu, hd⟩ := hT.under
      split
      · trivial
      · rename_i hni
        refine EvOK.lift1 ?_
        simp only [Instr.makeInterface, Sem.run_bind, run_under hu, Result.andThen_ok, opd_sound hs hv, SV.den]
        cases d <;> first | rfl | (exfalso; exact hni (by rw [← hd]; rfl))
    · trivial
  case makeFunc fn first captured =>
    simp only [evalV]
    split
    · rename_i c d hc hd
      refine EvOK.lift1 ?_
      simp only [Instr.makeFunc, pure, Sem.run, opdsA_sound hs hc, opdsA_sound hs hd, SV.den]
    · trivial
  case fieldAddr T x f =>
    simp only [evalV]
    split
    · rename_i id off fs s0 z0 b0 q0 hx hty
      split
      · rename_i t o hf
        split
        · rename_i ty hty2
          split
          · trivial
          · rename_i hz
            obtain ⟨d, hu, hd⟩ := (C.ty _ _ hty).under
            obtain ⟨FS, FF, rfl, hF, ht, ho⟩ := struct_field hd hf
            refine EvOK.lift1 ?_
            have hsz := run_sizeOf' (P := P) (w := w) (C.ty _ _ hty2)
            have hne : ¬ ty.size = 0 := fun e => hz (nbeq_iff.2 e)
            simp only [Instr.fieldAt, Sem.run_bind, run_under hu, Result.andThen_ok, hF, opd_sound hs hx, SV.den, Instr.sureAddr, pure, Sem.run, fieldPlace, ht, hsz, hne, if_false, ho, addr_add]
        · trivial
      · trivial
    · rename_i id b k off fs s0 z0 b0 q0 hx hty
      split
      · rename_i t o n k' hf hl
        split
        · rename_i ty hty2
          split
          · trivial
          · rename_i hz
            simp only [Bool.or_eq_true, nbeq_iff, Bool.not_eq_true', not_or, Bool.not_eq_false] at hz
            obtain ⟨hne, hkk⟩ := hz
            subst hkk
            split
            · rename_i hi
              obtain ⟨x', m, cap, hv, _⟩ := rec_place F (recOf_sound H hl) hi
              obtain ⟨d, hu, hd⟩ := (C.ty _ _ hty).under
              obtain ⟨FS, FF, rfl, hF, ht, ho⟩ := struct_field hd hf
              refine EvOK.lift1 ?_
              have hsz := run_sizeOf' (P := P) (w := w) (C.ty _ _ hty2)
              simp only [Instr.fieldAt, Sem.run_bind, run_under hu, Result.andThen_ok, hF, opd_sound hs hx, SV.den, hv, elemP, Instr.sureAddr, pure, Sem.run, fieldPlace, ht, hsz, hne, if_false, ho, addr_add2, Nat.add_assoc]
            · trivial
        · trivial
      · trivial
    · trivial
  case field T x f =>
    simp only [evalV]
    split
    · rename_i cs fs s0 z0 b0 q0 hx hty
      split
      · rename_i t o hf
        split
        · rename_i v hv
          obtain ⟨d, hu, hd⟩ := (C.ty _ _ hty).under
          obtain ⟨FS, FF, rfl, hF, ht, ho⟩ := struct_field hd hf
          refine EvOK.lift1 ?_
          simp only [Instr.field, Sem.run_bind, run_under hu, Result.andThen_ok, hF, opd_sound hs hx, SV.den, asAgg, pure, Sem.run, ht, ho]
          exact run_part' C hv
        · trivial
      · trivial
    · trivial
  case indexAddr T x i =>
    simp only [evalV]
    split
    · rename_i id off k p n e s0 z0 b0 q0 hx hi hty
      split
      · rename_i te hte
        split
        · rename_i j hj
          obtain ⟨d, hu, hd⟩ := (C.ty _ _ hty).under
          have := td_arr hd; subst this
          obtain ⟨hj1, hj2⟩ := idx_sound F hj
          refine EvOK.lift1 ?_
          have hin : (0 : Int) ≤ (j : Int) ∧ (j : Int) < (n : Int) := by omega
          simp only [Instr.indexAt, opd_sound hs hi, opd_sound hs hx, SV.den, asIntOf, Sem.run_bind, pure, Sem.run, Result.andThen_ok, run_under hu, Instr.sureAddr, hj1, hin, and_self, if_true, run_sizeOf' (C.ty _ _ hte), addr_add, Int.toNat_natCast]
        · trivial
        · trivial
      · trivial
    · rename_i id dd len sz k p e s0 z0 b0 q0 hx hi hty
      split
      · rename_i te hte
        split
        · rename_i j hj
          obtain ⟨d, hu, hd⟩ := (C.ty _ _ hty).under
          have := td_slice hd; subst this
          obtain ⟨hj1, hj2⟩ := idx_sound F hj
          refine EvOK.lift1 ?_
          have hin : (0 : Int) ≤ (j : Int) ∧ (j : Int) < (len : Int) := by omega
          simp only [Instr.indexAt, opd_sound hs hi, opd_sound hs hx, SV.den, asIntOf, Sem.run_bind, pure, Sem.run, Result.andThen_ok, run_under hu, hj1, hin, and_self, if_true, run_sizeOf' (C.ty _ _ hte), addr_add, Int.toNat_natCast]
        · trivial
        · trivial
      · trivial
    · rename_i id k p e s0 z0 b0 q0 hx hi hty
      split
      · rename_i te n hte hl
        split
        · rename_i hsz
          rw [nbeq_iff] at hsz
          split
          · rename_i hli
            obtain ⟨i1, i2⟩ := lidx_sound F hli
            obtain ⟨d, hu, hd⟩ := (C.ty _ _ hty).under
            have := td_slice hd; subst this
            have hrow := listOf_sound H hl
            generalize (ρ.get n).list = xs at hrow i2
            rcases hrow with ⟨_, h2⟩ | ⟨x', cap, hv, h1, h2, h3⟩
            · rw [h2] at i2; simp at i2; omega
            · refine EvOK.lift1 ?_
              have hin : 0 ≤ p.den ρ ∧ p.den ρ < (xs.length : Int) := ⟨i1, i2⟩
              simp only [Instr.indexAt, opd_sound hs hi, opd_sound hs hx, SV.den, hv, elemP, asIntOf, Sem.run_bind, pure, Sem.run, Result.andThen_ok, run_under hu, hin, and_self, if_true, run_sizeOf' (C.ty _ _ hte), hsz, Nat.mul_one]
          · rename_i n' hne
            have : n' = n := by
              unfold lidx at hne
              split at hne
              · injection hne with hne; exact hne.symm
              · (repeat' split at hne) <;> cases hne
            subst this
            exact len_rng (listOf_sound H hl).len
          · trivial
          · trivial
        · trivial
      · rename_i te hte hnl
        split
        · rename_i n hl
          split
          · rename_i hsz
            rw [nbeq_iff] at hsz
            split
            · rename_i hli
              obtain ⟨i1, i2⟩ := gidx_sound F hli
              obtain ⟨d, hu, hd⟩ := (C.ty _ _ hty).under
              have := td_slice hd; subst this
              obtain ⟨e', vs, _, _, hgr⟩ := gridOf_sound H hl
              obtain ⟨_, g2, g3, g4⟩ := hgr.form
              generalize dec (ρ.get n).list = L at g2 g3 g4 i2
              rcases g4 with ⟨_, h2⟩ | ⟨x', cap, hv, h1⟩
              · rw [h2] at i2; simp at i2; omega
              · refine EvOK.lift1 ?_
                have hin : 0 ≤ p.den ρ ∧ p.den ρ < (L.length : Int) := ⟨i1, i2⟩
                simp only [Instr.indexAt, opd_sound hs hi, opd_sound hs hx, SV.den, hv, elemP, asIntOf, Sem.run_bind, pure, Sem.run, Result.andThen_ok, run_under hu, hin, and_self, if_true, run_sizeOf' (C.ty _ _ hte), hsz, Nat.mul_one]
            · rename_i n' hne
              have : n' = n := by
                unfold gidx at hne
                split at hne
                · injection hne with hne; exact hne.symm
                · (repeat' split at hne) <;> cases hne
              subst this
              obtain ⟨e', vs, _, _, hgr⟩ := gridOf_sound H hl
              exact lenR_rng hgr.form.2.2.1
            · trivial
            · trivial
          · trivial
        · split
          · rename_i n k hl
            split
            · rename_i hsz
              rw [nbeq_iff] at hsz
              split
              · rename_i hli
                obtain ⟨d, hu, hd⟩ := (C.ty _ _ hty).under
                have := td_slice hd; subst this
                obtain ⟨x', m, cap, hv, h1, h2, h3, h4, h5, h6⟩ := rec_place F (recOf_sound H hl) hli
                refine EvOK.lift1 ?_
                have hin : 0 ≤ p.den ρ ∧ p.den ρ < (m : Int) := ⟨h3, h4⟩
                simp only [Instr.indexAt, opd_sound hs hi, opd_sound hs hx, SV.den, hv, elemP, asIntOf, Sem.run_bind, pure, Sem.run, Result.andThen_ok, run_under hu, hin, and_self, if_true, run_sizeOf' (C.ty _ _ hte), hsz, Nat.add_zero]
              · rename_i n' hne
                have : n' = n := by
                  unfold cidx at hne
                  split at hne
                  · injection hne with hne; exact hne.symm
                  · (repeat' split at hne) <;> cases hne
                subst this
                exact cnt_rng (recOf_sound H hl).cnt
              · trivial
              · trivial
            · trivial
          · trivial
      · trivial
    · trivial
  case index T x i =>
    simp only [evalV]
    split
    · rename_i cs k p n e s0 z0 b0 q0 hx hi hty
      split
      · rename_i te hte
        split
        · rename_i j hj
          split
          · rename_i v hv
            obtain ⟨d, hu, hd⟩ := (C.ty _ _ hty).under
            have := td_arr hd; subst this
            obtain ⟨hj1, hj2⟩ := idx_sound F hj
            refine EvOK.lift1 ?_
            have hin : (0 : Int) ≤ (j : Int) ∧ (j : Int) < (n : Int) := by omega
            simp only [Instr.index, opd_sound hs hi, opd_sound hs hx, SV.den, asIntOf, Sem.run_bind, pure, Sem.run, Result.andThen_ok, run_under hu, hj1, hin, and_self, if_true, run_sizeOf' (C.ty _ _ hte), Int.toNat_natCast]
            exact run_part' C hv
          · trivial
        · trivial
        · trivial
      · trivial
    · trivial
  case lookup T x i ok =>
    simp only [evalV]
    split
    · rename_i id kk p kt e s0 z0 b0 q0 hx hi hty
      split
      · rename_i k0 s1 z1 b1 q1 d2 s2 z b2 q2 es hk he hes
        have hT := C.ty _ _ hty
        obtain ⟨d, hu, hd⟩ := hT.under
        have := td_map hd; subst this
        obtain ⟨dk, huk, hdk⟩ := (C.ty _ _ hk).under
        have := td_int hdk; subst this
        obtain ⟨E, c, hE, hEs⟩ := H.blk _ _ hes
        have hl := lookIn_sound (h := h) F (kk := kk) (k0 := k0) (a := p) 0 hEs
        have hchk := fun em => checkKey_int (w := w) huk em kk (p.den ρ)
        have hzr := run_zeroValue' (P := P) (w := w) (C.ty _ _ he) rfl ρ h
        have e1 : a.eval x = .map (some (h.β id)) := opd_sound hs hx
        have e2 : a.eval i = .int kk (p.den ρ) := opd_sound hs hi
        have hobj : (getObj (h.β id)).run P w = .ok (.map E c) w := by simp only [getObj, Sem.run, hE]
        split
        · rename_i v hv
          rw [hv] at hl
          obtain ⟨n, hn⟩ := hl
          refine EvOK.lift1 ?_
          simp only [Instr.lookup, e1, e2, Sem.run_bind, run_under hu, Result.andThen_ok, hobj, hchk, Instr.findKey, run_under huk, hn, pure, Sem.run]
          cases ok <;> rfl
        · rename_i hv
          rw [hv] at hl
          refine EvOK.lift1 ?_
          simp only [Instr.lookup, e1, e2, Sem.run_bind, run_under hu, Result.andThen_ok, hobj, hchk, Instr.findKey, run_under huk, hl, pure, Sem.run, hzr]
          cases ok <;> rfl
        · trivial
        · trivial
      · trivial
    · trivial
  case slice T x low high mx =>
    cases mx with
    | some y => trivial
    | none =>
      simp only [evalV]
      split
      · rename_i id dd len sz e s0 z0 b0 q0 l hx hty hlo
        split
        · rename_i te hi cs E sz' hte hhi hb
          split
          · rename_i hc
            simp only [Bool.and_eq_true, Bool.or_eq_true, nbeq_iff, nble_iff, blt_iff] at hc
            obtain ⟨⟨⟨⟨⟨⟨c1, c2⟩, c3⟩, c4⟩, c5⟩, c6⟩, c7⟩ := hc
            obtain ⟨d, hu, hd⟩ := (C.ty _ _ hty).under
            have := td_slice hd; subst this
            obtain ⟨rest, h1, h2, h3⟩ := H.blk _ _ hb
            have hcap : dd + len ≤ h.κ id := by
              have : (dd + len) * sz ≤ h.κ id * sz := by rw [← c2] at h2; omega
              exact Nat.le_of_mul_le_mul_right this c4
            have hbd := run_sliceBounds (P := P) (w := w) (a := a) (len := len) (cap := h.κ id - dd) (bound_sound F hs hlo) (bound_sound F hs hhi) c5 (by omega)
            refine EvOK.lift1 ?_
            simp only [Instr.sliceAt, Instr.slice, Sem.run_bind, run_under hu, Result.andThen_ok, opd_sound hs hx, SV.den, Option.map_none, hbd, run_sizeOf' (C.ty _ _ hte), pure, Sem.run]
            have e1 : h.κ id - dd - l = h.κ id - (dd + l) := by omega
            rw [e1, c1, Nat.add_mul]
            congr 2
            split
            · rename_i hm
              have : l = 0 := by omega
              subst this
              simp
            · simp [addr_add]
          · trivial
        · trivial
      · rename_i e s0 z0 b0 q0 hx hty hlo
        split
        · rename_i te hte hhi
          obtain ⟨d, hu, hd⟩ := (C.ty _ _ hty).under
          have := td_slice hd; subst this
          have hbd := run_sliceBounds (P := P) (w := w) (a := a) (len := 0) (cap := 0) (bound_sound F hs hlo) (bound_sound F hs hhi) (Nat.le_refl _) (Nat.le_refl _)
          refine EvOK.lift1 ?_
          simp only [Instr.sliceAt, Instr.slice, Sem.run_bind, run_under hu, Result.andThen_ok, opd_sound hs hx, SV.den, Option.map_none, hbd, run_sizeOf' (C.ty _ _ hte), pure, Sem.run, if_true, Nat.sub_zero]
        · trivial
      · trivial
  case extract t i =>
    simp only [evalV]
    split
    · rename_i vs hx
      split
      · rename_i v hv
        refine EvOK.lift1 ?_
        simp only [Instr.extract, opd_sound hs hx, SV.den, List.getElem?_toArray, denL_get, hv, Option.map_some]
        rfl
      · trivial
    · trivial
  case typeAssert x xT at_ ok =>
    simp only [evalV]
    split
    · rename_i t v ty hx hty
      have hT := C.ty _ _ hty
      obtain ⟨d, hu, hd⟩ := hT.under
      have e1 : a.eval x = .iface t (v.den ρ h) := opd_sound hs hx
      split
      · trivial
      · rename_i hni
        have hnd : ∀ ms, d ≠ .interface ms := by rintro ms rfl; exact hni (by rw [← hd]; rfl)
        split
        · rename_i ht
          rw [nbeq_iff] at ht
          subst ht
          refine EvOK.lift1 ?_
          simp only [Instr.typeAssert, e1, Sem.run_bind, run_under hu, Result.andThen_ok]
          cases d <;> first | (exfalso; exact hnd _ rfl) | (simp only [if_true]; cases ok <;> rfl)
        · rename_i ht
          have hne : ¬ t = at_ := fun e => ht (nbeq_iff.2 e)
          split
          · rename_i z hz
            refine EvOK.lift1 ?_
            have hzr := run_zeroValue' (P := P) (w := w) hT hz ρ h
            simp only [Instr.typeAssert, e1, Sem.run_bind, run_under hu, Result.andThen_ok]
            cases d <;> first | (exfalso; exact hnd _ rfl) | (simp only [hne, if_false, if_true, Sem.run_bind, hzr, Result.andThen_ok]; rfl)
          · trivial
    · trivial
  case call c =>
    obtain ⟨callee, args, argTypes⟩ := c
    cases callee with
    | value f => trivial
    | invoke r m => trivial
    | builtin b =>
      simp only [evalV]
      have hargs : ∀ {vs}, opds S.slots args.toList = some vs → args.map a.eval = (denL ρ h vs).toArray := fun hv => opdsA_sound hs hv
      split
      · rename_i k p k' q hv
        have := minS_sound (P := P) (w := w) (h := h) F k k' p q
        have hr : (execOp a.eval ⟨dst, .call ⟨.builtin .min, args, argTypes⟩, type, pos, after, guard⟩).run P w = (do pure (.value (← Builtin.min2 (.int k (p.den ρ)) (.int k' (q.den ρ)))) : Sem Next).run P w := by
          simp only [execOp, resolve, Sem.run_bind, pure, Sem.run, Result.andThen_ok, invoke, builtin, Builtin.min_, hargs hv, denL, SV.den, List.foldlM]
          cases (Builtin.min2 (.int k (p.den ρ)) (.int k' (q.den ρ))).run P w <;> rfl
        rw [hr]
        exact EvOK.lift this
      · rename_i k p k' q hv
        have := maxS_sound (P := P) (w := w) (h := h) F k k' p q
        have hr : (execOp a.eval ⟨dst, .call ⟨.builtin .max, args, argTypes⟩, type, pos, after, guard⟩).run P w = (do pure (.value (← Builtin.max2 (.int k (p.den ρ)) (.int k' (q.den ρ)))) : Sem Next).run P w := by
          simp only [execOp, resolve, Sem.run_bind, pure, Sem.run, Result.andThen_ok, invoke, builtin, Builtin.max_, hargs hv, denL, SV.den, List.foldlM]
          cases (Builtin.max2 (.int k (p.den ρ)) (.int k' (q.den ρ))).run P w <;> rfl
        rw [hr]
        exact EvOK.lift this
      · rename_i k p k' q k'' z hv
        have h2 := minS_sound (P := P) (w := w) (h := h) F k k' p q
        have hr : ∀ m : Int, (Builtin.min2 (.int k (p.den ρ)) (.int k' (q.den ρ))).run P w = .ok (.int k m) w → (execOp a.eval ⟨dst, .call ⟨.builtin .min, args, argTypes⟩, type, pos, after, guard⟩).run P w = (do pure (.value (← Builtin.min2 (.int k m) (.int k'' (z.den ρ)))) : Sem Next).run P w := by
          intro m hm
          simp only [execOp, resolve, Sem.run_bind, pure, Sem.run, Result.andThen_ok, invoke, builtin, Builtin.min_, hargs hv, denL, SV.den, List.foldlM, hm]
          cases (Builtin.min2 (.int k m) (.int k'' (z.den ρ))).run P w <;> rfl
        have hk : ∃ m : Int, (Builtin.min2 (.int k (p.den ρ)) (.int k' (q.den ρ))).run P w = .ok (.int k m) w := ⟨_, rfl⟩
        obtain ⟨m0, hm0⟩ := hk
        split
        · rename_i k3 m hm
          rw [hm, hm0] at h2
          simp only [VOK, SV.den, Result.ok.injEq, Value.int.injEq, and_true] at h2
          rw [hr m0 hm0, h2.2]
          exact EvOK.lift (minS_sound F k k'' m z)
        · rename_i e iv k3 hm
          rw [hm, hm0] at h2
          simp only [VOK, Result.ok.injEq, Value.int.injEq, and_true] at h2
          split
          · rename_i n hn
            have hd := defOf_sound F.defs hn
            rw [hr m0 hm0, h2.1.2, ← hd]
            exact EvOK.lift (minS_sound F k k'' (.v n) z)
          · exact h2.2
        · trivial
      · rename_i k p k' q k'' z hv
        have h2 := maxS_sound (P := P) (w := w) (h := h) F k k' p q
        have hr : ∀ m : Int, (Builtin.max2 (.int k (p.den ρ)) (.int k' (q.den ρ))).run P w = .ok (.int k m) w → (execOp a.eval ⟨dst, .call ⟨.builtin .max, args, argTypes⟩, type, pos, after, guard⟩).run P w = (do pure (.value (← Builtin.max2 (.int k m) (.int k'' (z.den ρ)))) : Sem Next).run P w := by
          intro m hm
          simp only [execOp, resolve, Sem.run_bind, pure, Sem.run, Result.andThen_ok, invoke, builtin, Builtin.max_, hargs hv, denL, SV.den, List.foldlM, hm]
          cases (Builtin.max2 (.int k m) (.int k'' (z.den ρ))).run P w <;> rfl
        have hk : ∃ m : Int, (Builtin.max2 (.int k (p.den ρ)) (.int k' (q.den ρ))).run P w = .ok (.int k m) w := ⟨_, rfl⟩
        obtain ⟨m0, hm0⟩ := hk
        split
        · rename_i k3 m hm
          rw [hm, hm0] at h2
          simp only [VOK, SV.den, Result.ok.injEq, Value.int.injEq, and_true] at h2
          rw [hr m0 hm0, h2.2]
          exact EvOK.lift (maxS_sound F k k'' m z)
        · rename_i e iv k3 hm
          rw [hm, hm0] at h2
          simp only [VOK, Result.ok.injEq, Value.int.injEq, and_true] at h2
          split
          · rename_i n hn
            have hd := defOf_sound F.defs hn
            rw [hr m0 hm0, h2.1.2, ← hd]
            exact EvOK.lift (maxS_sound F k k'' (.v n) z)
          · exact h2.2
        · trivial
      · rename_i id dd n sz hv
        split
        · rename_i T hT
          split
          · rename_i e s0 z0 b0 q0 hty
            obtain ⟨d, hu, hd⟩ := (C.ty _ _ hty).under
            have := td_slice hd; subst this
            have hat : argTypes[0]? = some T := by rw [← Array.getElem?_toList, hT]; rfl
            simp only [EvOK, execOp, resolve, Sem.run_bind, pure, Sem.run, Result.andThen_ok, invoke, builtin, Builtin.len_, hargs hv, denL, SV.den, hat, List.getElem?_toArray, List.getElem?_cons_zero, run_under hu, goInt, At.den]
          · trivial
        · trivial
      · rename_i hv
        split
        · rename_i T hT
          split
          · rename_i e s0 z0 b0 q0 hty
            obtain ⟨d, hu, hd⟩ := (C.ty _ _ hty).under
            have := td_slice hd; subst this
            have hat : argTypes[0]? = some T := by rw [← Array.getElem?_toList, hT]; rfl
            simp only [EvOK, execOp, resolve, Sem.run_bind, pure, Sem.run, Result.andThen_ok, invoke, builtin, Builtin.len_, hargs hv, denL, SV.den, hat, List.getElem?_toArray, List.getElem?_cons_zero, run_under hu, goInt, At.den]
            rfl
          · trivial
        · trivial
      · rename_i id hv
        split
        · rename_i T hT
          split
          · rename_i e s0 z0 b0 q0 n hty hl
            split
            · rename_i m hm
              obtain ⟨d, hu, hd⟩ := (C.ty _ _ hty).under
              have := td_slice hd; subst this
              have hat : argTypes = #[T] := by rw [← Array.toList_inj, hT]
              have hdm := defOf_sound F.defs hm
              have hrow := listOf_sound H hl
              have hlen : ∃ p c, h.σ id = .slice p (ρ.get n).list.length c := by
                rcases hrow with ⟨h1, h2⟩ | ⟨x', cap, hv', _⟩
                · rw [h1, h2]; exact ⟨none, 0, rfl⟩
                · exact ⟨_, _, hv'⟩
              obtain ⟨p, c, hsl⟩ := hlen
              simp only [EvOK, execOp, resolve, Sem.run_bind, pure, Sem.run, Result.andThen_ok, invoke, builtin, hargs hv, denL, SV.den, hsl, hat, run_len_slice hu, goInt, At.den, hdm, IE.den]
            · exact len_rng (listOf_sound H hl).len
          · rename_i e s0 z0 b0 q0 hty hnl
            split
            · rename_i n hl
              obtain ⟨e', vs, _, _, hgr⟩ := gridOf_sound H hl
              obtain ⟨_, g2, g3, g4⟩ := hgr.form
              split
              · rename_i m hm
                obtain ⟨d, hu, hd⟩ := (C.ty _ _ hty).under
                have := td_slice hd; subst this
                have hat : argTypes = #[T] := by rw [← Array.toList_inj, hT]
                have hdm := defOf_sound F.defs hm
                have hlen : ∃ p c, h.σ id = .slice p (dec (ρ.get n).list).length c := by
                  rcases g4 with ⟨h1, h2⟩ | ⟨x', cap, hv', _⟩
                  · rw [h1, h2]; exact ⟨none, 0, rfl⟩
                  · exact ⟨_, _, hv'⟩
                obtain ⟨p, c, hsl⟩ := hlen
                simp only [EvOK, execOp, resolve, Sem.run_bind, pure, Sem.run, Result.andThen_ok, invoke, builtin, hargs hv, denL, SV.den, hsl, hat, run_len_slice hu, goInt, At.den, hdm, IE.den]
              · exact lenR_rng g3
            · split
              · rename_i n k hl
                have hrow := recOf_sound H hl
                split
                · rename_i m hm
                  obtain ⟨d, hu, hd⟩ := (C.ty _ _ hty).under
                  have := td_slice hd; subst this
                  have hat : argTypes = #[T] := by rw [← Array.toList_inj, hT]
                  have hdm := defOf_sound F.defs hm
                  have hlen : ∃ p c, h.σ id = .slice p ((ρ.get n).list.length / k) c := by
                    rcases hrow with ⟨h1, h2⟩ | ⟨x', m, cap, hv', h1, h2, _⟩
                    · rw [h1, h2]; exact ⟨none, 0, by simp⟩
                    · rw [h1, Nat.mul_div_cancel _ h2]; exact ⟨_, _, hv'⟩
                  obtain ⟨p, c, hsl⟩ := hlen
                  simp only [EvOK, execOp, resolve, Sem.run_bind, pure, Sem.run, Result.andThen_ok, invoke, builtin, hargs hv, denL, SV.den, hsl, hat, run_len_slice hu, goInt, At.den, hdm, IE.den]
                · exact cnt_rng hrow.cnt
              · trivial
          · trivial
        · trivial
      · rename_i v _ _ _ hv
        split
        · rename_i T hT
          split
          · rename_i n e s0 z0 b0 q0 hty
            obtain ⟨d, hu, hd⟩ := (C.ty _ _ hty).under
            have := td_arr hd; subst this
            have hat : argTypes[0]? = some T := by rw [← Array.getElem?_toList, hT]; rfl
            simp only [EvOK, execOp, resolve, Sem.run_bind, pure, Sem.run, Result.andThen_ok, invoke, builtin, Builtin.len_, hargs hv, denL, SV.den, hat, List.getElem?_toArray, List.getElem?_cons_zero, run_under hu, goInt, At.den]
          · trivial
        · trivial
      · trivial
  all_goals trivial
end
end Go.SX
