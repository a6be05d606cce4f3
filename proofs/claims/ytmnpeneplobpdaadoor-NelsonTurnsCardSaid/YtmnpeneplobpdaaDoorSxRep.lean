/-
  The symbolic executor: what a state stands for; what a tree tells; splitting, putting, the parts of a call.
-/
import Derived.Test.YtmnpeneplobpdaaDoorSxEval4
namespace Go.SX
open Go Go.RowKit
set_option linter.unusedVariables false
set_option linter.unusedSimpArgs false

/-! ### what a tree tells -/
def hidS (σ : Nat → Value) : Hid := ⟨fun _ => 0, fun _ => undef, fun _ => 0, σ⟩
def hid0 : Hid := hidS fun _ => .slice none 0 0

/-- what is asked of the world when a call begins, and stays so -/
structure Cond where
  G : World → Prop
  st : ∀ w w', G w → Below w.heap.size w w' → G w'
def Cond.any : Cond := ⟨fun _ => True, fun _ _ _ _ => trivial⟩
structure SpecSem where
  pre : List Cv → Prop
  out : List Cv → List Cv
  g : Cond := .any

/-- all of a list are ints of 64 bits -/
def InI (xs : List Int) : Prop := ∀ x ∈ xs, -9223372036854775808 ≤ x ∧ x ≤ 9223372036854775807
def Fits : List Sh → List Cv → Prop
  | [], [] => True
  | .i none :: s, .i _ :: l => Fits s l
  | .i (some (lo, hi)) :: s, .i x :: l => lo ≤ x ∧ x ≤ hi ∧ Fits s l
  | .b :: s, .b _ :: l => Fits s l
  | .l :: s, .l xs :: l => InI xs ∧ Fits s l
  | _, _ => False

/-- for all that fit -/
def bindRes : List Sh → (List Cv → Prop) → Prop
  | [], k => k []
  | .i none :: s, k => ∀ x : Int, bindRes s fun l => k (.i x :: l)
  | .i (some (lo, hi)) :: s, k => ∀ x : Int, lo ≤ x → x ≤ hi → bindRes s fun l => k (.i x :: l)
  | .b :: s, k => ∀ x : Bool, bindRes s fun l => k (.b x :: l)
  | .l :: s, k => ∀ xs : List Int, InI xs → bindRes s fun l => k (.l xs :: l)

theorem bindRes_apply : ∀ {sh : List Sh} {k : List Cv → Prop}, bindRes sh k → ∀ l, Fits sh l → k l := by
  intro sh
  induction sh with
  | nil => intro k hb l hf; cases l with | nil => exact hb | cons _ _ => exact hf.elim
  | cons s sh ih =>
    intro k hb l hf
    cases l with
    | nil => rcases s with (_ | ⟨_, _⟩) | _ | _ <;> exact hf.elim
    | cons c l =>
      rcases s with (_ | ⟨lo, hi⟩) | _ | _ <;> cases c <;> first | exact hf.elim | exact ih (hb _) l hf | exact ih (hb _ hf.1 hf.2.1) l hf.2.2 | exact ih (hb _ hf.1) l hf.2

/-- for these, by names of their own -/
def bindEq : List Sh → List Cv → (List Cv → Prop) → Prop
  | [], [], k => k []
  | .i none :: s, .i o :: os, k => ∀ x : Int, x = o → bindEq s os fun l => k (.i x :: l)
  | .i (some (lo, hi)) :: s, .i o :: os, k => ∀ x : Int, x = o → lo ≤ x → x ≤ hi → bindEq s os fun l => k (.i x :: l)
  | .b :: s, .b o :: os, k => bindEq s os fun l => k (.b o :: l)
  | .l :: s, .l o :: os, k => ∀ xs : List Int, xs = o → bindEq s os fun l => k (.l xs :: l)
  | _, _, _ => True
theorem bindEq_apply : ∀ {sh : List Sh} {os : List Cv} {k : List Cv → Prop}, bindEq sh os k → Fits sh os → k os := by
  intro sh
  induction sh with
  | nil => intro l k hb hf; cases l with | nil => exact hb | cons _ _ => exact hf.elim
  | cons s sh ih =>
    intro l k hb hf
    cases l with
    | nil => rcases s with (_ | ⟨_, _⟩) | _ | _ <;> exact hf.elim
    | cons c l =>
      rcases s with (_ | ⟨lo, hi⟩) | _ | _ <;> cases c <;> first | exact hf.elim | exact ih (k := fun l => k (_ :: l)) (hb _ rfl) hf | exact ih (k := fun l => k (_ :: l)) (hb _ rfl hf.1 hf.2.1) hf.2.2 | exact ih (k := fun l => k (_ :: l)) (hb _ rfl) hf.2 | exact ih (k := fun l => k (_ :: l)) hb hf
theorem Fits.length : ∀ {sh : List Sh} {l : List Cv}, Fits sh l → l.length = sh.length := by
  intro sh
  induction sh with
  | nil => intro l hf; cases l with | nil => rfl | cons _ _ => exact hf.elim
  | cons s sh ih =>
    intro l hf
    cases l with
    | nil => rcases s with (_ | ⟨_, _⟩) | _ | _ <;> exact hf.elim
    | cons c l =>
      have key : ∀ hl : Fits sh l, (c :: l).length = (s :: sh).length := fun hl => by simp only [List.length_cons, ih hl]
      rcases s with (_ | ⟨lo, hi⟩) | _ | _ <;> cases c <;> first | exact hf.elim | exact key hf | exact key hf.2.2 | exact key hf.2

theorem Fits.iv : ∀ {sh : List Sh} {l : List Cv}, Fits sh l → ∀ i lo hi, (sh.map Sh.iv)[i]? = some (some (lo, hi)) → lo ≤ (Env.get l i).int ∧ (Env.get l i).int ≤ hi := by
  intro sh
  induction sh with
  | nil => intro l hf i lo hi h; simp at h
  | cons s sh ih =>
    intro l hf i lo hi h
    cases l with
    | nil => rcases s with (_ | ⟨_, _⟩) | _ | _ <;> exact hf.elim
    | cons c l =>
      cases i with
      | zero =>
        simp only [List.map_cons, List.getElem?_cons_zero, Option.some.injEq] at h
        rcases s with (_ | ⟨a, b⟩) | _ | _ <;> simp only [Sh.iv, reduceCtorEq] at h
        simp only [Option.some.injEq, Prod.mk.injEq] at h
        cases c <;> first | exact hf.elim | (rw [← h.1, ← h.2]; exact ⟨hf.1, hf.2.1⟩)
      | succ i =>
        have h' : (sh.map Sh.iv)[i]? = some (some (lo, hi)) := by simpa using h
        rcases s with (_ | ⟨a, b⟩) | _ | _ <;> cases c <;> first | exact hf.elim | exact ih (l := l) hf i lo hi h' | exact ih (l := l) hf.2.2 i lo hi h' | exact ih (l := l) hf.2 i lo hi h'
theorem InI.nil : InI [] := fun x hx => by cases hx
theorem Fits.lst : ∀ {sh : List Sh} {l : List Cv}, Fits sh l → ∀ i x, x ∈ (Env.get l i).list → -9223372036854775808 ≤ x ∧ x ≤ 9223372036854775807 := by
  intro sh
  induction sh with
  | nil => intro l hf i x hx; cases l with | nil => cases hx | cons _ _ => exact hf.elim
  | cons s sh ih =>
    intro l hf i x hx
    cases l with
    | nil => cases hx
    | cons c l =>
      cases i with
      | zero =>
        rcases s with (_ | ⟨a, b⟩) | _ | _ <;> cases c <;> first | exact hf.elim | exact hf.1 x hx | (cases hx; done)
      | succ i =>
        rcases s with (_ | ⟨a, b⟩) | _ | _ <;> cases c <;> first | exact hf.elim | exact ih (l := l) hf i x hx | exact ih (l := l) hf.2.2 i x hx | exact ih (l := l) hf.2 i x hx

abbrev Js := List (List Cv → Prop)

section
variable (M : Nat → SpecSem) (R RP : Value → Prop) (F : Ex → St → Js → Env → Prop)
def Tree.den : Tree → Js → Env → Prop
  | .ret v, _, ρ => R (v.den ρ hid0)
  | .pan v, _, ρ => RP (v.den ρ hid0)
  | .lett e k, J, ρ => ∀ x : Int, x = e.den ρ → k.den J (ρ ++ [.i x])
  | .letl e k, J, ρ => ∀ xs : List Int, xs = e.den ρ → k.den J (ρ ++ [.l xs])
  | .ite c x y, J, ρ => (c.den ρ = true → x.den J ρ) ∧ (c.den ρ = false → y.den J ρ)
  | .call f sh as k, J, ρ => (M f).pre (as.map (CA.den ρ)) ∧ bindEq sh ((M f).out (as.map (CA.den ρ))) fun rs => k.den J (ρ ++ rs)
  | .all x y, J, ρ => x.den J ρ ∧ y.den J ρ
  | .loop sh init b, J, ρ => ∃ (I : List Cv → Prop) (μ : List Cv → Nat), Fits sh (init.map (CA.den ρ)) ∧ I (init.map (CA.den ρ)) ∧ bindRes sh fun vs => I vs → b.den (J ++ [fun us => Fits sh us ∧ I us ∧ μ us < μ vs]) (ρ ++ vs)
  | .again lv vs, J, ρ => match J[lv]? with
    | some I => I (vs.map (CA.den ρ))
    | none => False
  | .fin e S, J, ρ => F e S J ρ
  | .bad _, _, _ => False

theorem graft_den (K : Ex → St → Tree) : ∀ (t : Tree) (J : Js) (ρ : Env), (t.graft K).den M R RP F J ρ ↔ t.den M R RP (fun e S J ρ => (K e S).den M R RP F J ρ) J ρ := by
  intro t
  induction t with
  | fin e S => intro J ρ; exact Iff.rfl
  | lett e k ih => intro J ρ; simp only [Tree.graft, Tree.den, ih]
  | letl e k ih => intro J ρ; simp only [Tree.graft, Tree.den, ih]
  | ite c x y ihx ihy => intro J ρ; simp only [Tree.graft, Tree.den, ihx, ihy]
  | call f sh as k ih => intro J ρ; simp only [Tree.graft, Tree.den, ih]
  | all x y ihx ihy => intro J ρ; simp only [Tree.graft, Tree.den, ihx, ihy]
  | loop sh init b ih => intro J ρ; simp only [Tree.graft, Tree.den, ih]
  | ret v => intro J ρ; exact Iff.rfl
  | pan v => intro J ρ; exact Iff.rfl
  | again l vs => intro J ρ; exact Iff.rfl
  | bad n => intro J ρ; exact Iff.rfl

theorem allOf_den {l : List Tree} {J : Js} {ρ : Env} (h : (allOf l).den M R RP F J ρ) : ∀ t ∈ l, t.den M R RP F J ρ := by
  induction l with
  | nil => exact fun t ht => by cases ht
  | cons t r ih =>
    cases r with
    | nil => intro u hu; rcases List.mem_cons.1 hu with rfl | hu; exact h; cases hu
    | cons t2 r2 =>
      simp only [allOf] at h
      intro u hu
      split at h
      · rename_i hb
        have e := Tree.beq_eq hb
        rcases List.mem_cons.1 hu with rfl | hu
        · exact h
        · exact ih (by rw [← e]; exact h) u hu
      · rcases List.mem_cons.1 hu with rfl | hu
        · exact h.1
        · exact ih h.2 u hu
end

/-! ### what a state stands for -/
structure Rep (w0 : World) (S : St) (ρ : Env) (h : Hid) (J : Js) (a : Act) (w : World) : Prop where
  nv : S.nv = ρ.length
  lv : S.lv = J.length
  ivl : S.ivs.length = S.nv
  fok : FOK S ρ
  slots : a.tmps.toList = denL ρ h S.slots
  defers : a.defers = []
  heap : HeapOK ρ h w0.heap.size S.heap w
  below : Below w0.heap.size w0 w

structure Later (S S' : St) (ρ : Env) (h : Hid) (J : Js) (ρ' : Env) (h' : Hid) (J' : Js) : Prop where
  ag : Agree S.nv S.nb S.nj ρ h ρ' h'
  nv : S.nv ≤ S'.nv
  nb : S.nb ≤ S'.nb
  nj : S.nj ≤ S'.nj
  fid : S'.fid = S.fid
  J : ∃ l, J' = J ++ l

theorem Later.refl {S ρ h J} : Later S S ρ h J ρ h J := ⟨.refl, Nat.le_refl _, Nat.le_refl _, Nat.le_refl _, rfl, [], by simp⟩
theorem Later.trans {S S' S'' ρ h J ρ' h' J' ρ'' h'' J''} (a : Later S S' ρ h J ρ' h' J') (b : Later S' S'' ρ' h' J' ρ'' h'' J'') : Later S S'' ρ h J ρ'' h'' J'' := by
  obtain ⟨l, hl⟩ := a.J
  obtain ⟨m, hm⟩ := b.J
  exact ⟨a.ag.trans b.ag a.nv a.nb a.nj, Nat.le_trans a.nv b.nv, Nat.le_trans a.nb b.nb, Nat.le_trans a.nj b.nj, b.fid.trans a.fid, l ++ m, by rw [hm, hl, List.append_assoc]⟩

/-- the same but for what is known of ends and tests -/
structure Core (S S' : St) : Prop where
  nv : S'.nv = S.nv
  nj : S'.nj = S.nj
  lv : S'.lv = S.lv
  fid : S'.fid = S.fid
  slots : S'.slots = S.slots
  heap : S'.heap = S.heap
theorem Core.refl {S} : Core S S := ⟨rfl, rfl, rfl, rfl, rfl, rfl⟩
theorem Core.trans {S S' S''} (a : Core S S') (b : Core S' S'') : Core S S'' := ⟨b.nv.trans a.nv, b.nj.trans a.nj, b.lv.trans a.lv, b.fid.trans a.fid, b.slots.trans a.slots, b.heap.trans a.heap⟩
theorem Core.later {S S' ρ h J} (c : Core S S') : Later S S' ρ h J ρ h J :=
  ⟨.refl, Nat.le_of_eq c.nv.symm, by unfold St.nb; rw [c.heap]; exact Nat.le_refl _, Nat.le_of_eq c.nj.symm, c.fid, [], by simp⟩

section
variable {M : Nat → SpecSem} {R RP : Value → Prop} {F : Ex → St → Js → Env → Prop} {w0 : World}
theorem Rep.assume {S : St} {ρ h J a w} (r : Rep w0 S ρ h J a w) {e : BE} {b : Bool} (he : e.den ρ = b) : Rep w0 (S.assume e b) ρ h J a w ∧ Core S (S.assume e b) := by
  have hsame := St.assume_same S e b
  have hl := (St.refine_same S e b).2
  have hF := St.assume_sound r.fok he
  refine ⟨⟨?_, ?_, ?_, hF, ?_, r.defers, ?_, r.below⟩, ⟨?_, ?_, ?_, ?_, ?_, ?_⟩⟩
  all_goals rw [hsame]
  · exact r.nv
  · exact r.lv
  · exact hl.trans r.ivl
  · exact r.slots
  · exact r.heap

theorem splitBE_sound {S : St} {ρ h J a w} (r : Rep w0 S ρ h J a w) {e : BE} {k : Bool → St → Tree} (hd : (splitBE S e k).den M R RP F J ρ) :
    ∃ S1, Core S S1 ∧ Rep w0 S1 ρ h J a w ∧ (k (e.den ρ) S1).den M R RP F J ρ := by
  unfold splitBE at hd
  split at hd
  · rename_i b hb
    have := St.decide_sound r.fok hb
    rw [← this] at hd
    exact ⟨S, .refl, r, hd⟩
  · obtain ⟨h1, h2⟩ := hd
    cases he : e.den ρ with
    | true => exact ⟨_, (r.assume he).2, (r.assume he).1, h1 he⟩
    | false => exact ⟨_, (r.assume he).2, (r.assume he).1, h2 he⟩

theorem Rep.put {S : St} {ρ h J a w} (r : Rep w0 S ρ h J a w) (d : Option Nat) (v : SV) : Rep w0 (S.put d v) ρ h J (a.put d (v.den ρ h)) w := by
  cases d with
  | none => exact r
  | some t =>
    refine ⟨r.nv, r.lv, r.ivl, ⟨r.fok.iv, r.fok.facts, r.fok.defs, r.fok.lst⟩, ?_, r.defers, r.heap, r.below⟩
    simp only [Act.put, St.put, denL_set, ← r.slots, Array.toList_setIfInBounds]
theorem put_later {S : St} {ρ h J d v} : Later S (S.put d v) ρ h J ρ h J := by
  cases d <;> exact ⟨.refl, Nat.le_refl _, Nat.le_refl _, Nat.le_refl _, rfl, [], by simp⟩

/-! ### more signs, more blocks -/
theorem scoped_parts {S : St} (h : S.scoped = true) : scopedL S.nv S.nb S.nj S.slots = true ∧ heapScoped S.nv S.nb S.nj S.heap = true ∧ factsScoped S.nv S.facts = true ∧ defsScoped S.nv S.defs = true := by
  simp only [St.scoped, Bool.and_eq_true] at h
  exact ⟨h.1.1.1, h.1.1.2, h.1.2, h.2⟩
theorem heapScoped_get : ∀ {hp : List Blk} {nv nb nj : Nat}, heapScoped nv nb nj hp = true → ∀ (i : Nat) (b : Blk), hp[i]? = some b → b.scoped nv nb nj = true
  | [], _, _, _, _, i, b, hb => by simp at hb
  | c :: r, nv, nb, nj, hs, i, b, hb => by
    simp only [heapScoped, Bool.and_eq_true] at hs
    cases i with
    | zero => simp only [List.getElem?_cons_zero, Option.some.injEq] at hb; rw [← hb]; exact hs.1
    | succ i => exact heapScoped_get hs.2 i b (by simpa using hb)
theorem factsScoped_mem : ∀ {l : List (BE × Bool)} {nv : Nat}, factsScoped nv l = true → ∀ e b, (e, b) ∈ l → e.scoped nv = true
  | [], _, _, e, b, hm => by cases hm
  | (x, c) :: r, nv, hs, e, b, hm => by
    simp only [factsScoped, Bool.and_eq_true] at hs
    rcases List.mem_cons.1 hm with he | hm
    · injection he with h1 h2; rw [h1]; exact hs.1
    · exact factsScoped_mem hs.2 e b hm
theorem defsScoped_mem : ∀ {l : List (IE × Nat)} {nv : Nat}, defsScoped nv l = true → ∀ e n, (e, n) ∈ l → e.scoped nv = true ∧ n < nv
  | [], _, _, e, b, hm => by cases hm
  | (x, c) :: r, nv, hs, e, n, hm => by
    simp only [defsScoped, Bool.and_eq_true, blt_iff] at hs
    rcases List.mem_cons.1 hm with he | hm
    · injection he with h1 h2; rw [h1, h2]; exact hs.1
    · exact defsScoped_mem hs.2 e n hm

theorem At.scoped_mono {a : At} {n m : Nat} (h : a.scoped n = true) (hn : n ≤ m) : a.scoped m = true := by
  cases a with
  | v i => simp only [At.scoped, blt_iff] at *; omega
  | z i => rfl
theorem BE.scoped_mono {e : BE} {n m : Nat} (h : e.scoped n = true) (hn : n ≤ m) : e.scoped m = true := by
  induction e with
  | t => rfl
  | f => rfl
  | v i => simp only [BE.scoped, blt_iff] at *; omega
  | cmp c x y => simp only [BE.scoped, Bool.and_eq_true] at *; exact ⟨At.scoped_mono h.1 hn, At.scoped_mono h.2 hn⟩
  | not a ih => exact ih h
  | and a b iha ihb => simp only [BE.scoped, Bool.and_eq_true] at *; exact ⟨iha h.1, ihb h.2⟩
  | or a b iha ihb => simp only [BE.scoped, Bool.and_eq_true] at *; exact ⟨iha h.1, ihb h.2⟩
  | eqv a b iha ihb => simp only [BE.scoped, Bool.and_eq_true] at *; exact ⟨iha h.1, ihb h.2⟩
mutual
theorem SV.scoped_mono {nv nb nj nv' nb' nj' : Nat} : ∀ {v : SV}, v.scoped nv nb nj = true → nv ≤ nv' → nb ≤ nb' → nj ≤ nj' → v.scoped nv' nb' nj' = true
  | .int _ a, h, h1, h2, h3 => At.scoped_mono (a := a) h h1
  | .bool e, h, h1, h2, h3 => BE.scoped_mono (e := e) h h1
  | .str _, _, _, _, _ | .gptr _, _, _, _, _ | .nilp, _, _, _, _ | .nilRow, _, _, _, _ | .nilMap, _, _, _, _ | .nilFunc, _, _, _, _ | .nilIface, _, _, _, _ => rfl
  | .ptr _ _, h, h1, h2, h3 => by simp only [SV.scoped, blt_iff] at *; omega
  | .row _ _ _ _, h, h1, h2, h3 => by simp only [SV.scoped, blt_iff] at *; omega
  | .map _, h, h1, h2, h3 => by simp only [SV.scoped, blt_iff] at *; omega
  | .junk _, h, h1, h2, h3 => by simp only [SV.scoped, blt_iff] at *; omega
  | .lst _, h, h1, h2, h3 => by simp only [SV.scoped, blt_iff] at *; omega
  | .lptr _ a, h, h1, h2, h3 => by simp only [SV.scoped, Bool.and_eq_true, blt_iff] at *; exact ⟨by omega, At.scoped_mono h.2 h1⟩
  | .sptr _ a _ _, h, h1, h2, h3 => by simp only [SV.scoped, Bool.and_eq_true, blt_iff] at *; exact ⟨by omega, At.scoped_mono h.2 h1⟩
  | .gd g v, h, h1, h2, h3 => by simp only [SV.scoped, Bool.and_eq_true] at *; exact ⟨BE.scoped_mono h.1 h1, SV.scoped_mono h.2 h1 h2 h3⟩
  | .func _ a b, h, h1, h2, h3 => by
    simp only [SV.scoped, Bool.and_eq_true] at *
    exact ⟨scopedL_mono h.1 h1 h2 h3, scopedL_mono h.2 h1 h2 h3⟩
  | .iface _ v, h, h1, h2, h3 => by simp only [SV.scoped] at *; exact SV.scoped_mono h h1 h2 h3
  | .agg l, h, h1, h2, h3 => by simp only [SV.scoped] at *; exact scopedL_mono h h1 h2 h3
  | .tup l, h, h1, h2, h3 => by simp only [SV.scoped] at *; exact scopedL_mono h h1 h2 h3
theorem scopedL_mono {nv nb nj nv' nb' nj' : Nat} : ∀ {l : List SV}, scopedL nv nb nj l = true → nv ≤ nv' → nb ≤ nb' → nj ≤ nj' → scopedL nv' nb' nj' l = true
  | [], _, _, _, _ => rfl
  | x :: r, h, h1, h2, h3 => by
    simp only [scopedL, Bool.and_eq_true] at *
    exact ⟨SV.scoped_mono h.1 h1 h2 h3, scopedL_mono h.2 h1 h2 h3⟩
end
theorem heapScoped_of' : ∀ {hp : List Blk} {nv nb nj : Nat}, (∀ (i : Nat) (b : Blk), hp[i]? = some b → b.scoped nv nb nj = true) → heapScoped nv nb nj hp = true
  | [], _, _, _, _ => rfl
  | c :: r, nv, nb, nj, h => by
    simp only [heapScoped, Bool.and_eq_true]
    exact ⟨h 0 c rfl, heapScoped_of' fun i b hb => h (i + 1) b (by simpa using hb)⟩
theorem Blk.scoped_mono {nv nb nj nv' nb' nj' : Nat} {b : Blk} (h : b.scoped nv nb nj = true) (h1 : nv ≤ nv') (h2 : nb ≤ nb') (h3 : nj ≤ nj') : b.scoped nv' nb' nj' = true := by
  cases b with
  | cells cs T => simp only [Blk.scoped] at *; exact scopedL_mono h h1 h2 h3
  | row cs T n => simp only [Blk.scoped] at *; exact scopedL_mono h h1 h2 h3
  | map es =>
    simp only [Blk.scoped, List.all_eq_true, Bool.and_eq_true] at *
    exact fun p hp => ⟨SV.scoped_mono (h p hp).1 h1 h2 h3, SV.scoped_mono (h p hp).2 h1 h2 h3⟩
  | dead => rfl
  | own n e => simp only [Blk.scoped, blt_iff] at *; omega
  | view n k => simp only [Blk.scoped, blt_iff] at *; omega
theorem IE.scoped_mono {e : IE} {n m : Nat} (h : e.scoped n = true) (hn : n ≤ m) : e.scoped m = true := by
  cases e <;> simp only [IE.scoped, Bool.and_eq_true, blt_iff] at *
  case wrap k x => exact At.scoped_mono h hn
  case ite c x y => exact ⟨⟨BE.scoped_mono h.1.1 hn, At.scoped_mono h.1.2 hn⟩, At.scoped_mono h.2 hn⟩
  case len n => omega
  case nth n x => exact ⟨by omega, At.scoped_mono h.2 hn⟩
  case rows n => omega
  case cnt n k => omega
  case nthS n k o x => exact ⟨by omega, At.scoped_mono h.2 hn⟩
  all_goals exact ⟨At.scoped_mono h.1 hn, At.scoped_mono h.2 hn⟩
theorem factsScoped_mono : ∀ {l : List (BE × Bool)} {n m : Nat}, factsScoped n l = true → n ≤ m → factsScoped m l = true
  | [], _, _, _, _ => rfl
  | (e, b) :: r, n, m, h, hn => by
    simp only [factsScoped, Bool.and_eq_true] at *
    exact ⟨BE.scoped_mono h.1 hn, factsScoped_mono h.2 hn⟩
theorem defsScoped_mono : ∀ {l : List (IE × Nat)} {n m : Nat}, defsScoped n l = true → n ≤ m → defsScoped m l = true
  | [], _, _, _, _ => rfl
  | (e, b) :: r, n, m, h, hn => by
    simp only [defsScoped, Bool.and_eq_true, blt_iff] at *
    exact ⟨⟨IE.scoped_mono h.1.1 hn, by omega⟩, defsScoped_mono h.2 hn⟩
theorem St.scoped_mono {S : St} {n : Nat} {l : List (Option (Int × Int))} (h : S.scoped = true) (hn : S.nv ≤ n) : ({ S with nv := n, ivs := l } : St).scoped = true := by
  obtain ⟨h1, h2, h3, h4⟩ := scoped_parts h
  simp only [St.scoped, Bool.and_eq_true]
  refine ⟨⟨⟨scopedL_mono h1 hn (Nat.le_refl _) (Nat.le_refl _), heapScoped_of' fun i b hb => Blk.scoped_mono (heapScoped_get h2 i b hb) hn (Nat.le_refl _) (Nat.le_refl _)⟩, factsScoped_mono h3 hn⟩, defsScoped_mono h4 hn⟩

theorem BlkOK.agree {nv nb nj ρ h ρ' h' w i b} (A : Agree nv nb nj ρ h ρ' h') (hi : i < nb) (hs : b.scoped nv nb nj = true) (hb : BlkOK ρ h w i b) : BlkOK ρ' h' w i b := by
  cases b with
  | cells cs T => simp only [Blk.scoped] at hs; simp only [BlkOK, A.β i hi, denL_agree A cs hs] at *; exact hb
  | row cs T sz => simp only [Blk.scoped] at hs; simp only [BlkOK, A.β i hi, A.κ i hi, denL_agree A cs hs] at *; exact hb
  | map es =>
    simp only [Blk.scoped, List.all_eq_true, Bool.and_eq_true] at hs
    simp only [BlkOK, A.β i hi] at *
    obtain ⟨E, c, h1, h2⟩ := hb
    refine ⟨E, c, h1, h2.trans ?_⟩
    apply List.map_congr_left
    intro p hp
    obtain ⟨hs1, hs2⟩ := hs p hp
    rw [SV.den_agree A p.1 hs1, SV.den_agree A p.2 hs2]
  | dead => trivial
  | own n e => trivial
  | view n k => trivial
theorem ListsOK.agree {nv nj ρ h ρ' h' B w} {hp : List Blk} (A : Agree nv hp.length nj ρ h ρ' h') (hs : heapScoped nv hp.length nj hp = true) (H : ListsOK ρ h B hp w) : ListsOK ρ' h' B hp w := by
  have lt : ∀ {i : Nat} {b}, hp[i]? = some b → i < hp.length := fun hb => (List.getElem?_eq_some_iff.1 hb).1
  refine H.map id (fun i n e hi => ?_) (fun i n k hi => ?_) (fun j b hj hb => ⟨b, hj, hb, A.β j (lt hj)⟩) (fun i j n e m e' _ _ h => h) (fun _ _ => rfl)
  · have := heapScoped_get hs i _ hi
    simp only [Blk.scoped, blt_iff] at this
    exact ⟨n, hi, by rw [A.env n this], A.σ i (lt hi)⟩
  · have := heapScoped_get hs i _ hi
    simp only [Blk.scoped, blt_iff] at this
    exact ⟨⟨n, hi, by rw [A.env n this]⟩, A.σ i (lt hi)⟩
theorem HeapOK.agree {nv nj ρ h ρ' h' B w} {hp : List Blk} (A : Agree nv hp.length nj ρ h ρ' h') (hs : heapScoped nv hp.length nj hp = true) (H : HeapOK ρ h B hp w) : HeapOK ρ' h' B hp w := by
  have lt : ∀ {i : Nat} {b}, hp[i]? = some b → i < hp.length := fun hb => (List.getElem?_eq_some_iff.1 hb).1
  refine ⟨fun i b hb => (H.blk i b hb).agree A (lt hb) (heapScoped_get hs i b hb), fun i b hb hl => ?_, fun i j b c hb hc hl hl' he => ?_, H.lists.agree A hs⟩
  · rw [A.β i (lt hb)]; exact H.own i b hb hl
  · rw [A.β i (lt hb), A.β j (lt hc)] at he; exact H.inj i j b c hb hc hl hl' he

/-- the state stands for the same under more signs -/
theorem Rep.grow {S : St} {ρ h J a w} (r : Rep w0 S ρ h J a w) (hs : S.scoped = true) {ρ' : Env} {h' : Hid} (A : Agree S.nv S.nb S.nj ρ h ρ' h') :
    a.tmps.toList = denL ρ' h' S.slots ∧ HeapOK ρ' h' w0.heap.size S.heap w ∧ (∀ e b, (e, b) ∈ S.facts → e.den ρ' = b) ∧ (∀ e n, (e, n) ∈ S.defs → (ρ'.get n).int = e.den ρ') ∧
      (∀ i lo hi, S.ivs[i]? = some (some (lo, hi)) → lo ≤ (ρ'.get i).int ∧ (ρ'.get i).int ≤ hi) := by
  obtain ⟨h1, h2, h3, h4⟩ := scoped_parts hs
  refine ⟨r.slots.trans (denL_agree A _ h1).symm, r.heap.agree A h2, fun e b hm => ?_, fun e n hm => ?_, fun i lo hi hi' => ?_⟩
  · rw [BE.den_agree A.env (factsScoped_mem h3 e b hm)]; exact r.fok.facts e b hm
  · obtain ⟨g1, g2⟩ := defsScoped_mem h4 e n hm
    rw [IE.den_agree A.env g1, A.env n g2]; exact r.fok.defs e n hm
  · have hlt := (List.getElem?_eq_some_iff.1 hi').1
    rw [A.env i (by rw [← r.ivl]; exact hlt)]; exact r.fok.iv i lo hi hi'

theorem agree_append {nv nb nj : Nat} {ρ l : Env} {h : Hid} (hn : nv = ρ.length) : Agree nv nb nj ρ h (ρ ++ l) h :=
  ⟨fun i hi => Env.get_append_left (hn ▸ hi), fun _ _ => rfl, fun _ _ => rfl, fun _ _ => rfl, fun _ _ => rfl⟩
theorem lst_append {ρ l : Env} {i : Nat} {x : Int} (hx : x ∈ (Env.get (ρ ++ l) i).list) : x ∈ (Env.get ρ i).list ∨ ∃ j, x ∈ (Env.get l j).list := by
  by_cases hi : i < ρ.length
  · rw [Env.get_append_left hi] at hx; exact .inl hx
  · have : i = ρ.length + (i - ρ.length) := by omega
    rw [this, Env.get_append_right] at hx
    exact .inr ⟨_, hx⟩

theorem Rep.bindI {S : St} {ρ h J a w} (r : Rep w0 S ρ h J a w) (hs : S.scoped = true) {e : IE} (he : e.scoped S.nv = true) {iv : Option (Int × Int)} {x : Int} (hx : x = e.den ρ) (hiv : ∀ lo hi, iv = some (lo, hi) → lo ≤ x ∧ x ≤ hi) :
    Rep w0 (S.bindI e iv) (ρ ++ [.i x]) h J a w ∧ Later S (S.bindI e iv) ρ h J (ρ ++ [.i x]) h J := by
  have A : Agree S.nv S.nb S.nj ρ h (ρ ++ [.i x]) h := agree_append r.nv
  obtain ⟨g1, g2, g3, g4, g5⟩ := r.grow hs A
  refine ⟨⟨?_, r.lv, ?_, ⟨fun i lo hi hi' => ?_, g3, fun e' n hm => ?_, fun i y hy => ?_⟩, g1, r.defers, g2, r.below⟩, ⟨A, Nat.le_succ _, Nat.le_refl _, Nat.le_refl _, rfl, [], by simp⟩⟩
  · simp [St.bindI, r.nv]
  · simp [St.bindI, r.ivl]
  · simp only [St.bindI] at hi'
    rw [List.getElem?_append] at hi'
    split at hi'
    · exact g5 i lo hi hi'
    · rename_i hge
      have hi0 : i = S.nv := by
        have hlt := (List.getElem?_eq_some_iff.1 hi').1
        simp at hlt
        rw [r.ivl] at hlt hge
        omega
      subst hi0
      rw [r.ivl, Nat.sub_self, List.getElem?_cons_zero] at hi'
      injection hi' with hi'
      rw [r.nv, Env.get_append_self]
      exact hiv lo hi hi'
  · simp only [St.bindI] at hm
    exact g4 e' n hm
  · rcases lst_append hy with h1 | ⟨j, h1⟩
    · exact r.fok.lst i y h1
    · cases j <;> cases h1
theorem Rep.bindD {S : St} {ρ h J a w} (r : Rep w0 S ρ h J a w) (hs : S.scoped = true) {e : IE} (he : e.scoped S.nv = true) {iv : Option (Int × Int)} {x : Int} (hx : x = e.den ρ) (hiv : ∀ lo hi, iv = some (lo, hi) → lo ≤ x ∧ x ≤ hi) :
    Rep w0 (S.bindD e iv) (ρ ++ [.i x]) h J a w ∧ Later S (S.bindD e iv) ρ h J (ρ ++ [.i x]) h J := by
  obtain ⟨r1, l1⟩ := r.bindI hs he hx hiv
  refine ⟨⟨r1.nv, r1.lv, r1.ivl, ⟨r1.fok.iv, r1.fok.facts, fun e' n hm => ?_, r1.fok.lst⟩, r1.slots, r1.defers, r1.heap, r1.below⟩, ⟨l1.ag, l1.nv, l1.nb, l1.nj, l1.fid, l1.J⟩⟩
  simp only [St.bindD] at hm
  rcases List.mem_cons.1 hm with hm | hm
  · injection hm with h1 h2
    subst h1; subst h2
    rw [r.nv, Env.get_append_self, IE.den_agree (fun i hi => Env.get_append_left (r.nv ▸ hi)) he]
    exact hx
  · exact r1.fok.defs e' n hm
theorem withLen_sound {S : St} {ρ h J a w} (r : Rep w0 S ρ h J a w) {n : Nat} {k : Nat → St → Tree} (hl : (ρ.get n).list.length ≤ maxLen) (hd : (withLen S n k).den M R RP F J ρ) :
    ∃ m S1 ρ1, Rep w0 S1 ρ1 h J a w ∧ Later S S1 ρ h J ρ1 h J ∧ S1.slots = S.slots ∧ S1.heap = S.heap ∧ (At.v m).den ρ1 = ((ρ.get n).list.length : Int) ∧ (∀ i, i < S.nv → Env.get ρ1 i = Env.get ρ i) ∧ (k m S1).den M R RP F J ρ1 := by
  unfold withLen at hd
  split at hd
  · rename_i m hm
    have := defOf_sound r.fok.defs hm
    exact ⟨m, S, ρ, r, .refl, rfl, rfl, this, fun _ _ => rfl, hd⟩
  · split at hd
    · rename_i hc
      simp only [Bool.and_eq_true, blt_iff] at hc
      have hk := hd _ rfl
      obtain ⟨r', l'⟩ := r.bindD hc.1 (e := .len n) (iv := some (0, lenMax)) (by simp only [IE.scoped, blt_iff]; exact hc.2) rfl (fun lo hi e => by
        injection e with e; injection e with e1 e2
        subst e1; subst e2
        simp only [IE.den, lenMax]
        simp only [maxLen] at hl
        omega)
      refine ⟨S.nv, _, _, r', l', rfl, rfl, ?_, fun i hi => l'.ag.env i hi, hk⟩
      simp only [At.den, r.nv, Env.get_append_self, Cv.int, IE.den]
    · exact hd.elim
theorem withRows_sound {S : St} {ρ h J a w} (r : Rep w0 S ρ h J a w) {n : Nat} {k : Nat → St → Tree} (hl : (dec (ρ.get n).list).length ≤ maxLen) (hd : (withRows S n k).den M R RP F J ρ) :
    ∃ m S1 ρ1, Rep w0 S1 ρ1 h J a w ∧ Later S S1 ρ h J ρ1 h J ∧ S1.slots = S.slots ∧ S1.heap = S.heap ∧ (At.v m).den ρ1 = ((dec (ρ.get n).list).length : Int) ∧ (∀ i, i < S.nv → Env.get ρ1 i = Env.get ρ i) ∧ (k m S1).den M R RP F J ρ1 := by
  unfold withRows at hd
  split at hd
  · rename_i m hm
    have := defOf_sound r.fok.defs hm
    exact ⟨m, S, ρ, r, .refl, rfl, rfl, this, fun _ _ => rfl, hd⟩
  · split at hd
    · rename_i hc
      simp only [Bool.and_eq_true, blt_iff] at hc
      have hk := hd _ rfl
      obtain ⟨r', l'⟩ := r.bindD hc.1 (e := .rows n) (iv := some (0, lenMax)) (by simp only [IE.scoped, blt_iff]; exact hc.2) rfl (fun lo hi e => by
        injection e with e; injection e with e1 e2
        subst e1; subst e2
        simp only [IE.den, lenMax]
        simp only [maxLen] at hl
        omega)
      refine ⟨S.nv, _, _, r', l', rfl, rfl, ?_, fun i hi => l'.ag.env i hi, hk⟩
      simp only [At.den, r.nv, Env.get_append_self, Cv.int, IE.den]
    · exact hd.elim
theorem withCnt_sound {S : St} {ρ h J a w} (r : Rep w0 S ρ h J a w) {n c : Nat} {k : Nat → St → Tree} (hl : (ρ.get n).list.length / c ≤ maxLen) (hd : (withCnt S n c k).den M R RP F J ρ) :
    ∃ m S1 ρ1, Rep w0 S1 ρ1 h J a w ∧ Later S S1 ρ h J ρ1 h J ∧ S1.slots = S.slots ∧ S1.heap = S.heap ∧ (At.v m).den ρ1 = (((ρ.get n).list.length / c : Nat) : Int) ∧ (∀ i, i < S.nv → Env.get ρ1 i = Env.get ρ i) ∧ (k m S1).den M R RP F J ρ1 := by
  unfold withCnt at hd
  split at hd
  · rename_i m hm
    have := defOf_sound r.fok.defs hm
    exact ⟨m, S, ρ, r, .refl, rfl, rfl, this, fun _ _ => rfl, hd⟩
  · split at hd
    · rename_i hc
      simp only [Bool.and_eq_true, blt_iff] at hc
      have hk := hd _ rfl
      obtain ⟨r', l'⟩ := r.bindD hc.1 (e := .cnt n c) (iv := some (0, lenMax)) (by simp only [IE.scoped, blt_iff]; exact hc.2) rfl (fun lo hi e => by
        injection e with e; injection e with e1 e2
        subst e1; subst e2
        simp only [IE.den, lenMax]
        simp only [maxLen] at hl
        generalize (ρ.get n).list.length / c = q at hl
        omega)
      refine ⟨S.nv, _, _, r', l', rfl, rfl, ?_, fun i hi => l'.ag.env i hi, hk⟩
      simp only [At.den, r.nv, Env.get_append_self, Cv.int, IE.den]
    · exact hd.elim
end
end Go.SX
