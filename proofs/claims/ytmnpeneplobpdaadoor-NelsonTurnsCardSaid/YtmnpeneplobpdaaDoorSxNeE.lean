/-
  nelson's count: the closure that calls itself, by induction on the points that are left.
-/
import Derived.Test.YtmnpeneplobpdaaDoorSxNeC
namespace Go.Proofs.YtmnpeneplobpdaaDoor.X
open Go Go.SX Go.RowKit
set_option linter.unusedVariables false
set_option linter.unusedSimpArgs false
noncomputable def dec (P : Prop) : Bool := by
  classical exact decide P
theorem dec_iff {P : Prop} : dec P = true ↔ P := by unfold dec; simp
theorem dec_congr {P Q : Prop} (h : P ↔ Q) : dec P = dec Q := by rw [propext h]
theorem dec_true {P : Prop} (h : P) : dec P = true := dec_iff.2 h
theorem dec_false {P : Prop} (h : ¬ P) : dec P = false := by
  cases hd : dec P
  · rfl
  · exact absurd (dec_iff.1 hd) h
theorem dec_and {P Q : Prop} : dec (P ∧ Q) = (dec P && dec Q) := by
  by_cases p : P <;> by_cases q : Q <;> simp only [p, q, and_self, and_true, and_false, dec_true trivial, dec_false not_false] <;> rfl
theorem dec_or {P Q : Prop} : dec (P ∨ Q) = (dec P || dec Q) := by
  by_cases p : P <;> by_cases q : Q <;> simp only [p, q, or_self, or_true, or_false, dec_true trivial, dec_false not_false] <;> rfl
theorem dec_imp {P Q : Prop} : dec (P → Q) = (!dec P || dec Q) := by
  by_cases p : P <;> by_cases q : Q <;> simp only [p, q, true_implies, false_implies, dec_true trivial, dec_false not_false] <;> rfl
theorem dec_dec {P : Prop} [d : Decidable P] : dec P = decide P := by
  by_cases p : P
  · rw [dec_true p, decide_eq_true p]
  · rw [dec_false p, decide_eq_false p]
theorem dec3a {x y z : Int} {A B C : Prop} : dec ((x ≠ 0 → A) ∧ (y ≠ 0 → B) ∧ (z ≠ 0 → C)) = ((decide (x = 0) || dec A) && ((decide (y = 0) || dec B) && (decide (z = 0) || dec C))) := by
  rcases Decidable.em (x = 0) with p | p <;> rcases Decidable.em (y = 0) with q | q <;> rcases Decidable.em (z = 0) with r | r <;> simp [p, q, r, dec_and, dec_true trivial]
theorem dec3x {x y z : Int} {A B C : Prop} : dec ((x ≠ 0 ∧ A) ∨ (y ≠ 0 ∧ B) ∨ (z ≠ 0 ∧ C)) = ((!decide (x = 0) && dec A) || ((!decide (y = 0) && dec B) || (!decide (z = 0) && dec C))) := by
  rcases Decidable.em (x = 0) with p | p <;> rcases Decidable.em (y = 0) with q | q <;> rcases Decidable.em (z = 0) with r | r <;> simp [p, q, r, dec_or, dec_false not_false]
def cntU (u : Int) (row : List Int) : Nat := (row.filter fun c => decide (has u c)).length
def Gd (u v n a b : Int) (row : List Int) : Prop := n ≤ a + (cntU u row : Int) ∨ n ≤ b + (cntU v row : Int)
def AllC (u v n a b : Int) (ms : List Int) : Prop := ∀ row, Row ms row → Gd u v n a b row
def ExC (u v n a b : Int) (ms : List Int) : Prop := ∃ row, Row ms row ∧ Gd u v n a b row
theorem allC_nil {u v n a b : Int} : AllC u v n a b [] ↔ (n ≤ a ∨ n ≤ b) := by
  unfold AllC
  constructor
  · intro h; simpa [Gd, cntU] using h [] (row_nil.2 rfl)
  · intro h row hr
    rw [row_nil.1 hr]; simpa [Gd, cntU] using h
theorem exC_nil {u v n a b : Int} : ExC u v n a b [] ↔ (n ≤ a ∨ n ≤ b) := by
  unfold ExC
  constructor
  · rintro ⟨row, hr, h⟩
    rw [row_nil.1 hr] at h; simpa [Gd, cntU] using h
  · intro h; exact ⟨[], row_nil.2 rfl, by simpa [Gd, cntU] using h⟩
theorem gd_cons {u v n a b c : Int} {cs : List Int} (hd : ¬ (has u c ∧ has v c)) : Gd u v n a b (c :: cs) ↔ (has u c → Gd u v n (a + 1) b cs) ∧ (has v c → Gd u v n a (b + 1) cs) ∧ (¬ (has u c ∨ has v c) → Gd u v n a b cs) := by
  unfold Gd cntU
  rw [List.filter_cons, List.filter_cons]
  by_cases h1 : has u c <;> by_cases h2 : has v c
  · exact absurd ⟨h1, h2⟩ hd
  · simp only [h1, h2, decide_true, decide_false, if_true, Bool.false_eq_true, if_false, List.length_cons]; simp; omega
  · simp only [h1, h2, decide_true, decide_false, if_true, Bool.false_eq_true, if_false, List.length_cons]; simp; omega
  · simp only [h1, h2, decide_true, decide_false, if_true, Bool.false_eq_true, if_false, List.length_cons]; simp
theorem allC_cons {u v n a b m : Int} {ms : List Int} (hu : IsM0 u) (hv : IsM0 v) (hm : IsM0 m) (hd : ∀ c, ¬ (has u c ∧ has v c)) :
    AllC u v n a b (m :: ms) ↔ (bitDen .and .i64 m u ≠ 0 → AllC u v n (a + 1) b ms) ∧ (bitDen .and .i64 m v ≠ 0 → AllC u v n a (b + 1) ms) ∧ (bitDen .andNot .i64 m (bitDen .or .i64 u v) ≠ 0 → AllC u v n a b ms) := by
  have h1 := and_zero hm hu; have h2 := and_zero hm hv
  have h3 := has_ne (andnot_rng hm (or_rng hu hv))
  simp only [has_andnot hm (or_rng hu hv), has_or hu hv] at h3
  rw [h1, h2, h3]
  unfold AllC
  constructor
  · intro h
    refine ⟨?_, ?_, ?_⟩
    · rintro ⟨c, q1, q2⟩ row hr
      exact ((gd_cons (hd c)).1 (h (c :: row) (row_cons.2 ⟨c, row, rfl, q1, hr⟩))).1 q2
    · rintro ⟨c, q1, q2⟩ row hr
      exact ((gd_cons (hd c)).1 (h (c :: row) (row_cons.2 ⟨c, row, rfl, q1, hr⟩))).2.1 q2
    · rintro ⟨c, q1, q2⟩ row hr
      exact ((gd_cons (hd c)).1 (h (c :: row) (row_cons.2 ⟨c, row, rfl, q1, hr⟩))).2.2 q2
  · rintro ⟨g1, g2, g3⟩ row hr
    obtain ⟨c, cs, rfl, q, hr⟩ := row_cons.1 hr
    exact (gd_cons (hd c)).2 ⟨fun p => g1 ⟨c, q, p⟩ cs hr, fun p => g2 ⟨c, q, p⟩ cs hr, fun p => g3 ⟨c, q, p⟩ cs hr⟩
theorem exC_cons {u v n a b m : Int} {ms : List Int} (hu : IsM0 u) (hv : IsM0 v) (hm : IsM0 m) (hd : ∀ c, ¬ (has u c ∧ has v c)) :
    ExC u v n a b (m :: ms) ↔ (bitDen .and .i64 m u ≠ 0 ∧ ExC u v n (a + 1) b ms) ∨ (bitDen .and .i64 m v ≠ 0 ∧ ExC u v n a (b + 1) ms) ∨ (bitDen .andNot .i64 m (bitDen .or .i64 u v) ≠ 0 ∧ ExC u v n a b ms) := by
  have h1 := and_zero hm hu; have h2 := and_zero hm hv
  have h3 := has_ne (andnot_rng hm (or_rng hu hv))
  simp only [has_andnot hm (or_rng hu hv), has_or hu hv] at h3
  rw [h1, h2, h3]
  unfold ExC
  constructor
  · rintro ⟨row, hr, h⟩
    obtain ⟨c, cs, rfl, q, hr⟩ := row_cons.1 hr
    have k := (gd_cons (hd c)).1 h
    by_cases p1 : has u c
    · exact .inl ⟨⟨c, q, p1⟩, cs, hr, k.1 p1⟩
    · by_cases p2 : has v c
      · exact .inr (.inl ⟨⟨c, q, p2⟩, cs, hr, k.2.1 p2⟩)
      · have p3 : ¬ (has u c ∨ has v c) := fun x => x.elim p1 p2
        exact .inr (.inr ⟨⟨c, q, p3⟩, cs, hr, k.2.2 p3⟩)
  · rintro (⟨⟨c, q, p⟩, cs, hr, k⟩ | ⟨⟨c, q, p⟩, cs, hr, k⟩ | ⟨⟨c, q, p⟩, cs, hr, k⟩)
    · exact ⟨c :: cs, row_cons.2 ⟨c, cs, rfl, q, hr⟩, (gd_cons (hd c)).2 ⟨fun _ => k, fun x => absurd ⟨p, x⟩ (hd c), fun x => absurd (.inl p) x⟩⟩
    · exact ⟨c :: cs, row_cons.2 ⟨c, cs, rfl, q, hr⟩, (gd_cons (hd c)).2 ⟨fun x => absurd ⟨x, p⟩ (hd c), fun _ => k, fun x => absurd (.inr p) x⟩⟩
    · exact ⟨c :: cs, row_cons.2 ⟨c, cs, rfl, q, hr⟩, (gd_cons (hd c)).2 ⟨fun x => absurd (.inl x) p, fun x => absurd (.inr x) p, fun _ => k⟩⟩
theorem inI_pt {ms : List Int} (hm : ∀ m ∈ ms, IsM m) : InI (ptOf ms) := by
  induction ms with
  | nil => exact inI_nil
  | cons m r ih =>
    have h := hm m (by simp)
    have e := ends_of h
    have i := ih fun x hx => hm x (by simp [hx])
    have h1 := h.1; have h2 := h.2
    intro y hy
    unfold ptOf at hy
    simp only [List.mem_cons] at hy
    rcases hy with rfl | rfl | rfl | hy
    · omega
    · omega
    · omega
    · exact i y hy
theorem pt_tail (m : Int) (r : List Int) : List.take ((((m :: r).length : Int).toNat - Int.toNat 1) * 3) (List.drop (Int.toNat 1 * 3) (ptOf (m :: r))) = ptOf r := by
  have e : (((m :: r).length : Int).toNat - Int.toNat 1) = r.length := by simp
  rw [e, show Int.toNat 1 * 3 = 1 * 3 from rfl, pt_drop, pt_take]
  simp
noncomputable def ncnt_sem (N : Nat) : SpecSem := {
  pre := fun cs => match cs with
    | [.l l, .i a, .i b, .i n, .b _, .b _, .i u, .i v] => IsP l ∧ (mks l).length < N ∧ (0 ≤ a ∧ a + ((mks l).length : Int) ≤ 100) ∧ (0 ≤ b ∧ b + ((mks l).length : Int) ≤ 100) ∧ (0 ≤ n ∧ n ≤ 100) ∧ IsM0 u ∧ IsM0 v ∧ ∀ c, ¬ (has u c ∧ has v c)
    | _ => False,
  out := fun cs => match cs with
    | [.l l, .i a, .i b, .i n, .b e, .b s, .i u, .i v] => [.b (e && dec (AllC u v n a b (mks l))), .b (s || dec (ExC u v n a b (mks l)))]
    | _ => [] }
def ncnt_ef : EfSh := { args := [(.sptr 0 (.z 0) 1003 0), (.int .i64 (.z 0)), (.int .i64 (.z 0))], caps := [.rd .i64 3, .rw 4, .rw 4, .rd .i64 3, .self 82, .rd .i64 3] }
set_option maxRecDepth 100000 in
def ncnt_tree : Tree :=
.lett (.cnt 0 3) <|
.ite (.cmp .eq (.v 8) (.z 0)) (.ite (.cmp .le (.v 3) (.v 1)) (.ite (.v 4) (.ite (.v 5) (.ret (.tup [(.bool .t), (.bool .t)])) <|
.ret (.tup [(.bool .t), (.bool .t)])) <|
.ite (.v 5) (.ret (.tup [(.bool .f), (.bool .t)])) <|
.ret (.tup [(.bool .f), (.bool .t)])) <|
.ite (.v 4) (.ite (.v 5) (.ret (.tup [(.bool (.cmp .le (.v 3) (.v 2))), (.bool .t)])) <|
.ret (.tup [(.bool (.cmp .le (.v 3) (.v 2))), (.bool (.cmp .le (.v 3) (.v 2)))])) <|
.ite (.v 5) (.ret (.tup [(.bool .f), (.bool .t)])) <|
.ret (.tup [(.bool .f), (.bool (.cmp .le (.v 3) (.v 2)))])) <|
.lett (.nthS 0 3 0 (.z 0)) <|
.lett (.bit .and .i64 (.v 9) (.v 6)) <|
.ite (.not (.cmp .eq (.v 10) (.z 0))) (.lett (.addw .i64 (.v 1) (.z 1)) <|
.ite (.cmp .le (.v 8) (.v 8)) (.letl (.subS 0 3 (.z 1) (.v 8)) <|
.call 63 [.b, .b] [.l (.v 12), .i (.v 11), .i (.v 2), .i (.v 3), .b (.v 4), .b (.v 5), .i (.v 6), .i (.v 7)] <|
.lett (.bit .and .i64 (.v 9) (.v 7)) <|
.ite (.not (.cmp .eq (.v 15) (.z 0))) (.lett (.addw .i64 (.v 2) (.z 1)) <|
.letl (.subS 0 3 (.z 1) (.v 8)) <|
.call 63 [.b, .b] [.l (.v 17), .i (.v 1), .i (.v 16), .i (.v 3), .b (.v 13), .b (.v 14), .i (.v 6), .i (.v 7)] <|
.lett (.bit .or .i64 (.v 6) (.v 7)) <|
.lett (.bit .andNot .i64 (.v 9) (.v 20)) <|
.ite (.not (.cmp .eq (.v 21) (.z 0))) (.letl (.subS 0 3 (.z 1) (.v 8)) <|
.call 63 [.b, .b] [.l (.v 22), .i (.v 1), .i (.v 2), .i (.v 3), .b (.v 18), .b (.v 19), .i (.v 6), .i (.v 7)] <|
.ret (.tup [(.bool (.v 23)), (.bool (.v 24))])) <|
.ret (.tup [(.bool (.v 18)), (.bool (.v 19))])) <|
.lett (.bit .or .i64 (.v 6) (.v 7)) <|
.lett (.bit .andNot .i64 (.v 9) (.v 16)) <|
.ite (.not (.cmp .eq (.v 17) (.z 0))) (.letl (.subS 0 3 (.z 1) (.v 8)) <|
.call 63 [.b, .b] [.l (.v 18), .i (.v 1), .i (.v 2), .i (.v 3), .b (.v 13), .b (.v 14), .i (.v 6), .i (.v 7)] <|
.ret (.tup [(.bool (.v 19)), (.bool (.v 20))])) <|
.ret (.tup [(.bool (.v 13)), (.bool (.v 14))])) <|
.bad 120) <|
.lett (.bit .and .i64 (.v 9) (.v 7)) <|
.ite (.not (.cmp .eq (.v 11) (.z 0))) (.lett (.addw .i64 (.v 2) (.z 1)) <|
.ite (.cmp .le (.v 8) (.v 8)) (.letl (.subS 0 3 (.z 1) (.v 8)) <|
.call 63 [.b, .b] [.l (.v 13), .i (.v 1), .i (.v 12), .i (.v 3), .b (.v 4), .b (.v 5), .i (.v 6), .i (.v 7)] <|
.lett (.bit .or .i64 (.v 6) (.v 7)) <|
.lett (.bit .andNot .i64 (.v 9) (.v 16)) <|
.ite (.not (.cmp .eq (.v 17) (.z 0))) (.letl (.subS 0 3 (.z 1) (.v 8)) <|
.call 63 [.b, .b] [.l (.v 18), .i (.v 1), .i (.v 2), .i (.v 3), .b (.v 14), .b (.v 15), .i (.v 6), .i (.v 7)] <|
.ret (.tup [(.bool (.v 19)), (.bool (.v 20))])) <|
.ret (.tup [(.bool (.v 14)), (.bool (.v 15))])) <|
.bad 120) <|
.lett (.bit .or .i64 (.v 6) (.v 7)) <|
.lett (.bit .andNot .i64 (.v 9) (.v 12)) <|
.ite (.not (.cmp .eq (.v 13) (.z 0))) (.ite (.cmp .le (.v 8) (.v 8)) (.letl (.subS 0 3 (.z 1) (.v 8)) <|
.call 63 [.b, .b] [.l (.v 14), .i (.v 1), .i (.v 2), .i (.v 3), .b (.v 4), .b (.v 5), .i (.v 6), .i (.v 7)] <|
.ret (.tup [(.bool (.v 15)), (.bool (.v 16))])) <|
.bad 120) <|
.ret (.tup [(.bool (.v 4)), (.bool (.v 5))])
noncomputable def ncnt_cx : Ctx := { tys := tys, fns := fns, mets := mets, sps := [], anns := [], efs := [(63, ncnt_ef)] }
def ncnt_ivs : List (Option (Int × Int)) := [none, some ((-9223372036854775808), 9223372036854775807), some ((-9223372036854775808), 9223372036854775807), some ((-9223372036854775808), 9223372036854775807), none, none, some ((-9223372036854775808), 9223372036854775807), some ((-9223372036854775808), 9223372036854775807)]
set_option maxRecDepth 100000 in
theorem ncnt_walk : runEf ncnt_cx 3000 63 Tryd.f63 ncnt_ef ncnt_ivs = ncnt_tree := by kernel_rfl
noncomputable def ncnt_M (N : Nat) : Nat → SpecSem
  | 63 => ncnt_sem N
  | _ => noSem
theorem ncnt_cxok (N : Nat) (h : EfOK Tryd.prog 63 ncnt_ef (ncnt_sem N)) : CxOK Tryd.prog ncnt_cx (ncnt_M N) := ⟨tysOK, fnsOK, fun _ _ h => spNil h, mixedOK, fun _ _ h => trNil h, fun _ _ h => atNil h, metsOK, efCons h <| fun _ _ h => efNil h, fun _ _ h => lsNil h⟩
set_option maxRecDepth 100000 in
set_option maxHeartbeats 8000000 in
theorem ncnt_den (R RP : Value → Prop) (F : Ex → St → Js → Env → Prop) (N : Nat) (J : Js) (x0 : List Int) (x1 : Int) (x2 : Int) (x3 : Int) (x4 : Bool) (x5 : Bool) (x6 : Int) (x7 : Int) : Tree.den (ncnt_M N) R RP F ncnt_tree J [(.l x0), (.i x1), (.i x2), (.i x3), (.b x4), (.b x5), (.i x6), (.i x7)] = (
  ∀ x8 : Int, x8 = (((List.length x0 / 3 : Nat) : Int)) →
((Cmp.den .eq x8 (0 : Int)) = true → ((Cmp.den .le x3 x1) = true → (x4 = true → (x5 = true → R (Value.tuple [(Value.bool true), (Value.bool true)].toArray)) ∧ (x5 = false → R (Value.tuple [(Value.bool true), (Value.bool true)].toArray))) ∧ (x4 = false → (x5 = true → R (Value.tuple [(Value.bool false), (Value.bool true)].toArray)) ∧ (x5 = false → R (Value.tuple [(Value.bool false), (Value.bool true)].toArray)))) ∧ ((Cmp.den .le x3 x1) = false → (x4 = true → (x5 = true → R (Value.tuple [(Value.bool (Cmp.den .le x3 x2)), (Value.bool true)].toArray)) ∧ (x5 = false → R (Value.tuple [(Value.bool (Cmp.den .le x3 x2)), (Value.bool (Cmp.den .le x3 x2))].toArray))) ∧ (x4 = false → (x5 = true → R (Value.tuple [(Value.bool false), (Value.bool true)].toArray)) ∧ (x5 = false → R (Value.tuple [(Value.bool false), (Value.bool (Cmp.den .le x3 x2))].toArray))))) ∧ ((Cmp.den .eq x8 (0 : Int)) = false → ∀ x9 : Int, x9 = (List.getD x0 (Int.toNat (0 : Int) * 3 + 0) 0) →
∀ x10 : Int, x10 = (bitDen .and .i64 x9 x6) →
((!(Cmp.den .eq x10 (0 : Int))) = true → ∀ x11 : Int, x11 = (IntKind.i64.wrap (x1 + (1 : Int))) →
((Cmp.den .le x8 x8) = true → ∀ x12 : List Int, x12 = (List.take ((Int.toNat x8 - Int.toNat (1 : Int)) * 3) (List.drop (Int.toNat (1 : Int) * 3) x0)) →
((ncnt_sem N).pre [(.l (x12)), (.i x11), (.i x2), (.i x3), (.b x4), (.b x5), (.i x6), (.i x7)]) ∧ (
∀ x15 : Int, x15 = (bitDen .and .i64 x9 x7) →
((!(Cmp.den .eq x15 (0 : Int))) = true → ∀ x16 : Int, x16 = (IntKind.i64.wrap (x2 + (1 : Int))) →
∀ x17 : List Int, x17 = (List.take ((Int.toNat x8 - Int.toNat (1 : Int)) * 3) (List.drop (Int.toNat (1 : Int) * 3) x0)) →
((ncnt_sem N).pre [(.l (x17)), (.i x1), (.i x16), (.i x3), (.b (Cv.bool (Env.get ((ncnt_sem N).out [(.l (x12)), (.i x11), (.i x2), (.i x3), (.b x4), (.b x5), (.i x6), (.i x7)]) 0))), (.b (Cv.bool (Env.get ((ncnt_sem N).out [(.l (x12)), (.i x11), (.i x2), (.i x3), (.b x4), (.b x5), (.i x6), (.i x7)]) 1))), (.i x6), (.i x7)]) ∧ (
∀ x20 : Int, x20 = (bitDen .or .i64 x6 x7) →
∀ x21 : Int, x21 = (bitDen .andNot .i64 x9 x20) →
((!(Cmp.den .eq x21 (0 : Int))) = true → ∀ x22 : List Int, x22 = (List.take ((Int.toNat x8 - Int.toNat (1 : Int)) * 3) (List.drop (Int.toNat (1 : Int) * 3) x0)) →
((ncnt_sem N).pre [(.l (x22)), (.i x1), (.i x2), (.i x3), (.b (Cv.bool (Env.get ((ncnt_sem N).out [(.l (x17)), (.i x1), (.i x16), (.i x3), (.b (Cv.bool (Env.get ((ncnt_sem N).out [(.l (x12)), (.i x11), (.i x2), (.i x3), (.b x4), (.b x5), (.i x6), (.i x7)]) 0))), (.b (Cv.bool (Env.get ((ncnt_sem N).out [(.l (x12)), (.i x11), (.i x2), (.i x3), (.b x4), (.b x5), (.i x6), (.i x7)]) 1))), (.i x6), (.i x7)]) 0))), (.b (Cv.bool (Env.get ((ncnt_sem N).out [(.l (x17)), (.i x1), (.i x16), (.i x3), (.b (Cv.bool (Env.get ((ncnt_sem N).out [(.l (x12)), (.i x11), (.i x2), (.i x3), (.b x4), (.b x5), (.i x6), (.i x7)]) 0))), (.b (Cv.bool (Env.get ((ncnt_sem N).out [(.l (x12)), (.i x11), (.i x2), (.i x3), (.b x4), (.b x5), (.i x6), (.i x7)]) 1))), (.i x6), (.i x7)]) 1))), (.i x6), (.i x7)]) ∧ (
R (Value.tuple [(Value.bool (Cv.bool (Env.get ((ncnt_sem N).out [(.l (x22)), (.i x1), (.i x2), (.i x3), (.b (Cv.bool (Env.get ((ncnt_sem N).out [(.l (x17)), (.i x1), (.i x16), (.i x3), (.b (Cv.bool (Env.get ((ncnt_sem N).out [(.l (x12)), (.i x11), (.i x2), (.i x3), (.b x4), (.b x5), (.i x6), (.i x7)]) 0))), (.b (Cv.bool (Env.get ((ncnt_sem N).out [(.l (x12)), (.i x11), (.i x2), (.i x3), (.b x4), (.b x5), (.i x6), (.i x7)]) 1))), (.i x6), (.i x7)]) 0))), (.b (Cv.bool (Env.get ((ncnt_sem N).out [(.l (x17)), (.i x1), (.i x16), (.i x3), (.b (Cv.bool (Env.get ((ncnt_sem N).out [(.l (x12)), (.i x11), (.i x2), (.i x3), (.b x4), (.b x5), (.i x6), (.i x7)]) 0))), (.b (Cv.bool (Env.get ((ncnt_sem N).out [(.l (x12)), (.i x11), (.i x2), (.i x3), (.b x4), (.b x5), (.i x6), (.i x7)]) 1))), (.i x6), (.i x7)]) 1))), (.i x6), (.i x7)]) 0))), (Value.bool (Cv.bool (Env.get ((ncnt_sem N).out [(.l (x22)), (.i x1), (.i x2), (.i x3), (.b (Cv.bool (Env.get ((ncnt_sem N).out [(.l (x17)), (.i x1), (.i x16), (.i x3), (.b (Cv.bool (Env.get ((ncnt_sem N).out [(.l (x12)), (.i x11), (.i x2), (.i x3), (.b x4), (.b x5), (.i x6), (.i x7)]) 0))), (.b (Cv.bool (Env.get ((ncnt_sem N).out [(.l (x12)), (.i x11), (.i x2), (.i x3), (.b x4), (.b x5), (.i x6), (.i x7)]) 1))), (.i x6), (.i x7)]) 0))), (.b (Cv.bool (Env.get ((ncnt_sem N).out [(.l (x17)), (.i x1), (.i x16), (.i x3), (.b (Cv.bool (Env.get ((ncnt_sem N).out [(.l (x12)), (.i x11), (.i x2), (.i x3), (.b x4), (.b x5), (.i x6), (.i x7)]) 0))), (.b (Cv.bool (Env.get ((ncnt_sem N).out [(.l (x12)), (.i x11), (.i x2), (.i x3), (.b x4), (.b x5), (.i x6), (.i x7)]) 1))), (.i x6), (.i x7)]) 1))), (.i x6), (.i x7)]) 1)))].toArray))) ∧ ((!(Cmp.den .eq x21 (0 : Int))) = false → R (Value.tuple [(Value.bool (Cv.bool (Env.get ((ncnt_sem N).out [(.l (x17)), (.i x1), (.i x16), (.i x3), (.b (Cv.bool (Env.get ((ncnt_sem N).out [(.l (x12)), (.i x11), (.i x2), (.i x3), (.b x4), (.b x5), (.i x6), (.i x7)]) 0))), (.b (Cv.bool (Env.get ((ncnt_sem N).out [(.l (x12)), (.i x11), (.i x2), (.i x3), (.b x4), (.b x5), (.i x6), (.i x7)]) 1))), (.i x6), (.i x7)]) 0))), (Value.bool (Cv.bool (Env.get ((ncnt_sem N).out [(.l (x17)), (.i x1), (.i x16), (.i x3), (.b (Cv.bool (Env.get ((ncnt_sem N).out [(.l (x12)), (.i x11), (.i x2), (.i x3), (.b x4), (.b x5), (.i x6), (.i x7)]) 0))), (.b (Cv.bool (Env.get ((ncnt_sem N).out [(.l (x12)), (.i x11), (.i x2), (.i x3), (.b x4), (.b x5), (.i x6), (.i x7)]) 1))), (.i x6), (.i x7)]) 1)))].toArray)))) ∧ ((!(Cmp.den .eq x15 (0 : Int))) = false → ∀ x16 : Int, x16 = (bitDen .or .i64 x6 x7) →
∀ x17 : Int, x17 = (bitDen .andNot .i64 x9 x16) →
((!(Cmp.den .eq x17 (0 : Int))) = true → ∀ x18 : List Int, x18 = (List.take ((Int.toNat x8 - Int.toNat (1 : Int)) * 3) (List.drop (Int.toNat (1 : Int) * 3) x0)) →
((ncnt_sem N).pre [(.l (x18)), (.i x1), (.i x2), (.i x3), (.b (Cv.bool (Env.get ((ncnt_sem N).out [(.l (x12)), (.i x11), (.i x2), (.i x3), (.b x4), (.b x5), (.i x6), (.i x7)]) 0))), (.b (Cv.bool (Env.get ((ncnt_sem N).out [(.l (x12)), (.i x11), (.i x2), (.i x3), (.b x4), (.b x5), (.i x6), (.i x7)]) 1))), (.i x6), (.i x7)]) ∧ (
R (Value.tuple [(Value.bool (Cv.bool (Env.get ((ncnt_sem N).out [(.l (x18)), (.i x1), (.i x2), (.i x3), (.b (Cv.bool (Env.get ((ncnt_sem N).out [(.l (x12)), (.i x11), (.i x2), (.i x3), (.b x4), (.b x5), (.i x6), (.i x7)]) 0))), (.b (Cv.bool (Env.get ((ncnt_sem N).out [(.l (x12)), (.i x11), (.i x2), (.i x3), (.b x4), (.b x5), (.i x6), (.i x7)]) 1))), (.i x6), (.i x7)]) 0))), (Value.bool (Cv.bool (Env.get ((ncnt_sem N).out [(.l (x18)), (.i x1), (.i x2), (.i x3), (.b (Cv.bool (Env.get ((ncnt_sem N).out [(.l (x12)), (.i x11), (.i x2), (.i x3), (.b x4), (.b x5), (.i x6), (.i x7)]) 0))), (.b (Cv.bool (Env.get ((ncnt_sem N).out [(.l (x12)), (.i x11), (.i x2), (.i x3), (.b x4), (.b x5), (.i x6), (.i x7)]) 1))), (.i x6), (.i x7)]) 1)))].toArray))) ∧ ((!(Cmp.den .eq x17 (0 : Int))) = false → R (Value.tuple [(Value.bool (Cv.bool (Env.get ((ncnt_sem N).out [(.l (x12)), (.i x11), (.i x2), (.i x3), (.b x4), (.b x5), (.i x6), (.i x7)]) 0))), (Value.bool (Cv.bool (Env.get ((ncnt_sem N).out [(.l (x12)), (.i x11), (.i x2), (.i x3), (.b x4), (.b x5), (.i x6), (.i x7)]) 1)))].toArray))))) ∧ ((Cmp.den .le x8 x8) = false → False)) ∧ ((!(Cmp.den .eq x10 (0 : Int))) = false → ∀ x11 : Int, x11 = (bitDen .and .i64 x9 x7) →
((!(Cmp.den .eq x11 (0 : Int))) = true → ∀ x12 : Int, x12 = (IntKind.i64.wrap (x2 + (1 : Int))) →
((Cmp.den .le x8 x8) = true → ∀ x13 : List Int, x13 = (List.take ((Int.toNat x8 - Int.toNat (1 : Int)) * 3) (List.drop (Int.toNat (1 : Int) * 3) x0)) →
((ncnt_sem N).pre [(.l (x13)), (.i x1), (.i x12), (.i x3), (.b x4), (.b x5), (.i x6), (.i x7)]) ∧ (
∀ x16 : Int, x16 = (bitDen .or .i64 x6 x7) →
∀ x17 : Int, x17 = (bitDen .andNot .i64 x9 x16) →
((!(Cmp.den .eq x17 (0 : Int))) = true → ∀ x18 : List Int, x18 = (List.take ((Int.toNat x8 - Int.toNat (1 : Int)) * 3) (List.drop (Int.toNat (1 : Int) * 3) x0)) →
((ncnt_sem N).pre [(.l (x18)), (.i x1), (.i x2), (.i x3), (.b (Cv.bool (Env.get ((ncnt_sem N).out [(.l (x13)), (.i x1), (.i x12), (.i x3), (.b x4), (.b x5), (.i x6), (.i x7)]) 0))), (.b (Cv.bool (Env.get ((ncnt_sem N).out [(.l (x13)), (.i x1), (.i x12), (.i x3), (.b x4), (.b x5), (.i x6), (.i x7)]) 1))), (.i x6), (.i x7)]) ∧ (
R (Value.tuple [(Value.bool (Cv.bool (Env.get ((ncnt_sem N).out [(.l (x18)), (.i x1), (.i x2), (.i x3), (.b (Cv.bool (Env.get ((ncnt_sem N).out [(.l (x13)), (.i x1), (.i x12), (.i x3), (.b x4), (.b x5), (.i x6), (.i x7)]) 0))), (.b (Cv.bool (Env.get ((ncnt_sem N).out [(.l (x13)), (.i x1), (.i x12), (.i x3), (.b x4), (.b x5), (.i x6), (.i x7)]) 1))), (.i x6), (.i x7)]) 0))), (Value.bool (Cv.bool (Env.get ((ncnt_sem N).out [(.l (x18)), (.i x1), (.i x2), (.i x3), (.b (Cv.bool (Env.get ((ncnt_sem N).out [(.l (x13)), (.i x1), (.i x12), (.i x3), (.b x4), (.b x5), (.i x6), (.i x7)]) 0))), (.b (Cv.bool (Env.get ((ncnt_sem N).out [(.l (x13)), (.i x1), (.i x12), (.i x3), (.b x4), (.b x5), (.i x6), (.i x7)]) 1))), (.i x6), (.i x7)]) 1)))].toArray))) ∧ ((!(Cmp.den .eq x17 (0 : Int))) = false → R (Value.tuple [(Value.bool (Cv.bool (Env.get ((ncnt_sem N).out [(.l (x13)), (.i x1), (.i x12), (.i x3), (.b x4), (.b x5), (.i x6), (.i x7)]) 0))), (Value.bool (Cv.bool (Env.get ((ncnt_sem N).out [(.l (x13)), (.i x1), (.i x12), (.i x3), (.b x4), (.b x5), (.i x6), (.i x7)]) 1)))].toArray)))) ∧ ((Cmp.den .le x8 x8) = false → False)) ∧ ((!(Cmp.den .eq x11 (0 : Int))) = false → ∀ x12 : Int, x12 = (bitDen .or .i64 x6 x7) →
∀ x13 : Int, x13 = (bitDen .andNot .i64 x9 x12) →
((!(Cmp.den .eq x13 (0 : Int))) = true → ((Cmp.den .le x8 x8) = true → ∀ x14 : List Int, x14 = (List.take ((Int.toNat x8 - Int.toNat (1 : Int)) * 3) (List.drop (Int.toNat (1 : Int) * 3) x0)) →
((ncnt_sem N).pre [(.l (x14)), (.i x1), (.i x2), (.i x3), (.b x4), (.b x5), (.i x6), (.i x7)]) ∧ (
R (Value.tuple [(Value.bool (Cv.bool (Env.get ((ncnt_sem N).out [(.l (x14)), (.i x1), (.i x2), (.i x3), (.b x4), (.b x5), (.i x6), (.i x7)]) 0))), (Value.bool (Cv.bool (Env.get ((ncnt_sem N).out [(.l (x14)), (.i x1), (.i x2), (.i x3), (.b x4), (.b x5), (.i x6), (.i x7)]) 1)))].toArray))) ∧ ((Cmp.den .le x8 x8) = false → False)) ∧ ((!(Cmp.den .eq x13 (0 : Int))) = false → R (Value.tuple [(Value.bool x4), (Value.bool x5)].toArray)))))) := by kernel_rfl

set_option maxHeartbeats 16000000 in
theorem ncnt_ok : ∀ N, EfOK Tryd.prog 63 ncnt_ef (ncnt_sem N)
  | 0 => by
    intro cs hpre
    match cs, hpre with
    | [.l l, .i a, .i b, .i n, .b e, .b s, .i u, .i v], h => exact absurd h.2.1 (Nat.not_lt_zero _)
  | N + 1 => by
    refine ef_of_tree (ncnt_cxok N (ncnt_ok N)) Tryd.func63 (by kernel_rfl) (by kernel_rfl) ncnt_walk rfl ?_
    intro cs hpre
    match cs, hpre with
    | [.l l, .i a, .i b, .i n, .b e, .b s, .i u, .i v], ⟨⟨ms, hl, hm, hlen⟩, hN, ha, hb, hn, hu, hv, hd⟩ =>
      subst hl
      have j_l := inI_pt hm
      rw [mks_pt] at hN ha hb
      have hu' := hu.1; have hu2 := hu.2; have hv' := hv.1; have hv2 := hv.2
      refine ⟨rfl, IvsB.ok (by simp only [ncnt_ivs, IvsB, Cv.int, and_true, j_l, true_and] <;> omega), (by simp only [ncnt_sem, ncnt_ef, efSh, Fits, List.filter, EfC.isRw, List.map]), ?_⟩
      rw [ncnt_den]
      cases ms with
      | nil =>
        have hA := dec_congr (allC_nil (u := u) (v := v) (n := n) (a := a) (b := b))
        have hX := dec_congr (exC_nil (u := u) (v := v) (n := n) (a := a) (b := b))
        have hz : (((([] : List Int).length : Nat) : Int) = 0) = True := by simp
        rcases Decidable.em (n ≤ a) with p | p <;> rcases Decidable.em (n ≤ b) with q | q
        all_goals simp only [ncnt_sem, ncnt_ef, ncnt_den, Tree.den, LE.den, Cv.list, placeA, List.getElem?_cons_zero, List.getElem?_cons_succ, IE.den, BE.den, At.den, CA.den, Env.get, Cv.int, Cv.bool, List.cons_append, List.nil_append, List.map_cons, List.map_nil, bindRes, bindEq, Fits, SV.den, denL, place, placeL, eq_t, eq_f, lt_t, lt_f, le_t, le_f, beq_iff_eq, beq_eq_false_iff_ne, ne_eq, reduceCtorEq, b_dec, decide_eq_true_eq, decide_eq_false_iff_not, Bool.not_eq_false', Bool.or_eq_true, Bool.or_eq_false_iff, Bool.and_eq_false_iff, true_iff, false_iff, Bool.false_eq_true, Bool.not_eq_true', Bool.and_eq_true, Bool.not_true, Bool.not_false, List.cons.injEq, Cv.i.injEq, Cv.b.injEq, and_true, true_and, agg_inj, tup_inj, Value.int.injEq, Value.bool.injEq, mks_pt, pt_cnt, hA, hX, hz, p, q, dec_dec, forall_eq, eq_self, if_true, if_false, true_and, and_true, false_and, and_false, true_or, or_true, false_or, or_false, true_iff, iff_true, false_iff, iff_false, not_true_eq_false, not_false_eq_true, true_implies, false_implies, implies_true, forall_const, decide_true, decide_false, reduceCtorEq]
        all_goals cases e <;> cases s <;> simp [le_t, le_f] <;> omega
      | cons m r =>
        have hM := hm m (by simp)
        have hr : ∀ x ∈ r, IsM x := fun x hx => hm x (by simp [hx])
        simp only [List.length_cons] at hlen hN ha hb
        have hP : IsP (ptOf r) := ⟨r, rfl, hr, by omega⟩
        have hA := allC_cons (n := n) (a := a) (b := b) (ms := r) hu hv hM.m0 hd
        have hX := exC_cons (n := n) (a := a) (b := b) (ms := r) hu hv hM.m0 hd
        have g0 : (ptOf (m :: r)).getD (Int.toNat 0 * 3 + 0) 0 = m := rfl
        have wa : IntKind.i64.wrap (a + 1) = a + 1 := w64 (by omega) (by omega)
        have wb : IntKind.i64.wrap (b + 1) = b + 1 := w64 (by omega) (by omega)
        have hz : (((m :: r).length : Int) = 0) = False := by simp; omega
        have hA2 : dec (AllC u v n a b (m :: r)) = ((decide (bitDen .and .i64 m u = 0) || dec (AllC u v n (a + 1) b r)) && ((decide (bitDen .and .i64 m v = 0) || dec (AllC u v n a (b + 1) r)) && (decide (bitDen .andNot .i64 m (bitDen .or .i64 u v) = 0) || dec (AllC u v n a b r)))) := by
          rw [dec_congr hA, dec3a]
        have hX2 : dec (ExC u v n a b (m :: r)) = ((!decide (bitDen .and .i64 m u = 0) && dec (ExC u v n (a + 1) b r)) || ((!decide (bitDen .and .i64 m v = 0) && dec (ExC u v n a (b + 1) r)) || (!decide (bitDen .andNot .i64 m (bitDen .or .i64 u v) = 0) && dec (ExC u v n a b r)))) := by
          rw [dec_congr hX, dec3x]
        rcases Decidable.em (bitDen .and .i64 m u = 0) with c1 | c1 <;> rcases Decidable.em (bitDen .and .i64 m v = 0) with c2 | c2 <;> rcases Decidable.em (bitDen .andNot .i64 m (bitDen .or .i64 u v) = 0) with c3 | c3
        all_goals simp only [ncnt_sem, ncnt_ef, ncnt_den, Tree.den, LE.den, Cv.list, placeA, List.getElem?_cons_zero, List.getElem?_cons_succ, IE.den, BE.den, At.den, CA.den, Env.get, Cv.int, Cv.bool, List.cons_append, List.nil_append, List.map_cons, List.map_nil, bindRes, bindEq, Fits, SV.den, denL, place, placeL, eq_t, eq_f, lt_t, lt_f, le_t, le_f, beq_iff_eq, beq_eq_false_iff_ne, ne_eq, reduceCtorEq, b_dec, decide_eq_true_eq, decide_eq_false_iff_not, Bool.not_eq_false', Bool.or_eq_true, Bool.or_eq_false_iff, Bool.and_eq_false_iff, true_iff, false_iff, Bool.false_eq_true, Bool.not_eq_true', Bool.and_eq_true, Bool.not_true, Bool.not_false, List.cons.injEq, Cv.i.injEq, Cv.b.injEq, and_true, true_and, agg_inj, tup_inj, Value.int.injEq, Value.bool.injEq, mks_pt, pt_cnt, pt_tail, g0, wa, wb, hz, hd, hP, hu, hv, hA2, hX2, c1, c2, c3, Bool.true_or, Bool.false_or, Bool.true_and, Bool.false_and, Bool.and_true, Bool.or_false, Bool.and_assoc, Bool.or_assoc, forall_eq, eq_self, if_true, if_false, true_and, and_true, false_and, and_false, true_or, or_true, false_or, or_false, true_iff, iff_true, false_iff, iff_false, not_true_eq_false, not_false_eq_true, true_implies, false_implies, implies_true, forall_const, decide_true, decide_false, reduceCtorEq]
        all_goals (repeat' (first | intro _ | refine And.intro ?_ ?_ | exact trivial)) <;> first | omega | rfl
end Go.Proofs.YtmnpeneplobpdaaDoor.X
