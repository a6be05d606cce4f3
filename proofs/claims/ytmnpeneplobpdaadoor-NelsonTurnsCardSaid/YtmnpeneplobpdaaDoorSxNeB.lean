/-
  nelson's may, each: by contract.
-/
import Derived.Test.YtmnpeneplobpdaaDoorSxNeA
namespace Go.Proofs.YtmnpeneplobpdaaDoor.X
open Go Go.SX Go.RowKit
set_option linter.unusedVariables false
set_option linter.unusedSimpArgs false








def IsMs (l : List Int) : Prop := l.length ≤ 15 ∧ ∀ m ∈ l, IsM m
instance (l : List Int) : Decidable (IsMs l) := by unfold IsMs IsM; infer_instance
def nmay_sp : SpecSh := { args := [(.lst 0)], res := (.bool .f), sh := [.b] }
set_option maxRecDepth 100000 in
def nmay_tree : Tree :=
.lett (.len 0) <|
.ite (.cmp .le (.v 1) (.z 15)) (.loop [.i (some (0, 100000))] [.i (.z 0)] <|
.ite (.cmp .lt (.v 2) (.v 1)) (.lett (.nth 0 (.v 2)) <|
.call 25 [.i (some ((-4), 4)), .i (some ((-4), 4)), .i (some (0, 1))] [.i (.v 3)] <|
.ite (.not (.cmp .eq (.v 6) (.z 0))) (.ret (.bool (.not (.cmp .le (.z 0) (.v 2))))) <|
.lett (.add (.v 2) (.z 1)) <|
.again 0 [.i (.v 7)]) <|
.ret (.bool (.not (.cmp .le (.z 0) (.z (-1)))))) <|
.ret (.bool .f)
noncomputable def nmay_cx : Ctx := { tys := tys, fns := fns, mets := mets, sps := [(25, zends_sp)], anns := [((46, 2), { slots := [8], cells := [], ivs := [some (0, 100000)] })], trys := [] }
def nmay_ivs : List (Option (Int × Int)) := [none]
set_option maxRecDepth 100000 in
theorem nmay_walk : runFn nmay_cx 3000 24 Tryd.f24 nmay_sp.args nmay_ivs = nmay_tree := by kernel_rfl
noncomputable def nmay_M : Nat → SpecSem
  | 25 => zends_sem
  | _ => noSem
theorem nmay_M25 : nmay_M 25 = zends_sem := rfl
theorem nmay_cxok : CxOK Tryd.prog nmay_cx nmay_M tzG := ⟨tysOK, fnsOK, spCons zends_ok <| fun _ _ h => spNil h, mixedOK, fun _ _ h => trNil h, fun _ _ h => atNil h, metsOK, fun _ _ h => efNil h, fun _ _ h => lsNil h⟩
set_option maxRecDepth 100000 in
set_option maxHeartbeats 8000000 in
theorem nmay_den (R RP : Value → Prop) (F : Ex → St → Js → Env → Prop) (x0 : List Int) : Tree.den nmay_M R RP F nmay_tree [] [(.l x0)] = (
  ∀ x1 : Int, x1 = ((List.length x0 : Int)) →
((Cmp.den .le x1 (15 : Int)) = true → ∃ (I0 : List Cv → Prop) (mu0 : List Cv → Nat), Fits [.i (some ((0), (100000)))] [(.i (0 : Int))] ∧ I0 [(.i (0 : Int))] ∧ (
∀ x2 : Int, (0 : Int) ≤ x2 → x2 ≤ (100000 : Int) → I0 [.i x2] →
((Cmp.den .lt x2 x1) = true → ∀ x3 : Int, x3 = (List.getD x0 (Int.toNat x2) 0) →
(zends_sem.pre [(.i x3)]) ∧ (
∀ x4 : Int, x4 = (Cv.int (Env.get (zends_sem.out [(.i x3)]) 0)) → (-4 : Int) ≤ x4 → x4 ≤ (4 : Int) →
∀ x5 : Int, x5 = (Cv.int (Env.get (zends_sem.out [(.i x3)]) 1)) → (-4 : Int) ≤ x5 → x5 ≤ (4 : Int) →
∀ x6 : Int, x6 = (Cv.int (Env.get (zends_sem.out [(.i x3)]) 2)) → (0 : Int) ≤ x6 → x6 ≤ (1 : Int) →
((!(Cmp.den .eq x6 (0 : Int))) = true → R (Value.bool (!(Cmp.den .le (0 : Int) x2)))) ∧ ((!(Cmp.den .eq x6 (0 : Int))) = false → ∀ x7 : Int, x7 = (x2 + (1 : Int)) →
Fits [.i (some ((0), (100000)))] [(.i x7)] ∧ I0 [(.i x7)] ∧ mu0 [(.i x7)] < mu0 [.i x2]))) ∧ ((Cmp.den .lt x2 x1) = false → R (Value.bool (!(Cmp.den .le (0 : Int) (-1 : Int))))))) ∧ ((Cmp.den .le x1 (15 : Int)) = false → R (Value.bool false))) := by kernel_rfl

def nmay_sem : SpecSem := { pre := fun cs => match cs with | [.l l] => InI l | _ => False, out := fun cs => match cs with | [.l l] => [.b (decide (IsMs l))] | _ => [], g := tzG }
set_option maxRecDepth 10000 in
set_option maxHeartbeats 16000000 in
theorem nmay_ok : SpecOK Tryd.prog 24 nmay_sp nmay_sem := by
  refine spec_of_tree nmay_cxok Tryd.func24 (by kernel_rfl) (by kernel_rfl) nmay_walk rfl ?_
  intro cs hpre
  match cs, hpre with
  | [.l l], j_l =>
    have j_l : InI l := j_l
    refine ⟨rfl, IvsB.ok (by simp only [nmay_ivs, IvsB, Cv.int, and_true, j_l, true_and] <;> omega), ?_, ?_⟩
    · simp only [nmay_sem, nmay_sp, Fits]
    · rw [nmay_den]
      simp only [nmay_sem, nmay_sp, zends_sem, nmay_den, zends_sem, Tree.den, LE.den, Cv.list, placeA, List.getElem?_cons_zero, List.getElem?_cons_succ, IE.den, BE.den, At.den, CA.den, Env.get, Cv.int, Cv.bool, List.cons_append, List.nil_append, List.map_cons, List.map_nil, bindRes, bindEq, Fits, SV.den, denL, place, placeL, eq_t, eq_f, lt_t, lt_f, le_t, le_f, beq_iff_eq, beq_eq_false_iff_ne, ne_eq, reduceCtorEq, b_dec, decide_eq_true_eq, decide_eq_false_iff_not, Bool.not_eq_false', Bool.or_eq_true, Bool.or_eq_false_iff, Bool.and_eq_false_iff, true_iff, false_iff, Bool.false_eq_true, Bool.not_eq_true', Bool.and_eq_true, Bool.not_true, Bool.not_false, List.cons.injEq, Cv.i.injEq, Cv.b.injEq, and_true, true_and, agg_inj, tup_inj, Value.int.injEq, Value.bool.injEq, forall_eq, eq_self, if_true, if_false, true_and, and_true, false_and, and_false, true_or, or_true, false_or, or_false, true_iff, iff_true, false_iff, iff_false, not_true_eq_false, not_false_eq_true, true_implies, false_implies, implies_true, forall_const, decide_true, decide_false, reduceCtorEq]
      refine ⟨fun hl => ?_, fun hl h => by have := h.1; omega⟩
      refine ⟨fun vs => match vs with | [.i i] => UpTo l IsM i | _ => False, fun vs => match vs with | [.i i] => (100 - i).toNat | _ => 0, ⟨by omega, by omega⟩, upTo_zero, ?_⟩
      intro i i0 i1 hI
      have hI : UpTo l IsM i := hI
      refine ⟨fun hlt => ⟨j_l _ (getD_mem (by omega)), fun _ _ _ _ _ _ => ⟨fun h => ?_, fun h => ?_⟩⟩, fun hge => ?_⟩
      · have hm : ¬ IsM (l.getD i.toNat 0) := fun q => h (if_pos q)
        exact ⟨fun q => by omega, fun q => absurd (q.2 _ (getD_mem (by omega))) hm⟩
      · have hm : IsM (l.getD i.toNat 0) := by
          by_cases q : 1 ≤ l.getD i.toNat 0 ∧ l.getD i.toNat 0 ≤ 511
          · exact q
          · rw [if_neg q] at h; omega
        refine ⟨by omega, (upTo_step i0).2 ⟨hI, hm⟩, ?_⟩
        show (100 - (i + 1)).toNat < (100 - i).toNat
        omega
      · refine ⟨fun _ => ⟨by omega, fun m hm => ?_⟩, fun _ => by omega⟩
        obtain ⟨j, hj, rfl⟩ := mem_getD hm
        exact hI j (by omega)
/-- each of some masks within a set, or meeting it -/
noncomputable def eachV (ms : List Int) (a : Int) : Int := val3 (ms ≠ [] ∧ ∀ m ∈ ms, bitDen .andNot .i64 m a = 0) (ms ≠ [] ∧ ∀ m ∈ ms, ¬ bitDen .and .i64 m a = 0)
theorem bstep {e e' : Bool} {A A' C : Prop} (h : e = true ↔ A) (hs : A' ↔ A ∧ C) (h' : e = true → (e' = true ↔ C)) (h0 : e = false → e' = false) : e' = true ↔ A' := by
  rw [hs, ← h]
  cases e
  · rw [h0 rfl]; simp
  · rw [h' rfl]; simp
theorem and_step {N A A' C : Prop} (h : A' ↔ A ∧ C) : (N ∧ A') ↔ (N ∧ A) ∧ C := by rw [h]; exact and_assoc.symm
def neach_sp : SpecSh := { args := [(.sptr 0 (.z 0) 1003 0), (.int .i64 (.z 0))], res := (.int .i64 (.z 0)), sh := [.i (some (0, 2))] }
set_option maxRecDepth 100000 in
def neach_tree : Tree :=
.lett (.cnt 0 3) <|
.loop [.b, .b, .i (some (0, 100000))] [.b (.cmp .lt (.z 0) (.v 2)), .b (.cmp .lt (.z 0) (.v 2)), .i (.z 0)] <|
.ite (.cmp .lt (.v 5) (.v 2)) (.lett (.nthS 0 3 0 (.v 5)) <|
.lett (.nthS 0 3 1 (.v 5)) <|
.lett (.nthS 0 3 2 (.v 5)) <|
.ite (.v 3) (.lett (.bit .andNot .i64 (.v 6) (.v 1)) <|
.ite (.v 4) (.lett (.bit .and .i64 (.v 6) (.v 1)) <|
.lett (.add (.v 5) (.z 1)) <|
.again 0 [.b (.cmp .eq (.v 9) (.z 0)), .b (.not (.cmp .eq (.v 10) (.z 0))), .i (.v 11)]) <|
.lett (.add (.v 5) (.z 1)) <|
.again 0 [.b (.cmp .eq (.v 9) (.z 0)), .b .f, .i (.v 10)]) <|
.ite (.v 4) (.lett (.bit .and .i64 (.v 6) (.v 1)) <|
.lett (.add (.v 5) (.z 1)) <|
.again 0 [.b .f, .b (.not (.cmp .eq (.v 9) (.z 0))), .i (.v 10)]) <|
.lett (.add (.v 5) (.z 1)) <|
.again 0 [.b .f, .b .f, .i (.v 9)]) <|
.call 62 [.i (some (0, 2))] [.b (.v 3), .b (.v 4)] <|
.ret (.int .i64 (.v 6))
noncomputable def neach_cx : Ctx := { tys := tys, fns := fns, mets := mets, sps := [(62, nsure_sp)], anns := [((53, 3), { slots := [5, 6, 17], cells := [], ivs := [none, none, some (0, 100000)] })], trys := [] }
def neach_ivs : List (Option (Int × Int)) := [none, some (0, 511)]
set_option maxRecDepth 100000 in
theorem neach_walk : runFn neach_cx 3000 53 Tryd.f53 neach_sp.args neach_ivs = neach_tree := by kernel_rfl
noncomputable def neach_M : Nat → SpecSem
  | 62 => nsure_sem
  | _ => noSem
theorem neach_M62 : neach_M 62 = nsure_sem := rfl
theorem neach_cxok : CxOK Tryd.prog neach_cx neach_M := ⟨tysOK, fnsOK, spCons nsure_ok <| fun _ _ h => spNil h, mixedOK, fun _ _ h => trNil h, fun _ _ h => atNil h, metsOK, fun _ _ h => efNil h, fun _ _ h => lsNil h⟩
set_option maxRecDepth 100000 in
set_option maxHeartbeats 8000000 in
theorem neach_den (R RP : Value → Prop) (F : Ex → St → Js → Env → Prop) (x0 : List Int) (x1 : Int) : Tree.den neach_M R RP F neach_tree [] [(.l x0), (.i x1)] = (
  ∀ x2 : Int, x2 = (((List.length x0 / 3 : Nat) : Int)) →
∃ (I0 : List Cv → Prop) (mu0 : List Cv → Nat), Fits [.b, .b, .i (some ((0), (100000)))] [(.b (Cmp.den .lt (0 : Int) x2)), (.b (Cmp.den .lt (0 : Int) x2)), (.i (0 : Int))] ∧ I0 [(.b (Cmp.den .lt (0 : Int) x2)), (.b (Cmp.den .lt (0 : Int) x2)), (.i (0 : Int))] ∧ (
∀ x3 : Bool, ∀ x4 : Bool, ∀ x5 : Int, (0 : Int) ≤ x5 → x5 ≤ (100000 : Int) → I0 [.b x3, .b x4, .i x5] →
((Cmp.den .lt x5 x2) = true → ∀ x6 : Int, x6 = (List.getD x0 (Int.toNat x5 * 3 + 0) 0) →
∀ x7 : Int, x7 = (List.getD x0 (Int.toNat x5 * 3 + 1) 0) →
∀ x8 : Int, x8 = (List.getD x0 (Int.toNat x5 * 3 + 2) 0) →
(x3 = true → ∀ x9 : Int, x9 = (bitDen .andNot .i64 x6 x1) →
(x4 = true → ∀ x10 : Int, x10 = (bitDen .and .i64 x6 x1) →
∀ x11 : Int, x11 = (x5 + (1 : Int)) →
Fits [.b, .b, .i (some ((0), (100000)))] [(.b (Cmp.den .eq x9 (0 : Int))), (.b (!(Cmp.den .eq x10 (0 : Int)))), (.i x11)] ∧ I0 [(.b (Cmp.den .eq x9 (0 : Int))), (.b (!(Cmp.den .eq x10 (0 : Int)))), (.i x11)] ∧ mu0 [(.b (Cmp.den .eq x9 (0 : Int))), (.b (!(Cmp.den .eq x10 (0 : Int)))), (.i x11)] < mu0 [.b x3, .b x4, .i x5]) ∧ (x4 = false → ∀ x10 : Int, x10 = (x5 + (1 : Int)) →
Fits [.b, .b, .i (some ((0), (100000)))] [(.b (Cmp.den .eq x9 (0 : Int))), (.b false), (.i x10)] ∧ I0 [(.b (Cmp.den .eq x9 (0 : Int))), (.b false), (.i x10)] ∧ mu0 [(.b (Cmp.den .eq x9 (0 : Int))), (.b false), (.i x10)] < mu0 [.b x3, .b x4, .i x5])) ∧ (x3 = false → (x4 = true → ∀ x9 : Int, x9 = (bitDen .and .i64 x6 x1) →
∀ x10 : Int, x10 = (x5 + (1 : Int)) →
Fits [.b, .b, .i (some ((0), (100000)))] [(.b false), (.b (!(Cmp.den .eq x9 (0 : Int)))), (.i x10)] ∧ I0 [(.b false), (.b (!(Cmp.den .eq x9 (0 : Int)))), (.i x10)] ∧ mu0 [(.b false), (.b (!(Cmp.den .eq x9 (0 : Int)))), (.i x10)] < mu0 [.b x3, .b x4, .i x5]) ∧ (x4 = false → ∀ x9 : Int, x9 = (x5 + (1 : Int)) →
Fits [.b, .b, .i (some ((0), (100000)))] [(.b false), (.b false), (.i x9)] ∧ I0 [(.b false), (.b false), (.i x9)] ∧ mu0 [(.b false), (.b false), (.i x9)] < mu0 [.b x3, .b x4, .i x5]))) ∧ ((Cmp.den .lt x5 x2) = false → (nsure_sem.pre [(.b x3), (.b x4)]) ∧ (
∀ x6 : Int, x6 = (Cv.int (Env.get (nsure_sem.out [(.b x3), (.b x4)]) 0)) → (0 : Int) ≤ x6 → x6 ≤ (2 : Int) →
R (Value.int .i64 x6))))) := by kernel_rfl

noncomputable def neach_sem : SpecSem := { pre := fun cs => match cs with | [.l l, .i a] => InI l ∧ IsI a ∧ (IsP l ∧ 0 ≤ a ∧ a ≤ 511) | _ => False, out := fun cs => match cs with | [.l l, .i a] => [.i (eachV (mks l) a)] | _ => [] }
set_option maxRecDepth 10000 in
set_option maxHeartbeats 16000000 in
theorem neach_ok : SpecOK Tryd.prog 53 neach_sp neach_sem := by
  refine spec_of_tree neach_cxok Tryd.func53 (by kernel_rfl) (by kernel_rfl) neach_walk rfl ?_
  intro cs hpre
  match cs, hpre with
  | [.l l, .i a], ⟨j_l, j_a, hx⟩ =>
    have h_a := j_a
    unfold IsI at h_a
    refine ⟨rfl, IvsB.ok (by simp only [neach_ivs, IvsB, Cv.int, and_true, j_l, true_and] <;> omega), ?_, ?_⟩
    · simp only [neach_sem, neach_sp, Fits, and_true]; exact val3_rng _ _
    · rw [neach_den]
      simp only [neach_sem, neach_sp, nsure_sem, neach_den, nsure_sem, Tree.den, LE.den, Cv.list, placeA, List.getElem?_cons_zero, List.getElem?_cons_succ, IE.den, BE.den, At.den, CA.den, Env.get, Cv.int, Cv.bool, List.cons_append, List.nil_append, List.map_cons, List.map_nil, bindRes, bindEq, Fits, SV.den, denL, place, placeL, eq_t, eq_f, lt_t, lt_f, le_t, le_f, beq_iff_eq, beq_eq_false_iff_ne, ne_eq, reduceCtorEq, b_dec, decide_eq_true_eq, decide_eq_false_iff_not, Bool.not_eq_false', Bool.or_eq_true, Bool.or_eq_false_iff, Bool.and_eq_false_iff, true_iff, false_iff, Bool.false_eq_true, Bool.not_eq_true', Bool.and_eq_true, Bool.not_true, Bool.not_false, List.cons.injEq, Cv.i.injEq, Cv.b.injEq, and_true, true_and, agg_inj, tup_inj, Value.int.injEq, Value.bool.injEq, forall_eq, eq_self, if_true, if_false, true_and, and_true, false_and, and_false, true_or, or_true, false_or, or_false, true_iff, iff_true, false_iff, iff_false, not_true_eq_false, not_false_eq_true, true_implies, false_implies, implies_true, forall_const, decide_true, decide_false, reduceCtorEq]
      obtain ⟨⟨ms, rfl, hm, hl⟩, ha⟩ := hx
      rw [mks_pt, pt_cnt]
      have hne : (0 < (ms.length : Int)) ↔ ms ≠ [] := by cases ms <;> simp <;> omega
      refine ⟨fun vs => match vs with | [.b e, .b s, .i i] => i ≤ (ms.length : Int) ∧ (e = true ↔ (ms ≠ [] ∧ UpTo ms (fun m => bitDen .andNot .i64 m a = 0) i)) ∧ (s = true ↔ (ms ≠ [] ∧ UpTo ms (fun m => ¬ bitDen .and .i64 m a = 0) i)) | _ => False, fun vs => match vs with | [.b _, .b _, .i i] => (100 - i).toNat | _ => 0, ⟨by omega, by omega⟩, ⟨by omega, ?_, ?_⟩, ?_⟩
      · rw [lt_t, hne]; exact ⟨fun h => ⟨h, upTo_zero⟩, fun h => h.1⟩
      · rw [lt_t, hne]; exact ⟨fun h => ⟨h, upTo_zero⟩, fun h => h.1⟩
      intro e s i i0 i1 hI
      obtain ⟨h1, h2, h3⟩ : i ≤ (ms.length : Int) ∧ (e = true ↔ (ms ≠ [] ∧ UpTo ms (fun m => bitDen .andNot .i64 m a = 0) i)) ∧ (s = true ↔ (ms ≠ [] ∧ UpTo ms (fun m => ¬ bitDen .and .i64 m a = 0) i)) := hI
      refine ⟨fun hlt => ?_, fun hge _ _ => val3_bool (h2.trans (and_congr_right fun _ => upTo_all (by omega))) (h3.trans (and_congr_right fun _ => upTo_all (by omega)))⟩
      rw [(pt_get ms i.toNat (by omega)).1]
      have k : (100 - (i + 1)).toNat < (100 - i).toNat := by omega
      refine ⟨fun he => ⟨fun hs => ⟨by omega, ⟨by omega, ?_, ?_⟩, k⟩, fun hs => ⟨by omega, ⟨by omega, ?_, ?_⟩, k⟩⟩, fun he => ⟨fun hs => ⟨by omega, ⟨by omega, ?_, ?_⟩, k⟩, fun hs => ⟨by omega, ⟨by omega, ?_, ?_⟩, k⟩⟩⟩
      all_goals first
        | exact bstep h2 (and_step (upTo_step i0)) (fun _ => by simp only [eq_t]) (fun q => by rw [he] at q; cases q)
        | exact bstep h3 (and_step (upTo_step i0)) (fun _ => by simp only [Bool.not_eq_true', eq_f, ne_eq]) (fun q => by rw [hs] at q; cases q)
        | exact bstep h2 (and_step (upTo_step i0)) (fun q => by rw [he] at q; cases q) (fun _ => rfl)
        | exact bstep h3 (and_step (upTo_step i0)) (fun q => by rw [hs] at q; cases q) (fun _ => rfl)
end Go.Proofs.YtmnpeneplobpdaaDoor.X
