/-
  slices.Clone by the shelf; Mask, Masks, Ints of the references: by contract.
-/
import Derived.Test.YtmnpeneplobpdaaDoorSxNeL2
import Derived.Test.YtmnpeneplobpdaaDoorShelf
namespace Go.Proofs.YtmnpeneplobpdaaDoor.X
open Go Go.SX Go.RowKit
set_option linter.unusedVariables false
set_option linter.unusedSimpArgs false
def clone_ls : LsSh := { args := [(.lst 0)], e := 3 }
def clone_sem : SpecSem := { pre := fun cs => match cs with | [.l l] => InI l ∧ l.length ≤ 1000 | _ => False, out := fun cs => match cs with | [.l l] => [.l l] | _ => [] }
theorem clone_ok : LsOK Tryd.prog 27 clone_ls clone_sem := by
  intro cs hpre
  match cs, hpre with
  | [.l l], ⟨hI, hl⟩ =>
    refine ⟨?_, fun vs w hg hvs => ?_⟩
    · simp only [clone_sem, Fits, and_true]; exact hI
    · have hp : (placeA clone_ls.args 0).1 = [.lst 0] := rfl
      rw [hp] at hvs
      match vs, hvs with
      | [v], ⟨hr, _⟩ =>
        have hr : RowIs w v l := hr
        have hname : (Tryd.f27.name == "runtime.NumGoroutine") = false := by kernel_rfl
        have hbody : Tryd.f27.body.isNone = false := by kernel_rfl
        refine ⟨?_, ?_⟩
        · simp only [callFunc, Sem.run_bind, program, Sem.run, Result.andThen_ok, Tryd.func27, hname, hbody, Bool.false_eq_true, if_false]
          rfl
        · rcases hr with ⟨rfl, rfl⟩ | ⟨x, cap, rfl, h1, h2, h3⟩
          · refine (Tryd.slices_Clone_int_nil 0 0 w).mono ?_
            rintro e w' ⟨rfl, rfl⟩
            exact ⟨_, rfl, ⟨0, rfl, World.ownsRow_nil _ _ _ _⟩, .refl _ _⟩
          · rcases Nat.eq_zero_or_pos l.length with he | he
            · obtain rfl := List.length_eq_zero_iff.1 he
              refine (Tryd.slices_Clone_int_zero x cap w).mono ?_
              rintro e w' ⟨v', rfl, ho, _, hb⟩
              exact ⟨v', rfl, ⟨0, rfl, ho⟩, hb⟩
            · obtain ⟨b, off, sp⟩ := x
              have h30 := h3 0 (l.getD 0 0) (by simp [List.getD, he])
              have hsp : sp = none := by simpa [Addr.add] using World.cell?_spot h30
              subst hsp
              refine (Tryd.slices_Clone_int b off l.length cap l w (Nat.le_refl _) (by omega) (fun j hj => ?_)).mono ?_
              · have := h3 j (l.getD j 0) (by simp [List.getD, hj])
                rw [← this]
                unfold Addr.add
                split
                · rename_i h0; subst h0; rfl
                · rfl
              · rintro e w' ⟨v', rfl, ho, _, hb⟩
                rw [List.take_length] at ho
                exact ⟨v', rfl, ⟨l.length, (Nat.mul_one _).symm, ho⟩, hb⟩
def r13mask_sp : SpecSh := { args := [(.int .i64 (.z 0))], res := (.bool .f), sh := [.b] }
set_option maxRecDepth 100000 in
def r13mask_tree : Tree :=
.ite (.cmp .le (.z 1) (.v 0)) (.ret (.bool (.cmp .le (.v 0) (.z 511)))) <|
.ret (.bool .f)
noncomputable def r13mask_cx : Ctx := { tys := tys, fns := fns, mets := mets, sps := [], anns := [], trys := [] }
def r13mask_ivs : List (Option (Int × Int)) := [some ((-9223372036854775808), 9223372036854775807)]
set_option maxRecDepth 100000 in
theorem r13mask_walk : runFn r13mask_cx 3000 18 Tryd.f18 r13mask_sp.args r13mask_ivs = r13mask_tree := by kernel_rfl
noncomputable def r13mask_M : Nat → SpecSem
  | _ => noSem
theorem r13mask_cxok : CxOK Tryd.prog r13mask_cx r13mask_M := ⟨tysOK, fnsOK, fun _ _ h => spNil h, mixedOK, fun _ _ h => trNil h, fun _ _ h => atNil h, metsOK, fun _ _ h => efNil h, fun _ _ h => lsNil h⟩

def r13mask_sem : SpecSem := { pre := fun cs => match cs with | [.i m] => IsI m | _ => False, out := fun cs => match cs with | [.i m] => [.b (decide (IsM m))] | _ => [] }
set_option maxRecDepth 10000 in
set_option maxHeartbeats 16000000 in
theorem r13mask_ok : SpecOK Tryd.prog 18 r13mask_sp r13mask_sem := by
  refine spec_of_tree r13mask_cxok Tryd.func18 (by kernel_rfl) (by kernel_rfl) r13mask_walk rfl ?_
  intro cs hpre
  match cs, hpre with
  | [.i m], j_m =>
    have j_m : IsI m := j_m
    have h_m := j_m
    unfold IsI at h_m
    refine ⟨rfl, IvsB.ok (by simp only [r13mask_ivs, IvsB, Cv.int, and_true] <;> omega), ?_, ?_⟩
    · simp only [r13mask_sem, r13mask_sp, Fits]
    · rcases Decidable.em (IsM m) with h | h
      · have h1 := h.1
        have h2 := h.2
        simp only [r13mask_sem, r13mask_sp, r13mask_tree, Tree.den, LE.den, Cv.list, placeA, List.getElem?_cons_zero, List.getElem?_cons_succ, IE.den, BE.den, At.den, CA.den, Env.get, Cv.int, Cv.bool, List.cons_append, List.nil_append, List.map_cons, List.map_nil, bindRes, bindEq, Fits, SV.den, denL, place, placeL, eq_t, eq_f, lt_t, lt_f, le_t, le_f, beq_iff_eq, beq_eq_false_iff_ne, ne_eq, reduceCtorEq, b_dec, decide_eq_true_eq, decide_eq_false_iff_not, Bool.not_eq_false', Bool.or_eq_true, Bool.or_eq_false_iff, Bool.and_eq_false_iff, true_iff, false_iff, Bool.false_eq_true, Bool.not_eq_true', Bool.and_eq_true, Bool.not_true, Bool.not_false, List.cons.injEq, Cv.i.injEq, Cv.b.injEq, and_true, true_and, agg_inj, tup_inj, Value.int.injEq, Value.bool.injEq, h, if_true, if_false, true_and, and_true, false_and, and_false, true_or, or_true, false_or, or_false, true_iff, iff_true, false_iff, iff_false, not_true_eq_false, not_false_eq_true, true_implies, false_implies, implies_true, forall_const, decide_true, decide_false, reduceCtorEq]
        (repeat' (first | intro _ | refine And.intro ?_ ?_ | exact trivial)) <;> omega
      · have h' : ¬ (1 ≤ m ∧ m ≤ 511) := h
        simp only [r13mask_sem, r13mask_sp, r13mask_tree, Tree.den, LE.den, Cv.list, placeA, List.getElem?_cons_zero, List.getElem?_cons_succ, IE.den, BE.den, At.den, CA.den, Env.get, Cv.int, Cv.bool, List.cons_append, List.nil_append, List.map_cons, List.map_nil, bindRes, bindEq, Fits, SV.den, denL, place, placeL, eq_t, eq_f, lt_t, lt_f, le_t, le_f, beq_iff_eq, beq_eq_false_iff_ne, ne_eq, reduceCtorEq, b_dec, decide_eq_true_eq, decide_eq_false_iff_not, Bool.not_eq_false', Bool.or_eq_true, Bool.or_eq_false_iff, Bool.and_eq_false_iff, true_iff, false_iff, Bool.false_eq_true, Bool.not_eq_true', Bool.and_eq_true, Bool.not_true, Bool.not_false, List.cons.injEq, Cv.i.injEq, Cv.b.injEq, and_true, true_and, agg_inj, tup_inj, Value.int.injEq, Value.bool.injEq, h, if_true, if_false, true_and, and_true, false_and, and_false, true_or, or_true, false_or, or_false, true_iff, iff_true, false_iff, iff_false, not_true_eq_false, not_false_eq_true, true_implies, false_implies, implies_true, forall_const, decide_true, decide_false, reduceCtorEq]
        (repeat' (first | intro _ | refine And.intro ?_ ?_ | exact trivial)) <;> omega
def r14masks_sp : SpecSh := { args := [(.lst 0)], res := (.bool .f), sh := [.b] }
set_option maxRecDepth 100000 in
def r14masks_tree : Tree :=
.lett (.len 0) <|
.loop [.i (some (0, 100000))] [.i (.z 0)] <|
.ite (.cmp .lt (.v 2) (.v 1)) (.lett (.nth 0 (.v 2)) <|
.call 18 [.b] [.i (.v 3)] <|
.ite (.not (.v 4)) (.ret (.bool .f)) <|
.lett (.add (.v 2) (.z 1)) <|
.again 0 [.i (.v 5)]) <|
.ret (.bool (.cmp .le (.v 1) (.z 15)))
noncomputable def r14masks_cx : Ctx := { tys := tys, fns := fns, mets := mets, sps := [(18, r13mask_sp)], anns := [((17, 2), { slots := [7], cells := [], ivs := [some (0, 100000)] })], trys := [] }
def r14masks_ivs : List (Option (Int × Int)) := [none]
set_option maxRecDepth 100000 in
theorem r14masks_walk : runFn r14masks_cx 3000 17 Tryd.f17 r14masks_sp.args r14masks_ivs = r14masks_tree := by kernel_rfl
noncomputable def r14masks_M : Nat → SpecSem
  | 18 => r13mask_sem
  | _ => noSem
theorem r14masks_M18 : r14masks_M 18 = r13mask_sem := rfl
theorem r14masks_cxok : CxOK Tryd.prog r14masks_cx r14masks_M := ⟨tysOK, fnsOK, spCons r13mask_ok <| fun _ _ h => spNil h, mixedOK, fun _ _ h => trNil h, fun _ _ h => atNil h, metsOK, fun _ _ h => efNil h, fun _ _ h => lsNil h⟩
set_option maxRecDepth 100000 in
set_option maxHeartbeats 8000000 in
theorem r14masks_den (R RP : Value → Prop) (F : Ex → St → Js → Env → Prop) (x0 : List Int) : Tree.den r14masks_M R RP F r14masks_tree [] [(.l x0)] = (
  ∀ x1 : Int, x1 = ((List.length x0 : Int)) →
∃ (I0 : List Cv → Prop) (mu0 : List Cv → Nat), Fits [.i (some ((0), (100000)))] [(.i (0 : Int))] ∧ I0 [(.i (0 : Int))] ∧ (
∀ x2 : Int, (0 : Int) ≤ x2 → x2 ≤ (100000 : Int) → I0 [.i x2] →
((Cmp.den .lt x2 x1) = true → ∀ x3 : Int, x3 = (List.getD x0 (Int.toNat x2) 0) →
(r13mask_sem.pre [(.i x3)]) ∧ (
((!(Cv.bool (Env.get (r13mask_sem.out [(.i x3)]) 0))) = true → R (Value.bool false)) ∧ ((!(Cv.bool (Env.get (r13mask_sem.out [(.i x3)]) 0))) = false → ∀ x5 : Int, x5 = (x2 + (1 : Int)) →
Fits [.i (some ((0), (100000)))] [(.i x5)] ∧ I0 [(.i x5)] ∧ mu0 [(.i x5)] < mu0 [.i x2]))) ∧ ((Cmp.den .lt x2 x1) = false → R (Value.bool (Cmp.den .le x1 (15 : Int)))))) := by kernel_rfl

def r14masks_sem : SpecSem := { pre := fun cs => match cs with | [.l l] => InI l ∧ (l.length ≤ 1000) | _ => False, out := fun cs => match cs with | [.l l] => [.b (decide (IsMs l))] | _ => [] }
set_option maxRecDepth 10000 in
set_option maxHeartbeats 16000000 in
theorem r14masks_ok : SpecOK Tryd.prog 17 r14masks_sp r14masks_sem := by
  refine spec_of_tree r14masks_cxok Tryd.func17 (by kernel_rfl) (by kernel_rfl) r14masks_walk rfl ?_
  intro cs hpre
  match cs, hpre with
  | [.l l], ⟨j_l, hx⟩ =>
    refine ⟨rfl, IvsB.ok (by simp only [r14masks_ivs, IvsB, Cv.int, and_true, j_l, true_and] <;> omega), ?_, ?_⟩
    · simp only [r14masks_sem, r14masks_sp, Fits]
    · rw [r14masks_den]
      simp only [r14masks_sem, r14masks_sp, r13mask_sem, r14masks_den, r13mask_sem, Tree.den, LE.den, Cv.list, placeA, List.getElem?_cons_zero, List.getElem?_cons_succ, IE.den, BE.den, At.den, CA.den, Env.get, Cv.int, Cv.bool, List.cons_append, List.nil_append, List.map_cons, List.map_nil, bindRes, bindEq, Fits, SV.den, denL, place, placeL, eq_t, eq_f, lt_t, lt_f, le_t, le_f, beq_iff_eq, beq_eq_false_iff_ne, ne_eq, reduceCtorEq, b_dec, decide_eq_true_eq, decide_eq_false_iff_not, Bool.not_eq_false', Bool.or_eq_true, Bool.or_eq_false_iff, Bool.and_eq_false_iff, true_iff, false_iff, Bool.false_eq_true, Bool.not_eq_true', Bool.and_eq_true, Bool.not_true, Bool.not_false, List.cons.injEq, Cv.i.injEq, Cv.b.injEq, and_true, true_and, agg_inj, tup_inj, Value.int.injEq, Value.bool.injEq, forall_eq, eq_self, if_true, if_false, true_and, and_true, false_and, and_false, true_or, or_true, false_or, or_false, true_iff, iff_true, false_iff, iff_false, not_true_eq_false, not_false_eq_true, true_implies, false_implies, implies_true, forall_const, decide_true, decide_false, reduceCtorEq]
      refine ⟨fun vs => match vs with | [.i i] => i ≤ (l.length : Int) ∧ UpTo l IsM i | _ => False, fun vs => match vs with | [.i i] => (100001 - i).toNat | _ => 0, (by omega), ⟨by omega, upTo_zero⟩, ?_⟩
      intro i i0 i1 hI
      obtain ⟨hin, hup⟩ : i ≤ (l.length : Int) ∧ UpTo l IsM i := hI
      refine ⟨fun hlt => ?_, fun hge => ?_⟩
      · have hmem := getD_mem (show i.toNat < l.length by omega)
        rcases Decidable.em (IsM (l.getD i.toNat 0)) with hc | hc
        · have hup' := (upTo_step i0).2 ⟨hup, hc⟩
          exact ⟨j_l _ hmem, fun q => absurd hc q, fun _ => ⟨by omega, ⟨by omega, hup'⟩, by show (100001 - (i + 1)).toNat < (100001 - i).toNat; omega⟩⟩
        · have hn : ¬ IsMs l := fun q => hc (q.2 _ hmem)
          exact ⟨j_l _ hmem, fun _ => hn, fun q => absurd q hc⟩
      · have hcl : ∀ m ∈ l, IsM m := (upTo_all (by omega)).1 hup
        exact ⟨fun q => ⟨by omega, hcl⟩, fun q => by have := q.1; omega⟩
def r10ints_sp : SpecSh := { args := [(.lst 0), (.lst 0)], res := (.bool .f), sh := [.b] }
set_option maxRecDepth 100000 in
def r10ints_tree : Tree :=
.lett (.len 0) <|
.lett (.len 1) <|
.ite (.not (.cmp .eq (.v 2) (.v 3))) (.ret (.bool .f)) <|
.loop [.i (some (0, 100000))] [.i (.z 0)] <|
.ite (.cmp .lt (.v 4) (.v 2)) (.lett (.nth 0 (.v 4)) <|
.ite (.cmp .lt (.v 4) (.v 3)) (.lett (.nth 1 (.v 4)) <|
.ite (.not (.cmp .eq (.v 5) (.v 6))) (.ret (.bool .f)) <|
.lett (.add (.v 4) (.z 1)) <|
.again 0 [.i (.v 7)]) <|
.bad 35) <|
.ret (.bool .t)
noncomputable def r10ints_cx : Ctx := { tys := tys, fns := fns, mets := mets, sps := [], anns := [((19, 4), { slots := [13], cells := [], ivs := [some (0, 100000)] })], trys := [] }
def r10ints_ivs : List (Option (Int × Int)) := [none, none]
set_option maxRecDepth 100000 in
theorem r10ints_walk : runFn r10ints_cx 3000 19 Tryd.f19 r10ints_sp.args r10ints_ivs = r10ints_tree := by kernel_rfl
noncomputable def r10ints_M : Nat → SpecSem
  | _ => noSem
theorem r10ints_cxok : CxOK Tryd.prog r10ints_cx r10ints_M := ⟨tysOK, fnsOK, fun _ _ h => spNil h, mixedOK, fun _ _ h => trNil h, fun _ _ h => atNil h, metsOK, fun _ _ h => efNil h, fun _ _ h => lsNil h⟩
set_option maxRecDepth 100000 in
set_option maxHeartbeats 8000000 in
theorem r10ints_den (R RP : Value → Prop) (F : Ex → St → Js → Env → Prop) (x0 : List Int) (x1 : List Int) : Tree.den r10ints_M R RP F r10ints_tree [] [(.l x0), (.l x1)] = (
  ∀ x2 : Int, x2 = ((List.length x0 : Int)) →
∀ x3 : Int, x3 = ((List.length x1 : Int)) →
((!(Cmp.den .eq x2 x3)) = true → R (Value.bool false)) ∧ ((!(Cmp.den .eq x2 x3)) = false → ∃ (I0 : List Cv → Prop) (mu0 : List Cv → Nat), Fits [.i (some ((0), (100000)))] [(.i (0 : Int))] ∧ I0 [(.i (0 : Int))] ∧ (
∀ x4 : Int, (0 : Int) ≤ x4 → x4 ≤ (100000 : Int) → I0 [.i x4] →
((Cmp.den .lt x4 x2) = true → ∀ x5 : Int, x5 = (List.getD x0 (Int.toNat x4) 0) →
((Cmp.den .lt x4 x3) = true → ∀ x6 : Int, x6 = (List.getD x1 (Int.toNat x4) 0) →
((!(Cmp.den .eq x5 x6)) = true → R (Value.bool false)) ∧ ((!(Cmp.den .eq x5 x6)) = false → ∀ x7 : Int, x7 = (x4 + (1 : Int)) →
Fits [.i (some ((0), (100000)))] [(.i x7)] ∧ I0 [(.i x7)] ∧ mu0 [(.i x7)] < mu0 [.i x4])) ∧ ((Cmp.den .lt x4 x3) = false → False)) ∧ ((Cmp.den .lt x4 x2) = false → R (Value.bool true))))) := by kernel_rfl

def r10ints_sem : SpecSem := { pre := fun cs => match cs with | [.l a, .l b] => InI a ∧ InI b ∧ (a.length ≤ 1000 ∧ b.length ≤ 1000) | _ => False, out := fun cs => match cs with | [.l a, .l b] => [.b (decide (a = b))] | _ => [] }
set_option maxRecDepth 10000 in
set_option maxHeartbeats 16000000 in
theorem r10ints_ok : SpecOK Tryd.prog 19 r10ints_sp r10ints_sem := by
  refine spec_of_tree r10ints_cxok Tryd.func19 (by kernel_rfl) (by kernel_rfl) r10ints_walk rfl ?_
  intro cs hpre
  match cs, hpre with
  | [.l a, .l b], ⟨j_a, j_b, hx⟩ =>
    refine ⟨rfl, IvsB.ok (by simp only [r10ints_ivs, IvsB, Cv.int, and_true, j_a, j_b, true_and] <;> omega), ?_, ?_⟩
    · simp only [r10ints_sem, r10ints_sp, Fits]
    · rw [r10ints_den]
      simp only [r10ints_sem, r10ints_sp, r10ints_den, Tree.den, LE.den, Cv.list, placeA, List.getElem?_cons_zero, List.getElem?_cons_succ, IE.den, BE.den, At.den, CA.den, Env.get, Cv.int, Cv.bool, List.cons_append, List.nil_append, List.map_cons, List.map_nil, bindRes, bindEq, Fits, SV.den, denL, place, placeL, eq_t, eq_f, lt_t, lt_f, le_t, le_f, beq_iff_eq, beq_eq_false_iff_ne, ne_eq, reduceCtorEq, b_dec, decide_eq_true_eq, decide_eq_false_iff_not, Bool.not_eq_false', Bool.or_eq_true, Bool.or_eq_false_iff, Bool.and_eq_false_iff, true_iff, false_iff, Bool.false_eq_true, Bool.not_eq_true', Bool.and_eq_true, Bool.not_true, Bool.not_false, List.cons.injEq, Cv.i.injEq, Cv.b.injEq, and_true, true_and, agg_inj, tup_inj, Value.int.injEq, Value.bool.injEq, forall_eq, eq_self, if_true, if_false, true_and, and_true, false_and, and_false, true_or, or_true, false_or, or_false, true_iff, iff_true, false_iff, iff_false, not_true_eq_false, not_false_eq_true, true_implies, false_implies, implies_true, forall_const, decide_true, decide_false, reduceCtorEq]
      refine ⟨fun h e => h (by rw [e]), fun h => ?_⟩
      refine ⟨fun vs => match vs with | [.i i] => i ≤ (a.length : Int) ∧ ∀ j : Nat, (j : Int) < i → a.getD j 0 = b.getD j 0 | _ => False, fun vs => match vs with | [.i i] => (100001 - i).toNat | _ => 0, (by omega), ⟨by omega, fun j hj => by omega⟩, ?_⟩
      intro i i0 i1 hI
      obtain ⟨hin, hup⟩ : i ≤ (a.length : Int) ∧ ∀ j : Nat, (j : Int) < i → a.getD j 0 = b.getD j 0 := hI
      refine ⟨fun hlt => ⟨fun _ => ⟨fun q e => q (by rw [e]), fun q => ⟨by omega, ⟨by omega, fun j hj => ?_⟩, by show (100001 - (i + 1)).toNat < (100001 - i).toNat; omega⟩⟩, fun q => by omega⟩, fun hge => ?_⟩
      · by_cases e : (j : Int) < i
        · exact hup j e
        · have : j = i.toNat := by omega
          subst this; exact q
      · refine List.ext_getElem (by omega) fun j h1 h2 => ?_
        have := hup j (by omega)
        simpa [List.getD, h1, h2] using this
end Go.Proofs.YtmnpeneplobpdaaDoor.X
