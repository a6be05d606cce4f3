/-
  NelsonExact holds of every input.
-/
import Derived.Test.YtmnpeneplobpdaaDoorSxNeL1
namespace Go.Proofs.YtmnpeneplobpdaaDoor.X
open Go Go.SX Go.RowKit
set_option linter.unusedVariables false
set_option linter.unusedSimpArgs false








/-- what the program tells of singletons is what the reference tells -/
theorem tells_eq {l : List Int} (h : IsMs l) : tellV G1 1 l = refV 1 l ∧ tellV G2 9 l = refV 2 l ∧ tellV G3 6 l = refV 3 l ∧ tellV G4 14 l = refV 4 l ∧ tellV G5 3 l = refV 5 l ∧ tellV G6 5 l = refV 6 l ∧ tellV G7 15 l = refV 7 l ∧ tellV G8 8 l = refV 8 l := by
  obtain ⟨h1, h2, h3, h4, h5, h6, h7, h8⟩ := ref_all l
  have e : ∀ G n, tellV G n l = ruleV G n l := fun G n => if_pos h
  exact ⟨(e _ _).trans h1.symm, (e _ _).trans h2.symm, (e _ _).trans h3.symm, (e _ _).trans h4.symm, (e _ _).trans h5.symm, (e _ _).trans h6.symm, (e _ _).trans h7.symm, (e _ _).trans h8.symm⟩
theorem tells_bad {l : List Int} (h : ¬ IsMs l) (G : List Int → Prop) (n : Nat) : tellV G n l = 0 := if_neg h
def lnex_sp : SpecSh := { args := [(.lst 0)], res := (.bool .f), sh := [.b] }
set_option maxRecDepth 100000 in
def lnex_tree : Tree :=
.lett (.len 0) <|
.lett (.ite (.cmp .lt (.z 17) (.v 1)) (.z 17) (.v 1)) <|
.ite (.cmp .le (.v 2) (.v 1)) (.letl (.sub 0 (.z 0) (.v 2)) <|
.call 9 [.b, .b, .b, .b, .b, .b, .b, .b, .i (some (0, 1))] [.l (.v 3)] <|
.call 10 [.b] [.l (.v 3)] <|
.ite (.not (.v 13)) (.call 11 [.b] [] <|
.ite (.v 14) (.ite (.cmp .eq (.v 12) (.z 1)) (.ret (.bool (.and (.not (.v 4)) (.and (.not (.v 5)) (.and (.not (.v 6)) (.and (.not (.v 7)) (.and (.not (.v 8)) (.and (.not (.v 9)) (.and (.not (.v 10)) (.not (.v 11))))))))))) <|
.ret (.bool .f)) <|
.ret (.bool .f)) <|
.call 11 [.b] [] <|
.ite (.v 14) (.ite (.cmp .eq (.v 12) (.z 0)) (.call 12 [.b, .b, .b, .b, .b, .b, .b, .b] [.l (.v 3)] <|
.ret (.bool (.and (.eqv (.v 4) (.v 15)) (.and (.eqv (.v 5) (.v 16)) (.and (.eqv (.v 6) (.v 17)) (.and (.eqv (.v 7) (.v 18)) (.and (.eqv (.v 8) (.v 19)) (.and (.eqv (.v 9) (.v 20)) (.and (.eqv (.v 10) (.v 21)) (.eqv (.v 11) (.v 22))))))))))) <|
.ret (.bool .f)) <|
.ret (.bool .f)) <|
.bad 120
noncomputable def lnex_cx : Ctx := { tys := tys, fns := fns, mets := mets, sps := [(9, nexact_sp), (10, r14classes_sp), (11, nal_sp), (12, r14exact_sp)], anns := [], trys := [] }
def lnex_ivs : List (Option (Int × Int)) := [none]
set_option maxRecDepth 100000 in
theorem lnex_walk : runFn lnex_cx 3000 3 Tryd.f3 lnex_sp.args lnex_ivs = lnex_tree := by kernel_rfl
noncomputable def lnex_M : Nat → SpecSem
  | 9 => nexact_sem
  | 10 => r14classes_sem
  | 11 => nal_sem
  | 12 => r14exact_sem
  | _ => noSem
theorem lnex_M9 : lnex_M 9 = nexact_sem := rfl
theorem lnex_M10 : lnex_M 10 = r14classes_sem := rfl
theorem lnex_M11 : lnex_M 11 = nal_sem := rfl
theorem lnex_M12 : lnex_M 12 = r14exact_sem := rfl
theorem lnex_cxok : CxOK Tryd.prog lnex_cx lnex_M tzG := ⟨tysOK, fnsOK, spCons nexact_ok <| spCons r14classes_ok <| spCons nal_ok <| spCons r14exact_ok <| fun _ _ h => spNil h, mixedOK, fun _ _ h => trNil h, fun _ _ h => atNil h, metsOK, fun _ _ h => efNil h, fun _ _ h => lsNil h⟩
set_option maxRecDepth 100000 in
set_option maxHeartbeats 8000000 in
theorem lnex_den (R RP : Value → Prop) (F : Ex → St → Js → Env → Prop) (J : Js) (x0 : List Int) : Tree.den lnex_M R RP F lnex_tree J [(.l x0)] = (
  ∀ x1 : Int, x1 = ((List.length x0 : Int)) →
∀ x2 : Int, x2 = (if (Cmp.den .lt (17 : Int) x1) = true then (17 : Int) else x1) →
((Cmp.den .le x2 x1) = true → ∀ x3 : List Int, x3 = (List.take (Int.toNat x2 - Int.toNat (0 : Int)) (List.drop (Int.toNat (0 : Int)) x0)) →
(nexact_sem.pre [(.l (x3))]) ∧ (
∀ x12 : Int, x12 = (Cv.int (Env.get (nexact_sem.out [(.l (x3))]) 8)) → (0 : Int) ≤ x12 → x12 ≤ (1 : Int) →
(r14classes_sem.pre [(.l (x3))]) ∧ (
((!(Cv.bool (Env.get (r14classes_sem.out [(.l (x3))]) 0))) = true → (nal_sem.pre []) ∧ (
((Cv.bool (Env.get (nal_sem.out []) 0)) = true → ((Cmp.den .eq x12 (1 : Int)) = true → R (Value.bool ((!(Cv.bool (Env.get (nexact_sem.out [(.l (x3))]) 0))) && ((!(Cv.bool (Env.get (nexact_sem.out [(.l (x3))]) 1))) && ((!(Cv.bool (Env.get (nexact_sem.out [(.l (x3))]) 2))) && ((!(Cv.bool (Env.get (nexact_sem.out [(.l (x3))]) 3))) && ((!(Cv.bool (Env.get (nexact_sem.out [(.l (x3))]) 4))) && ((!(Cv.bool (Env.get (nexact_sem.out [(.l (x3))]) 5))) && ((!(Cv.bool (Env.get (nexact_sem.out [(.l (x3))]) 6))) && (!(Cv.bool (Env.get (nexact_sem.out [(.l (x3))]) 7)))))))))))) ∧ ((Cmp.den .eq x12 (1 : Int)) = false → R (Value.bool false))) ∧ ((Cv.bool (Env.get (nal_sem.out []) 0)) = false → R (Value.bool false)))) ∧ ((!(Cv.bool (Env.get (r14classes_sem.out [(.l (x3))]) 0))) = false → (nal_sem.pre []) ∧ (
((Cv.bool (Env.get (nal_sem.out []) 0)) = true → ((Cmp.den .eq x12 (0 : Int)) = true → (r14exact_sem.pre [(.l (x3))]) ∧ (
R (Value.bool (((Cv.bool (Env.get (nexact_sem.out [(.l (x3))]) 0)) == (Cv.bool (Env.get (r14exact_sem.out [(.l (x3))]) 0))) && (((Cv.bool (Env.get (nexact_sem.out [(.l (x3))]) 1)) == (Cv.bool (Env.get (r14exact_sem.out [(.l (x3))]) 1))) && (((Cv.bool (Env.get (nexact_sem.out [(.l (x3))]) 2)) == (Cv.bool (Env.get (r14exact_sem.out [(.l (x3))]) 2))) && (((Cv.bool (Env.get (nexact_sem.out [(.l (x3))]) 3)) == (Cv.bool (Env.get (r14exact_sem.out [(.l (x3))]) 3))) && (((Cv.bool (Env.get (nexact_sem.out [(.l (x3))]) 4)) == (Cv.bool (Env.get (r14exact_sem.out [(.l (x3))]) 4))) && (((Cv.bool (Env.get (nexact_sem.out [(.l (x3))]) 5)) == (Cv.bool (Env.get (r14exact_sem.out [(.l (x3))]) 5))) && (((Cv.bool (Env.get (nexact_sem.out [(.l (x3))]) 6)) == (Cv.bool (Env.get (r14exact_sem.out [(.l (x3))]) 6))) && ((Cv.bool (Env.get (nexact_sem.out [(.l (x3))]) 7)) == (Cv.bool (Env.get (r14exact_sem.out [(.l (x3))]) 7))))))))))))) ∧ ((Cmp.den .eq x12 (0 : Int)) = false → R (Value.bool false))) ∧ ((Cv.bool (Env.get (nal_sem.out []) 0)) = false → R (Value.bool false))))))) ∧ ((Cmp.den .le x2 x1) = false → False)) := by kernel_rfl

def lnex_sem : SpecSem := { pre := fun cs => match cs with | [.l l] => InI l | _ => False, out := fun cs => match cs with | [.l l] => [.b true] | _ => [], g := tzG }
set_option maxRecDepth 10000 in
set_option maxHeartbeats 16000000 in
theorem lnex_ok : SpecOK Tryd.prog 3 lnex_sp lnex_sem := by
  refine spec_of_tree lnex_cxok Tryd.func3 (by kernel_rfl) (by kernel_rfl) lnex_walk rfl ?_
  intro cs hpre
  match cs, hpre with
  | [.l l], j_l =>
    have j_l : InI l := j_l
    refine ⟨rfl, IvsB.ok (by simp only [lnex_ivs, IvsB, Cv.int, and_true, j_l, true_and] <;> omega), ?_, ?_⟩
    · simp only [lnex_sem, lnex_sp, Fits]
    · rw [lnex_den]
      have hF : List.take ((if 17 < (l.length : Int) then (17 : Int) else (l.length : Int)).toNat - Int.toNat 0) (List.drop (Int.toNat 0) l) = l.take 17 := by
        rw [show Int.toNat 0 = 0 from rfl, List.drop_zero, Nat.sub_zero]
        split
        · rfl
        · rw [List.take_of_length_le (by omega), List.take_of_length_le (by omega)]
      have hI : InI (l.take 17) := fun y hy => j_l y (List.mem_of_mem_take hy)
      have hlen : (l.take 17).length ≤ 1000 := by rw [List.length_take]; omega
      have b1 : ((if 17 < (l.length : Int) then (17 : Int) else (l.length : Int)) ≤ (l.length : Int)) = True := eq_true (by split <;> omega)
      have b2 : ((l.length : Int) < (if 17 < (l.length : Int) then (17 : Int) else (l.length : Int))) = False := eq_false (by split <;> omega)
      have b3 : (0 ≤ (if 17 < (l.length : Int) then (17 : Int) else (l.length : Int))) = True := eq_true (by split <;> omega)
      have b4 : ((if 17 < (l.length : Int) then (17 : Int) else (l.length : Int)) < 0) = False := eq_false (by split <;> omega)
      have g1 : ((1 : Int) = 0) = False := by simp
      have g2 : ((0 : Int) = 1) = False := by simp
      have g3 : ((0 : Int) = 2) = False := by simp
      rcases Decidable.em (IsCl (l.take 17) ∧ (l.take 17).length ≤ 15) with h | h
      · obtain ⟨e1, e2, e3, e4, e5, e6, e7, e8⟩ := tells_eq ((isMs_map h.1).2 h.2)
        simp only [lnex_sem, lnex_sp, nexact_sem, r14classes_sem, nal_sem, r14exact_sem, lnex_den, nexact_sem, r14classes_sem, nal_sem, r14exact_sem, Tree.den, LE.den, Cv.list, placeA, List.getElem?_cons_zero, List.getElem?_cons_succ, IE.den, BE.den, At.den, CA.den, Env.get, Cv.int, Cv.bool, List.cons_append, List.nil_append, List.map_cons, List.map_nil, bindRes, bindEq, Fits, SV.den, denL, place, placeL, eq_t, eq_f, lt_t, lt_f, le_t, le_f, beq_iff_eq, beq_eq_false_iff_ne, ne_eq, reduceCtorEq, b_dec, decide_eq_true_eq, decide_eq_false_iff_not, Bool.not_eq_false', Bool.or_eq_true, Bool.or_eq_false_iff, Bool.and_eq_false_iff, true_iff, false_iff, Bool.false_eq_true, Bool.not_eq_true', Bool.and_eq_true, Bool.not_true, Bool.not_false, List.cons.injEq, Cv.i.injEq, Cv.b.injEq, and_true, true_and, agg_inj, tup_inj, Value.int.injEq, Value.bool.injEq, hF, hI, hlen, b1, b2, b3, b4, h.1, h.2, e1, e2, e3, e4, e5, e6, e7, e8, g1, g2, forall_eq, eq_self, if_true, if_false, true_and, and_true, false_and, and_false, true_or, or_true, false_or, or_false, true_iff, iff_true, false_iff, iff_false, not_true_eq_false, not_false_eq_true, true_implies, false_implies, implies_true, forall_const, decide_true, decide_false, reduceCtorEq]
      · have hb : ∀ G n, (IsCl (l.take 17) ∧ tellV G n ((l.take 17).map bitc) = 2) = False := fun G n => eq_false fun q => by
          rw [tells_bad (fun z => h ⟨q.1, (isMs_map q.1).1 z⟩)] at q
          exact absurd q.2 (by decide)
        simp only [lnex_sem, lnex_sp, nexact_sem, r14classes_sem, nal_sem, r14exact_sem, lnex_den, nexact_sem, r14classes_sem, nal_sem, r14exact_sem, Tree.den, LE.den, Cv.list, placeA, List.getElem?_cons_zero, List.getElem?_cons_succ, IE.den, BE.den, At.den, CA.den, Env.get, Cv.int, Cv.bool, List.cons_append, List.nil_append, List.map_cons, List.map_nil, bindRes, bindEq, Fits, SV.den, denL, place, placeL, eq_t, eq_f, lt_t, lt_f, le_t, le_f, beq_iff_eq, beq_eq_false_iff_ne, ne_eq, reduceCtorEq, b_dec, decide_eq_true_eq, decide_eq_false_iff_not, Bool.not_eq_false', Bool.or_eq_true, Bool.or_eq_false_iff, Bool.and_eq_false_iff, true_iff, false_iff, Bool.false_eq_true, Bool.not_eq_true', Bool.and_eq_true, Bool.not_true, Bool.not_false, List.cons.injEq, Cv.i.injEq, Cv.b.injEq, and_true, true_and, agg_inj, tup_inj, Value.int.injEq, Value.bool.injEq, hF, hI, hlen, b1, b2, b3, b4, h, hb, g1, g2, forall_eq, eq_self, if_true, if_false, true_and, and_true, false_and, and_false, true_or, or_true, false_or, or_false, true_iff, iff_true, false_iff, iff_false, not_true_eq_false, not_false_eq_true, true_implies, false_implies, implies_true, forall_const, decide_true, decide_false, reduceCtorEq]
end Go.Proofs.YtmnpeneplobpdaaDoor.X
