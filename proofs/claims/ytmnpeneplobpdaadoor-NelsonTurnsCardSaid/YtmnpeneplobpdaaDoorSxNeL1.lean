/-
  alive; datumref14's Classes and Exact; the law NelsonExact.
-/
import Derived.Test.YtmnpeneplobpdaaDoorSxNeX
namespace Go.Proofs.YtmnpeneplobpdaaDoor.X
open Go Go.SX Go.RowKit
set_option linter.unusedVariables false
set_option linter.unusedSimpArgs false







theorem bitc_all : ∀ i : Fin 9, ∀ j : Fin 9, (2 ^ i.val).testBit j.val = decide (i = j) := by decide +kernel
theorem has_bitc {c d : Int} (h : InC d) : has (bitc d) c ↔ c = d := by
  have h1 := h.1; have h2 := h.2
  constructor
  · rintro ⟨a, b⟩
    have e : (bitc d).toNat = 2 ^ (d + 4).toNat := by unfold bitc p2; exact Int.toNat_natCast _
    rw [e] at b
    have := bitc_all ⟨(d + 4).toNat, by omega⟩ ⟨(c + 4).toNat, by omega⟩
    have b2 : decide ((⟨(d + 4).toNat, by omega⟩ : Fin 9) = ⟨(c + 4).toNat, by omega⟩) = true := this.symm.trans b
    have b3 := Fin.mk.inj (of_decide_eq_true b2)
    omega
  · rintro rfl
    refine ⟨h, ?_⟩
    have e : (bitc c).toNat = 2 ^ (c + 4).toNat := by unfold bitc p2; exact Int.toNat_natCast _
    rw [e, Nat.testBit_two_pow_self]
theorem row_exact {cs row : List Int} (h : IsCl cs) : Row (cs.map bitc) row ↔ row = cs := by
  constructor
  · rintro ⟨a, b⟩
    rw [List.length_map] at a b
    refine List.ext_getElem a fun i h1 h2 => ?_
    have k := b i h2
    have e : (cs.map bitc).getD i 0 = bitc (cs[i]) := by simp [List.getD, h2]
    have e2 : row.getD i 0 = row[i] := by simp [List.getD, h1]
    rw [e, e2, has_bitc (h _ (List.getElem_mem h2))] at k
    exact k
  · rintro rfl
    refine ⟨by rw [List.length_map], fun i hi => ?_⟩
    rw [List.length_map] at hi
    have e : (row.map bitc).getD i 0 = bitc (row[i]) := by simp [List.getD, hi]
    have e2 : row.getD i 0 = row[i] := by simp [List.getD, hi]
    rw [e, e2, has_bitc (h _ (List.getElem_mem hi))]
theorem lst_map {n : Nat} {cs : List Int} : lst n (cs.map bitc) = (lst n cs).map bitc := by unfold lst; rw [List.length_map, List.map_drop]
theorem isCl_lst {n : Nat} {cs : List Int} (h : IsCl cs) : IsCl (lst n cs) := fun c hc => h c (List.mem_of_mem_drop hc)
theorem rule_exact {G : List Int → Prop} {n : Nat} {cs : List Int} (h : IsCl cs) : ruleV G n (cs.map bitc) = 2 ↔ n ≤ cs.length ∧ G (lst n cs) := by
  rcases Nat.lt_or_ge cs.length n with q | q
  · rw [ruleV_few (by rw [List.length_map]; exact q)]
    refine ⟨fun a => by omega, fun a => by omega⟩
  · rw [ruleV_of (by rw [List.length_map]; exact q), lst_map]
    have e : (∀ row, Row ((lst n cs).map bitc) row → G row) ↔ G (lst n cs) := ⟨fun a => a _ ((row_exact (isCl_lst h)).2 rfl), fun a row hr => (row_exact (isCl_lst h)).1 hr ▸ a⟩
    unfold val3
    by_cases g : G (lst n cs)
    · rw [if_pos (e.2 g)]; exact ⟨fun _ => ⟨q, g⟩, fun _ => rfl⟩
    · rw [if_neg fun a => g (e.1 a)]
      refine ⟨fun a => ?_, fun a => absurd a.2 g⟩
      split at a <;> omega
theorem tell_exact {G : List Int → Prop} {n : Nat} {cs : List Int} (h : IsCl cs) (hl : cs.length ≤ 15) : tellV G n (cs.map bitc) = 2 ↔ n ≤ cs.length ∧ G (lst n cs) := by
  unfold tellV
  rw [if_pos ((isMs_map h).2 hl)]
  exact rule_exact h
def nal_sp : SpecSh := { args := [], res := (.bool .f), sh := [.b] }
set_option maxRecDepth 100000 in
def nal_tree : Tree :=
.call 9 [.b, .b, .b, .b, .b, .b, .b, .b, .i (some (0, 1))] [.l (.lit [.z 3, .z 0, .z 3])] <|
.ite (.cmp .eq (.v 8) (.z 0)) (.ite (.v 4) (.ret (.bool (.not (.v 0)))) <|
.ret (.bool .f)) <|
.ret (.bool .f)
noncomputable def nal_cx : Ctx := { tys := tys, fns := fns, mets := mets, sps := [(9, nexact_sp)], anns := [], trys := [] }
def nal_ivs : List (Option (Int × Int)) := []
set_option maxRecDepth 100000 in
theorem nal_walk : runFn nal_cx 3000 11 Tryd.f11 nal_sp.args nal_ivs = nal_tree := by kernel_rfl
noncomputable def nal_M : Nat → SpecSem
  | 9 => nexact_sem
  | _ => noSem
theorem nal_M9 : nal_M 9 = nexact_sem := rfl
theorem nal_cxok : CxOK Tryd.prog nal_cx nal_M tzG := ⟨tysOK, fnsOK, spCons nexact_ok <| fun _ _ h => spNil h, mixedOK, fun _ _ h => trNil h, fun _ _ h => atNil h, metsOK, fun _ _ h => efNil h, fun _ _ h => lsNil h⟩

def nal_sem : SpecSem := { pre := fun cs => match cs with | [] => True | _ => False, out := fun cs => match cs with | [] => [.b true] | _ => [], g := tzG }
set_option maxRecDepth 10000 in
set_option maxHeartbeats 16000000 in
theorem nal_ok : SpecOK Tryd.prog 11 nal_sp nal_sem := by
  refine spec_of_tree nal_cxok Tryd.func11 (by kernel_rfl) (by kernel_rfl) nal_walk rfl ?_
  intro cs hpre
  match cs, hpre with
  | [], _ =>
    refine ⟨rfl, IvsB.ok (by simp only [nal_ivs, IvsB, Cv.int, and_true] <;> omega), ?_, ?_⟩
    · simp only [nal_sem, nal_sp, Fits]
    · have hcl : IsCl [3, 0, 3] := by decide
      have e5 : (tellV G5 3 ([3, 0, 3].map bitc) = 2) = True := eq_true ((tell_exact hcl (by decide)).2 ⟨by decide, by unfold G5 lst nge nle; decide⟩)
      have e1 : (tellV G1 1 ([3, 0, 3].map bitc) = 2) = False := eq_false fun q => by
        have := ((tell_exact hcl (by decide)).1 q).2
        unfold G1 lst at this
        exact absurd this (by decide)
      have hI : InI [3, 0, 3] := fun y hy => by
        have := hcl y hy; unfold InC at this; omega
      have hln : ([3, 0, 3] : List Int).length ≤ 15 := by decide
      have hln2 : ([3, 0, 3] : List Int).length ≤ 1000 := by decide
      have m : List.map bitc [3, 0, 3] = [bitc 3, bitc 0, bitc 3] := rfl
      rw [m] at e5 e1
      simp only [nal_sem, nal_sp, nexact_sem, nal_tree, nal_M9, nexact_sem, Tree.den, LE.den, Cv.list, placeA, List.getElem?_cons_zero, List.getElem?_cons_succ, IE.den, BE.den, At.den, CA.den, Env.get, Cv.int, Cv.bool, List.cons_append, List.nil_append, List.map_cons, List.map_nil, bindRes, bindEq, Fits, SV.den, denL, place, placeL, eq_t, eq_f, lt_t, lt_f, le_t, le_f, beq_iff_eq, beq_eq_false_iff_ne, ne_eq, reduceCtorEq, b_dec, decide_eq_true_eq, decide_eq_false_iff_not, Bool.not_eq_false', Bool.or_eq_true, Bool.or_eq_false_iff, Bool.and_eq_false_iff, true_iff, false_iff, Bool.false_eq_true, Bool.not_eq_true', Bool.and_eq_true, Bool.not_true, Bool.not_false, List.cons.injEq, Cv.i.injEq, Cv.b.injEq, and_true, true_and, agg_inj, tup_inj, Value.int.injEq, Value.bool.injEq, hcl, e5, e1, hI, hln, hln2, forall_eq, eq_self, if_true, if_false, true_and, and_true, false_and, and_false, true_or, or_true, false_or, or_false, true_iff, iff_true, false_iff, iff_false, not_true_eq_false, not_false_eq_true, true_implies, false_implies, implies_true, forall_const, decide_true, decide_false, reduceCtorEq]
def r14classes_sp : SpecSh := { args := [(.lst 0)], res := (.bool .f), sh := [.b] }
set_option maxRecDepth 100000 in
def r14classes_tree : Tree :=
.lett (.len 0) <|
.loop [.i (some (0, 100000))] [.i (.z 0)] <|
.ite (.cmp .lt (.v 2) (.v 1)) (.lett (.nth 0 (.v 2)) <|
.ite (.cmp .lt (.v 3) (.z (-4))) (.ret (.bool .f)) <|
.ite (.cmp .lt (.z 4) (.v 3)) (.ret (.bool .f)) <|
.lett (.add (.v 2) (.z 1)) <|
.again 0 [.i (.v 4)]) <|
.ret (.bool (.cmp .le (.v 1) (.z 15)))
noncomputable def r14classes_cx : Ctx := { tys := tys, fns := fns, mets := mets, sps := [], anns := [((10, 2), { slots := [7], cells := [], ivs := [some (0, 100000)] })], trys := [] }
def r14classes_ivs : List (Option (Int × Int)) := [none]
set_option maxRecDepth 100000 in
theorem r14classes_walk : runFn r14classes_cx 3000 10 Tryd.f10 r14classes_sp.args r14classes_ivs = r14classes_tree := by kernel_rfl
noncomputable def r14classes_M : Nat → SpecSem
  | _ => noSem
theorem r14classes_cxok : CxOK Tryd.prog r14classes_cx r14classes_M := ⟨tysOK, fnsOK, fun _ _ h => spNil h, mixedOK, fun _ _ h => trNil h, fun _ _ h => atNil h, metsOK, fun _ _ h => efNil h, fun _ _ h => lsNil h⟩
set_option maxRecDepth 100000 in
set_option maxHeartbeats 8000000 in
theorem r14classes_den (R RP : Value → Prop) (F : Ex → St → Js → Env → Prop) (x0 : List Int) : Tree.den r14classes_M R RP F r14classes_tree [] [(.l x0)] = (
  ∀ x1 : Int, x1 = ((List.length x0 : Int)) →
∃ (I0 : List Cv → Prop) (mu0 : List Cv → Nat), Fits [.i (some ((0), (100000)))] [(.i (0 : Int))] ∧ I0 [(.i (0 : Int))] ∧ (
∀ x2 : Int, (0 : Int) ≤ x2 → x2 ≤ (100000 : Int) → I0 [.i x2] →
((Cmp.den .lt x2 x1) = true → ∀ x3 : Int, x3 = (List.getD x0 (Int.toNat x2) 0) →
((Cmp.den .lt x3 (-4 : Int)) = true → R (Value.bool false)) ∧ ((Cmp.den .lt x3 (-4 : Int)) = false → ((Cmp.den .lt (4 : Int) x3) = true → R (Value.bool false)) ∧ ((Cmp.den .lt (4 : Int) x3) = false → ∀ x4 : Int, x4 = (x2 + (1 : Int)) →
Fits [.i (some ((0), (100000)))] [(.i x4)] ∧ I0 [(.i x4)] ∧ mu0 [(.i x4)] < mu0 [.i x2]))) ∧ ((Cmp.den .lt x2 x1) = false → R (Value.bool (Cmp.den .le x1 (15 : Int)))))) := by kernel_rfl

def r14classes_sem : SpecSem := { pre := fun cs => match cs with | [.l l] => InI l ∧ (l.length ≤ 1000) | _ => False, out := fun cs => match cs with | [.l l] => [.b (decide (IsCl l ∧ l.length ≤ 15))] | _ => [] }
set_option maxRecDepth 10000 in
set_option maxHeartbeats 16000000 in
theorem r14classes_ok : SpecOK Tryd.prog 10 r14classes_sp r14classes_sem := by
  refine spec_of_tree r14classes_cxok Tryd.func10 (by kernel_rfl) (by kernel_rfl) r14classes_walk rfl ?_
  intro cs hpre
  match cs, hpre with
  | [.l l], ⟨j_l, hx⟩ =>
    refine ⟨rfl, IvsB.ok (by simp only [r14classes_ivs, IvsB, Cv.int, and_true, j_l, true_and] <;> omega), ?_, ?_⟩
    · simp only [r14classes_sem, r14classes_sp, Fits]
    · rw [r14classes_den]
      simp only [r14classes_sem, r14classes_sp, r14classes_den, Tree.den, LE.den, Cv.list, placeA, List.getElem?_cons_zero, List.getElem?_cons_succ, IE.den, BE.den, At.den, CA.den, Env.get, Cv.int, Cv.bool, List.cons_append, List.nil_append, List.map_cons, List.map_nil, bindRes, bindEq, Fits, SV.den, denL, place, placeL, eq_t, eq_f, lt_t, lt_f, le_t, le_f, beq_iff_eq, beq_eq_false_iff_ne, ne_eq, reduceCtorEq, b_dec, decide_eq_true_eq, decide_eq_false_iff_not, Bool.not_eq_false', Bool.or_eq_true, Bool.or_eq_false_iff, Bool.and_eq_false_iff, true_iff, false_iff, Bool.false_eq_true, Bool.not_eq_true', Bool.and_eq_true, Bool.not_true, Bool.not_false, List.cons.injEq, Cv.i.injEq, Cv.b.injEq, and_true, true_and, agg_inj, tup_inj, Value.int.injEq, Value.bool.injEq, forall_eq, eq_self, if_true, if_false, true_and, and_true, false_and, and_false, true_or, or_true, false_or, or_false, true_iff, iff_true, false_iff, iff_false, not_true_eq_false, not_false_eq_true, true_implies, false_implies, implies_true, forall_const, decide_true, decide_false, reduceCtorEq]
      refine ⟨fun vs => match vs with | [.i i] => i ≤ (l.length : Int) ∧ UpTo l InC i | _ => False, fun vs => match vs with | [.i i] => (100001 - i).toNat | _ => 0, (by omega), ⟨by omega, upTo_zero⟩, ?_⟩
      intro i i0 i1 hI
      obtain ⟨hin, hup⟩ : i ≤ (l.length : Int) ∧ UpTo l InC i := hI
      refine ⟨fun hlt => ?_, fun hge => ?_⟩
      · have hmem := getD_mem (show i.toNat < l.length by omega)
        rcases Decidable.em (InC (l.getD i.toNat 0)) with hc | hc
        · have hup' := (upTo_step i0).2 ⟨hup, hc⟩
          have hc' := hc
          unfold InC at hc'
          exact ⟨fun q => by omega, fun _ => ⟨fun q => by omega, fun _ => ⟨by omega, ⟨by omega, hup'⟩, by show (100001 - (i + 1)).toNat < (100001 - i).toNat; omega⟩⟩⟩
        · have hn : ¬ IsCl l := fun q => hc (q _ hmem)
          have hc' := hc
          unfold InC at hc'
          exact ⟨fun q r => hn r.1, fun _ => ⟨fun q r => hn r.1, fun _ => by omega⟩⟩
      · have hcl : IsCl l := (upTo_all (by omega)).1 hup
        simp only [hcl, true_and]
        omega


def r14exact_sp : SpecSh := { args := [(.lst 0)], res := (.agg [(.bool .f), (.bool .f), (.bool .f), (.bool .f), (.bool .f), (.bool .f), (.bool .f), (.bool .f)]), sh := [.b, .b, .b, .b, .b, .b, .b, .b] }
set_option maxRecDepth 100000 in
def r14exact_tree : Tree :=
.lett (.len 0) <|
.loop [.i (some (0, 100000)), .l] [.i (.z 0), .l (.nil)] <|
.ite (.cmp .lt (.v 2) (.v 1)) (.lett (.nth 0 (.v 2)) <|
.lett (.addw .i64 (.v 4) (.z 4)) <|
.lett (.wrap .u64 (.v 5)) <|
.lett (.shl .i64 (.z 1) (.v 6)) <|
.lett (.len 3) <|
.ite (.cmp .le (.v 8) (.z 100000)) (.letl (.app 3 [.v 7]) <|
.lett (.add (.v 2) (.z 1)) <|
.again 0 [.i (.v 10), .l (.v 9)]) <|
.bad 113) <|
.call 21 [.i (some (0, 2)), .i (some (0, 2)), .i (some (0, 2)), .i (some (0, 2)), .i (some (0, 2)), .i (some (0, 2)), .i (some (0, 2)), .i (some (0, 2))] [.l (.v 3)] <|
.loop [.i (some (0, 8)), .b, .b, .b, .b, .b, .b, .b, .b] [.i (.z 0), .b .f, .b .f, .b .f, .b .f, .b .f, .b .f, .b .f, .b .f] <|
.ite (.cmp .lt (.v 12) (.z 8)) (.ite (.cmp .le (.v 12) (.z 0)) (.again 1 [.i (.z 1), .b (.cmp .eq (.v 4) (.z 2)), .b (.v 14), .b (.v 15), .b (.v 16), .b (.v 17), .b (.v 18), .b (.v 19), .b (.v 20)]) <|
.ite (.cmp .le (.v 12) (.z 1)) (.again 1 [.i (.z 2), .b (.v 13), .b (.cmp .eq (.v 5) (.z 2)), .b (.v 15), .b (.v 16), .b (.v 17), .b (.v 18), .b (.v 19), .b (.v 20)]) <|
.ite (.cmp .le (.v 12) (.z 2)) (.again 1 [.i (.z 3), .b (.v 13), .b (.v 14), .b (.cmp .eq (.v 6) (.z 2)), .b (.v 16), .b (.v 17), .b (.v 18), .b (.v 19), .b (.v 20)]) <|
.ite (.cmp .le (.v 12) (.z 3)) (.again 1 [.i (.z 4), .b (.v 13), .b (.v 14), .b (.v 15), .b (.cmp .eq (.v 7) (.z 2)), .b (.v 17), .b (.v 18), .b (.v 19), .b (.v 20)]) <|
.ite (.cmp .le (.v 12) (.z 4)) (.again 1 [.i (.z 5), .b (.v 13), .b (.v 14), .b (.v 15), .b (.v 16), .b (.cmp .eq (.v 8) (.z 2)), .b (.v 18), .b (.v 19), .b (.v 20)]) <|
.ite (.cmp .le (.v 12) (.z 5)) (.again 1 [.i (.z 6), .b (.v 13), .b (.v 14), .b (.v 15), .b (.v 16), .b (.v 17), .b (.cmp .eq (.v 9) (.z 2)), .b (.v 19), .b (.v 20)]) <|
.ite (.cmp .le (.v 12) (.z 6)) (.again 1 [.i (.z 7), .b (.v 13), .b (.v 14), .b (.v 15), .b (.v 16), .b (.v 17), .b (.v 18), .b (.cmp .eq (.v 10) (.z 2)), .b (.v 20)]) <|
.again 1 [.i (.z 8), .b (.v 13), .b (.v 14), .b (.v 15), .b (.v 16), .b (.v 17), .b (.v 18), .b (.v 19), .b (.cmp .eq (.v 11) (.z 2))]) <|
.ret (.agg [(.bool (.v 13)), (.bool (.v 14)), (.bool (.v 15)), (.bool (.v 16)), (.bool (.v 17)), (.bool (.v 18)), (.bool (.v 19)), (.bool (.v 20))])
noncomputable def r14exact_cx : Ctx := { tys := tys, fns := fns, mets := mets, sps := [(21, r14tell_sp)], anns := [((15, 3), { slots := [9], cells := [], ivs := [some (0, 100000)], lsts := [3], elem := 3 }), ((12, 3), { slots := [10], cells := [], ivs := [some (0, 8), none, none, none, none, none, none, none, none], pc := [(3, 0), (3, 1), (3, 2), (3, 3), (3, 4), (3, 5), (3, 6), (3, 7)] })], trys := [] }
def r14exact_ivs : List (Option (Int × Int)) := [none]
set_option maxRecDepth 100000 in
theorem r14exact_walk : runFn r14exact_cx 3000 12 Tryd.f12 r14exact_sp.args r14exact_ivs = r14exact_tree := by kernel_rfl
noncomputable def r14exact_M : Nat → SpecSem
  | 21 => r14tell_sem
  | _ => noSem
theorem r14exact_M21 : r14exact_M 21 = r14tell_sem := rfl
theorem r14exact_cxok : CxOK Tryd.prog r14exact_cx r14exact_M := ⟨tysOK, fnsOK, spCons r14tell_ok <| fun _ _ h => spNil h, mixedOK, fun _ _ h => trNil h, fun _ _ h => atNil h, metsOK, fun _ _ h => efNil h, fun _ _ h => lsNil h⟩
set_option maxRecDepth 100000 in
set_option maxHeartbeats 8000000 in
theorem r14exact_den (R RP : Value → Prop) (F : Ex → St → Js → Env → Prop) (x0 : List Int) : Tree.den r14exact_M R RP F r14exact_tree [] [(.l x0)] = (
  ∀ x1 : Int, x1 = ((List.length x0 : Int)) →
∃ (I0 : List Cv → Prop) (mu0 : List Cv → Nat), Fits [.i (some ((0), (100000))), .l] [(.i (0 : Int)), (.l (([] : List Int)))] ∧ I0 [(.i (0 : Int)), (.l (([] : List Int)))] ∧ (
∀ x2 : Int, (0 : Int) ≤ x2 → x2 ≤ (100000 : Int) → ∀ x3 : List Int, InI x3 → I0 [.i x2, .l x3] →
((Cmp.den .lt x2 x1) = true → ∀ x4 : Int, x4 = (List.getD x0 (Int.toNat x2) 0) →
∀ x5 : Int, x5 = (IntKind.i64.wrap (x4 + (4 : Int))) →
∀ x6 : Int, x6 = (IntKind.u64.wrap x5) →
∀ x7 : Int, x7 = (IntKind.i64.wrap ((1 : Int) * 2 ^ (min (Int.toNat x6) (IntKind.i64).bits))) →
∀ x8 : Int, x8 = ((List.length x3 : Int)) →
((Cmp.den .le x8 (100000 : Int)) = true → ∀ x9 : List Int, x9 = (x3 ++ ([x7] : List Int)) →
∀ x10 : Int, x10 = (x2 + (1 : Int)) →
Fits [.i (some ((0), (100000))), .l] [(.i x10), (.l (x9))] ∧ I0 [(.i x10), (.l (x9))] ∧ mu0 [(.i x10), (.l (x9))] < mu0 [.i x2, .l x3]) ∧ ((Cmp.den .le x8 (100000 : Int)) = false → False)) ∧ ((Cmp.den .lt x2 x1) = false → (r14tell_sem.pre [(.l (x3))]) ∧ (
∀ x4 : Int, x4 = (Cv.int (Env.get (r14tell_sem.out [(.l (x3))]) 0)) → (0 : Int) ≤ x4 → x4 ≤ (2 : Int) →
∀ x5 : Int, x5 = (Cv.int (Env.get (r14tell_sem.out [(.l (x3))]) 1)) → (0 : Int) ≤ x5 → x5 ≤ (2 : Int) →
∀ x6 : Int, x6 = (Cv.int (Env.get (r14tell_sem.out [(.l (x3))]) 2)) → (0 : Int) ≤ x6 → x6 ≤ (2 : Int) →
∀ x7 : Int, x7 = (Cv.int (Env.get (r14tell_sem.out [(.l (x3))]) 3)) → (0 : Int) ≤ x7 → x7 ≤ (2 : Int) →
∀ x8 : Int, x8 = (Cv.int (Env.get (r14tell_sem.out [(.l (x3))]) 4)) → (0 : Int) ≤ x8 → x8 ≤ (2 : Int) →
∀ x9 : Int, x9 = (Cv.int (Env.get (r14tell_sem.out [(.l (x3))]) 5)) → (0 : Int) ≤ x9 → x9 ≤ (2 : Int) →
∀ x10 : Int, x10 = (Cv.int (Env.get (r14tell_sem.out [(.l (x3))]) 6)) → (0 : Int) ≤ x10 → x10 ≤ (2 : Int) →
∀ x11 : Int, x11 = (Cv.int (Env.get (r14tell_sem.out [(.l (x3))]) 7)) → (0 : Int) ≤ x11 → x11 ≤ (2 : Int) →
∃ (I1 : List Cv → Prop) (mu1 : List Cv → Nat), Fits [.i (some ((0), (8))), .b, .b, .b, .b, .b, .b, .b, .b] [(.i (0 : Int)), (.b false), (.b false), (.b false), (.b false), (.b false), (.b false), (.b false), (.b false)] ∧ I1 [(.i (0 : Int)), (.b false), (.b false), (.b false), (.b false), (.b false), (.b false), (.b false), (.b false)] ∧ (
∀ x12 : Int, (0 : Int) ≤ x12 → x12 ≤ (8 : Int) → ∀ x13 : Bool, ∀ x14 : Bool, ∀ x15 : Bool, ∀ x16 : Bool, ∀ x17 : Bool, ∀ x18 : Bool, ∀ x19 : Bool, ∀ x20 : Bool, I1 [.i x12, .b x13, .b x14, .b x15, .b x16, .b x17, .b x18, .b x19, .b x20] →
((Cmp.den .lt x12 (8 : Int)) = true → ((Cmp.den .le x12 (0 : Int)) = true → Fits [.i (some ((0), (8))), .b, .b, .b, .b, .b, .b, .b, .b] [(.i (1 : Int)), (.b (Cmp.den .eq x4 (2 : Int))), (.b x14), (.b x15), (.b x16), (.b x17), (.b x18), (.b x19), (.b x20)] ∧ I1 [(.i (1 : Int)), (.b (Cmp.den .eq x4 (2 : Int))), (.b x14), (.b x15), (.b x16), (.b x17), (.b x18), (.b x19), (.b x20)] ∧ mu1 [(.i (1 : Int)), (.b (Cmp.den .eq x4 (2 : Int))), (.b x14), (.b x15), (.b x16), (.b x17), (.b x18), (.b x19), (.b x20)] < mu1 [.i x12, .b x13, .b x14, .b x15, .b x16, .b x17, .b x18, .b x19, .b x20]) ∧ ((Cmp.den .le x12 (0 : Int)) = false → ((Cmp.den .le x12 (1 : Int)) = true → Fits [.i (some ((0), (8))), .b, .b, .b, .b, .b, .b, .b, .b] [(.i (2 : Int)), (.b x13), (.b (Cmp.den .eq x5 (2 : Int))), (.b x15), (.b x16), (.b x17), (.b x18), (.b x19), (.b x20)] ∧ I1 [(.i (2 : Int)), (.b x13), (.b (Cmp.den .eq x5 (2 : Int))), (.b x15), (.b x16), (.b x17), (.b x18), (.b x19), (.b x20)] ∧ mu1 [(.i (2 : Int)), (.b x13), (.b (Cmp.den .eq x5 (2 : Int))), (.b x15), (.b x16), (.b x17), (.b x18), (.b x19), (.b x20)] < mu1 [.i x12, .b x13, .b x14, .b x15, .b x16, .b x17, .b x18, .b x19, .b x20]) ∧ ((Cmp.den .le x12 (1 : Int)) = false → ((Cmp.den .le x12 (2 : Int)) = true → Fits [.i (some ((0), (8))), .b, .b, .b, .b, .b, .b, .b, .b] [(.i (3 : Int)), (.b x13), (.b x14), (.b (Cmp.den .eq x6 (2 : Int))), (.b x16), (.b x17), (.b x18), (.b x19), (.b x20)] ∧ I1 [(.i (3 : Int)), (.b x13), (.b x14), (.b (Cmp.den .eq x6 (2 : Int))), (.b x16), (.b x17), (.b x18), (.b x19), (.b x20)] ∧ mu1 [(.i (3 : Int)), (.b x13), (.b x14), (.b (Cmp.den .eq x6 (2 : Int))), (.b x16), (.b x17), (.b x18), (.b x19), (.b x20)] < mu1 [.i x12, .b x13, .b x14, .b x15, .b x16, .b x17, .b x18, .b x19, .b x20]) ∧ ((Cmp.den .le x12 (2 : Int)) = false → ((Cmp.den .le x12 (3 : Int)) = true → Fits [.i (some ((0), (8))), .b, .b, .b, .b, .b, .b, .b, .b] [(.i (4 : Int)), (.b x13), (.b x14), (.b x15), (.b (Cmp.den .eq x7 (2 : Int))), (.b x17), (.b x18), (.b x19), (.b x20)] ∧ I1 [(.i (4 : Int)), (.b x13), (.b x14), (.b x15), (.b (Cmp.den .eq x7 (2 : Int))), (.b x17), (.b x18), (.b x19), (.b x20)] ∧ mu1 [(.i (4 : Int)), (.b x13), (.b x14), (.b x15), (.b (Cmp.den .eq x7 (2 : Int))), (.b x17), (.b x18), (.b x19), (.b x20)] < mu1 [.i x12, .b x13, .b x14, .b x15, .b x16, .b x17, .b x18, .b x19, .b x20]) ∧ ((Cmp.den .le x12 (3 : Int)) = false → ((Cmp.den .le x12 (4 : Int)) = true → Fits [.i (some ((0), (8))), .b, .b, .b, .b, .b, .b, .b, .b] [(.i (5 : Int)), (.b x13), (.b x14), (.b x15), (.b x16), (.b (Cmp.den .eq x8 (2 : Int))), (.b x18), (.b x19), (.b x20)] ∧ I1 [(.i (5 : Int)), (.b x13), (.b x14), (.b x15), (.b x16), (.b (Cmp.den .eq x8 (2 : Int))), (.b x18), (.b x19), (.b x20)] ∧ mu1 [(.i (5 : Int)), (.b x13), (.b x14), (.b x15), (.b x16), (.b (Cmp.den .eq x8 (2 : Int))), (.b x18), (.b x19), (.b x20)] < mu1 [.i x12, .b x13, .b x14, .b x15, .b x16, .b x17, .b x18, .b x19, .b x20]) ∧ ((Cmp.den .le x12 (4 : Int)) = false → ((Cmp.den .le x12 (5 : Int)) = true → Fits [.i (some ((0), (8))), .b, .b, .b, .b, .b, .b, .b, .b] [(.i (6 : Int)), (.b x13), (.b x14), (.b x15), (.b x16), (.b x17), (.b (Cmp.den .eq x9 (2 : Int))), (.b x19), (.b x20)] ∧ I1 [(.i (6 : Int)), (.b x13), (.b x14), (.b x15), (.b x16), (.b x17), (.b (Cmp.den .eq x9 (2 : Int))), (.b x19), (.b x20)] ∧ mu1 [(.i (6 : Int)), (.b x13), (.b x14), (.b x15), (.b x16), (.b x17), (.b (Cmp.den .eq x9 (2 : Int))), (.b x19), (.b x20)] < mu1 [.i x12, .b x13, .b x14, .b x15, .b x16, .b x17, .b x18, .b x19, .b x20]) ∧ ((Cmp.den .le x12 (5 : Int)) = false → ((Cmp.den .le x12 (6 : Int)) = true → Fits [.i (some ((0), (8))), .b, .b, .b, .b, .b, .b, .b, .b] [(.i (7 : Int)), (.b x13), (.b x14), (.b x15), (.b x16), (.b x17), (.b x18), (.b (Cmp.den .eq x10 (2 : Int))), (.b x20)] ∧ I1 [(.i (7 : Int)), (.b x13), (.b x14), (.b x15), (.b x16), (.b x17), (.b x18), (.b (Cmp.den .eq x10 (2 : Int))), (.b x20)] ∧ mu1 [(.i (7 : Int)), (.b x13), (.b x14), (.b x15), (.b x16), (.b x17), (.b x18), (.b (Cmp.den .eq x10 (2 : Int))), (.b x20)] < mu1 [.i x12, .b x13, .b x14, .b x15, .b x16, .b x17, .b x18, .b x19, .b x20]) ∧ ((Cmp.den .le x12 (6 : Int)) = false → Fits [.i (some ((0), (8))), .b, .b, .b, .b, .b, .b, .b, .b] [(.i (8 : Int)), (.b x13), (.b x14), (.b x15), (.b x16), (.b x17), (.b x18), (.b x19), (.b (Cmp.den .eq x11 (2 : Int)))] ∧ I1 [(.i (8 : Int)), (.b x13), (.b x14), (.b x15), (.b x16), (.b x17), (.b x18), (.b x19), (.b (Cmp.den .eq x11 (2 : Int)))] ∧ mu1 [(.i (8 : Int)), (.b x13), (.b x14), (.b x15), (.b x16), (.b x17), (.b x18), (.b x19), (.b (Cmp.den .eq x11 (2 : Int)))] < mu1 [.i x12, .b x13, .b x14, .b x15, .b x16, .b x17, .b x18, .b x19, .b x20])))))))) ∧ ((Cmp.den .lt x12 (8 : Int)) = false → R (Value.agg [(Value.bool x13), (Value.bool x14), (Value.bool x15), (Value.bool x16), (Value.bool x17), (Value.bool x18), (Value.bool x19), (Value.bool x20)].toArray))))))) := by kernel_rfl

noncomputable def r14exact_sem : SpecSem := { pre := fun cs => match cs with | [.l l] => InI l ∧ (IsCl l ∧ l.length ≤ 15) | _ => False, out := fun cs => match cs with | [.l l] => [.b (decide (refV 1 (l.map bitc) = 2)), .b (decide (refV 2 (l.map bitc) = 2)), .b (decide (refV 3 (l.map bitc) = 2)), .b (decide (refV 4 (l.map bitc) = 2)), .b (decide (refV 5 (l.map bitc) = 2)), .b (decide (refV 6 (l.map bitc) = 2)), .b (decide (refV 7 (l.map bitc) = 2)), .b (decide (refV 8 (l.map bitc) = 2))] | _ => [] }
set_option maxRecDepth 10000 in
set_option maxHeartbeats 16000000 in
theorem r14exact_ok : SpecOK Tryd.prog 12 r14exact_sp r14exact_sem := by
  refine spec_of_tree r14exact_cxok Tryd.func12 (by kernel_rfl) (by kernel_rfl) r14exact_walk rfl ?_
  intro cs hpre
  match cs, hpre with
  | [.l l], ⟨j_l, hx⟩ =>
    refine ⟨rfl, IvsB.ok (by simp only [r14exact_ivs, IvsB, Cv.int, and_true, j_l, true_and] <;> omega), ?_, ?_⟩
    · simp only [r14exact_sem, r14exact_sp, Fits]
    · rw [r14exact_den]
      obtain ⟨hcl, hl⟩ := hx
      have hms := (isMs_map hcl).2 hl
      simp only [r14exact_sem, r14exact_sp, r14tell_sem, r14exact_den, r14tell_sem, Tree.den, LE.den, Cv.list, placeA, List.getElem?_cons_zero, List.getElem?_cons_succ, IE.den, BE.den, At.den, CA.den, Env.get, Cv.int, Cv.bool, List.cons_append, List.nil_append, List.map_cons, List.map_nil, bindRes, bindEq, Fits, SV.den, denL, place, placeL, eq_t, eq_f, lt_t, lt_f, le_t, le_f, beq_iff_eq, beq_eq_false_iff_ne, ne_eq, reduceCtorEq, b_dec, decide_eq_true_eq, decide_eq_false_iff_not, Bool.not_eq_false', Bool.or_eq_true, Bool.or_eq_false_iff, Bool.and_eq_false_iff, true_iff, false_iff, Bool.false_eq_true, Bool.not_eq_true', Bool.and_eq_true, Bool.not_true, Bool.not_false, List.cons.injEq, Cv.i.injEq, Cv.b.injEq, and_true, true_and, agg_inj, tup_inj, Value.int.injEq, Value.bool.injEq, forall_eq, eq_self, if_true, if_false, true_and, and_true, false_and, and_false, true_or, or_true, false_or, or_false, true_iff, iff_true, false_iff, iff_false, not_true_eq_false, not_false_eq_true, true_implies, false_implies, implies_true, forall_const, decide_true, decide_false, reduceCtorEq]
      refine ⟨fun vs => match vs with | [.i i, .l ys] => i ≤ (l.length : Int) ∧ ys = (l.take i.toNat).map bitc | _ => False, fun vs => match vs with | [.i i, .l _] => (100001 - i).toNat | _ => 0, ⟨by omega, by omega, inI_nil⟩, ⟨by omega, rfl⟩, ?_⟩
      intro i i0 i1 ys hys hI
      obtain ⟨hin, rfl⟩ : i ≤ (l.length : Int) ∧ ys = (l.take i.toNat).map bitc := hI
      refine ⟨fun hlt => ?_, fun hge => ?_⟩
      · have hc := hcl _ (getD_mem (show i.toNat < l.length by omega))
        have hc' := hc
        unfold InC at hc'
        have hw := bitc_wrap hc
        have hT : (l.take i.toNat).map bitc ++ [bitc (l.getD i.toNat 0)] = (l.take (i + 1).toNat).map bitc := by
          rw [show (i + 1).toNat = i.toNat + 1 by omega, take_snoc (by omega), List.map_append]; rfl
        have hcl2 : IsCl (l.take (i + 1).toNat) := fun c hcm => hcl c (List.mem_of_mem_take hcm)
        have w1 : IntKind.i64.wrap (l.getD i.toNat 0 + 4) = l.getD i.toNat 0 + 4 := w64 (by omega) (by omega)
        have w2 : IntKind.u64.wrap (l.getD i.toNat 0 + 4) = l.getD i.toNat 0 + 4 := wrap_id (by show (0 : Int) ≤ _; omega) (by show _ ≤ (18446744073709551615 : Int); omega)
        simp only [w1, w2, hw, hT, if_true, if_false, true_and, and_true, false_and, and_false, true_or, or_true, false_or, or_false, true_iff, iff_true, false_iff, iff_false, not_true_eq_false, not_false_eq_true, true_implies, false_implies, implies_true, forall_const, decide_true, decide_false, reduceCtorEq]
        refine ⟨fun _ => ⟨⟨by omega, by omega, inI_map hcl2⟩, by omega, by omega⟩, fun q => ?_⟩
        rw [List.length_map, List.length_take] at q; omega
      · have et : l.take i.toNat = l := List.take_of_length_le (by omega)
        rw [et] at hys ⊢
        simp only [hys, hms, true_and]
        intros
        generalize refV 1 (l.map bitc) = v1 at *
        generalize refV 2 (l.map bitc) = v2 at *
        generalize refV 3 (l.map bitc) = v3 at *
        generalize refV 4 (l.map bitc) = v4 at *
        generalize refV 5 (l.map bitc) = v5 at *
        generalize refV 6 (l.map bitc) = v6 at *
        generalize refV 7 (l.map bitc) = v7 at *
        generalize refV 8 (l.map bitc) = v8 at *
        refine ⟨fun vs => match vs with | [.i k, .b a1, .b a2, .b a3, .b a4, .b a5, .b a6, .b a7, .b a8] => (0 < k → a1 = Cmp.eq.den v1 2) ∧ (1 < k → a2 = Cmp.eq.den v2 2) ∧ (2 < k → a3 = Cmp.eq.den v3 2) ∧ (3 < k → a4 = Cmp.eq.den v4 2) ∧ (4 < k → a5 = Cmp.eq.den v5 2) ∧ (5 < k → a6 = Cmp.eq.den v6 2) ∧ (6 < k → a7 = Cmp.eq.den v7 2) ∧ (7 < k → a8 = Cmp.eq.den v8 2) | _ => False, fun vs => match vs with | .i k :: _ => (8 - k).toNat | _ => 0, (by omega), (by refine ⟨?_, ?_, ?_, ?_, ?_, ?_, ?_, ?_⟩ <;> intro h <;> omega), ?_⟩
        intro k k0 k1 a1 a2 a3 a4 a5 a6 a7 a8 hJ
        have hJ : (0 < k → a1 = Cmp.eq.den v1 2) ∧ (1 < k → a2 = Cmp.eq.den v2 2) ∧ (2 < k → a3 = Cmp.eq.den v3 2) ∧ (3 < k → a4 = Cmp.eq.den v4 2) ∧ (4 < k → a5 = Cmp.eq.den v5 2) ∧ (5 < k → a6 = Cmp.eq.den v6 2) ∧ (6 < k → a7 = Cmp.eq.den v7 2) ∧ (7 < k → a8 = Cmp.eq.den v8 2) := hJ
        have hk : k = 0 ∨ k = 1 ∨ k = 2 ∨ k = 3 ∨ k = 4 ∨ k = 5 ∨ k = 6 ∨ k = 7 ∨ k = 8 := by omega
        rcases hk with rfl | rfl | rfl | rfl | rfl | rfl | rfl | rfl | rfl
        all_goals simp only [Int.reduceLE, Int.reduceLT, Int.reduceAdd, if_true, if_false, true_and, and_true, false_and, and_false, true_or, or_true, false_or, or_false, true_iff, iff_true, false_iff, iff_false, not_true_eq_false, not_false_eq_true, true_implies, false_implies, implies_true, forall_const, decide_true, decide_false, reduceCtorEq] at hJ ⊢
        all_goals try simp only [hJ, eq_t, eq_self, if_true, if_false, true_and, and_true, false_and, and_false, true_or, or_true, false_or, or_false, true_iff, iff_true, false_iff, iff_false, not_true_eq_false, not_false_eq_true, true_implies, false_implies, implies_true, forall_const, decide_true, decide_false, reduceCtorEq]
        all_goals (repeat' (first | intro _ | refine And.intro ?_ ?_ | exact trivial)) <;> first | omega | rfl | (show (8 - _ : Int).toNat < (8 - _ : Int).toNat; decide)
end Go.Proofs.YtmnpeneplobpdaaDoor.X
