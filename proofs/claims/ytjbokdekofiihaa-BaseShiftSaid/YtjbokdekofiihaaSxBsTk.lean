/-
  base: Take, by contract.
-/
import Derived.Test.YtjbokdekofiihaaSxBs3
import Derived.Test.YtjbokdekofiihaaSxStatNum2
namespace Go.Proofs.Ytjbokdekofiihaa.X
open Go Go.SX
set_option linter.unusedVariables false
set_option linter.unusedSimpArgs false

def smax_sp : SpecSh := { args := [(.lst 0)], res := (.int .i64 (.z 0)), sh := [.i (some ((-9223372036854775808), 9223372036854775807))] }
set_option maxRecDepth 100000 in
def smax_tree : Tree :=
.lett (.len 0) <|
.ite (.cmp .lt (.v 1) (.z 1)) (.bad 29) <|
.lett (.nth 0 (.z 0)) <|
.loop [.i (some ((-9223372036854775808), 9223372036854775807)), .i (some (0, 100000))] [.i (.v 2), .i (.z 1)] <|
.ite (.cmp .lt (.v 4) (.v 1)) (.lett (.nth 0 (.v 4)) <|
.lett (.ite (.cmp .lt (.v 3) (.v 5)) (.v 5) (.v 3)) <|
.lett (.add (.v 4) (.z 1)) <|
.again 0 [.i (.v 6), .i (.v 7)]) <|
.ret (.int .i64 (.v 3))
noncomputable def smax_cx : Ctx := { tys := tys, fns := fns, mets := mets, sps := [], anns := [((75, 5), { slots := [3, 4], cells := [], ivs := [some ((-9223372036854775808), 9223372036854775807), some (0, 100000)] })], trys := [] }
def smax_ivs : List (Option (Int × Int)) := [none]
set_option maxRecDepth 100000 in
theorem smax_walk : runFn smax_cx 3000 75 Try.f75 smax_sp.args smax_ivs = smax_tree := by kernel_rfl
noncomputable def smax_M : Nat → SpecSem
  | _ => noSem
theorem smax_cxok : CxOK Try.prog smax_cx smax_M := ⟨tysOK, fnsOK, fun _ _ h => spNil h, mixedOK, fun _ _ h => trNil h, fun _ _ h => atNil h, metsOK⟩
set_option maxRecDepth 100000 in
set_option maxHeartbeats 8000000 in
theorem smax_den (R RP : Value → Prop) (F : Ex → St → Js → Env → Prop) (x0 : List Int) : Tree.den smax_M R RP F smax_tree [] [(.l x0)] = (
  ∀ x1 : Int, x1 = ((List.length x0 : Int)) →
((Cmp.den .lt x1 (1 : Int)) = true → False) ∧ ((Cmp.den .lt x1 (1 : Int)) = false → ∀ x2 : Int, x2 = (List.getD x0 (Int.toNat (0 : Int)) 0) →
∃ (I0 : List Cv → Prop) (mu0 : List Cv → Nat), Fits [.i (some ((-9223372036854775808), (9223372036854775807))), .i (some ((0), (100000)))] [(.i x2), (.i (1 : Int))] ∧ I0 [(.i x2), (.i (1 : Int))] ∧ (
∀ x3 : Int, (-9223372036854775808 : Int) ≤ x3 → x3 ≤ (9223372036854775807 : Int) → ∀ x4 : Int, (0 : Int) ≤ x4 → x4 ≤ (100000 : Int) → I0 [.i x3, .i x4] →
((Cmp.den .lt x4 x1) = true → ∀ x5 : Int, x5 = (List.getD x0 (Int.toNat x4) 0) →
∀ x6 : Int, x6 = (if (Cmp.den .lt x3 x5) = true then x5 else x3) →
∀ x7 : Int, x7 = (x4 + (1 : Int)) →
Fits [.i (some ((-9223372036854775808), (9223372036854775807))), .i (some ((0), (100000)))] [(.i x6), (.i x7)] ∧ I0 [(.i x6), (.i x7)] ∧ mu0 [(.i x6), (.i x7)] < mu0 [.i x3, .i x4]) ∧ ((Cmp.den .lt x4 x1) = false → R (Value.int .i64 x3))))) := by kernel_rfl

def smax_sem : SpecSem := { pre := fun cs => match cs with | [.l xs] => InI xs ∧ (1 ≤ (xs.length : Int) ∧ (xs.length : Int) ≤ 100000 ∧ inS xs) | _ => False, out := fun cs => match cs with | [.l xs] => [.i (maxS xs)] | _ => [] }
set_option maxRecDepth 10000 in
set_option maxHeartbeats 16000000 in
theorem smax_ok : SpecOK Try.prog 75 smax_sp smax_sem := by
  refine spec_of_tree smax_cxok Try.func75 (by kernel_rfl) (by kernel_rfl) smax_walk rfl ?_
  intro cs hpre
  match cs, hpre with
  | [.l xs], ⟨j_xs, hx⟩ =>
    refine ⟨rfl, IvsB.ok (by simp only [smax_ivs, IvsB, Cv.int, and_true, j_xs, true_and] <;> omega), ?_, ?_⟩
    · have := sts_rng hx.2.2 hx.2.1
      simp only [smax_sem, smax_sp, Fits, and_true]; omega
    · rw [smax_den]
      simp only [smax_sem, smax_sp, smax_den, Tree.den, LE.den, Cv.list, placeA, List.getElem?_cons_zero, List.getElem?_cons_succ, IE.den, BE.den, At.den, CA.den, Env.get, Cv.int, Cv.bool, List.cons_append, List.nil_append, List.map_cons, List.map_nil, bindRes, bindEq, Fits, SV.den, denL, place, placeL, eq_t, eq_f, lt_t, lt_f, le_t, le_f, beq_iff_eq, beq_eq_false_iff_ne, ne_eq, reduceCtorEq, b_dec, decide_eq_true_eq, decide_eq_false_iff_not, Bool.not_eq_false', Bool.or_eq_true, Bool.or_eq_false_iff, Bool.and_eq_false_iff, true_iff, false_iff, Bool.false_eq_true, Bool.not_eq_true', Bool.and_eq_true, Bool.not_true, Bool.not_false, List.cons.injEq, Cv.i.injEq, Cv.b.injEq, and_true, true_and, agg_inj, tup_inj, Value.int.injEq, Value.bool.injEq]
      intro x1 e1
      refine ⟨fun h => by omega, fun _ => ?_⟩
      intro x2 e2
      have h0 := hx.2.2 _ (getD_mem (i := 0) (by omega) (by omega))
      rw [← e2] at h0
      refine ⟨fun vs => match vs with | [.i v, .i i] => v = maxS (xs.take i.toNat) ∧ 1 ≤ i ∧ i ≤ (xs.length : Int) | _ => False, fun vs => match vs with | _ :: .i i :: _ => ((xs.length : Int) - i).toNat | _ => 0, by omega, ⟨?_, by omega, by omega⟩, ?_⟩
      · have := (sts_next (xs := xs) (i := 0) (by omega) (by omega) e2)
        rw [show ((0 : Int) + 1).toNat = (1 : Int).toNat from rfl] at this
        rw [this.2.2.2.1, if_pos rfl]
      intro x3 l3 g3 x4 l4 g4 hI
      obtain ⟨hv, hl, hr⟩ : x3 = maxS (xs.take x4.toNat) ∧ 1 ≤ x4 ∧ x4 ≤ (xs.length : Int) := hI
      subst e1
      refine ⟨fun hlt => ?_, fun hge => ?_⟩
      · intro x5 e5 x6 e6 x7 e7
        have := (sts_next (xs := xs) (i := x4) (by omega) hlt e5)
        have hm := hx.2.2 _ (getD_mem l4 hlt)
        rw [← e5] at hm
        have hn := this.2.2.2.1
        rw [if_neg (by omega), ← hv] at hn
        subst e7
        refine ⟨by split at e6 <;> omega, ⟨by rw [e6, hn], by omega, by omega⟩, ?_⟩
        show (((xs.length : Int) - (x4 + 1)).toNat < ((xs.length : Int) - x4).toNat)
        omega
      · have ht : xs.take x4.toNat = xs := List.take_of_length_le (by omega)
        rw [hv, ht]
def smin_sp : SpecSh := { args := [(.lst 0)], res := (.int .i64 (.z 0)), sh := [.i (some ((-9223372036854775808), 9223372036854775807))] }
set_option maxRecDepth 100000 in
def smin_tree : Tree :=
.lett (.len 0) <|
.ite (.cmp .lt (.v 1) (.z 1)) (.bad 29) <|
.lett (.nth 0 (.z 0)) <|
.loop [.i (some ((-9223372036854775808), 9223372036854775807)), .i (some (0, 100000))] [.i (.v 2), .i (.z 1)] <|
.ite (.cmp .lt (.v 4) (.v 1)) (.lett (.nth 0 (.v 4)) <|
.lett (.ite (.cmp .lt (.v 5) (.v 3)) (.v 5) (.v 3)) <|
.lett (.add (.v 4) (.z 1)) <|
.again 0 [.i (.v 6), .i (.v 7)]) <|
.ret (.int .i64 (.v 3))
noncomputable def smin_cx : Ctx := { tys := tys, fns := fns, mets := mets, sps := [], anns := [((76, 5), { slots := [3, 4], cells := [], ivs := [some ((-9223372036854775808), 9223372036854775807), some (0, 100000)] })], trys := [] }
def smin_ivs : List (Option (Int × Int)) := [none]
set_option maxRecDepth 100000 in
theorem smin_walk : runFn smin_cx 3000 76 Try.f76 smin_sp.args smin_ivs = smin_tree := by kernel_rfl
noncomputable def smin_M : Nat → SpecSem
  | _ => noSem
theorem smin_cxok : CxOK Try.prog smin_cx smin_M := ⟨tysOK, fnsOK, fun _ _ h => spNil h, mixedOK, fun _ _ h => trNil h, fun _ _ h => atNil h, metsOK⟩
set_option maxRecDepth 100000 in
set_option maxHeartbeats 8000000 in
theorem smin_den (R RP : Value → Prop) (F : Ex → St → Js → Env → Prop) (x0 : List Int) : Tree.den smin_M R RP F smin_tree [] [(.l x0)] = (
  ∀ x1 : Int, x1 = ((List.length x0 : Int)) →
((Cmp.den .lt x1 (1 : Int)) = true → False) ∧ ((Cmp.den .lt x1 (1 : Int)) = false → ∀ x2 : Int, x2 = (List.getD x0 (Int.toNat (0 : Int)) 0) →
∃ (I0 : List Cv → Prop) (mu0 : List Cv → Nat), Fits [.i (some ((-9223372036854775808), (9223372036854775807))), .i (some ((0), (100000)))] [(.i x2), (.i (1 : Int))] ∧ I0 [(.i x2), (.i (1 : Int))] ∧ (
∀ x3 : Int, (-9223372036854775808 : Int) ≤ x3 → x3 ≤ (9223372036854775807 : Int) → ∀ x4 : Int, (0 : Int) ≤ x4 → x4 ≤ (100000 : Int) → I0 [.i x3, .i x4] →
((Cmp.den .lt x4 x1) = true → ∀ x5 : Int, x5 = (List.getD x0 (Int.toNat x4) 0) →
∀ x6 : Int, x6 = (if (Cmp.den .lt x5 x3) = true then x5 else x3) →
∀ x7 : Int, x7 = (x4 + (1 : Int)) →
Fits [.i (some ((-9223372036854775808), (9223372036854775807))), .i (some ((0), (100000)))] [(.i x6), (.i x7)] ∧ I0 [(.i x6), (.i x7)] ∧ mu0 [(.i x6), (.i x7)] < mu0 [.i x3, .i x4]) ∧ ((Cmp.den .lt x4 x1) = false → R (Value.int .i64 x3))))) := by kernel_rfl

def smin_sem : SpecSem := { pre := fun cs => match cs with | [.l xs] => InI xs ∧ (1 ≤ (xs.length : Int) ∧ (xs.length : Int) ≤ 100000 ∧ inS xs) | _ => False, out := fun cs => match cs with | [.l xs] => [.i (minS xs)] | _ => [] }
set_option maxRecDepth 10000 in
set_option maxHeartbeats 16000000 in
theorem smin_ok : SpecOK Try.prog 76 smin_sp smin_sem := by
  refine spec_of_tree smin_cxok Try.func76 (by kernel_rfl) (by kernel_rfl) smin_walk rfl ?_
  intro cs hpre
  match cs, hpre with
  | [.l xs], ⟨j_xs, hx⟩ =>
    refine ⟨rfl, IvsB.ok (by simp only [smin_ivs, IvsB, Cv.int, and_true, j_xs, true_and] <;> omega), ?_, ?_⟩
    · have := sts_rng hx.2.2 hx.2.1
      simp only [smin_sem, smin_sp, Fits, and_true]; omega
    · rw [smin_den]
      simp only [smin_sem, smin_sp, smin_den, Tree.den, LE.den, Cv.list, placeA, List.getElem?_cons_zero, List.getElem?_cons_succ, IE.den, BE.den, At.den, CA.den, Env.get, Cv.int, Cv.bool, List.cons_append, List.nil_append, List.map_cons, List.map_nil, bindRes, bindEq, Fits, SV.den, denL, place, placeL, eq_t, eq_f, lt_t, lt_f, le_t, le_f, beq_iff_eq, beq_eq_false_iff_ne, ne_eq, reduceCtorEq, b_dec, decide_eq_true_eq, decide_eq_false_iff_not, Bool.not_eq_false', Bool.or_eq_true, Bool.or_eq_false_iff, Bool.and_eq_false_iff, true_iff, false_iff, Bool.false_eq_true, Bool.not_eq_true', Bool.and_eq_true, Bool.not_true, Bool.not_false, List.cons.injEq, Cv.i.injEq, Cv.b.injEq, and_true, true_and, agg_inj, tup_inj, Value.int.injEq, Value.bool.injEq]
      intro x1 e1
      refine ⟨fun h => by omega, fun _ => ?_⟩
      intro x2 e2
      have h0 := hx.2.2 _ (getD_mem (i := 0) (by omega) (by omega))
      rw [← e2] at h0
      refine ⟨fun vs => match vs with | [.i v, .i i] => v = minS (xs.take i.toNat) ∧ 1 ≤ i ∧ i ≤ (xs.length : Int) | _ => False, fun vs => match vs with | _ :: .i i :: _ => ((xs.length : Int) - i).toNat | _ => 0, by omega, ⟨?_, by omega, by omega⟩, ?_⟩
      · have := (sts_next (xs := xs) (i := 0) (by omega) (by omega) e2)
        rw [show ((0 : Int) + 1).toNat = (1 : Int).toNat from rfl] at this
        rw [this.2.2.1, if_pos rfl]
      intro x3 l3 g3 x4 l4 g4 hI
      obtain ⟨hv, hl, hr⟩ : x3 = minS (xs.take x4.toNat) ∧ 1 ≤ x4 ∧ x4 ≤ (xs.length : Int) := hI
      subst e1
      refine ⟨fun hlt => ?_, fun hge => ?_⟩
      · intro x5 e5 x6 e6 x7 e7
        have := (sts_next (xs := xs) (i := x4) (by omega) hlt e5)
        have hm := hx.2.2 _ (getD_mem l4 hlt)
        rw [← e5] at hm
        have hn := this.2.2.1
        rw [if_neg (by omega), ← hv] at hn
        subst e7
        refine ⟨by split at e6 <;> omega, ⟨by rw [e6, hn], by omega, by omega⟩, ?_⟩
        show (((xs.length : Int) - (x4 + 1)).toNat < ((xs.length : Int) - x4).toNat)
        omega
      · have ht : xs.take x4.toNat = xs := List.take_of_length_le (by omega)
        rw [hv, ht]
def rreach_sp : SpecSh := { args := [(.agg [(.int .i64 (.z 0)), (.int .i64 (.z 0)), (.int .i64 (.z 0)), (.int .i64 (.z 0)), (.int .i64 (.z 0))]), (.lst 0)], res := (.int .i64 (.z 0)), sh := [.i (some ((-9223372036854775808), 9223372036854775807))] }
set_option maxRecDepth 100000 in
def rreach_tree : Tree :=
.call 75 [.i (some ((-9223372036854775808), 9223372036854775807))] [.l (.v 5)] <|
.call 76 [.i (some ((-9223372036854775808), 9223372036854775807))] [.l (.v 5)] <|
.lett (.subw .i64 (.v 6) (.v 7)) <|
.ret (.int .i64 (.v 8))
noncomputable def rreach_cx : Ctx := { tys := tys, fns := fns, mets := mets, sps := [(75, smax_sp), (76, smin_sp)], anns := [], trys := [] }
def rreach_ivs : List (Option (Int × Int)) := [some ((-9223372036854775808), 9223372036854775807), some ((-9223372036854775808), 9223372036854775807), some ((-9223372036854775808), 9223372036854775807), some ((-9223372036854775808), 9223372036854775807), some ((-9223372036854775808), 9223372036854775807), none]
set_option maxRecDepth 100000 in
theorem rreach_walk : runFn rreach_cx 3000 72 Try.f72 rreach_sp.args rreach_ivs = rreach_tree := by kernel_rfl
noncomputable def rreach_M : Nat → SpecSem
  | 75 => smax_sem
  | 76 => smin_sem
  | _ => noSem
theorem rreach_M75 : rreach_M 75 = smax_sem := rfl
theorem rreach_M76 : rreach_M 76 = smin_sem := rfl
theorem rreach_cxok : CxOK Try.prog rreach_cx rreach_M := ⟨tysOK, fnsOK, spCons smax_ok <| spCons smin_ok <| fun _ _ h => spNil h, mixedOK, fun _ _ h => trNil h, fun _ _ h => atNil h, metsOK⟩

def rreach_sem : SpecSem := { pre := fun cs => match cs with | [.i z, .i m, .i s, .i r, .i a, .l xs] => IsI z ∧ IsI m ∧ IsI s ∧ IsI r ∧ IsI a ∧ InI xs ∧ (1 ≤ (xs.length : Int) ∧ (xs.length : Int) ≤ 100000 ∧ inS xs) | _ => False, out := fun cs => match cs with | [.i z, .i m, .i s, .i r, .i a, .l xs] => [.i (maxS xs - minS xs)] | _ => [] }
set_option maxRecDepth 10000 in
set_option maxHeartbeats 16000000 in
theorem rreach_ok : SpecOK Try.prog 72 rreach_sp rreach_sem := by
  refine spec_of_tree rreach_cxok Try.func72 (by kernel_rfl) (by kernel_rfl) rreach_walk rfl ?_
  intro cs hpre
  match cs, hpre with
  | [.i z, .i m, .i s, .i r, .i a, .l xs], ⟨j_z, j_m, j_s, j_r, j_a, j_xs, hx⟩ =>
    have h_z := j_z
    unfold IsI at h_z
    have h_m := j_m
    unfold IsI at h_m
    have h_s := j_s
    unfold IsI at h_s
    have h_r := j_r
    unfold IsI at h_r
    have h_a := j_a
    unfold IsI at h_a
    refine ⟨rfl, IvsB.ok (by simp only [rreach_ivs, IvsB, Cv.int, and_true, j_xs, true_and] <;> omega), ?_, ?_⟩
    · have := sts_rng hx.2.2 hx.2.1
      simp only [rreach_sem, rreach_sp, Fits, and_true]; omega
    · have rg := sts_rng hx.2.2 hx.2.1
      have w : IntKind.i64.wrap (maxS xs - minS xs) = maxS xs - minS xs := w64 (by omega) (by omega)
      have h1 := j_xs
      simp only [rreach_sem, rreach_sp, smax_sem, smin_sem, rreach_tree, rreach_M75, smax_sem, rreach_M76, smin_sem, Tree.den, LE.den, Cv.list, placeA, List.getElem?_cons_zero, List.getElem?_cons_succ, IE.den, BE.den, At.den, CA.den, Env.get, Cv.int, Cv.bool, List.cons_append, List.nil_append, List.map_cons, List.map_nil, bindRes, bindEq, Fits, SV.den, denL, place, placeL, eq_t, eq_f, lt_t, lt_f, le_t, le_f, beq_iff_eq, beq_eq_false_iff_ne, ne_eq, reduceCtorEq, b_dec, decide_eq_true_eq, decide_eq_false_iff_not, Bool.not_eq_false', Bool.or_eq_true, Bool.or_eq_false_iff, Bool.and_eq_false_iff, true_iff, false_iff, Bool.false_eq_true, Bool.not_eq_true', Bool.and_eq_true, Bool.not_true, Bool.not_false, List.cons.injEq, Cv.i.injEq, Cv.b.injEq, and_true, true_and, agg_inj, tup_inj, Value.int.injEq, Value.bool.injEq, w, hx.1, hx.2.1, hx.2.2, h1, forall_eq, eq_self, if_true, if_false, true_and, and_true, false_and, and_false, true_or, or_true, false_or, or_false, true_iff, iff_true, false_iff, iff_false, not_true_eq_false, not_false_eq_true, true_implies, false_implies, implies_true, forall_const, decide_true, decide_false, reduceCtorEq]
def apart (a b : Int) : Int := if a - b < b - a then b - a else a - b
def sreach_sp : SpecSh := { args := [(.agg [(.int .i64 (.z 0)), (.int .i64 (.z 0)), (.int .i64 (.z 0)), (.int .i64 (.z 0)), (.int .i64 (.z 0))]), (.lst 0)], res := (.int .i64 (.z 0)), sh := [.i (some ((-9223372036854775808), 9223372036854775807))] }
set_option maxRecDepth 100000 in
def sreach_tree : Tree :=
.ite (.cmp .eq (.v 1) (.z 0)) (.ret (.int .i64 (.z 0))) <|
.lett (.len 5) <|
.ite (.cmp .lt (.z 0) (.v 6)) (.lett (.nth 5 (.z 0)) <|
.lett (.subw .i64 (.v 7) (.v 4)) <|
.lett (.nth 5 (.z 0)) <|
.lett (.subw .i64 (.v 4) (.v 9)) <|
.lett (.ite (.cmp .lt (.v 8) (.v 10)) (.v 10) (.v 8)) <|
.ret (.int .i64 (.v 11))) <|
.bad 35
noncomputable def sreach_cx : Ctx := { tys := tys, fns := fns, mets := mets, sps := [], anns := [], trys := [] }
def sreach_ivs : List (Option (Int × Int)) := [some ((-9223372036854775808), 9223372036854775807), some ((-9223372036854775808), 9223372036854775807), some ((-9223372036854775808), 9223372036854775807), some ((-9223372036854775808), 9223372036854775807), some ((-9223372036854775808), 9223372036854775807), none]
set_option maxRecDepth 100000 in
theorem sreach_walk : runFn sreach_cx 3000 68 Try.f68 sreach_sp.args sreach_ivs = sreach_tree := by kernel_rfl
noncomputable def sreach_M : Nat → SpecSem
  | _ => noSem
theorem sreach_cxok : CxOK Try.prog sreach_cx sreach_M := ⟨tysOK, fnsOK, fun _ _ h => spNil h, mixedOK, fun _ _ h => trNil h, fun _ _ h => atNil h, metsOK⟩

def sreach_sem : SpecSem := { pre := fun cs => match cs with | [.i z, .i m, .i s, .i r, .i a, .l xs] => IsI z ∧ IsI m ∧ IsI s ∧ IsI r ∧ IsI a ∧ InI xs ∧ ((1 ≤ (xs.length : Int) ∧ (xs.length : Int) ≤ 100000 ∧ inS xs) ∧ -1000000 ≤ a ∧ a ≤ 1000000) | _ => False, out := fun cs => match cs with | [.i z, .i m, .i s, .i r, .i a, .l xs] => [.i (if m = 0 then 0 else apart (xs.getD 0 0) a)] | _ => [] }
set_option maxRecDepth 10000 in
set_option maxHeartbeats 16000000 in
theorem sreach_ok : SpecOK Try.prog 68 sreach_sp sreach_sem := by
  refine spec_of_tree sreach_cxok Try.func68 (by kernel_rfl) (by kernel_rfl) sreach_walk rfl ?_
  intro cs hpre
  match cs, hpre with
  | [.i z, .i m, .i s, .i r, .i a, .l xs], ⟨j_z, j_m, j_s, j_r, j_a, j_xs, hx⟩ =>
    have h_z := j_z
    unfold IsI at h_z
    have h_m := j_m
    unfold IsI at h_m
    have h_s := j_s
    unfold IsI at h_s
    have h_r := j_r
    unfold IsI at h_r
    have h_a := j_a
    unfold IsI at h_a
    refine ⟨rfl, IvsB.ok (by simp only [sreach_ivs, IvsB, Cv.int, and_true, j_xs, true_and] <;> omega), ?_, ?_⟩
    · have h0 := hx.1.2.2 _ (getD_mem (i := 0) (by omega) (by omega))
      rw [show Int.toNat 0 = 0 from rfl] at h0
      simp only [sreach_sem, sreach_sp, Fits, and_true]; unfold apart; (repeat' split) <;> omega
    · have h0 := hx.1.2.2 _ (getD_mem (i := 0) (by omega) (by omega))
      rw [show Int.toNat 0 = 0 from rfl] at h0
      have w1 : IntKind.i64.wrap (xs.getD 0 0 - a) = xs.getD 0 0 - a := w64 (by omega) (by omega)
      have w2 : IntKind.i64.wrap (a - xs.getD 0 0) = a - xs.getD 0 0 := w64 (by omega) (by omega)
      have w3 : ((xs.length : Int) ≤ 0) = False := eq_false (by omega)
      have w4 : (0 < (xs.length : Int)) = True := eq_true (by omega)
      have w5 : Int.toNat 0 = 0 := rfl
      simp only [sreach_sem, sreach_sp, sreach_tree, Tree.den, LE.den, Cv.list, placeA, List.getElem?_cons_zero, List.getElem?_cons_succ, IE.den, BE.den, At.den, CA.den, Env.get, Cv.int, Cv.bool, List.cons_append, List.nil_append, List.map_cons, List.map_nil, bindRes, bindEq, Fits, SV.den, denL, place, placeL, eq_t, eq_f, lt_t, lt_f, le_t, le_f, beq_iff_eq, beq_eq_false_iff_ne, ne_eq, reduceCtorEq, b_dec, decide_eq_true_eq, decide_eq_false_iff_not, Bool.not_eq_false', Bool.or_eq_true, Bool.or_eq_false_iff, Bool.and_eq_false_iff, true_iff, false_iff, Bool.false_eq_true, Bool.not_eq_true', Bool.and_eq_true, Bool.not_true, Bool.not_false, List.cons.injEq, Cv.i.injEq, Cv.b.injEq, and_true, true_and, agg_inj, tup_inj, Value.int.injEq, Value.bool.injEq, w1, w2, w3, w4, w5, forall_eq, if_true, if_false, true_and, and_true, false_and, and_false, true_or, or_true, false_or, or_false, true_iff, iff_true, false_iff, iff_false, not_true_eq_false, not_false_eq_true, true_implies, false_implies, implies_true, forall_const, decide_true, decide_false, reduceCtorEq]
      by_cases k : m = 0
      · simp only [k, if_true, if_false, true_and, and_true, false_and, and_false, true_or, or_true, false_or, or_false, true_iff, iff_true, false_iff, iff_false, not_true_eq_false, not_false_eq_true, true_implies, false_implies, implies_true, forall_const, decide_true, decide_false, reduceCtorEq]
      · simp only [k, apart, if_true, if_false, true_and, and_true, false_and, and_false, true_or, or_true, false_or, or_false, true_iff, iff_true, false_iff, iff_false, not_true_eq_false, not_false_eq_true, true_implies, false_implies, implies_true, forall_const, decide_true, decide_false, reduceCtorEq]
end Go.Proofs.Ytjbokdekofiihaa.X
