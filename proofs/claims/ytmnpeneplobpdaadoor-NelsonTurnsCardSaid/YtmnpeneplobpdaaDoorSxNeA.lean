/-
  zone.Ends; nelson's from, sure, may, each: by contract.
-/
import Derived.Test.YtmnpeneplobpdaaDoorSxNeNum
namespace Go.Proofs.YtmnpeneplobpdaaDoor.X
open Go Go.SX Go.RowKit
set_option linter.unusedVariables false
set_option linter.unusedSimpArgs false







def zends_sp : SpecSh := { args := [(.int .i64 (.z 0))], res := (.tup [(.int .i64 (.z 0)), (.int .i64 (.z 0)), (.int .i64 (.z 0))]), sh := [.i (some ((-4), 4)), .i (some ((-4), 4)), .i (some (0, 1))] }
set_option maxRecDepth 100000 in
def zends_tree : Tree :=
.ite (.cmp .lt (.z 0) (.v 0)) (.ite (.not (.cmp .lt (.v 0) (.z 512))) (.ret (.tup [(.int .i64 (.z 0)), (.int .i64 (.z 0)), (.int .i64 (.z 1))])) <|
.call 32 [.i (some ((-9223372036854775808), 9223372036854775807))] [.i (.v 0)] <|
.lett (.subw .i64 (.v 1) (.z 4)) <|
.call 33 [.i (some ((-9223372036854775808), 9223372036854775807))] [.i (.v 0)] <|
.lett (.subw .i64 (.v 3) (.z 1)) <|
.lett (.subw .i64 (.v 4) (.z 4)) <|
.ret (.tup [(.int .i64 (.v 2)), (.int .i64 (.v 5)), (.int .i64 (.z 0))])) <|
.ret (.tup [(.int .i64 (.z 0)), (.int .i64 (.z 0)), (.int .i64 (.z 1))])
noncomputable def zends_cx : Ctx := { tys := tys, fns := fns, mets := mets, sps := [(32, tz_sp), (33, blen_sp)], anns := [], trys := [] }
def zends_ivs : List (Option (Int × Int)) := [some ((-9223372036854775808), 9223372036854775807)]
set_option maxRecDepth 100000 in
theorem zends_walk : runFn zends_cx 3000 25 Tryd.f25 zends_sp.args zends_ivs = zends_tree := by kernel_rfl
noncomputable def zends_M : Nat → SpecSem
  | 32 => tz_sem
  | 33 => blen_sem
  | _ => noSem
theorem zends_M32 : zends_M 32 = tz_sem := rfl
theorem zends_M33 : zends_M 33 = blen_sem := rfl
theorem zends_cxok : CxOK Tryd.prog zends_cx zends_M tzG := ⟨tysOK, fnsOK, spCons tz_ok <| spCons blen_ok <| fun _ _ h => spNil h, mixedOK, fun _ _ h => trNil h, fun _ _ h => atNil h, metsOK, fun _ _ h => efNil h, fun _ _ h => lsNil h⟩
set_option maxRecDepth 100000 in
set_option maxHeartbeats 8000000 in
theorem zends_den (R RP : Value → Prop) (F : Ex → St → Js → Env → Prop) (J : Js) (x0 : Int) : Tree.den zends_M R RP F zends_tree J [(.i x0)] = (
  ((Cmp.den .lt (0 : Int) x0) = true → ((!(Cmp.den .lt x0 (512 : Int))) = true → R (Value.tuple [(Value.int .i64 (0 : Int)), (Value.int .i64 (0 : Int)), (Value.int .i64 (1 : Int))].toArray)) ∧ ((!(Cmp.den .lt x0 (512 : Int))) = false → (tz_sem.pre [(.i x0)]) ∧ (
∀ x1 : Int, x1 = (Cv.int (Env.get (tz_sem.out [(.i x0)]) 0)) → (-9223372036854775808 : Int) ≤ x1 → x1 ≤ (9223372036854775807 : Int) →
∀ x2 : Int, x2 = (IntKind.i64.wrap (x1 - (4 : Int))) →
(blen_sem.pre [(.i x0)]) ∧ (
∀ x3 : Int, x3 = (Cv.int (Env.get (blen_sem.out [(.i x0)]) 0)) → (-9223372036854775808 : Int) ≤ x3 → x3 ≤ (9223372036854775807 : Int) →
∀ x4 : Int, x4 = (IntKind.i64.wrap (x3 - (1 : Int))) →
∀ x5 : Int, x5 = (IntKind.i64.wrap (x4 - (4 : Int))) →
R (Value.tuple [(Value.int .i64 x2), (Value.int .i64 x5), (Value.int .i64 (0 : Int))].toArray))))) ∧ ((Cmp.den .lt (0 : Int) x0) = false → R (Value.tuple [(Value.int .i64 (0 : Int)), (Value.int .i64 (0 : Int)), (Value.int .i64 (1 : Int))].toArray))) := by kernel_rfl

def zends_sem : SpecSem := { pre := fun cs => match cs with | [.i m] => IsI m | _ => False, out := fun cs => match cs with | [.i m] => [.i (if 1 ≤ m ∧ m ≤ 511 then loZ m else 0), .i (if 1 ≤ m ∧ m ≤ 511 then hiZ m else 0), .i (if 1 ≤ m ∧ m ≤ 511 then 0 else 1)] | _ => [], g := tzG }
set_option maxRecDepth 10000 in
set_option maxHeartbeats 16000000 in
theorem zends_ok : SpecOK Tryd.prog 25 zends_sp zends_sem := by
  refine spec_of_tree zends_cxok Tryd.func25 (by kernel_rfl) (by kernel_rfl) zends_walk rfl ?_
  intro cs hpre
  match cs, hpre with
  | [.i m], j_m =>
    have j_m : IsI m := j_m
    have h_m := j_m
    unfold IsI at h_m
    refine ⟨rfl, IvsB.ok (by simp only [zends_ivs, IvsB, Cv.int, and_true] <;> omega), ?_, ?_⟩
    · simp only [zends_sem, zends_sp, Fits, and_true]
      by_cases h : 1 ≤ m ∧ m ≤ 511
      · have := ends_of h
        simp only [if_pos h]; omega
      · simp only [if_neg h]; omega
    · rw [zends_den]
      by_cases h : 1 ≤ m ∧ m ≤ 511
      · obtain ⟨t1, t2, t3, t4⟩ := tz_rng h.1 h.2
        have w1 : IntKind.i64.wrap (tzN m - 4) = tzN m - 4 := w64 (by omega) (by omega)
        have w2 : IntKind.i64.wrap (lenN m - 1) = lenN m - 1 := w64 (by omega) (by omega)
        have w3 : IntKind.i64.wrap (lenN m - 1 - 4) = lenN m - 1 - 4 := w64 (by omega) (by omega)
        simp only [zends_sem, zends_sp, tz_sem, blen_sem, loZ, hiZ, zends_den, tz_sem, blen_sem, Tree.den, LE.den, Cv.list, placeA, List.getElem?_cons_zero, List.getElem?_cons_succ, IE.den, BE.den, At.den, CA.den, Env.get, Cv.int, Cv.bool, List.cons_append, List.nil_append, List.map_cons, List.map_nil, bindRes, bindEq, Fits, SV.den, denL, place, placeL, eq_t, eq_f, lt_t, lt_f, le_t, le_f, beq_iff_eq, beq_eq_false_iff_ne, ne_eq, reduceCtorEq, b_dec, decide_eq_true_eq, decide_eq_false_iff_not, Bool.not_eq_false', Bool.or_eq_true, Bool.or_eq_false_iff, Bool.and_eq_false_iff, true_iff, false_iff, Bool.false_eq_true, Bool.not_eq_true', Bool.and_eq_true, Bool.not_true, Bool.not_false, List.cons.injEq, Cv.i.injEq, Cv.b.injEq, and_true, true_and, agg_inj, tup_inj, Value.int.injEq, Value.bool.injEq, h.1, h.2, w1, w2, w3, forall_eq, if_true, if_false, true_and, and_true, false_and, and_false, true_or, or_true, false_or, or_false, true_iff, iff_true, false_iff, iff_false, not_true_eq_false, not_false_eq_true, true_implies, false_implies, implies_true, forall_const, decide_true, decide_false, reduceCtorEq]
        clear w1 w2 w3
        (repeat' (first | intro _ | refine And.intro ?_ ?_ | exact trivial)) <;> omega
      · simp only [zends_sem, zends_sp, tz_sem, blen_sem, zends_den, tz_sem, blen_sem, Tree.den, LE.den, Cv.list, placeA, List.getElem?_cons_zero, List.getElem?_cons_succ, IE.den, BE.den, At.den, CA.den, Env.get, Cv.int, Cv.bool, List.cons_append, List.nil_append, List.map_cons, List.map_nil, bindRes, bindEq, Fits, SV.den, denL, place, placeL, eq_t, eq_f, lt_t, lt_f, le_t, le_f, beq_iff_eq, beq_eq_false_iff_ne, ne_eq, reduceCtorEq, b_dec, decide_eq_true_eq, decide_eq_false_iff_not, Bool.not_eq_false', Bool.or_eq_true, Bool.or_eq_false_iff, Bool.and_eq_false_iff, true_iff, false_iff, Bool.false_eq_true, Bool.not_eq_true', Bool.and_eq_true, Bool.not_true, Bool.not_false, List.cons.injEq, Cv.i.injEq, Cv.b.injEq, and_true, true_and, agg_inj, tup_inj, Value.int.injEq, Value.bool.injEq, if_neg h]
        (repeat' (first | intro _ | refine And.intro ?_ ?_ | exact trivial)) <;> omega
def nfrom_sp : SpecSh := { args := [(.int .i64 (.z 0))], res := (.tup [(.int .i64 (.z 0)), (.int .i64 (.z 0))]), sh := [.i (some (0, 511)), .i (some (0, 511))] }
set_option maxRecDepth 100000 in
def nfrom_tree : Tree :=
.lett (.add (.v 0) (.z 4)) <|
.lett (.shl .i64 (.z 1) (.v 1)) <|
.lett (.subw .i64 (.z 512) (.v 2)) <|
.lett (.sub (.z 4) (.v 0)) <|
.lett (.add (.v 4) (.z 1)) <|
.lett (.shl .i64 (.z 1) (.v 5)) <|
.lett (.subw .i64 (.v 6) (.z 1)) <|
.ret (.tup [(.int .i64 (.v 3)), (.int .i64 (.v 7))])
noncomputable def nfrom_cx : Ctx := { tys := tys, fns := fns, mets := mets, sps := [], anns := [], trys := [] }
def nfrom_ivs : List (Option (Int × Int)) := [some ((-4), 5)]
set_option maxRecDepth 100000 in
theorem nfrom_walk : runFn nfrom_cx 3000 51 Tryd.f51 nfrom_sp.args nfrom_ivs = nfrom_tree := by kernel_rfl
noncomputable def nfrom_M : Nat → SpecSem
  | _ => noSem
theorem nfrom_cxok : CxOK Tryd.prog nfrom_cx nfrom_M := ⟨tysOK, fnsOK, fun _ _ h => spNil h, mixedOK, fun _ _ h => trNil h, fun _ _ h => atNil h, metsOK, fun _ _ h => efNil h, fun _ _ h => lsNil h⟩

def nfrom_sem : SpecSem := { pre := fun cs => match cs with | [.i n] => IsI n ∧ (-4 ≤ n ∧ n ≤ 5) | _ => False, out := fun cs => match cs with | [.i n] => [.i (aboveZ n), .i (belowZ (-n))] | _ => [] }
set_option maxRecDepth 10000 in
set_option maxHeartbeats 16000000 in
theorem nfrom_ok : SpecOK Tryd.prog 51 nfrom_sp nfrom_sem := by
  refine spec_of_tree nfrom_cxok Tryd.func51 (by kernel_rfl) (by kernel_rfl) nfrom_walk rfl ?_
  intro cs hpre
  match cs, hpre with
  | [.i n], ⟨j_n, hx⟩ =>
    have h_n := j_n
    unfold IsI at h_n
    refine ⟨rfl, IvsB.ok (by simp only [nfrom_ivs, IvsB, Cv.int, and_true] <;> omega), ?_, ?_⟩
    · have h1 := above_rng hx.1 hx.2
      have h2 := below_rng (n := -n) (by omega) (by omega)
      unfold IsM0 at h1 h2
      simp only [nfrom_sem, nfrom_sp, Fits, and_true]; omega
    · have h1 := p2_9 (n := n + 4) (by omega) (by omega)
      have h2 := p2_9 (n := 4 - n + 1) (by omega) (by omega)
      have w1 : IntKind.i64.wrap (1 * p2 (n + 4)) = p2 (n + 4) := by rw [Int.one_mul]; exact w64 (by omega) (by omega)
      have w2 : IntKind.i64.wrap (512 - p2 (n + 4)) = 512 - p2 (n + 4) := w64 (by omega) (by omega)
      have w3 : IntKind.i64.wrap (1 * p2 (4 - n + 1)) = p2 (4 - n + 1) := by rw [Int.one_mul]; exact w64 (by omega) (by omega)
      have w4 : IntKind.i64.wrap (p2 (4 - n + 1) - 1) = p2 (4 - n + 1) - 1 := w64 (by omega) (by omega)
      have e1 := p2_deni (n := n + 4) (by omega) (by omega)
      have e2 := p2_deni (n := 4 - n + 1) (by omega) (by omega)
      have e3 : belowZ (-n) = p2 (4 - n + 1) - 1 := by unfold belowZ; rw [show -n + 5 = 4 - n + 1 by omega]
      simp only [nfrom_sem, nfrom_sp, nfrom_tree, Tree.den, LE.den, Cv.list, placeA, List.getElem?_cons_zero, List.getElem?_cons_succ, IE.den, BE.den, At.den, CA.den, Env.get, Cv.int, Cv.bool, List.cons_append, List.nil_append, List.map_cons, List.map_nil, bindRes, bindEq, Fits, SV.den, denL, place, placeL, eq_t, eq_f, lt_t, lt_f, le_t, le_f, beq_iff_eq, beq_eq_false_iff_ne, ne_eq, reduceCtorEq, b_dec, decide_eq_true_eq, decide_eq_false_iff_not, Bool.not_eq_false', Bool.or_eq_true, Bool.or_eq_false_iff, Bool.and_eq_false_iff, true_iff, false_iff, Bool.false_eq_true, Bool.not_eq_true', Bool.and_eq_true, Bool.not_true, Bool.not_false, List.cons.injEq, Cv.i.injEq, Cv.b.injEq, and_true, true_and, agg_inj, tup_inj, Value.int.injEq, Value.bool.injEq, e1, e2, w1, w2, w3, w4, e3, aboveZ, forall_eq, eq_self, if_true, if_false, true_and, and_true, false_and, and_false, true_or, or_true, false_or, or_false, true_iff, iff_true, false_iff, iff_false, not_true_eq_false, not_false_eq_true, true_implies, false_implies, implies_true, forall_const, decide_true, decide_false, reduceCtorEq]
def nsure_sp : SpecSh := { args := [(.bool .f), (.bool .f)], res := (.int .i64 (.z 0)), sh := [.i (some (0, 2))] }
set_option maxRecDepth 100000 in
def nsure_tree : Tree :=
.ite (.v 0) (.ret (.int .i64 (.z 2))) <|
.ite (.v 1) (.ret (.int .i64 (.z 1))) <|
.ret (.int .i64 (.z 0))
noncomputable def nsure_cx : Ctx := { tys := tys, fns := fns, mets := mets, sps := [], anns := [], trys := [] }
def nsure_ivs : List (Option (Int × Int)) := [none, none]
set_option maxRecDepth 100000 in
theorem nsure_walk : runFn nsure_cx 3000 62 Tryd.f62 nsure_sp.args nsure_ivs = nsure_tree := by kernel_rfl
noncomputable def nsure_M : Nat → SpecSem
  | _ => noSem
theorem nsure_cxok : CxOK Tryd.prog nsure_cx nsure_M := ⟨tysOK, fnsOK, fun _ _ h => spNil h, mixedOK, fun _ _ h => trNil h, fun _ _ h => atNil h, metsOK, fun _ _ h => efNil h, fun _ _ h => lsNil h⟩

def nsure_sem : SpecSem := { pre := fun cs => match cs with | [.b a, .b b] => True | _ => False, out := fun cs => match cs with | [.b a, .b b] => [.i (if a = true then 2 else if b = true then 1 else 0)] | _ => [] }
set_option maxRecDepth 10000 in
set_option maxHeartbeats 16000000 in
theorem nsure_ok : SpecOK Tryd.prog 62 nsure_sp nsure_sem := by
  refine spec_of_tree nsure_cxok Tryd.func62 (by kernel_rfl) (by kernel_rfl) nsure_walk rfl ?_
  intro cs hpre
  match cs, hpre with
  | [.b a, .b b], _ =>
    refine ⟨rfl, IvsB.ok (by simp only [nsure_ivs, IvsB, Cv.int, and_true] <;> omega), ?_, ?_⟩
    · simp only [nsure_sem, nsure_sp, Fits, and_true]; (repeat' split) <;> omega
    · simp only [nsure_sem, nsure_sp, nsure_tree, Tree.den, LE.den, Cv.list, placeA, List.getElem?_cons_zero, List.getElem?_cons_succ, IE.den, BE.den, At.den, CA.den, Env.get, Cv.int, Cv.bool, List.cons_append, List.nil_append, List.map_cons, List.map_nil, bindRes, bindEq, Fits, SV.den, denL, place, placeL, eq_t, eq_f, lt_t, lt_f, le_t, le_f, beq_iff_eq, beq_eq_false_iff_ne, ne_eq, reduceCtorEq, b_dec, decide_eq_true_eq, decide_eq_false_iff_not, Bool.not_eq_false', Bool.or_eq_true, Bool.or_eq_false_iff, Bool.and_eq_false_iff, true_iff, false_iff, Bool.false_eq_true, Bool.not_eq_true', Bool.and_eq_true, Bool.not_true, Bool.not_false, List.cons.injEq, Cv.i.injEq, Cv.b.injEq, and_true, true_and, agg_inj, tup_inj, Value.int.injEq, Value.bool.injEq]
      cases a <;> cases b <;> simp
end Go.Proofs.YtmnpeneplobpdaaDoor.X
