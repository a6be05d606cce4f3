/-
  datumref14's steps: Has, long, next, holds.
-/
import Derived.Test.YtmnpeneplobpdaaDoorSxNeRow
namespace Go.Proofs.YtmnpeneplobpdaaDoor.X
open Go Go.SX Go.RowKit
set_option linter.unusedVariables false
set_option linter.unusedSimpArgs false



theorem has_div {m c : Int} (hm : IsM m) (hc : -4 ≤ c ∧ c ≤ 4) : has m c ↔ m / p2 (c + 4) % 2 = 1 := by
  obtain ⟨n, rfl⟩ := Int.eq_ofNat_of_zero_le hm.m0.1
  unfold has p2
  rw [Int.toNat_natCast, Nat.testBit_eq_decide_div_mod_eq, decide_eq_true_eq]
  constructor
  · intro h; exact_mod_cast h.2
  · intro h; exact ⟨hc, by exact_mod_cast h⟩
instance (m : Int) : Decidable (IsM m) := by unfold IsM; infer_instance
def r13has_sp : SpecSh := { args := [(.int .i64 (.z 0)), (.int .i64 (.z 0))], res := (.bool .f), sh := [.b] }
set_option maxRecDepth 100000 in
def r13has_tree : Tree :=
.ite (.cmp .le (.z 1) (.v 0)) (.ite (.cmp .le (.v 0) (.z 511)) (.ite (.cmp .le (.z (-4)) (.v 1)) (.ite (.cmp .le (.v 1) (.z 4)) (.lett (.add (.v 1) (.z 4)) <|
.lett (.shr .i64 (.v 0) (.v 2)) <|
.lett (.rem (.v 3) (.z 2)) <|
.ret (.bool (.cmp .eq (.v 4) (.z 1)))) <|
.ret (.bool .f)) <|
.ret (.bool .f)) <|
.ret (.bool .f)) <|
.ret (.bool .f)
noncomputable def r13has_cx : Ctx := { tys := tys, fns := fns, mets := mets, sps := [], anns := [], trys := [] }
def r13has_ivs : List (Option (Int × Int)) := [some ((-9223372036854775808), 9223372036854775807), some ((-9223372036854775808), 9223372036854775807)]
set_option maxRecDepth 100000 in
theorem r13has_walk : runFn r13has_cx 3000 22 Tryd.f22 r13has_sp.args r13has_ivs = r13has_tree := by kernel_rfl
noncomputable def r13has_M : Nat → SpecSem
  | _ => noSem
theorem r13has_cxok : CxOK Tryd.prog r13has_cx r13has_M := ⟨tysOK, fnsOK, fun _ _ h => spNil h, mixedOK, fun _ _ h => trNil h, fun _ _ h => atNil h, metsOK, fun _ _ h => efNil h, fun _ _ h => lsNil h⟩

def r13has_sem : SpecSem := { pre := fun cs => match cs with | [.i m, .i c] => IsI m ∧ IsI c | _ => False, out := fun cs => match cs with | [.i m, .i c] => [.b (decide (IsM m ∧ has m c))] | _ => [] }
set_option maxRecDepth 10000 in
set_option maxHeartbeats 16000000 in
theorem r13has_ok : SpecOK Tryd.prog 22 r13has_sp r13has_sem := by
  refine spec_of_tree r13has_cxok Tryd.func22 (by kernel_rfl) (by kernel_rfl) r13has_walk rfl ?_
  intro cs hpre
  match cs, hpre with
  | [.i m, .i c], ⟨j_m, j_c⟩ =>
    have h_m := j_m
    unfold IsI at h_m
    have h_c := j_c
    unfold IsI at h_c
    refine ⟨rfl, IvsB.ok (by simp only [r13has_ivs, IvsB, Cv.int, and_true] <;> omega), ?_, ?_⟩
    · simp only [r13has_sem, r13has_sp, Fits]
    · simp only [r13has_sem, r13has_sp, r13has_tree, Tree.den, LE.den, Cv.list, placeA, List.getElem?_cons_zero, List.getElem?_cons_succ, IE.den, BE.den, At.den, CA.den, Env.get, Cv.int, Cv.bool, List.cons_append, List.nil_append, List.map_cons, List.map_nil, bindRes, bindEq, Fits, SV.den, denL, place, placeL, eq_t, eq_f, lt_t, lt_f, le_t, le_f, beq_iff_eq, beq_eq_false_iff_ne, ne_eq, reduceCtorEq, b_dec, decide_eq_true_eq, decide_eq_false_iff_not, Bool.not_eq_false', Bool.or_eq_true, Bool.or_eq_false_iff, Bool.and_eq_false_iff, true_iff, false_iff, Bool.false_eq_true, Bool.not_eq_true', Bool.and_eq_true, Bool.not_true, Bool.not_false, List.cons.injEq, Cv.i.injEq, Cv.b.injEq, and_true, true_and, agg_inj, tup_inj, Value.int.injEq, Value.bool.injEq]
      have hf : ∀ P : Prop, (1 ≤ m → m ≤ 511 → (-4 ≤ c → c ≤ 4 → P)) → True := fun _ _ => trivial
      have key : (IsM m ∧ has m c) ↔ (1 ≤ m ∧ m ≤ 511) ∧ (-4 ≤ c ∧ c ≤ 4) ∧ m / p2 (c + 4) % 2 = 1 := by
        constructor
        · rintro ⟨h1, h2⟩; exact ⟨h1, h2.1, (has_div h1 h2.1).1 h2⟩
        · rintro ⟨h1, h2, h3⟩; exact ⟨h1, (has_div h1 h2).2 h3⟩
      simp only [key]
      refine ⟨fun m0 => ⟨fun m1 => ⟨fun c0 => ⟨fun c1 => ?_, fun c1 => by omega⟩, fun c1 => by omega⟩, fun m1 => by omega⟩, fun m0 => by omega⟩
      simp only [forall_eq]
      rw [p2_deni (by omega) (by omega), Int.fdiv_eq_ediv_of_nonneg _ (Int.le_of_lt (p2_pos _))]
      have q0 := Int.ediv_nonneg (a := m) (b := p2 (c + 4)) (by omega) (Int.le_of_lt (p2_pos _))
      generalize m / p2 (c + 4) = q at *
      rw [Int.tmod_eq_emod_of_nonneg q0]
      omega
def longZ (k : Int) : Int := if k ≤ 1 then 1 else if k ≤ 2 then 9 else if k ≤ 3 then 6 else if k ≤ 4 then 14 else if k ≤ 5 then 3 else if k ≤ 6 then 5 else if k ≤ 7 then 15 else 8
def r14long_sp : SpecSh := { args := [(.int .i64 (.z 0))], res := (.int .i64 (.z 0)), sh := [.i (some (1, 15))] }
set_option maxRecDepth 100000 in
def r14long_tree : Tree :=
.lett (.sub (.v 0) (.z 1)) <|
.ite (.cmp .le (.v 1) (.z 0)) (.ret (.int .i64 (.z 1))) <|
.ite (.cmp .le (.v 1) (.z 1)) (.ret (.int .i64 (.z 9))) <|
.ite (.cmp .le (.v 1) (.z 2)) (.ret (.int .i64 (.z 6))) <|
.ite (.cmp .le (.v 1) (.z 3)) (.ret (.int .i64 (.z 14))) <|
.ite (.cmp .le (.v 1) (.z 4)) (.ret (.int .i64 (.z 3))) <|
.ite (.cmp .le (.v 1) (.z 5)) (.ret (.int .i64 (.z 5))) <|
.ite (.cmp .le (.v 1) (.z 6)) (.ret (.int .i64 (.z 15))) <|
.ret (.int .i64 (.z 8))
noncomputable def r14long_cx : Ctx := { tys := tys, fns := fns, mets := mets, sps := [], anns := [], trys := [] }
def r14long_ivs : List (Option (Int × Int)) := [some (1, 8)]
set_option maxRecDepth 100000 in
theorem r14long_walk : runFn r14long_cx 3000 42 Tryd.f42 r14long_sp.args r14long_ivs = r14long_tree := by kernel_rfl
noncomputable def r14long_M : Nat → SpecSem
  | _ => noSem
theorem r14long_cxok : CxOK Tryd.prog r14long_cx r14long_M := ⟨tysOK, fnsOK, fun _ _ h => spNil h, mixedOK, fun _ _ h => trNil h, fun _ _ h => atNil h, metsOK, fun _ _ h => efNil h, fun _ _ h => lsNil h⟩

def r14long_sem : SpecSem := { pre := fun cs => match cs with | [.i k] => IsI k ∧ (1 ≤ k ∧ k ≤ 8) | _ => False, out := fun cs => match cs with | [.i k] => [.i (longZ k)] | _ => [] }
set_option maxRecDepth 10000 in
set_option maxHeartbeats 16000000 in
theorem r14long_ok : SpecOK Tryd.prog 42 r14long_sp r14long_sem := by
  refine spec_of_tree r14long_cxok Tryd.func42 (by kernel_rfl) (by kernel_rfl) r14long_walk rfl ?_
  intro cs hpre
  match cs, hpre with
  | [.i k], ⟨j_k, hx⟩ =>
    have h_k := j_k
    unfold IsI at h_k
    refine ⟨rfl, IvsB.ok (by simp only [r14long_ivs, IvsB, Cv.int, and_true] <;> omega), ?_, ?_⟩
    · simp only [r14long_sem, r14long_sp, Fits, and_true]; unfold longZ; (repeat' split) <;> omega
    · simp only [r14long_sem, r14long_sp, r14long_tree, Tree.den, LE.den, Cv.list, placeA, List.getElem?_cons_zero, List.getElem?_cons_succ, IE.den, BE.den, At.den, CA.den, Env.get, Cv.int, Cv.bool, List.cons_append, List.nil_append, List.map_cons, List.map_nil, bindRes, bindEq, Fits, SV.den, denL, place, placeL, eq_t, eq_f, lt_t, lt_f, le_t, le_f, beq_iff_eq, beq_eq_false_iff_ne, ne_eq, reduceCtorEq, b_dec, decide_eq_true_eq, decide_eq_false_iff_not, Bool.not_eq_false', Bool.or_eq_true, Bool.or_eq_false_iff, Bool.and_eq_false_iff, true_iff, false_iff, Bool.false_eq_true, Bool.not_eq_true', Bool.and_eq_true, Bool.not_true, Bool.not_false, List.cons.injEq, Cv.i.injEq, Cv.b.injEq, and_true, true_and, agg_inj, tup_inj, Value.int.injEq, Value.bool.injEq, longZ]
      (repeat' (first | intro _ | refine And.intro ?_ ?_ | exact trivial)) <;> omega
abbrev St4 := Int × Int × Int × Int
def limZ (k : Int) : Int := if k ≤ 1 then 4 else if k ≤ 2 then 1 else if k ≤ 4 then 0 else if k ≤ 5 then 3 else if k ≤ 6 then 2 else 0
def nxA (k n a l c : Int) : Int :=
  if k = 3 ∨ k = 4 then (if (n = 0 ∨ a = 1) ∧ (n = 0 ∨ (k = 4 ∧ n % 2 = 0 ∧ c < l) ∨ ((k = 3 ∨ n % 2 ≠ 0) ∧ l < c)) then 1 else 0)
  else if k = 7 then a + (if -1 ≤ c ∧ c ≤ 1 then 1 else 0) else if k = 8 then a + (if 2 ≤ c ∨ c ≤ -2 then 1 else 0) else a + (if limZ k ≤ c then 1 else 0)
def nxB (k n b l c : Int) : Int :=
  if k = 3 ∨ k = 4 then (if (n = 0 ∨ b = 1) ∧ (n = 0 ∨ (k = 4 ∧ n % 2 = 0 ∧ l < c) ∨ ((k = 3 ∨ n % 2 ≠ 0) ∧ c < l)) then 1 else 0)
  else if k = 7 ∨ k = 8 then b else b + (if c ≤ -limZ k then 1 else 0)
def nxL (k c : Int) : Int := if k = 3 ∨ k = 4 then c else 0
def r14next_sp : SpecSh := { args := [(.int .i64 (.z 0)), (.agg [(.int .i64 (.z 0)), (.int .i64 (.z 0)), (.int .i64 (.z 0)), (.int .i64 (.z 0))]), (.int .i64 (.z 0))], res := (.agg [(.int .i64 (.z 0)), (.int .i64 (.z 0)), (.int .i64 (.z 0)), (.int .i64 (.z 0))]), sh := [.i (some (0, 16)), .i (some (0, 16)), .i (some (0, 16)), .i (some ((-4), 4))] }
set_option maxRecDepth 100000 in
def r14next_tree : Tree :=
.lett (.add (.v 1) (.z 1)) <|
.ite (.cmp .eq (.v 0) (.z 3)) (.ite (.cmp .eq (.v 1) (.z 0)) (.ret (.agg [(.int .i64 (.v 6)), (.int .i64 (.z 1)), (.int .i64 (.z 1)), (.int .i64 (.v 5))])) <|
.ite (.cmp .eq (.v 2) (.z 1)) (.ite (.cmp .lt (.v 4) (.v 5)) (.ite (.cmp .eq (.v 3) (.z 1)) (.ite (.cmp .lt (.v 5) (.v 4)) (.ret (.agg [(.int .i64 (.v 6)), (.int .i64 (.z 1)), (.int .i64 (.z 1)), (.int .i64 (.v 5))])) <|
.ret (.agg [(.int .i64 (.v 6)), (.int .i64 (.z 1)), (.int .i64 (.z 0)), (.int .i64 (.v 5))])) <|
.ret (.agg [(.int .i64 (.v 6)), (.int .i64 (.z 1)), (.int .i64 (.z 0)), (.int .i64 (.v 5))])) <|
.ite (.cmp .eq (.v 3) (.z 1)) (.ite (.cmp .lt (.v 5) (.v 4)) (.ret (.agg [(.int .i64 (.v 6)), (.int .i64 (.z 0)), (.int .i64 (.z 1)), (.int .i64 (.v 5))])) <|
.ret (.agg [(.int .i64 (.v 6)), (.int .i64 (.z 0)), (.int .i64 (.z 0)), (.int .i64 (.v 5))])) <|
.ret (.agg [(.int .i64 (.v 6)), (.int .i64 (.z 0)), (.int .i64 (.z 0)), (.int .i64 (.v 5))])) <|
.ite (.cmp .eq (.v 3) (.z 1)) (.ite (.cmp .lt (.v 5) (.v 4)) (.ret (.agg [(.int .i64 (.v 6)), (.int .i64 (.z 0)), (.int .i64 (.z 1)), (.int .i64 (.v 5))])) <|
.ret (.agg [(.int .i64 (.v 6)), (.int .i64 (.z 0)), (.int .i64 (.z 0)), (.int .i64 (.v 5))])) <|
.ret (.agg [(.int .i64 (.v 6)), (.int .i64 (.z 0)), (.int .i64 (.z 0)), (.int .i64 (.v 5))])) <|
.ite (.cmp .eq (.v 0) (.z 4)) (.ite (.cmp .eq (.v 1) (.z 0)) (.ret (.agg [(.int .i64 (.v 6)), (.int .i64 (.z 1)), (.int .i64 (.z 1)), (.int .i64 (.v 5))])) <|
.lett (.mod (.v 1) (.z 2)) <|
.ite (.cmp .eq (.v 2) (.z 1)) (.ite (.or (.and (.cmp .eq (.v 7) (.z 0)) (.cmp .lt (.v 5) (.v 4))) (.and (.not (.cmp .eq (.v 7) (.z 0))) (.cmp .lt (.v 4) (.v 5)))) (.ite (.cmp .eq (.v 3) (.z 1)) (.ite (.or (.and (.cmp .eq (.v 7) (.z 0)) (.cmp .lt (.v 4) (.v 5))) (.and (.not (.cmp .eq (.v 7) (.z 0))) (.cmp .lt (.v 5) (.v 4)))) (.ret (.agg [(.int .i64 (.v 6)), (.int .i64 (.z 1)), (.int .i64 (.z 1)), (.int .i64 (.v 5))])) <|
.ret (.agg [(.int .i64 (.v 6)), (.int .i64 (.z 1)), (.int .i64 (.z 0)), (.int .i64 (.v 5))])) <|
.ret (.agg [(.int .i64 (.v 6)), (.int .i64 (.z 1)), (.int .i64 (.z 0)), (.int .i64 (.v 5))])) <|
.ite (.cmp .eq (.v 3) (.z 1)) (.ite (.or (.and (.cmp .eq (.v 7) (.z 0)) (.cmp .lt (.v 4) (.v 5))) (.and (.not (.cmp .eq (.v 7) (.z 0))) (.cmp .lt (.v 5) (.v 4)))) (.ret (.agg [(.int .i64 (.v 6)), (.int .i64 (.z 0)), (.int .i64 (.z 1)), (.int .i64 (.v 5))])) <|
.ret (.agg [(.int .i64 (.v 6)), (.int .i64 (.z 0)), (.int .i64 (.z 0)), (.int .i64 (.v 5))])) <|
.ret (.agg [(.int .i64 (.v 6)), (.int .i64 (.z 0)), (.int .i64 (.z 0)), (.int .i64 (.v 5))])) <|
.ite (.cmp .eq (.v 3) (.z 1)) (.ite (.or (.and (.cmp .eq (.v 7) (.z 0)) (.cmp .lt (.v 4) (.v 5))) (.and (.not (.cmp .eq (.v 7) (.z 0))) (.cmp .lt (.v 5) (.v 4)))) (.ret (.agg [(.int .i64 (.v 6)), (.int .i64 (.z 0)), (.int .i64 (.z 1)), (.int .i64 (.v 5))])) <|
.ret (.agg [(.int .i64 (.v 6)), (.int .i64 (.z 0)), (.int .i64 (.z 0)), (.int .i64 (.v 5))])) <|
.ret (.agg [(.int .i64 (.v 6)), (.int .i64 (.z 0)), (.int .i64 (.z 0)), (.int .i64 (.v 5))])) <|
.lett (.sub (.v 0) (.z 1)) <|
.ite (.cmp .le (.v 7) (.z 0)) (.ite (.cmp .eq (.v 0) (.z 7)) (.ite (.cmp .le (.z (-1)) (.v 5)) (.ite (.cmp .le (.v 5) (.z 1)) (.lett (.add (.v 2) (.z 1)) <|
.ret (.agg [(.int .i64 (.v 6)), (.int .i64 (.v 8)), (.int .i64 (.v 3)), (.int .i64 (.z 0))])) <|
.lett (.add (.v 2) (.z 0)) <|
.ret (.agg [(.int .i64 (.v 6)), (.int .i64 (.v 8)), (.int .i64 (.v 3)), (.int .i64 (.z 0))])) <|
.lett (.add (.v 2) (.z 0)) <|
.ret (.agg [(.int .i64 (.v 6)), (.int .i64 (.v 8)), (.int .i64 (.v 3)), (.int .i64 (.z 0))])) <|
.ite (.cmp .eq (.v 0) (.z 8)) (.ite (.cmp .le (.z 2) (.v 5)) (.lett (.add (.v 2) (.z 1)) <|
.ret (.agg [(.int .i64 (.v 6)), (.int .i64 (.v 8)), (.int .i64 (.v 3)), (.int .i64 (.z 0))])) <|
.ite (.cmp .le (.v 5) (.z (-2))) (.lett (.add (.v 2) (.z 1)) <|
.ret (.agg [(.int .i64 (.v 6)), (.int .i64 (.v 8)), (.int .i64 (.v 3)), (.int .i64 (.z 0))])) <|
.lett (.add (.v 2) (.z 0)) <|
.ret (.agg [(.int .i64 (.v 6)), (.int .i64 (.v 8)), (.int .i64 (.v 3)), (.int .i64 (.z 0))])) <|
.ite (.cmp .le (.z 4) (.v 5)) (.lett (.add (.v 2) (.z 1)) <|
.lett (.add (.v 3) (.z 0)) <|
.ret (.agg [(.int .i64 (.v 6)), (.int .i64 (.v 8)), (.int .i64 (.v 9)), (.int .i64 (.z 0))])) <|
.lett (.add (.v 2) (.z 0)) <|
.ite (.cmp .le (.v 5) (.z (-4))) (.lett (.add (.v 3) (.z 1)) <|
.ret (.agg [(.int .i64 (.v 6)), (.int .i64 (.v 8)), (.int .i64 (.v 9)), (.int .i64 (.z 0))])) <|
.lett (.add (.v 3) (.z 0)) <|
.ret (.agg [(.int .i64 (.v 6)), (.int .i64 (.v 8)), (.int .i64 (.v 9)), (.int .i64 (.z 0))])) <|
.ite (.cmp .le (.v 7) (.z 1)) (.ite (.cmp .eq (.v 0) (.z 7)) (.ite (.cmp .le (.z (-1)) (.v 5)) (.ite (.cmp .le (.v 5) (.z 1)) (.lett (.add (.v 2) (.z 1)) <|
.ret (.agg [(.int .i64 (.v 6)), (.int .i64 (.v 8)), (.int .i64 (.v 3)), (.int .i64 (.z 0))])) <|
.lett (.add (.v 2) (.z 0)) <|
.ret (.agg [(.int .i64 (.v 6)), (.int .i64 (.v 8)), (.int .i64 (.v 3)), (.int .i64 (.z 0))])) <|
.lett (.add (.v 2) (.z 0)) <|
.ret (.agg [(.int .i64 (.v 6)), (.int .i64 (.v 8)), (.int .i64 (.v 3)), (.int .i64 (.z 0))])) <|
.ite (.cmp .eq (.v 0) (.z 8)) (.ite (.cmp .le (.z 2) (.v 5)) (.lett (.add (.v 2) (.z 1)) <|
.ret (.agg [(.int .i64 (.v 6)), (.int .i64 (.v 8)), (.int .i64 (.v 3)), (.int .i64 (.z 0))])) <|
.ite (.cmp .le (.v 5) (.z (-2))) (.lett (.add (.v 2) (.z 1)) <|
.ret (.agg [(.int .i64 (.v 6)), (.int .i64 (.v 8)), (.int .i64 (.v 3)), (.int .i64 (.z 0))])) <|
.lett (.add (.v 2) (.z 0)) <|
.ret (.agg [(.int .i64 (.v 6)), (.int .i64 (.v 8)), (.int .i64 (.v 3)), (.int .i64 (.z 0))])) <|
.ite (.cmp .le (.z 1) (.v 5)) (.lett (.add (.v 2) (.z 1)) <|
.lett (.add (.v 3) (.z 0)) <|
.ret (.agg [(.int .i64 (.v 6)), (.int .i64 (.v 8)), (.int .i64 (.v 9)), (.int .i64 (.z 0))])) <|
.lett (.add (.v 2) (.z 0)) <|
.ite (.cmp .le (.v 5) (.z (-1))) (.lett (.add (.v 3) (.z 1)) <|
.ret (.agg [(.int .i64 (.v 6)), (.int .i64 (.v 8)), (.int .i64 (.v 9)), (.int .i64 (.z 0))])) <|
.lett (.add (.v 3) (.z 0)) <|
.ret (.agg [(.int .i64 (.v 6)), (.int .i64 (.v 8)), (.int .i64 (.v 9)), (.int .i64 (.z 0))])) <|
.ite (.cmp .le (.v 7) (.z 2)) (.ite (.cmp .eq (.v 0) (.z 7)) (.ite (.cmp .le (.z (-1)) (.v 5)) (.ite (.cmp .le (.v 5) (.z 1)) (.lett (.add (.v 2) (.z 1)) <|
.ret (.agg [(.int .i64 (.v 6)), (.int .i64 (.v 8)), (.int .i64 (.v 3)), (.int .i64 (.z 0))])) <|
.lett (.add (.v 2) (.z 0)) <|
.ret (.agg [(.int .i64 (.v 6)), (.int .i64 (.v 8)), (.int .i64 (.v 3)), (.int .i64 (.z 0))])) <|
.lett (.add (.v 2) (.z 0)) <|
.ret (.agg [(.int .i64 (.v 6)), (.int .i64 (.v 8)), (.int .i64 (.v 3)), (.int .i64 (.z 0))])) <|
.ite (.cmp .eq (.v 0) (.z 8)) (.ite (.cmp .le (.z 2) (.v 5)) (.lett (.add (.v 2) (.z 1)) <|
.ret (.agg [(.int .i64 (.v 6)), (.int .i64 (.v 8)), (.int .i64 (.v 3)), (.int .i64 (.z 0))])) <|
.ite (.cmp .le (.v 5) (.z (-2))) (.lett (.add (.v 2) (.z 1)) <|
.ret (.agg [(.int .i64 (.v 6)), (.int .i64 (.v 8)), (.int .i64 (.v 3)), (.int .i64 (.z 0))])) <|
.lett (.add (.v 2) (.z 0)) <|
.ret (.agg [(.int .i64 (.v 6)), (.int .i64 (.v 8)), (.int .i64 (.v 3)), (.int .i64 (.z 0))])) <|
.ite (.cmp .le (.z 0) (.v 5)) (.lett (.add (.v 2) (.z 1)) <|
.ite (.cmp .le (.v 5) (.z 0)) (.lett (.add (.v 3) (.z 1)) <|
.ret (.agg [(.int .i64 (.v 6)), (.int .i64 (.v 8)), (.int .i64 (.v 9)), (.int .i64 (.z 0))])) <|
.lett (.add (.v 3) (.z 0)) <|
.ret (.agg [(.int .i64 (.v 6)), (.int .i64 (.v 8)), (.int .i64 (.v 9)), (.int .i64 (.z 0))])) <|
.lett (.add (.v 2) (.z 0)) <|
.lett (.add (.v 3) (.z 1)) <|
.ret (.agg [(.int .i64 (.v 6)), (.int .i64 (.v 8)), (.int .i64 (.v 9)), (.int .i64 (.z 0))])) <|
.ite (.cmp .le (.v 7) (.z 3)) (.ite (.cmp .eq (.v 0) (.z 7)) (.ite (.cmp .le (.z (-1)) (.v 5)) (.ite (.cmp .le (.v 5) (.z 1)) (.lett (.add (.v 2) (.z 1)) <|
.ret (.agg [(.int .i64 (.v 6)), (.int .i64 (.v 8)), (.int .i64 (.v 3)), (.int .i64 (.z 0))])) <|
.lett (.add (.v 2) (.z 0)) <|
.ret (.agg [(.int .i64 (.v 6)), (.int .i64 (.v 8)), (.int .i64 (.v 3)), (.int .i64 (.z 0))])) <|
.lett (.add (.v 2) (.z 0)) <|
.ret (.agg [(.int .i64 (.v 6)), (.int .i64 (.v 8)), (.int .i64 (.v 3)), (.int .i64 (.z 0))])) <|
.ite (.cmp .eq (.v 0) (.z 8)) (.ite (.cmp .le (.z 2) (.v 5)) (.lett (.add (.v 2) (.z 1)) <|
.ret (.agg [(.int .i64 (.v 6)), (.int .i64 (.v 8)), (.int .i64 (.v 3)), (.int .i64 (.z 0))])) <|
.ite (.cmp .le (.v 5) (.z (-2))) (.lett (.add (.v 2) (.z 1)) <|
.ret (.agg [(.int .i64 (.v 6)), (.int .i64 (.v 8)), (.int .i64 (.v 3)), (.int .i64 (.z 0))])) <|
.lett (.add (.v 2) (.z 0)) <|
.ret (.agg [(.int .i64 (.v 6)), (.int .i64 (.v 8)), (.int .i64 (.v 3)), (.int .i64 (.z 0))])) <|
.ite (.cmp .le (.z 0) (.v 5)) (.lett (.add (.v 2) (.z 1)) <|
.ite (.cmp .le (.v 5) (.z 0)) (.lett (.add (.v 3) (.z 1)) <|
.ret (.agg [(.int .i64 (.v 6)), (.int .i64 (.v 8)), (.int .i64 (.v 9)), (.int .i64 (.z 0))])) <|
.lett (.add (.v 3) (.z 0)) <|
.ret (.agg [(.int .i64 (.v 6)), (.int .i64 (.v 8)), (.int .i64 (.v 9)), (.int .i64 (.z 0))])) <|
.lett (.add (.v 2) (.z 0)) <|
.lett (.add (.v 3) (.z 1)) <|
.ret (.agg [(.int .i64 (.v 6)), (.int .i64 (.v 8)), (.int .i64 (.v 9)), (.int .i64 (.z 0))])) <|
.ite (.cmp .le (.v 7) (.z 4)) (.ite (.cmp .eq (.v 0) (.z 7)) (.ite (.cmp .le (.z (-1)) (.v 5)) (.ite (.cmp .le (.v 5) (.z 1)) (.lett (.add (.v 2) (.z 1)) <|
.ret (.agg [(.int .i64 (.v 6)), (.int .i64 (.v 8)), (.int .i64 (.v 3)), (.int .i64 (.z 0))])) <|
.lett (.add (.v 2) (.z 0)) <|
.ret (.agg [(.int .i64 (.v 6)), (.int .i64 (.v 8)), (.int .i64 (.v 3)), (.int .i64 (.z 0))])) <|
.lett (.add (.v 2) (.z 0)) <|
.ret (.agg [(.int .i64 (.v 6)), (.int .i64 (.v 8)), (.int .i64 (.v 3)), (.int .i64 (.z 0))])) <|
.ite (.cmp .eq (.v 0) (.z 8)) (.ite (.cmp .le (.z 2) (.v 5)) (.lett (.add (.v 2) (.z 1)) <|
.ret (.agg [(.int .i64 (.v 6)), (.int .i64 (.v 8)), (.int .i64 (.v 3)), (.int .i64 (.z 0))])) <|
.ite (.cmp .le (.v 5) (.z (-2))) (.lett (.add (.v 2) (.z 1)) <|
.ret (.agg [(.int .i64 (.v 6)), (.int .i64 (.v 8)), (.int .i64 (.v 3)), (.int .i64 (.z 0))])) <|
.lett (.add (.v 2) (.z 0)) <|
.ret (.agg [(.int .i64 (.v 6)), (.int .i64 (.v 8)), (.int .i64 (.v 3)), (.int .i64 (.z 0))])) <|
.ite (.cmp .le (.z 3) (.v 5)) (.lett (.add (.v 2) (.z 1)) <|
.lett (.add (.v 3) (.z 0)) <|
.ret (.agg [(.int .i64 (.v 6)), (.int .i64 (.v 8)), (.int .i64 (.v 9)), (.int .i64 (.z 0))])) <|
.lett (.add (.v 2) (.z 0)) <|
.ite (.cmp .le (.v 5) (.z (-3))) (.lett (.add (.v 3) (.z 1)) <|
.ret (.agg [(.int .i64 (.v 6)), (.int .i64 (.v 8)), (.int .i64 (.v 9)), (.int .i64 (.z 0))])) <|
.lett (.add (.v 3) (.z 0)) <|
.ret (.agg [(.int .i64 (.v 6)), (.int .i64 (.v 8)), (.int .i64 (.v 9)), (.int .i64 (.z 0))])) <|
.ite (.cmp .le (.v 7) (.z 5)) (.ite (.cmp .eq (.v 0) (.z 7)) (.ite (.cmp .le (.z (-1)) (.v 5)) (.ite (.cmp .le (.v 5) (.z 1)) (.lett (.add (.v 2) (.z 1)) <|
.ret (.agg [(.int .i64 (.v 6)), (.int .i64 (.v 8)), (.int .i64 (.v 3)), (.int .i64 (.z 0))])) <|
.lett (.add (.v 2) (.z 0)) <|
.ret (.agg [(.int .i64 (.v 6)), (.int .i64 (.v 8)), (.int .i64 (.v 3)), (.int .i64 (.z 0))])) <|
.lett (.add (.v 2) (.z 0)) <|
.ret (.agg [(.int .i64 (.v 6)), (.int .i64 (.v 8)), (.int .i64 (.v 3)), (.int .i64 (.z 0))])) <|
.ite (.cmp .eq (.v 0) (.z 8)) (.ite (.cmp .le (.z 2) (.v 5)) (.lett (.add (.v 2) (.z 1)) <|
.ret (.agg [(.int .i64 (.v 6)), (.int .i64 (.v 8)), (.int .i64 (.v 3)), (.int .i64 (.z 0))])) <|
.ite (.cmp .le (.v 5) (.z (-2))) (.lett (.add (.v 2) (.z 1)) <|
.ret (.agg [(.int .i64 (.v 6)), (.int .i64 (.v 8)), (.int .i64 (.v 3)), (.int .i64 (.z 0))])) <|
.lett (.add (.v 2) (.z 0)) <|
.ret (.agg [(.int .i64 (.v 6)), (.int .i64 (.v 8)), (.int .i64 (.v 3)), (.int .i64 (.z 0))])) <|
.ite (.cmp .le (.z 2) (.v 5)) (.lett (.add (.v 2) (.z 1)) <|
.lett (.add (.v 3) (.z 0)) <|
.ret (.agg [(.int .i64 (.v 6)), (.int .i64 (.v 8)), (.int .i64 (.v 9)), (.int .i64 (.z 0))])) <|
.lett (.add (.v 2) (.z 0)) <|
.ite (.cmp .le (.v 5) (.z (-2))) (.lett (.add (.v 3) (.z 1)) <|
.ret (.agg [(.int .i64 (.v 6)), (.int .i64 (.v 8)), (.int .i64 (.v 9)), (.int .i64 (.z 0))])) <|
.lett (.add (.v 3) (.z 0)) <|
.ret (.agg [(.int .i64 (.v 6)), (.int .i64 (.v 8)), (.int .i64 (.v 9)), (.int .i64 (.z 0))])) <|
.ite (.cmp .le (.v 7) (.z 6)) (.ite (.cmp .eq (.v 0) (.z 7)) (.ite (.cmp .le (.z (-1)) (.v 5)) (.ite (.cmp .le (.v 5) (.z 1)) (.lett (.add (.v 2) (.z 1)) <|
.ret (.agg [(.int .i64 (.v 6)), (.int .i64 (.v 8)), (.int .i64 (.v 3)), (.int .i64 (.z 0))])) <|
.lett (.add (.v 2) (.z 0)) <|
.ret (.agg [(.int .i64 (.v 6)), (.int .i64 (.v 8)), (.int .i64 (.v 3)), (.int .i64 (.z 0))])) <|
.lett (.add (.v 2) (.z 0)) <|
.ret (.agg [(.int .i64 (.v 6)), (.int .i64 (.v 8)), (.int .i64 (.v 3)), (.int .i64 (.z 0))])) <|
.ite (.cmp .eq (.v 0) (.z 8)) (.ite (.cmp .le (.z 2) (.v 5)) (.lett (.add (.v 2) (.z 1)) <|
.ret (.agg [(.int .i64 (.v 6)), (.int .i64 (.v 8)), (.int .i64 (.v 3)), (.int .i64 (.z 0))])) <|
.ite (.cmp .le (.v 5) (.z (-2))) (.lett (.add (.v 2) (.z 1)) <|
.ret (.agg [(.int .i64 (.v 6)), (.int .i64 (.v 8)), (.int .i64 (.v 3)), (.int .i64 (.z 0))])) <|
.lett (.add (.v 2) (.z 0)) <|
.ret (.agg [(.int .i64 (.v 6)), (.int .i64 (.v 8)), (.int .i64 (.v 3)), (.int .i64 (.z 0))])) <|
.ite (.cmp .le (.z 0) (.v 5)) (.lett (.add (.v 2) (.z 1)) <|
.ite (.cmp .le (.v 5) (.z 0)) (.lett (.add (.v 3) (.z 1)) <|
.ret (.agg [(.int .i64 (.v 6)), (.int .i64 (.v 8)), (.int .i64 (.v 9)), (.int .i64 (.z 0))])) <|
.lett (.add (.v 3) (.z 0)) <|
.ret (.agg [(.int .i64 (.v 6)), (.int .i64 (.v 8)), (.int .i64 (.v 9)), (.int .i64 (.z 0))])) <|
.lett (.add (.v 2) (.z 0)) <|
.lett (.add (.v 3) (.z 1)) <|
.ret (.agg [(.int .i64 (.v 6)), (.int .i64 (.v 8)), (.int .i64 (.v 9)), (.int .i64 (.z 0))])) <|
.ite (.cmp .eq (.v 0) (.z 7)) (.ite (.cmp .le (.z (-1)) (.v 5)) (.ite (.cmp .le (.v 5) (.z 1)) (.lett (.add (.v 2) (.z 1)) <|
.ret (.agg [(.int .i64 (.v 6)), (.int .i64 (.v 8)), (.int .i64 (.v 3)), (.int .i64 (.z 0))])) <|
.lett (.add (.v 2) (.z 0)) <|
.ret (.agg [(.int .i64 (.v 6)), (.int .i64 (.v 8)), (.int .i64 (.v 3)), (.int .i64 (.z 0))])) <|
.lett (.add (.v 2) (.z 0)) <|
.ret (.agg [(.int .i64 (.v 6)), (.int .i64 (.v 8)), (.int .i64 (.v 3)), (.int .i64 (.z 0))])) <|
.ite (.cmp .eq (.v 0) (.z 8)) (.ite (.cmp .le (.z 2) (.v 5)) (.lett (.add (.v 2) (.z 1)) <|
.ret (.agg [(.int .i64 (.v 6)), (.int .i64 (.v 8)), (.int .i64 (.v 3)), (.int .i64 (.z 0))])) <|
.ite (.cmp .le (.v 5) (.z (-2))) (.lett (.add (.v 2) (.z 1)) <|
.ret (.agg [(.int .i64 (.v 6)), (.int .i64 (.v 8)), (.int .i64 (.v 3)), (.int .i64 (.z 0))])) <|
.lett (.add (.v 2) (.z 0)) <|
.ret (.agg [(.int .i64 (.v 6)), (.int .i64 (.v 8)), (.int .i64 (.v 3)), (.int .i64 (.z 0))])) <|
.ite (.cmp .le (.z 2) (.v 5)) (.lett (.add (.v 2) (.z 1)) <|
.lett (.add (.v 3) (.z 0)) <|
.ret (.agg [(.int .i64 (.v 6)), (.int .i64 (.v 8)), (.int .i64 (.v 9)), (.int .i64 (.z 0))])) <|
.lett (.add (.v 2) (.z 0)) <|
.ite (.cmp .le (.v 5) (.z (-2))) (.lett (.add (.v 3) (.z 1)) <|
.ret (.agg [(.int .i64 (.v 6)), (.int .i64 (.v 8)), (.int .i64 (.v 9)), (.int .i64 (.z 0))])) <|
.lett (.add (.v 3) (.z 0)) <|
.ret (.agg [(.int .i64 (.v 6)), (.int .i64 (.v 8)), (.int .i64 (.v 9)), (.int .i64 (.z 0))])
noncomputable def r14next_cx : Ctx := { tys := tys, fns := fns, mets := mets, sps := [], anns := [], trys := [] }
def r14next_ivs : List (Option (Int × Int)) := [some (1, 8), some (0, 15), some (0, 15), some (0, 15), some ((-4), 4), some ((-4), 4)]
set_option maxRecDepth 100000 in
theorem r14next_walk : runFn r14next_cx 3000 44 Tryd.f44 r14next_sp.args r14next_ivs = r14next_tree := by kernel_rfl
noncomputable def r14next_M : Nat → SpecSem
  | _ => noSem
theorem r14next_cxok : CxOK Tryd.prog r14next_cx r14next_M := ⟨tysOK, fnsOK, fun _ _ h => spNil h, mixedOK, fun _ _ h => trNil h, fun _ _ h => atNil h, metsOK, fun _ _ h => efNil h, fun _ _ h => lsNil h⟩

def r14next_sem : SpecSem := { pre := fun cs => match cs with | [.i k, .i n, .i a, .i b, .i l, .i c] => IsI k ∧ IsI n ∧ IsI a ∧ IsI b ∧ IsI l ∧ IsI c ∧ ((1 ≤ k ∧ k ≤ 8) ∧ (0 ≤ n ∧ n ≤ 15) ∧ (0 ≤ a ∧ a ≤ 15) ∧ (0 ≤ b ∧ b ≤ 15) ∧ (-4 ≤ l ∧ l ≤ 4) ∧ -4 ≤ c ∧ c ≤ 4) | _ => False, out := fun cs => match cs with | [.i k, .i n, .i a, .i b, .i l, .i c] => [.i (n + 1), .i (nxA k n a l c), .i (nxB k n b l c), .i (nxL k c)] | _ => [] }
set_option maxRecDepth 10000 in
set_option maxHeartbeats 16000000 in
theorem r14next_ok : SpecOK Tryd.prog 44 r14next_sp r14next_sem := by
  refine spec_of_tree r14next_cxok Tryd.func44 (by kernel_rfl) (by kernel_rfl) r14next_walk rfl ?_
  intro cs hpre
  match cs, hpre with
  | [.i k, .i n, .i a, .i b, .i l, .i c], ⟨j_k, j_n, j_a, j_b, j_l, j_c, hx⟩ =>
    have h_k := j_k
    unfold IsI at h_k
    have h_n := j_n
    unfold IsI at h_n
    have h_a := j_a
    unfold IsI at h_a
    have h_b := j_b
    unfold IsI at h_b
    have h_l := j_l
    unfold IsI at h_l
    have h_c := j_c
    unfold IsI at h_c
    refine ⟨rfl, IvsB.ok (by simp only [r14next_ivs, IvsB, Cv.int, and_true] <;> omega), ?_, ?_⟩
    · simp only [r14next_sem, r14next_sp, Fits, and_true]; unfold nxA nxB nxL; (repeat' split) <;> omega
    · simp only [r14next_sem, r14next_sp, r14next_tree, Tree.den, LE.den, Cv.list, placeA, List.getElem?_cons_zero, List.getElem?_cons_succ, IE.den, BE.den, At.den, CA.den, Env.get, Cv.int, Cv.bool, List.cons_append, List.nil_append, List.map_cons, List.map_nil, bindRes, bindEq, Fits, SV.den, denL, place, placeL, eq_t, eq_f, lt_t, lt_f, le_t, le_f, beq_iff_eq, beq_eq_false_iff_ne, ne_eq, reduceCtorEq, b_dec, decide_eq_true_eq, decide_eq_false_iff_not, Bool.not_eq_false', Bool.or_eq_true, Bool.or_eq_false_iff, Bool.and_eq_false_iff, true_iff, false_iff, Bool.false_eq_true, Bool.not_eq_true', Bool.and_eq_true, Bool.not_true, Bool.not_false, List.cons.injEq, Cv.i.injEq, Cv.b.injEq, and_true, true_and, agg_inj, tup_inj, Value.int.injEq, Value.bool.injEq, forall_eq]
      have hk : k = 1 ∨ k = 2 ∨ k = 3 ∨ k = 4 ∨ k = 5 ∨ k = 6 ∨ k = 7 ∨ k = 8 := by omega
      clear h_k h_n h_a h_b h_l h_c j_k j_n j_a j_b j_l j_c hpre
      unfold nxA nxB nxL limZ
      rcases hk with rfl | rfl | rfl | rfl | rfl | rfl | rfl | rfl
      all_goals simp (config := { decide := true }) only [if_true, if_false, or_true, true_or, or_false, false_or, true_and, false_and, and_true, true_implies, false_implies, implies_true, not_true_eq_false, not_false_eq_true, eq_self]
      all_goals (repeat' (first | intro _ | refine And.intro ?_ ?_)) <;> omega
def needZ (k : Int) : Int := if k ≤ 1 then 1 else if k ≤ 2 then 9 else if k ≤ 4 then 1 else if k ≤ 5 then 2 else if k ≤ 6 then 4 else if k ≤ 7 then 15 else 8
def r14holds_sp : SpecSh := { args := [(.int .i64 (.z 0)), (.agg [(.int .i64 (.z 0)), (.int .i64 (.z 0)), (.int .i64 (.z 0)), (.int .i64 (.z 0))])], res := (.bool .f), sh := [.b] }
set_option maxRecDepth 100000 in
def r14holds_tree : Tree :=
.lett (.sub (.v 0) (.z 1)) <|
.ite (.cmp .le (.v 5) (.z 0)) (.ite (.cmp .le (.z 1) (.v 2)) (.ret (.bool .t)) <|
.ret (.bool (.cmp .le (.z 1) (.v 3)))) <|
.ite (.cmp .le (.v 5) (.z 1)) (.ite (.cmp .le (.z 9) (.v 2)) (.ret (.bool .t)) <|
.ret (.bool (.cmp .le (.z 9) (.v 3)))) <|
.ite (.cmp .le (.v 5) (.z 2)) (.ite (.cmp .le (.z 1) (.v 2)) (.ret (.bool .t)) <|
.ret (.bool (.cmp .le (.z 1) (.v 3)))) <|
.ite (.cmp .le (.v 5) (.z 3)) (.ite (.cmp .le (.z 1) (.v 2)) (.ret (.bool .t)) <|
.ret (.bool (.cmp .le (.z 1) (.v 3)))) <|
.ite (.cmp .le (.v 5) (.z 4)) (.ite (.cmp .le (.z 2) (.v 2)) (.ret (.bool .t)) <|
.ret (.bool (.cmp .le (.z 2) (.v 3)))) <|
.ite (.cmp .le (.v 5) (.z 5)) (.ite (.cmp .le (.z 4) (.v 2)) (.ret (.bool .t)) <|
.ret (.bool (.cmp .le (.z 4) (.v 3)))) <|
.ite (.cmp .le (.v 5) (.z 6)) (.ite (.cmp .le (.z 15) (.v 2)) (.ret (.bool .t)) <|
.ret (.bool (.cmp .le (.z 15) (.v 3)))) <|
.ite (.cmp .le (.z 8) (.v 2)) (.ret (.bool .t)) <|
.ret (.bool (.cmp .le (.z 8) (.v 3)))
noncomputable def r14holds_cx : Ctx := { tys := tys, fns := fns, mets := mets, sps := [], anns := [], trys := [] }
def r14holds_ivs : List (Option (Int × Int)) := [some (1, 8), some (0, 16), some (0, 16), some (0, 16), some ((-4), 4)]
set_option maxRecDepth 100000 in
theorem r14holds_walk : runFn r14holds_cx 3000 45 Tryd.f45 r14holds_sp.args r14holds_ivs = r14holds_tree := by kernel_rfl
noncomputable def r14holds_M : Nat → SpecSem
  | _ => noSem
theorem r14holds_cxok : CxOK Tryd.prog r14holds_cx r14holds_M := ⟨tysOK, fnsOK, fun _ _ h => spNil h, mixedOK, fun _ _ h => trNil h, fun _ _ h => atNil h, metsOK, fun _ _ h => efNil h, fun _ _ h => lsNil h⟩

def r14holds_sem : SpecSem := { pre := fun cs => match cs with | [.i k, .i n, .i a, .i b, .i l] => IsI k ∧ IsI n ∧ IsI a ∧ IsI b ∧ IsI l ∧ ((1 ≤ k ∧ k ≤ 8) ∧ (0 ≤ n ∧ n ≤ 16) ∧ (0 ≤ a ∧ a ≤ 16) ∧ (0 ≤ b ∧ b ≤ 16) ∧ -4 ≤ l ∧ l ≤ 4) | _ => False, out := fun cs => match cs with | [.i k, .i n, .i a, .i b, .i l] => [.b (decide (needZ k ≤ a ∨ needZ k ≤ b))] | _ => [] }
set_option maxRecDepth 10000 in
set_option maxHeartbeats 16000000 in
theorem r14holds_ok : SpecOK Tryd.prog 45 r14holds_sp r14holds_sem := by
  refine spec_of_tree r14holds_cxok Tryd.func45 (by kernel_rfl) (by kernel_rfl) r14holds_walk rfl ?_
  intro cs hpre
  match cs, hpre with
  | [.i k, .i n, .i a, .i b, .i l], ⟨j_k, j_n, j_a, j_b, j_l, hx⟩ =>
    have h_k := j_k
    unfold IsI at h_k
    have h_n := j_n
    unfold IsI at h_n
    have h_a := j_a
    unfold IsI at h_a
    have h_b := j_b
    unfold IsI at h_b
    have h_l := j_l
    unfold IsI at h_l
    refine ⟨rfl, IvsB.ok (by simp only [r14holds_ivs, IvsB, Cv.int, and_true] <;> omega), ?_, ?_⟩
    · simp only [r14holds_sem, r14holds_sp, Fits]
    · have hk : k = 1 ∨ k = 2 ∨ k = 3 ∨ k = 4 ∨ k = 5 ∨ k = 6 ∨ k = 7 ∨ k = 8 := by omega
      rcases hk with rfl | rfl | rfl | rfl | rfl | rfl | rfl | rfl
      all_goals simp only [r14holds_sem, r14holds_sp, r14holds_tree, Tree.den, LE.den, Cv.list, placeA, List.getElem?_cons_zero, List.getElem?_cons_succ, IE.den, BE.den, At.den, CA.den, Env.get, Cv.int, Cv.bool, List.cons_append, List.nil_append, List.map_cons, List.map_nil, bindRes, bindEq, Fits, SV.den, denL, place, placeL, eq_t, eq_f, lt_t, lt_f, le_t, le_f, beq_iff_eq, beq_eq_false_iff_ne, ne_eq, reduceCtorEq, b_dec, decide_eq_true_eq, decide_eq_false_iff_not, Bool.not_eq_false', Bool.or_eq_true, Bool.or_eq_false_iff, Bool.and_eq_false_iff, true_iff, false_iff, Bool.false_eq_true, Bool.not_eq_true', Bool.and_eq_true, Bool.not_true, Bool.not_false, List.cons.injEq, Cv.i.injEq, Cv.b.injEq, and_true, true_and, agg_inj, tup_inj, Value.int.injEq, Value.bool.injEq]
      all_goals simp [needZ]
      all_goals omega
end Go.Proofs.YtmnpeneplobpdaaDoor.X
