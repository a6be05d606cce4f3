/-
  nelson's rules that look at each point: beyond, side, near, far.
-/
import Derived.Test.YtmnpeneplobpdaaDoorSxNeRow
namespace Go.Proofs.YtmnpeneplobpdaaDoor.X
open Go Go.SX Go.RowKit
set_option linter.unusedVariables false
set_option linter.unusedSimpArgs false










theorem a4 : aboveZ 4 = 256 := by decide
theorem a1 : aboveZ 1 = 480 := by decide
theorem a2 : aboveZ 2 = 448 := by decide
theorem a3 : aboveZ 3 = 384 := by decide
theorem b4 : belowZ (-4) = 1 := by decide
theorem b1 : belowZ (-1) = 15 := by decide
theorem b2 : belowZ (-2) = 7 := by decide
theorem b3 : belowZ (-3) = 3 := by decide
theorem o41 : bitDen .or .i64 256 1 = 257 := by decide
theorem o22 : bitDen .or .i64 448 7 = 455 := by decide
theorem h257 {c : Int} (h0 : -4 ≤ c) (h1 : c ≤ 4) : has 257 c ↔ (4 ≤ c ∨ c ≤ -4) := by
  rw [← o41, has_or ⟨by omega, by omega⟩ ⟨by omega, by omega⟩, ← a4, ← b4, has_above (by omega) (by omega) ⟨h0, h1⟩, has_below (by omega) (by omega) ⟨h0, h1⟩]
theorem h455 {c : Int} (h0 : -4 ≤ c) (h1 : c ≤ 4) : has 455 c ↔ (2 ≤ c ∨ c ≤ -2) := by
  rw [← o22, has_or ⟨by omega, by omega⟩ ⟨by omega, by omega⟩, ← a2, ← b2, has_above (by omega) (by omega) ⟨h0, h1⟩, has_below (by omega) (by omega) ⟨h0, h1⟩]
theorem h56 {c : Int} (h0 : -4 ≤ c) (h1 : c ≤ 4) : has 56 c ↔ (-1 ≤ c ∧ c ≤ 1) := by
  have : ∀ i : Fin 9, has 56 ((i.val : Int) - 4) ↔ (-1 ≤ ((i.val : Int) - 4) ∧ ((i.val : Int) - 4) ≤ 1) := by decide
  have e := this ⟨(c + 4).toNat, by omega⟩
  have e2 : (((c + 4).toNat : Nat) : Int) - 4 = c := by omega
  simp only [e2] at e
  exact e
theorem n56a : (511 : Int) - 448 = 63 := rfl
theorem n56 : (63 : Int) - 7 = 56 := rfl
theorem h480 {c : Int} (h0 : -4 ≤ c) (h1 : c ≤ 4) : has 480 c ↔ 1 ≤ c := by rw [← a1, has_above (by omega) (by omega) ⟨h0, h1⟩]
theorem h15 {c : Int} (h0 : -4 ≤ c) (h1 : c ≤ 4) : has 15 c ↔ c ≤ -1 := by rw [← b1, has_below (by omega) (by omega) ⟨h0, h1⟩]
theorem mks_nil : mks [] = [] := rfl
def nbeyond_sp : SpecSh := { args := [(.sptr 0 (.z 0) 1003 0)], res := (.int .i64 (.z 0)), sh := [.i (some (0, 2))] }
set_option maxRecDepth 100000 in
def nbeyond_tree : Tree :=
.call 51 [.i (some (0, 511)), .i (some (0, 511))] [.i (.z 4)] <|
.lett (.cnt 0 3) <|
.ite (.cmp .lt (.v 3) (.z 1)) (.lett (.bit .or .i64 (.v 1) (.v 2)) <|
.call 53 [.i (some (0, 2))] [.l (.nil), .i (.v 4)] <|
.ret (.int .i64 (.v 5))) <|
.lett (.sub (.v 3) (.z 1)) <|
.ite (.cmp .le (.v 4) (.v 3)) (.ite (.cmp .le (.v 3) (.v 3)) (.letl (.subS 0 3 (.v 4) (.v 3)) <|
.lett (.bit .or .i64 (.v 1) (.v 2)) <|
.call 53 [.i (some (0, 2))] [.l (.v 5), .i (.v 6)] <|
.ret (.int .i64 (.v 7))) <|
.bad 120) <|
.bad 121
noncomputable def nbeyond_cx : Ctx := { tys := tys, fns := fns, mets := mets, sps := [(51, nfrom_sp), (53, neach_sp)], anns := [], trys := [] }
def nbeyond_ivs : List (Option (Int × Int)) := [none]
set_option maxRecDepth 100000 in
theorem nbeyond_walk : runFn nbeyond_cx 3000 34 Tryd.f34 nbeyond_sp.args nbeyond_ivs = nbeyond_tree := by kernel_rfl
noncomputable def nbeyond_M : Nat → SpecSem
  | 51 => nfrom_sem
  | 53 => neach_sem
  | _ => noSem
theorem nbeyond_M51 : nbeyond_M 51 = nfrom_sem := rfl
theorem nbeyond_M53 : nbeyond_M 53 = neach_sem := rfl
theorem nbeyond_cxok : CxOK Tryd.prog nbeyond_cx nbeyond_M := ⟨tysOK, fnsOK, spCons nfrom_ok <| spCons neach_ok <| fun _ _ h => spNil h, mixedOK, fun _ _ h => trNil h, fun _ _ h => atNil h, metsOK, fun _ _ h => efNil h, fun _ _ h => lsNil h⟩
set_option maxRecDepth 100000 in
set_option maxHeartbeats 8000000 in
theorem nbeyond_den (R RP : Value → Prop) (F : Ex → St → Js → Env → Prop) (J : Js) (x0 : List Int) : Tree.den nbeyond_M R RP F nbeyond_tree J [(.l x0)] = (
  (nfrom_sem.pre [(.i (4 : Int))]) ∧ (
∀ x1 : Int, x1 = (Cv.int (Env.get (nfrom_sem.out [(.i (4 : Int))]) 0)) → (0 : Int) ≤ x1 → x1 ≤ (511 : Int) →
∀ x2 : Int, x2 = (Cv.int (Env.get (nfrom_sem.out [(.i (4 : Int))]) 1)) → (0 : Int) ≤ x2 → x2 ≤ (511 : Int) →
∀ x3 : Int, x3 = (((List.length x0 / 3 : Nat) : Int)) →
((Cmp.den .lt x3 (1 : Int)) = true → ∀ x4 : Int, x4 = (bitDen .or .i64 x1 x2) →
(neach_sem.pre [(.l (([] : List Int))), (.i x4)]) ∧ (
∀ x5 : Int, x5 = (Cv.int (Env.get (neach_sem.out [(.l (([] : List Int))), (.i x4)]) 0)) → (0 : Int) ≤ x5 → x5 ≤ (2 : Int) →
R (Value.int .i64 x5))) ∧ ((Cmp.den .lt x3 (1 : Int)) = false → ∀ x4 : Int, x4 = (x3 - (1 : Int)) →
((Cmp.den .le x4 x3) = true → ((Cmp.den .le x3 x3) = true → ∀ x5 : List Int, x5 = (List.take ((Int.toNat x3 - Int.toNat x4) * 3) (List.drop (Int.toNat x4 * 3) x0)) →
∀ x6 : Int, x6 = (bitDen .or .i64 x1 x2) →
(neach_sem.pre [(.l (x5)), (.i x6)]) ∧ (
∀ x7 : Int, x7 = (Cv.int (Env.get (neach_sem.out [(.l (x5)), (.i x6)]) 0)) → (0 : Int) ≤ x7 → x7 ≤ (2 : Int) →
R (Value.int .i64 x7))) ∧ ((Cmp.den .le x3 x3) = false → False)) ∧ ((Cmp.den .le x4 x3) = false → False)))) := by kernel_rfl

noncomputable def nbeyond_sem : SpecSem := { pre := fun cs => match cs with | [.l l] => InI l ∧ (IsP l) | _ => False, out := fun cs => match cs with | [.l l] => [.i (ruleV G1 1 (mks l))] | _ => [] }
set_option maxRecDepth 10000 in
set_option maxHeartbeats 16000000 in
theorem nbeyond_ok : SpecOK Tryd.prog 34 nbeyond_sp nbeyond_sem := by
  refine spec_of_tree nbeyond_cxok Tryd.func34 (by kernel_rfl) (by kernel_rfl) nbeyond_walk rfl ?_
  intro cs hpre
  match cs, hpre with
  | [.l l], ⟨j_l, hx⟩ =>
    refine ⟨rfl, IvsB.ok (by simp only [nbeyond_ivs, IvsB, Cv.int, and_true, j_l, true_and] <;> omega), ?_, ?_⟩
    · simp only [nbeyond_sem, nbeyond_sp, Fits, and_true]; exact ruleV_rng _ _ _
    · rw [nbeyond_den]
      obtain ⟨ms, rfl, hm, hl⟩ := hx
      simp only [nbeyond_sem, nbeyond_sp, nfrom_sem, neach_sem, nbeyond_den, nfrom_sem, neach_sem, Tree.den, LE.den, Cv.list, placeA, List.getElem?_cons_zero, List.getElem?_cons_succ, IE.den, BE.den, At.den, CA.den, Env.get, Cv.int, Cv.bool, List.cons_append, List.nil_append, List.map_cons, List.map_nil, bindRes, bindEq, Fits, SV.den, denL, place, placeL, eq_t, eq_f, lt_t, lt_f, le_t, le_f, beq_iff_eq, beq_eq_false_iff_ne, ne_eq, reduceCtorEq, b_dec, decide_eq_true_eq, decide_eq_false_iff_not, Bool.not_eq_false', Bool.or_eq_true, Bool.or_eq_false_iff, Bool.and_eq_false_iff, true_iff, false_iff, Bool.false_eq_true, Bool.not_eq_true', Bool.and_eq_true, Bool.not_true, Bool.not_false, List.cons.injEq, Cv.i.injEq, Cv.b.injEq, and_true, true_and, agg_inj, tup_inj, Value.int.injEq, Value.bool.injEq, mks_pt, pt_cnt, a4, b4, o41, forall_eq, eq_self, if_true, if_false, true_and, and_true, false_and, and_false, true_or, or_true, false_or, or_false, true_iff, iff_true, false_iff, iff_false, not_true_eq_false, not_false_eq_true, true_implies, false_implies, implies_true, forall_const, decide_true, decide_false, reduceCtorEq]
      have hn := eachV_nil
      rcases Nat.lt_or_ge ms.length 1 with h | h
      · have hfin := ruleV_few (G := G1) h
        simp only [mks_nil, hn, hfin, Int.lt_irrefl, if_false]
        (repeat' (first | exact isP_nil | exact inI_nil | intro _ | refine And.intro ?_ ?_)) <;> first | exact trivial | omega
      · have hL := last_pt (ms := ms) (n := 1) 1 rfl (by omega)
        have hI : InI (ptOf (lst 1 ms)) := hL ▸ inI_sub j_l _ _
        have hP := isP_lst (n := 1) hm hl
        have hq := lst_mem (n := 1) hm
        have hne := lst_ne h (by omega)
        have hfin : eachV (lst 1 ms) 257 = ruleV G1 1 ms := by rw [ruleV_of h]; exact each_row hq ⟨by omega, by omega⟩ (fun c => h257) hne
        simp only [hL, mks_pt]
        (repeat' (first | exact hI | exact hP | exact hfin | intro _ | refine And.intro ?_ ?_)) <;> omega
def nside_sp : SpecSh := { args := [(.sptr 0 (.z 0) 1003 0)], res := (.int .i64 (.z 0)), sh := [.i (some (0, 2))] }
set_option maxRecDepth 100000 in
def nside_tree : Tree :=
.call 51 [.i (some (0, 511)), .i (some (0, 511))] [.i (.z 1)] <|
.lett (.cnt 0 3) <|
.ite (.cmp .lt (.v 3) (.z 9)) (.call 53 [.i (some (0, 2))] [.l (.nil), .i (.v 1)] <|
.call 53 [.i (some (0, 2))] [.l (.nil), .i (.v 2)] <|
.lett (.ite (.cmp .lt (.v 4) (.v 5)) (.v 5) (.v 4)) <|
.ret (.int .i64 (.v 6))) <|
.lett (.sub (.v 3) (.z 9)) <|
.ite (.cmp .le (.v 4) (.v 3)) (.ite (.cmp .le (.v 3) (.v 3)) (.letl (.subS 0 3 (.v 4) (.v 3)) <|
.call 53 [.i (some (0, 2))] [.l (.v 5), .i (.v 1)] <|
.call 53 [.i (some (0, 2))] [.l (.v 5), .i (.v 2)] <|
.lett (.ite (.cmp .lt (.v 6) (.v 7)) (.v 7) (.v 6)) <|
.ret (.int .i64 (.v 8))) <|
.bad 120) <|
.bad 121
noncomputable def nside_cx : Ctx := { tys := tys, fns := fns, mets := mets, sps := [(51, nfrom_sp), (53, neach_sp)], anns := [], trys := [] }
def nside_ivs : List (Option (Int × Int)) := [none]
set_option maxRecDepth 100000 in
theorem nside_walk : runFn nside_cx 3000 35 Tryd.f35 nside_sp.args nside_ivs = nside_tree := by kernel_rfl
noncomputable def nside_M : Nat → SpecSem
  | 51 => nfrom_sem
  | 53 => neach_sem
  | _ => noSem
theorem nside_M51 : nside_M 51 = nfrom_sem := rfl
theorem nside_M53 : nside_M 53 = neach_sem := rfl
theorem nside_cxok : CxOK Tryd.prog nside_cx nside_M := ⟨tysOK, fnsOK, spCons nfrom_ok <| spCons neach_ok <| fun _ _ h => spNil h, mixedOK, fun _ _ h => trNil h, fun _ _ h => atNil h, metsOK, fun _ _ h => efNil h, fun _ _ h => lsNil h⟩
set_option maxRecDepth 100000 in
set_option maxHeartbeats 8000000 in
theorem nside_den (R RP : Value → Prop) (F : Ex → St → Js → Env → Prop) (J : Js) (x0 : List Int) : Tree.den nside_M R RP F nside_tree J [(.l x0)] = (
  (nfrom_sem.pre [(.i (1 : Int))]) ∧ (
∀ x1 : Int, x1 = (Cv.int (Env.get (nfrom_sem.out [(.i (1 : Int))]) 0)) → (0 : Int) ≤ x1 → x1 ≤ (511 : Int) →
∀ x2 : Int, x2 = (Cv.int (Env.get (nfrom_sem.out [(.i (1 : Int))]) 1)) → (0 : Int) ≤ x2 → x2 ≤ (511 : Int) →
∀ x3 : Int, x3 = (((List.length x0 / 3 : Nat) : Int)) →
((Cmp.den .lt x3 (9 : Int)) = true → (neach_sem.pre [(.l (([] : List Int))), (.i x1)]) ∧ (
∀ x4 : Int, x4 = (Cv.int (Env.get (neach_sem.out [(.l (([] : List Int))), (.i x1)]) 0)) → (0 : Int) ≤ x4 → x4 ≤ (2 : Int) →
(neach_sem.pre [(.l (([] : List Int))), (.i x2)]) ∧ (
∀ x5 : Int, x5 = (Cv.int (Env.get (neach_sem.out [(.l (([] : List Int))), (.i x2)]) 0)) → (0 : Int) ≤ x5 → x5 ≤ (2 : Int) →
∀ x6 : Int, x6 = (if (Cmp.den .lt x4 x5) = true then x5 else x4) →
R (Value.int .i64 x6)))) ∧ ((Cmp.den .lt x3 (9 : Int)) = false → ∀ x4 : Int, x4 = (x3 - (9 : Int)) →
((Cmp.den .le x4 x3) = true → ((Cmp.den .le x3 x3) = true → ∀ x5 : List Int, x5 = (List.take ((Int.toNat x3 - Int.toNat x4) * 3) (List.drop (Int.toNat x4 * 3) x0)) →
(neach_sem.pre [(.l (x5)), (.i x1)]) ∧ (
∀ x6 : Int, x6 = (Cv.int (Env.get (neach_sem.out [(.l (x5)), (.i x1)]) 0)) → (0 : Int) ≤ x6 → x6 ≤ (2 : Int) →
(neach_sem.pre [(.l (x5)), (.i x2)]) ∧ (
∀ x7 : Int, x7 = (Cv.int (Env.get (neach_sem.out [(.l (x5)), (.i x2)]) 0)) → (0 : Int) ≤ x7 → x7 ≤ (2 : Int) →
∀ x8 : Int, x8 = (if (Cmp.den .lt x6 x7) = true then x7 else x6) →
R (Value.int .i64 x8)))) ∧ ((Cmp.den .le x3 x3) = false → False)) ∧ ((Cmp.den .le x4 x3) = false → False)))) := by kernel_rfl

noncomputable def nside_sem : SpecSem := { pre := fun cs => match cs with | [.l l] => InI l ∧ (IsP l) | _ => False, out := fun cs => match cs with | [.l l] => [.i (ruleV G2 9 (mks l))] | _ => [] }
set_option maxRecDepth 10000 in
set_option maxHeartbeats 16000000 in
theorem nside_ok : SpecOK Tryd.prog 35 nside_sp nside_sem := by
  refine spec_of_tree nside_cxok Tryd.func35 (by kernel_rfl) (by kernel_rfl) nside_walk rfl ?_
  intro cs hpre
  match cs, hpre with
  | [.l l], ⟨j_l, hx⟩ =>
    refine ⟨rfl, IvsB.ok (by simp only [nside_ivs, IvsB, Cv.int, and_true, j_l, true_and] <;> omega), ?_, ?_⟩
    · simp only [nside_sem, nside_sp, Fits, and_true]; exact ruleV_rng _ _ _
    · rw [nside_den]
      obtain ⟨ms, rfl, hm, hl⟩ := hx
      simp only [nside_sem, nside_sp, nfrom_sem, neach_sem, nside_den, nfrom_sem, neach_sem, Tree.den, LE.den, Cv.list, placeA, List.getElem?_cons_zero, List.getElem?_cons_succ, IE.den, BE.den, At.den, CA.den, Env.get, Cv.int, Cv.bool, List.cons_append, List.nil_append, List.map_cons, List.map_nil, bindRes, bindEq, Fits, SV.den, denL, place, placeL, eq_t, eq_f, lt_t, lt_f, le_t, le_f, beq_iff_eq, beq_eq_false_iff_ne, ne_eq, reduceCtorEq, b_dec, decide_eq_true_eq, decide_eq_false_iff_not, Bool.not_eq_false', Bool.or_eq_true, Bool.or_eq_false_iff, Bool.and_eq_false_iff, true_iff, false_iff, Bool.false_eq_true, Bool.not_eq_true', Bool.and_eq_true, Bool.not_true, Bool.not_false, List.cons.injEq, Cv.i.injEq, Cv.b.injEq, and_true, true_and, agg_inj, tup_inj, Value.int.injEq, Value.bool.injEq, mks_pt, pt_cnt, a1, b1, forall_eq, eq_self, if_true, if_false, true_and, and_true, false_and, and_false, true_or, or_true, false_or, or_false, true_iff, iff_true, false_iff, iff_false, not_true_eq_false, not_false_eq_true, true_implies, false_implies, implies_true, forall_const, decide_true, decide_false, reduceCtorEq]
      have hn := eachV_nil
      rcases Nat.lt_or_ge ms.length 9 with h | h
      · have hfin := ruleV_few (G := G2) h
        simp only [mks_nil, hn, hfin, Int.lt_irrefl, if_false]
        (repeat' (first | exact isP_nil | exact inI_nil | intro _ | refine And.intro ?_ ?_)) <;> first | exact trivial | omega
      · have hL := last_pt (ms := ms) (n := 9) 9 rfl (by omega)
        have hI : InI (ptOf (lst 9 ms)) := hL ▸ inI_sub j_l _ _
        have hP := isP_lst (n := 9) hm hl
        have hq := lst_mem (n := 9) hm
        have hne := lst_ne h (by omega)
        have e1 := each_row (a := 480) (P := fun c => 1 ≤ c) hq ⟨by omega, by omega⟩ (fun c => h480) hne
        have e2 := each_row (a := 15) (P := fun c => c ≤ -1) hq ⟨by omega, by omega⟩ (fun c => h15) hne
        have hfin : (if eachV (lst 9 ms) 480 < eachV (lst 9 ms) 15 then eachV (lst 9 ms) 15 else eachV (lst 9 ms) 480) = ruleV G2 9 ms := by
          rw [ruleV_of h, e1, e2, val3_max]
          refine val3_congr (either_all 1 fun r s hr hs b a ht hab => ?_).symm ex_or.symm
          have l1 := hr.1; have l2 := hs.1
          rw [lst_len h] at l1 l2
          obtain ⟨x, s', rfl⟩ := List.exists_cons_of_length_pos (show 0 < s.length by omega)
          obtain ⟨y, r', rfl⟩ := List.exists_cons_of_length_pos (show 0 < r.length by omega)
          obtain ⟨z, r'', rfl⟩ := List.exists_cons_of_length_pos (show 0 < r'.length by simp only [List.length_cons] at l1; omega)
          have q1 := a x (by simp); have q2 := b z (by simp)
          rcases hab with hab | hab
          · have := hab z (by simp); omega
          · have := hab x (by simp); omega
        simp only [hL, mks_pt]
        (repeat' (first | exact hI | exact hP | exact hfin | intro _ | refine And.intro ?_ ?_)) <;> omega
def nnear_sp : SpecSh := { args := [(.sptr 0 (.z 0) 1003 0)], res := (.int .i64 (.z 0)), sh := [.i (some (0, 2))] }
set_option maxRecDepth 100000 in
def nnear_tree : Tree :=
.call 51 [.i (some (0, 511)), .i (some (0, 511))] [.i (.z 2)] <|
.lett (.cnt 0 3) <|
.ite (.cmp .lt (.v 3) (.z 15)) (.lett (.sub (.z 511) (.v 1)) <|
.lett (.sub (.v 4) (.v 2)) <|
.call 53 [.i (some (0, 2))] [.l (.nil), .i (.v 5)] <|
.ret (.int .i64 (.v 6))) <|
.lett (.sub (.v 3) (.z 15)) <|
.ite (.cmp .le (.v 4) (.v 3)) (.ite (.cmp .le (.v 3) (.v 3)) (.letl (.subS 0 3 (.v 4) (.v 3)) <|
.lett (.sub (.z 511) (.v 1)) <|
.lett (.sub (.v 6) (.v 2)) <|
.call 53 [.i (some (0, 2))] [.l (.v 5), .i (.v 7)] <|
.ret (.int .i64 (.v 8))) <|
.bad 120) <|
.bad 121
noncomputable def nnear_cx : Ctx := { tys := tys, fns := fns, mets := mets, sps := [(51, nfrom_sp), (53, neach_sp)], anns := [], trys := [] }
def nnear_ivs : List (Option (Int × Int)) := [none]
set_option maxRecDepth 100000 in
theorem nnear_walk : runFn nnear_cx 3000 40 Tryd.f40 nnear_sp.args nnear_ivs = nnear_tree := by kernel_rfl
noncomputable def nnear_M : Nat → SpecSem
  | 51 => nfrom_sem
  | 53 => neach_sem
  | _ => noSem
theorem nnear_M51 : nnear_M 51 = nfrom_sem := rfl
theorem nnear_M53 : nnear_M 53 = neach_sem := rfl
theorem nnear_cxok : CxOK Tryd.prog nnear_cx nnear_M := ⟨tysOK, fnsOK, spCons nfrom_ok <| spCons neach_ok <| fun _ _ h => spNil h, mixedOK, fun _ _ h => trNil h, fun _ _ h => atNil h, metsOK, fun _ _ h => efNil h, fun _ _ h => lsNil h⟩
set_option maxRecDepth 100000 in
set_option maxHeartbeats 8000000 in
theorem nnear_den (R RP : Value → Prop) (F : Ex → St → Js → Env → Prop) (J : Js) (x0 : List Int) : Tree.den nnear_M R RP F nnear_tree J [(.l x0)] = (
  (nfrom_sem.pre [(.i (2 : Int))]) ∧ (
∀ x1 : Int, x1 = (Cv.int (Env.get (nfrom_sem.out [(.i (2 : Int))]) 0)) → (0 : Int) ≤ x1 → x1 ≤ (511 : Int) →
∀ x2 : Int, x2 = (Cv.int (Env.get (nfrom_sem.out [(.i (2 : Int))]) 1)) → (0 : Int) ≤ x2 → x2 ≤ (511 : Int) →
∀ x3 : Int, x3 = (((List.length x0 / 3 : Nat) : Int)) →
((Cmp.den .lt x3 (15 : Int)) = true → ∀ x4 : Int, x4 = ((511 : Int) - x1) →
∀ x5 : Int, x5 = (x4 - x2) →
(neach_sem.pre [(.l (([] : List Int))), (.i x5)]) ∧ (
∀ x6 : Int, x6 = (Cv.int (Env.get (neach_sem.out [(.l (([] : List Int))), (.i x5)]) 0)) → (0 : Int) ≤ x6 → x6 ≤ (2 : Int) →
R (Value.int .i64 x6))) ∧ ((Cmp.den .lt x3 (15 : Int)) = false → ∀ x4 : Int, x4 = (x3 - (15 : Int)) →
((Cmp.den .le x4 x3) = true → ((Cmp.den .le x3 x3) = true → ∀ x5 : List Int, x5 = (List.take ((Int.toNat x3 - Int.toNat x4) * 3) (List.drop (Int.toNat x4 * 3) x0)) →
∀ x6 : Int, x6 = ((511 : Int) - x1) →
∀ x7 : Int, x7 = (x6 - x2) →
(neach_sem.pre [(.l (x5)), (.i x7)]) ∧ (
∀ x8 : Int, x8 = (Cv.int (Env.get (neach_sem.out [(.l (x5)), (.i x7)]) 0)) → (0 : Int) ≤ x8 → x8 ≤ (2 : Int) →
R (Value.int .i64 x8))) ∧ ((Cmp.den .le x3 x3) = false → False)) ∧ ((Cmp.den .le x4 x3) = false → False)))) := by kernel_rfl

noncomputable def nnear_sem : SpecSem := { pre := fun cs => match cs with | [.l l] => InI l ∧ (IsP l) | _ => False, out := fun cs => match cs with | [.l l] => [.i (ruleV G7 15 (mks l))] | _ => [] }
set_option maxRecDepth 10000 in
set_option maxHeartbeats 16000000 in
theorem nnear_ok : SpecOK Tryd.prog 40 nnear_sp nnear_sem := by
  refine spec_of_tree nnear_cxok Tryd.func40 (by kernel_rfl) (by kernel_rfl) nnear_walk rfl ?_
  intro cs hpre
  match cs, hpre with
  | [.l l], ⟨j_l, hx⟩ =>
    refine ⟨rfl, IvsB.ok (by simp only [nnear_ivs, IvsB, Cv.int, and_true, j_l, true_and] <;> omega), ?_, ?_⟩
    · simp only [nnear_sem, nnear_sp, Fits, and_true]; exact ruleV_rng _ _ _
    · rw [nnear_den]
      obtain ⟨ms, rfl, hm, hl⟩ := hx
      simp only [nnear_sem, nnear_sp, nfrom_sem, neach_sem, nnear_den, nfrom_sem, neach_sem, Tree.den, LE.den, Cv.list, placeA, List.getElem?_cons_zero, List.getElem?_cons_succ, IE.den, BE.den, At.den, CA.den, Env.get, Cv.int, Cv.bool, List.cons_append, List.nil_append, List.map_cons, List.map_nil, bindRes, bindEq, Fits, SV.den, denL, place, placeL, eq_t, eq_f, lt_t, lt_f, le_t, le_f, beq_iff_eq, beq_eq_false_iff_ne, ne_eq, reduceCtorEq, b_dec, decide_eq_true_eq, decide_eq_false_iff_not, Bool.not_eq_false', Bool.or_eq_true, Bool.or_eq_false_iff, Bool.and_eq_false_iff, true_iff, false_iff, Bool.false_eq_true, Bool.not_eq_true', Bool.and_eq_true, Bool.not_true, Bool.not_false, List.cons.injEq, Cv.i.injEq, Cv.b.injEq, and_true, true_and, agg_inj, tup_inj, Value.int.injEq, Value.bool.injEq, mks_pt, pt_cnt, a2, b2, n56, n56a, forall_eq, eq_self, if_true, if_false, true_and, and_true, false_and, and_false, true_or, or_true, false_or, or_false, true_iff, iff_true, false_iff, iff_false, not_true_eq_false, not_false_eq_true, true_implies, false_implies, implies_true, forall_const, decide_true, decide_false, reduceCtorEq]
      have hn := eachV_nil
      rcases Nat.lt_or_ge ms.length 15 with h | h
      · have hfin := ruleV_few (G := G7) h
        simp only [mks_nil, hn, hfin, Int.lt_irrefl, if_false]
        (repeat' (first | exact isP_nil | exact inI_nil | intro _ | refine And.intro ?_ ?_)) <;> first | exact trivial | omega
      · have hL := last_pt (ms := ms) (n := 15) 15 rfl (by omega)
        have hI : InI (ptOf (lst 15 ms)) := hL ▸ inI_sub j_l _ _
        have hP := isP_lst (n := 15) hm hl
        have hq := lst_mem (n := 15) hm
        have hne := lst_ne h (by omega)
        have hfin : eachV (lst 15 ms) 56 = ruleV G7 15 ms := by rw [ruleV_of h]; exact each_row hq ⟨by omega, by omega⟩ (fun c => h56) hne
        simp only [hL, mks_pt]
        (repeat' (first | exact hI | exact hP | exact hfin | intro _ | refine And.intro ?_ ?_)) <;> omega
def nfar_sp : SpecSh := { args := [(.sptr 0 (.z 0) 1003 0)], res := (.int .i64 (.z 0)), sh := [.i (some (0, 2))] }
set_option maxRecDepth 100000 in
def nfar_tree : Tree :=
.call 51 [.i (some (0, 511)), .i (some (0, 511))] [.i (.z 2)] <|
.lett (.cnt 0 3) <|
.ite (.cmp .lt (.v 3) (.z 8)) (.lett (.bit .or .i64 (.v 1) (.v 2)) <|
.call 53 [.i (some (0, 2))] [.l (.nil), .i (.v 4)] <|
.ret (.int .i64 (.v 5))) <|
.lett (.sub (.v 3) (.z 8)) <|
.ite (.cmp .le (.v 4) (.v 3)) (.ite (.cmp .le (.v 3) (.v 3)) (.letl (.subS 0 3 (.v 4) (.v 3)) <|
.lett (.bit .or .i64 (.v 1) (.v 2)) <|
.call 53 [.i (some (0, 2))] [.l (.v 5), .i (.v 6)] <|
.ret (.int .i64 (.v 7))) <|
.bad 120) <|
.bad 121
noncomputable def nfar_cx : Ctx := { tys := tys, fns := fns, mets := mets, sps := [(51, nfrom_sp), (53, neach_sp)], anns := [], trys := [] }
def nfar_ivs : List (Option (Int × Int)) := [none]
set_option maxRecDepth 100000 in
theorem nfar_walk : runFn nfar_cx 3000 41 Tryd.f41 nfar_sp.args nfar_ivs = nfar_tree := by kernel_rfl
noncomputable def nfar_M : Nat → SpecSem
  | 51 => nfrom_sem
  | 53 => neach_sem
  | _ => noSem
theorem nfar_M51 : nfar_M 51 = nfrom_sem := rfl
theorem nfar_M53 : nfar_M 53 = neach_sem := rfl
theorem nfar_cxok : CxOK Tryd.prog nfar_cx nfar_M := ⟨tysOK, fnsOK, spCons nfrom_ok <| spCons neach_ok <| fun _ _ h => spNil h, mixedOK, fun _ _ h => trNil h, fun _ _ h => atNil h, metsOK, fun _ _ h => efNil h, fun _ _ h => lsNil h⟩
set_option maxRecDepth 100000 in
set_option maxHeartbeats 8000000 in
theorem nfar_den (R RP : Value → Prop) (F : Ex → St → Js → Env → Prop) (J : Js) (x0 : List Int) : Tree.den nfar_M R RP F nfar_tree J [(.l x0)] = (
  (nfrom_sem.pre [(.i (2 : Int))]) ∧ (
∀ x1 : Int, x1 = (Cv.int (Env.get (nfrom_sem.out [(.i (2 : Int))]) 0)) → (0 : Int) ≤ x1 → x1 ≤ (511 : Int) →
∀ x2 : Int, x2 = (Cv.int (Env.get (nfrom_sem.out [(.i (2 : Int))]) 1)) → (0 : Int) ≤ x2 → x2 ≤ (511 : Int) →
∀ x3 : Int, x3 = (((List.length x0 / 3 : Nat) : Int)) →
((Cmp.den .lt x3 (8 : Int)) = true → ∀ x4 : Int, x4 = (bitDen .or .i64 x1 x2) →
(neach_sem.pre [(.l (([] : List Int))), (.i x4)]) ∧ (
∀ x5 : Int, x5 = (Cv.int (Env.get (neach_sem.out [(.l (([] : List Int))), (.i x4)]) 0)) → (0 : Int) ≤ x5 → x5 ≤ (2 : Int) →
R (Value.int .i64 x5))) ∧ ((Cmp.den .lt x3 (8 : Int)) = false → ∀ x4 : Int, x4 = (x3 - (8 : Int)) →
((Cmp.den .le x4 x3) = true → ((Cmp.den .le x3 x3) = true → ∀ x5 : List Int, x5 = (List.take ((Int.toNat x3 - Int.toNat x4) * 3) (List.drop (Int.toNat x4 * 3) x0)) →
∀ x6 : Int, x6 = (bitDen .or .i64 x1 x2) →
(neach_sem.pre [(.l (x5)), (.i x6)]) ∧ (
∀ x7 : Int, x7 = (Cv.int (Env.get (neach_sem.out [(.l (x5)), (.i x6)]) 0)) → (0 : Int) ≤ x7 → x7 ≤ (2 : Int) →
R (Value.int .i64 x7))) ∧ ((Cmp.den .le x3 x3) = false → False)) ∧ ((Cmp.den .le x4 x3) = false → False)))) := by kernel_rfl

noncomputable def nfar_sem : SpecSem := { pre := fun cs => match cs with | [.l l] => InI l ∧ (IsP l) | _ => False, out := fun cs => match cs with | [.l l] => [.i (ruleV G8 8 (mks l))] | _ => [] }
set_option maxRecDepth 10000 in
set_option maxHeartbeats 16000000 in
theorem nfar_ok : SpecOK Tryd.prog 41 nfar_sp nfar_sem := by
  refine spec_of_tree nfar_cxok Tryd.func41 (by kernel_rfl) (by kernel_rfl) nfar_walk rfl ?_
  intro cs hpre
  match cs, hpre with
  | [.l l], ⟨j_l, hx⟩ =>
    refine ⟨rfl, IvsB.ok (by simp only [nfar_ivs, IvsB, Cv.int, and_true, j_l, true_and] <;> omega), ?_, ?_⟩
    · simp only [nfar_sem, nfar_sp, Fits, and_true]; exact ruleV_rng _ _ _
    · rw [nfar_den]
      obtain ⟨ms, rfl, hm, hl⟩ := hx
      simp only [nfar_sem, nfar_sp, nfrom_sem, neach_sem, nfar_den, nfrom_sem, neach_sem, Tree.den, LE.den, Cv.list, placeA, List.getElem?_cons_zero, List.getElem?_cons_succ, IE.den, BE.den, At.den, CA.den, Env.get, Cv.int, Cv.bool, List.cons_append, List.nil_append, List.map_cons, List.map_nil, bindRes, bindEq, Fits, SV.den, denL, place, placeL, eq_t, eq_f, lt_t, lt_f, le_t, le_f, beq_iff_eq, beq_eq_false_iff_ne, ne_eq, reduceCtorEq, b_dec, decide_eq_true_eq, decide_eq_false_iff_not, Bool.not_eq_false', Bool.or_eq_true, Bool.or_eq_false_iff, Bool.and_eq_false_iff, true_iff, false_iff, Bool.false_eq_true, Bool.not_eq_true', Bool.and_eq_true, Bool.not_true, Bool.not_false, List.cons.injEq, Cv.i.injEq, Cv.b.injEq, and_true, true_and, agg_inj, tup_inj, Value.int.injEq, Value.bool.injEq, mks_pt, pt_cnt, a2, b2, o22, forall_eq, eq_self, if_true, if_false, true_and, and_true, false_and, and_false, true_or, or_true, false_or, or_false, true_iff, iff_true, false_iff, iff_false, not_true_eq_false, not_false_eq_true, true_implies, false_implies, implies_true, forall_const, decide_true, decide_false, reduceCtorEq]
      have hn := eachV_nil
      rcases Nat.lt_or_ge ms.length 8 with h | h
      · have hfin := ruleV_few (G := G8) h
        simp only [mks_nil, hn, hfin, Int.lt_irrefl, if_false]
        (repeat' (first | exact isP_nil | exact inI_nil | intro _ | refine And.intro ?_ ?_)) <;> first | exact trivial | omega
      · have hL := last_pt (ms := ms) (n := 8) 8 rfl (by omega)
        have hI : InI (ptOf (lst 8 ms)) := hL ▸ inI_sub j_l _ _
        have hP := isP_lst (n := 8) hm hl
        have hq := lst_mem (n := 8) hm
        have hne := lst_ne h (by omega)
        have hfin : eachV (lst 8 ms) 455 = ruleV G8 8 ms := by rw [ruleV_of h]; exact each_row hq ⟨by omega, by omega⟩ (fun c => h455) hne
        simp only [hL, mks_pt]
        (repeat' (first | exact hI | exact hP | exact hfin | intro _ | refine And.intro ?_ ?_)) <;> omega
end Go.Proofs.YtmnpeneplobpdaaDoor.X
