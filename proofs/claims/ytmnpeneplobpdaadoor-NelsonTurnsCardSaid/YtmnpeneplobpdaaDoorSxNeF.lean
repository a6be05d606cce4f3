/-
  nelson's rules that count: two, four.
-/
import Derived.Test.YtmnpeneplobpdaaDoorSxNeE
import Derived.Test.YtmnpeneplobpdaaDoorSxNeStep
namespace Go.Proofs.YtmnpeneplobpdaaDoor.X
open Go Go.SX Go.RowKit
set_option linter.unusedVariables false
set_option linter.unusedSimpArgs false








noncomputable def ncn_sem : SpecSem := ncnt_sem 20
theorem ncn_ok : EfOK Tryd.prog 63 ncnt_ef ncn_sem := ncnt_ok 20
noncomputable def cntV (u v n : Int) (ms : List Int) : Int := val3 (ms ≠ [] ∧ AllC u v n 0 0 ms) (ms ≠ [] ∧ ExC u v n 0 0 ms)
def ncount_sp : SpecSh := { args := [(.sptr 0 (.z 0) 1003 0), (.int .i64 (.z 0)), (.int .i64 (.z 0)), (.int .i64 (.z 0))], res := (.int .i64 (.z 0)), sh := [.i (some (0, 2))] }
set_option maxRecDepth 100000 in
def ncount_tree : Tree :=
.lett (.cnt 0 3) <|
.ite (.cmp .lt (.z 0) (.v 4)) (.call 63 [.b, .b] [.l (.v 0), .i (.z 0), .i (.z 0), .i (.v 1), .b (.cmp .lt (.z 0) (.v 4)), .b .f, .i (.v 2), .i (.v 3)] <|
.call 62 [.i (some (0, 2))] [.b (.v 5), .b (.v 6)] <|
.ret (.int .i64 (.v 7))) <|
.call 62 [.i (some (0, 2))] [.b (.cmp .lt (.z 0) (.v 4)), .b .f] <|
.ret (.int .i64 (.v 5))
noncomputable def ncount_cx : Ctx := { tys := tys, fns := fns, mets := mets, sps := [(62, nsure_sp)], anns := [], trys := [], efs := [(63, ncnt_ef)] }
def ncount_ivs : List (Option (Int × Int)) := [none, some ((-9223372036854775808), 9223372036854775807), some ((-9223372036854775808), 9223372036854775807), some ((-9223372036854775808), 9223372036854775807)]
set_option maxRecDepth 100000 in
theorem ncount_walk : runFn ncount_cx 3000 60 Tryd.f60 ncount_sp.args ncount_ivs = ncount_tree := by kernel_rfl
noncomputable def ncount_M : Nat → SpecSem
  | 62 => nsure_sem
  | 63 => ncn_sem
  | _ => noSem
theorem ncount_M62 : ncount_M 62 = nsure_sem := rfl
theorem ncount_M63 : ncount_M 63 = ncn_sem := rfl
theorem ncount_cxok : CxOK Tryd.prog ncount_cx ncount_M := ⟨tysOK, fnsOK, spCons nsure_ok <| fun _ _ h => spNil h, mixedOK, fun _ _ h => trNil h, fun _ _ h => atNil h, metsOK, efCons ncn_ok <| fun _ _ h => efNil h, fun _ _ h => lsNil h⟩
set_option maxRecDepth 100000 in
set_option maxHeartbeats 8000000 in
theorem ncount_den (R RP : Value → Prop) (F : Ex → St → Js → Env → Prop) (J : Js) (x0 : List Int) (x1 : Int) (x2 : Int) (x3 : Int) : Tree.den ncount_M R RP F ncount_tree J [(.l x0), (.i x1), (.i x2), (.i x3)] = (
  ∀ x4 : Int, x4 = (((List.length x0 / 3 : Nat) : Int)) →
((Cmp.den .lt (0 : Int) x4) = true → (ncn_sem.pre [(.l (x0)), (.i (0 : Int)), (.i (0 : Int)), (.i x1), (.b (Cmp.den .lt (0 : Int) x4)), (.b false), (.i x2), (.i x3)]) ∧ (
(nsure_sem.pre [(.b (Cv.bool (Env.get (ncn_sem.out [(.l (x0)), (.i (0 : Int)), (.i (0 : Int)), (.i x1), (.b (Cmp.den .lt (0 : Int) x4)), (.b false), (.i x2), (.i x3)]) 0))), (.b (Cv.bool (Env.get (ncn_sem.out [(.l (x0)), (.i (0 : Int)), (.i (0 : Int)), (.i x1), (.b (Cmp.den .lt (0 : Int) x4)), (.b false), (.i x2), (.i x3)]) 1)))]) ∧ (
∀ x7 : Int, x7 = (Cv.int (Env.get (nsure_sem.out [(.b (Cv.bool (Env.get (ncn_sem.out [(.l (x0)), (.i (0 : Int)), (.i (0 : Int)), (.i x1), (.b (Cmp.den .lt (0 : Int) x4)), (.b false), (.i x2), (.i x3)]) 0))), (.b (Cv.bool (Env.get (ncn_sem.out [(.l (x0)), (.i (0 : Int)), (.i (0 : Int)), (.i x1), (.b (Cmp.den .lt (0 : Int) x4)), (.b false), (.i x2), (.i x3)]) 1)))]) 0)) → (0 : Int) ≤ x7 → x7 ≤ (2 : Int) →
R (Value.int .i64 x7)))) ∧ ((Cmp.den .lt (0 : Int) x4) = false → (nsure_sem.pre [(.b (Cmp.den .lt (0 : Int) x4)), (.b false)]) ∧ (
∀ x5 : Int, x5 = (Cv.int (Env.get (nsure_sem.out [(.b (Cmp.den .lt (0 : Int) x4)), (.b false)]) 0)) → (0 : Int) ≤ x5 → x5 ≤ (2 : Int) →
R (Value.int .i64 x5)))) := by kernel_rfl

noncomputable def ncount_sem : SpecSem := { pre := fun cs => match cs with | [.l l, .i n, .i u, .i v] => InI l ∧ IsI n ∧ IsI u ∧ IsI v ∧ (IsP l ∧ (0 ≤ n ∧ n ≤ 100) ∧ IsM0 u ∧ IsM0 v ∧ ∀ c, ¬ (has u c ∧ has v c)) | _ => False, out := fun cs => match cs with | [.l l, .i n, .i u, .i v] => [.i (cntV u v n (mks l))] | _ => [] }
set_option maxRecDepth 10000 in
set_option maxHeartbeats 16000000 in
theorem ncount_ok : SpecOK Tryd.prog 60 ncount_sp ncount_sem := by
  refine spec_of_tree ncount_cxok Tryd.func60 (by kernel_rfl) (by kernel_rfl) ncount_walk rfl ?_
  intro cs hpre
  match cs, hpre with
  | [.l l, .i n, .i u, .i v], ⟨j_l, j_n, j_u, j_v, hx⟩ =>
    have h_n := j_n
    unfold IsI at h_n
    have h_u := j_u
    unfold IsI at h_u
    have h_v := j_v
    unfold IsI at h_v
    refine ⟨rfl, IvsB.ok (by simp only [ncount_ivs, IvsB, Cv.int, and_true, j_l, true_and] <;> omega), ?_, ?_⟩
    · simp only [ncount_sem, ncount_sp, Fits, and_true]; exact val3_rng _ _
    · rw [ncount_den]
      obtain ⟨⟨ms, rfl, hm, hl⟩, hn, hu, hv, hd⟩ := hx
      have hP : IsP (ptOf ms) := ⟨ms, rfl, hm, hl⟩
      have hL : ms.length < 20 := by omega
      have hb : (0 : Int) + (ms.length : Int) ≤ 100 := by omega
      rcases Decidable.em (0 < (ms.length : Int)) with h | h
      · have hne := ne_len.1 h
        have hlt : Cmp.lt.den 0 (ms.length : Int) = true := lt_t.2 h
        have hle : ((ms.length : Int) ≤ 0) = False := eq_false (by omega)
        simp only [ncount_sem, ncount_sp, ncn_sem, ncnt_sem, nsure_sem, ncount_den, nsure_sem, ncn_sem, Tree.den, LE.den, Cv.list, placeA, List.getElem?_cons_zero, List.getElem?_cons_succ, IE.den, BE.den, At.den, CA.den, Env.get, Cv.int, Cv.bool, List.cons_append, List.nil_append, List.map_cons, List.map_nil, bindRes, bindEq, Fits, SV.den, denL, place, placeL, eq_t, eq_f, lt_t, lt_f, le_t, le_f, beq_iff_eq, beq_eq_false_iff_ne, ne_eq, reduceCtorEq, b_dec, decide_eq_true_eq, decide_eq_false_iff_not, Bool.not_eq_false', Bool.or_eq_true, Bool.or_eq_false_iff, Bool.and_eq_false_iff, true_iff, false_iff, Bool.false_eq_true, Bool.not_eq_true', Bool.and_eq_true, Bool.not_true, Bool.not_false, List.cons.injEq, Cv.i.injEq, Cv.b.injEq, and_true, true_and, agg_inj, tup_inj, Value.int.injEq, Value.bool.injEq, mks_pt, pt_cnt, hP, hL, hb, hn, hu, hv, hd, hlt, h, hle, Int.le_refl, Bool.false_or, forall_eq, eq_self, if_true, if_false, true_and, and_true, false_and, and_false, true_or, or_true, false_or, or_false, true_iff, iff_true, false_iff, iff_false, not_true_eq_false, not_false_eq_true, true_implies, false_implies, implies_true, forall_const, decide_true, decide_false, reduceCtorEq]
        intros
        exact val3_bool (dec_iff.trans ⟨fun q => ⟨hne, q⟩, fun q => q.2⟩) (dec_iff.trans ⟨fun q => ⟨hne, q⟩, fun q => q.2⟩)
      · have hne : ¬ ms ≠ [] := fun q => h (ne_len.2 q)
        have hlt : Cmp.lt.den 0 (ms.length : Int) = false := lt_f.2 (by omega)
        have hle : ((ms.length : Int) ≤ 0) = True := eq_true (by omega)
        have hc : cntV u v n ms = 0 := by unfold cntV val3; simp only [hne, false_and, if_false]
        simp only [ncount_sem, ncount_sp, ncn_sem, ncnt_sem, nsure_sem, ncount_den, nsure_sem, ncn_sem, Tree.den, LE.den, Cv.list, placeA, List.getElem?_cons_zero, List.getElem?_cons_succ, IE.den, BE.den, At.den, CA.den, Env.get, Cv.int, Cv.bool, List.cons_append, List.nil_append, List.map_cons, List.map_nil, bindRes, bindEq, Fits, SV.den, denL, place, placeL, eq_t, eq_f, lt_t, lt_f, le_t, le_f, beq_iff_eq, beq_eq_false_iff_ne, ne_eq, reduceCtorEq, b_dec, decide_eq_true_eq, decide_eq_false_iff_not, Bool.not_eq_false', Bool.or_eq_true, Bool.or_eq_false_iff, Bool.and_eq_false_iff, true_iff, false_iff, Bool.false_eq_true, Bool.not_eq_true', Bool.and_eq_true, Bool.not_true, Bool.not_false, List.cons.injEq, Cv.i.injEq, Cv.b.injEq, and_true, true_and, agg_inj, tup_inj, Value.int.injEq, Value.bool.injEq, mks_pt, pt_cnt, hc, hlt, h, hle, Int.le_refl, Bool.false_eq_true, forall_eq, eq_self, if_true, if_false, true_and, and_true, false_and, and_false, true_or, or_true, false_or, or_false, true_iff, iff_true, false_iff, iff_false, not_true_eq_false, not_false_eq_true, true_implies, false_implies, implies_true, forall_const, decide_true, decide_false, reduceCtorEq]

theorem cntU_eq {u : Int} {P : Int → Prop} [DecidablePred P] {row : List Int} (h : ∀ c ∈ row, has u c ↔ P c) : cntU u row = (row.filter fun c => decide (P c)).length := by
  unfold cntU
  have e : ∀ c ∈ row, decide (has u c) = decide (P c) := fun c hc => decide_eq_decide.2 (h c hc)
  rw [List.filter_congr e]
theorem row_rng {ms row : List Int} (h : Row ms row) : ∀ c ∈ row, -4 ≤ c ∧ c ≤ 4 := fun c hc => by
  obtain ⟨j, hj, rfl⟩ := mem_getD hc
  exact has_rng (h.2 j (by rw [← h.1]; exact hj))
theorem gd_row {u v n t : Int} {ms row : List Int} (hr : Row ms row) (hu : ∀ c, -4 ≤ c → c ≤ 4 → (has u c ↔ t ≤ c)) (hv : ∀ c, -4 ≤ c → c ≤ 4 → (has v c ↔ c ≤ -t)) : Gd u v n 0 0 row ↔ (n ≤ (nge t row : Int) ∨ n ≤ (nle t row : Int)) := by
  unfold Gd nge nle
  rw [cntU_eq (u := u) (P := fun c => t ≤ c) fun c hc => hu c (row_rng hr c hc).1 (row_rng hr c hc).2, cntU_eq (u := v) (P := fun c => c ≤ -t) fun c hc => hv c (row_rng hr c hc).1 (row_rng hr c hc).2, Int.zero_add, Int.zero_add]
theorem cnt_row {u v n t : Int} {ms : List Int} (hu : ∀ c, -4 ≤ c → c ≤ 4 → (has u c ↔ t ≤ c)) (hv : ∀ c, -4 ≤ c → c ≤ 4 → (has v c ↔ c ≤ -t)) (hne : ms ≠ []) :
    cntV u v n ms = val3 (∀ row, Row ms row → (n ≤ (nge t row : Int) ∨ n ≤ (nle t row : Int))) (∃ row, Row ms row ∧ (n ≤ (nge t row : Int) ∨ n ≤ (nle t row : Int))) := by
  unfold cntV AllC ExC
  refine val3_congr ⟨fun h row hr => (gd_row hr hu hv).1 (h.2 row hr), fun h => ⟨hne, fun row hr => (gd_row hr hu hv).2 (h row hr)⟩⟩ ⟨?_, ?_⟩
  · rintro ⟨_, row, hr, h⟩; exact ⟨row, hr, (gd_row hr hu hv).1 h⟩
  · rintro ⟨row, hr, h⟩; exact ⟨hne, row, hr, (gd_row hr hu hv).2 h⟩
theorem cntV_nil (u v n : Int) : cntV u v n [] = 0 := by unfold cntV val3; simp
theorem d384 : ∀ c, ¬ (has 384 c ∧ has 3 c) := fun c h => by
  have h1 := h.1.1
  have e1 := h.1; have e2 := h.2
  rw [← a3, has_above (by omega) (by omega) h1] at e1
  rw [← b3, has_below (by omega) (by omega) h1] at e2
  omega
def ntwo_sp : SpecSh := { args := [(.sptr 0 (.z 0) 1003 0)], res := (.int .i64 (.z 0)), sh := [.i (some (0, 2))] }
set_option maxRecDepth 100000 in
def ntwo_tree : Tree :=
.call 51 [.i (some (0, 511)), .i (some (0, 511))] [.i (.z 3)] <|
.lett (.cnt 0 3) <|
.ite (.cmp .lt (.v 3) (.z 3)) (.call 60 [.i (some (0, 2))] [.l (.nil), .i (.z 2), .i (.v 1), .i (.v 2)] <|
.ret (.int .i64 (.v 4))) <|
.lett (.sub (.v 3) (.z 3)) <|
.ite (.cmp .le (.v 4) (.v 3)) (.ite (.cmp .le (.v 3) (.v 3)) (.letl (.subS 0 3 (.v 4) (.v 3)) <|
.call 60 [.i (some (0, 2))] [.l (.v 5), .i (.z 2), .i (.v 1), .i (.v 2)] <|
.ret (.int .i64 (.v 6))) <|
.bad 120) <|
.bad 121
noncomputable def ntwo_cx : Ctx := { tys := tys, fns := fns, mets := mets, sps := [(51, nfrom_sp), (60, ncount_sp)], anns := [], trys := [] }
def ntwo_ivs : List (Option (Int × Int)) := [none]
set_option maxRecDepth 100000 in
theorem ntwo_walk : runFn ntwo_cx 3000 38 Tryd.f38 ntwo_sp.args ntwo_ivs = ntwo_tree := by kernel_rfl
noncomputable def ntwo_M : Nat → SpecSem
  | 51 => nfrom_sem
  | 60 => ncount_sem
  | _ => noSem
theorem ntwo_M51 : ntwo_M 51 = nfrom_sem := rfl
theorem ntwo_M60 : ntwo_M 60 = ncount_sem := rfl
theorem ntwo_cxok : CxOK Tryd.prog ntwo_cx ntwo_M := ⟨tysOK, fnsOK, spCons nfrom_ok <| spCons ncount_ok <| fun _ _ h => spNil h, mixedOK, fun _ _ h => trNil h, fun _ _ h => atNil h, metsOK, fun _ _ h => efNil h, fun _ _ h => lsNil h⟩
set_option maxRecDepth 100000 in
set_option maxHeartbeats 8000000 in
theorem ntwo_den (R RP : Value → Prop) (F : Ex → St → Js → Env → Prop) (J : Js) (x0 : List Int) : Tree.den ntwo_M R RP F ntwo_tree J [(.l x0)] = (
  (nfrom_sem.pre [(.i (3 : Int))]) ∧ (
∀ x1 : Int, x1 = (Cv.int (Env.get (nfrom_sem.out [(.i (3 : Int))]) 0)) → (0 : Int) ≤ x1 → x1 ≤ (511 : Int) →
∀ x2 : Int, x2 = (Cv.int (Env.get (nfrom_sem.out [(.i (3 : Int))]) 1)) → (0 : Int) ≤ x2 → x2 ≤ (511 : Int) →
∀ x3 : Int, x3 = (((List.length x0 / 3 : Nat) : Int)) →
((Cmp.den .lt x3 (3 : Int)) = true → (ncount_sem.pre [(.l (([] : List Int))), (.i (2 : Int)), (.i x1), (.i x2)]) ∧ (
∀ x4 : Int, x4 = (Cv.int (Env.get (ncount_sem.out [(.l (([] : List Int))), (.i (2 : Int)), (.i x1), (.i x2)]) 0)) → (0 : Int) ≤ x4 → x4 ≤ (2 : Int) →
R (Value.int .i64 x4))) ∧ ((Cmp.den .lt x3 (3 : Int)) = false → ∀ x4 : Int, x4 = (x3 - (3 : Int)) →
((Cmp.den .le x4 x3) = true → ((Cmp.den .le x3 x3) = true → ∀ x5 : List Int, x5 = (List.take ((Int.toNat x3 - Int.toNat x4) * 3) (List.drop (Int.toNat x4 * 3) x0)) →
(ncount_sem.pre [(.l (x5)), (.i (2 : Int)), (.i x1), (.i x2)]) ∧ (
∀ x6 : Int, x6 = (Cv.int (Env.get (ncount_sem.out [(.l (x5)), (.i (2 : Int)), (.i x1), (.i x2)]) 0)) → (0 : Int) ≤ x6 → x6 ≤ (2 : Int) →
R (Value.int .i64 x6))) ∧ ((Cmp.den .le x3 x3) = false → False)) ∧ ((Cmp.den .le x4 x3) = false → False)))) := by kernel_rfl

noncomputable def ntwo_sem : SpecSem := { pre := fun cs => match cs with | [.l l] => InI l ∧ (IsP l) | _ => False, out := fun cs => match cs with | [.l l] => [.i (ruleV G5 3 (mks l))] | _ => [] }
set_option maxRecDepth 10000 in
set_option maxHeartbeats 16000000 in
theorem ntwo_ok : SpecOK Tryd.prog 38 ntwo_sp ntwo_sem := by
  refine spec_of_tree ntwo_cxok Tryd.func38 (by kernel_rfl) (by kernel_rfl) ntwo_walk rfl ?_
  intro cs hpre
  match cs, hpre with
  | [.l l], ⟨j_l, hx⟩ =>
    refine ⟨rfl, IvsB.ok (by simp only [ntwo_ivs, IvsB, Cv.int, and_true, j_l, true_and] <;> omega), ?_, ?_⟩
    · simp only [ntwo_sem, ntwo_sp, Fits, and_true]; exact ruleV_rng _ _ _
    · rw [ntwo_den]
      obtain ⟨ms, rfl, hm, hl⟩ := hx
      have hn := cntV_nil
      have hd := d384
      simp only [ntwo_sem, ntwo_sp, nfrom_sem, ncount_sem, ntwo_den, nfrom_sem, ncount_sem, Tree.den, LE.den, Cv.list, placeA, List.getElem?_cons_zero, List.getElem?_cons_succ, IE.den, BE.den, At.den, CA.den, Env.get, Cv.int, Cv.bool, List.cons_append, List.nil_append, List.map_cons, List.map_nil, bindRes, bindEq, Fits, SV.den, denL, place, placeL, eq_t, eq_f, lt_t, lt_f, le_t, le_f, beq_iff_eq, beq_eq_false_iff_ne, ne_eq, reduceCtorEq, b_dec, decide_eq_true_eq, decide_eq_false_iff_not, Bool.not_eq_false', Bool.or_eq_true, Bool.or_eq_false_iff, Bool.and_eq_false_iff, true_iff, false_iff, Bool.false_eq_true, Bool.not_eq_true', Bool.and_eq_true, Bool.not_true, Bool.not_false, List.cons.injEq, Cv.i.injEq, Cv.b.injEq, and_true, true_and, agg_inj, tup_inj, Value.int.injEq, Value.bool.injEq, mks_pt, pt_cnt, a3, b3, forall_eq, eq_self, if_true, if_false, true_and, and_true, false_and, and_false, true_or, or_true, false_or, or_false, true_iff, iff_true, false_iff, iff_false, not_true_eq_false, not_false_eq_true, true_implies, false_implies, implies_true, forall_const, decide_true, decide_false, reduceCtorEq]
      rcases Nat.lt_or_ge ms.length 3 with h | h
      · have hfin := ruleV_few (G := G5) h
        simp only [mks_nil, hn, hfin]
        (repeat' (first | exact isP_nil | exact inI_nil | exact hd | intro _ | refine And.intro ?_ ?_)) <;> first | exact trivial | omega
      · have hL := last_pt (ms := ms) (n := 3) 3 rfl (by omega)
        have hI : InI (ptOf (lst 3 ms)) := hL ▸ inI_sub j_l _ _
        have hP := isP_lst (n := 3) hm hl
        have hq := lst_mem (n := 3) hm
        have hne := lst_ne h (by omega)
        have hfin : cntV 384 3 2 (lst 3 ms) = ruleV G5 3 ms := by
          rw [ruleV_of h, cnt_row (t := 3) (fun c h0 h1 => by have e := has_above (n := 3) (by omega) (by omega) ⟨h0, h1⟩; rw [a3] at e; exact e) (fun c h0 h1 => by have e := has_below (n := -3) (by omega) (by omega) ⟨h0, h1⟩; rw [b3] at e; exact e) hne]
          have e : ∀ row, (((2 : Int) ≤ (nge 3 row : Int) ∨ (2 : Int) ≤ (nle 3 row : Int)) ↔ G5 row) := fun row => by unfold G5; omega
          simp only [e]
        simp only [hL, mks_pt]
        (repeat' (first | exact hI | exact hP | exact hfin | exact hd | intro _ | refine And.intro ?_ ?_)) <;> omega
theorem d448 : ∀ c, ¬ (has 448 c ∧ has 7 c) := fun c h => by
  have h1 := h.1.1
  have e1 := h.1; have e2 := h.2
  rw [← a2, has_above (by omega) (by omega) h1] at e1
  rw [← b2, has_below (by omega) (by omega) h1] at e2
  omega
def nfour_sp : SpecSh := { args := [(.sptr 0 (.z 0) 1003 0)], res := (.int .i64 (.z 0)), sh := [.i (some (0, 2))] }
set_option maxRecDepth 100000 in
def nfour_tree : Tree :=
.call 51 [.i (some (0, 511)), .i (some (0, 511))] [.i (.z 2)] <|
.lett (.cnt 0 3) <|
.ite (.cmp .lt (.v 3) (.z 5)) (.call 60 [.i (some (0, 2))] [.l (.nil), .i (.z 4), .i (.v 1), .i (.v 2)] <|
.ret (.int .i64 (.v 4))) <|
.lett (.sub (.v 3) (.z 5)) <|
.ite (.cmp .le (.v 4) (.v 3)) (.ite (.cmp .le (.v 3) (.v 3)) (.letl (.subS 0 3 (.v 4) (.v 3)) <|
.call 60 [.i (some (0, 2))] [.l (.v 5), .i (.z 4), .i (.v 1), .i (.v 2)] <|
.ret (.int .i64 (.v 6))) <|
.bad 120) <|
.bad 121
noncomputable def nfour_cx : Ctx := { tys := tys, fns := fns, mets := mets, sps := [(51, nfrom_sp), (60, ncount_sp)], anns := [], trys := [] }
def nfour_ivs : List (Option (Int × Int)) := [none]
set_option maxRecDepth 100000 in
theorem nfour_walk : runFn nfour_cx 3000 39 Tryd.f39 nfour_sp.args nfour_ivs = nfour_tree := by kernel_rfl
noncomputable def nfour_M : Nat → SpecSem
  | 51 => nfrom_sem
  | 60 => ncount_sem
  | _ => noSem
theorem nfour_M51 : nfour_M 51 = nfrom_sem := rfl
theorem nfour_M60 : nfour_M 60 = ncount_sem := rfl
theorem nfour_cxok : CxOK Tryd.prog nfour_cx nfour_M := ⟨tysOK, fnsOK, spCons nfrom_ok <| spCons ncount_ok <| fun _ _ h => spNil h, mixedOK, fun _ _ h => trNil h, fun _ _ h => atNil h, metsOK, fun _ _ h => efNil h, fun _ _ h => lsNil h⟩
set_option maxRecDepth 100000 in
set_option maxHeartbeats 8000000 in
theorem nfour_den (R RP : Value → Prop) (F : Ex → St → Js → Env → Prop) (J : Js) (x0 : List Int) : Tree.den nfour_M R RP F nfour_tree J [(.l x0)] = (
  (nfrom_sem.pre [(.i (2 : Int))]) ∧ (
∀ x1 : Int, x1 = (Cv.int (Env.get (nfrom_sem.out [(.i (2 : Int))]) 0)) → (0 : Int) ≤ x1 → x1 ≤ (511 : Int) →
∀ x2 : Int, x2 = (Cv.int (Env.get (nfrom_sem.out [(.i (2 : Int))]) 1)) → (0 : Int) ≤ x2 → x2 ≤ (511 : Int) →
∀ x3 : Int, x3 = (((List.length x0 / 3 : Nat) : Int)) →
((Cmp.den .lt x3 (5 : Int)) = true → (ncount_sem.pre [(.l (([] : List Int))), (.i (4 : Int)), (.i x1), (.i x2)]) ∧ (
∀ x4 : Int, x4 = (Cv.int (Env.get (ncount_sem.out [(.l (([] : List Int))), (.i (4 : Int)), (.i x1), (.i x2)]) 0)) → (0 : Int) ≤ x4 → x4 ≤ (2 : Int) →
R (Value.int .i64 x4))) ∧ ((Cmp.den .lt x3 (5 : Int)) = false → ∀ x4 : Int, x4 = (x3 - (5 : Int)) →
((Cmp.den .le x4 x3) = true → ((Cmp.den .le x3 x3) = true → ∀ x5 : List Int, x5 = (List.take ((Int.toNat x3 - Int.toNat x4) * 3) (List.drop (Int.toNat x4 * 3) x0)) →
(ncount_sem.pre [(.l (x5)), (.i (4 : Int)), (.i x1), (.i x2)]) ∧ (
∀ x6 : Int, x6 = (Cv.int (Env.get (ncount_sem.out [(.l (x5)), (.i (4 : Int)), (.i x1), (.i x2)]) 0)) → (0 : Int) ≤ x6 → x6 ≤ (2 : Int) →
R (Value.int .i64 x6))) ∧ ((Cmp.den .le x3 x3) = false → False)) ∧ ((Cmp.den .le x4 x3) = false → False)))) := by kernel_rfl

noncomputable def nfour_sem : SpecSem := { pre := fun cs => match cs with | [.l l] => InI l ∧ (IsP l) | _ => False, out := fun cs => match cs with | [.l l] => [.i (ruleV G6 5 (mks l))] | _ => [] }
set_option maxRecDepth 10000 in
set_option maxHeartbeats 16000000 in
theorem nfour_ok : SpecOK Tryd.prog 39 nfour_sp nfour_sem := by
  refine spec_of_tree nfour_cxok Tryd.func39 (by kernel_rfl) (by kernel_rfl) nfour_walk rfl ?_
  intro cs hpre
  match cs, hpre with
  | [.l l], ⟨j_l, hx⟩ =>
    refine ⟨rfl, IvsB.ok (by simp only [nfour_ivs, IvsB, Cv.int, and_true, j_l, true_and] <;> omega), ?_, ?_⟩
    · simp only [nfour_sem, nfour_sp, Fits, and_true]; exact ruleV_rng _ _ _
    · rw [nfour_den]
      obtain ⟨ms, rfl, hm, hl⟩ := hx
      have hn := cntV_nil
      have hd := d448
      simp only [nfour_sem, nfour_sp, nfrom_sem, ncount_sem, nfour_den, nfrom_sem, ncount_sem, Tree.den, LE.den, Cv.list, placeA, List.getElem?_cons_zero, List.getElem?_cons_succ, IE.den, BE.den, At.den, CA.den, Env.get, Cv.int, Cv.bool, List.cons_append, List.nil_append, List.map_cons, List.map_nil, bindRes, bindEq, Fits, SV.den, denL, place, placeL, eq_t, eq_f, lt_t, lt_f, le_t, le_f, beq_iff_eq, beq_eq_false_iff_ne, ne_eq, reduceCtorEq, b_dec, decide_eq_true_eq, decide_eq_false_iff_not, Bool.not_eq_false', Bool.or_eq_true, Bool.or_eq_false_iff, Bool.and_eq_false_iff, true_iff, false_iff, Bool.false_eq_true, Bool.not_eq_true', Bool.and_eq_true, Bool.not_true, Bool.not_false, List.cons.injEq, Cv.i.injEq, Cv.b.injEq, and_true, true_and, agg_inj, tup_inj, Value.int.injEq, Value.bool.injEq, mks_pt, pt_cnt, a2, b2, forall_eq, eq_self, if_true, if_false, true_and, and_true, false_and, and_false, true_or, or_true, false_or, or_false, true_iff, iff_true, false_iff, iff_false, not_true_eq_false, not_false_eq_true, true_implies, false_implies, implies_true, forall_const, decide_true, decide_false, reduceCtorEq]
      rcases Nat.lt_or_ge ms.length 5 with h | h
      · have hfin := ruleV_few (G := G6) h
        simp only [mks_nil, hn, hfin]
        (repeat' (first | exact isP_nil | exact inI_nil | exact hd | intro _ | refine And.intro ?_ ?_)) <;> first | exact trivial | omega
      · have hL := last_pt (ms := ms) (n := 5) 5 rfl (by omega)
        have hI : InI (ptOf (lst 5 ms)) := hL ▸ inI_sub j_l _ _
        have hP := isP_lst (n := 5) hm hl
        have hq := lst_mem (n := 5) hm
        have hne := lst_ne h (by omega)
        have hfin : cntV 448 7 4 (lst 5 ms) = ruleV G6 5 ms := by
          rw [ruleV_of h, cnt_row (t := 2) (fun c h0 h1 => by have e := has_above (n := 2) (by omega) (by omega) ⟨h0, h1⟩; rw [a2] at e; exact e) (fun c h0 h1 => by have e := has_below (n := -2) (by omega) (by omega) ⟨h0, h1⟩; rw [b2] at e; exact e) hne]
          have e : ∀ row, (((4 : Int) ≤ (nge 2 row : Int) ∨ (4 : Int) ≤ (nle 2 row : Int)) ↔ G6 row) := fun row => by unfold G6; omega
          simp only [e]
        simp only [hL, mks_pt]
        (repeat' (first | exact hI | exact hP | exact hfin | exact hd | intro _ | refine And.intro ?_ ?_)) <;> omega
end Go.Proofs.YtmnpeneplobpdaaDoor.X
