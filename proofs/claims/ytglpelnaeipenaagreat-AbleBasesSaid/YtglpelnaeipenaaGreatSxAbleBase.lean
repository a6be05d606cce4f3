/-
  datumref20: Base, Cp, Cpk, by contract; AbleBases holds of every input: its contract.
-/
import Derived.Test.YtglpelnaeipenaaGreatSxAbleBs
import Derived.Test.YtglpelnaeipenaaGreatSxAbleAl
import Derived.Test.YtglpelnaeipenaaGreatSxRef4M
import Derived.Test.YtglpelnaeipenaaGreatSxFctRef
import Derived.Test.YtglpelnaeipenaaGreatSxBsRt
namespace Go.Proofs.YtglpelnaeipenaaGreat.X
open Go Go.SX
set_option linter.unusedVariables false
set_option linter.unusedSimpArgs false







def r20b_sp : SpecSh := { args := [(.agg [(.int .i64 (.z 0)), (.int .i64 (.z 0)), (.int .i64 (.z 0)), (.int .i64 (.z 0)), (.int .i64 (.z 0))]), (.int .i64 (.z 0)), (.int .i64 (.z 0)), (.int .i64 (.z 0))], res := (.int .i64 (.z 0)), sh := [.i (some ((-9223372036854775808), 9223372036854775807))] }
set_option maxRecDepth 100000 in
def r20b_tree : Tree :=
.call 17 [.b] [.i (.v 0), .i (.v 1), .i (.v 2), .i (.v 3), .i (.v 4)] <|
.ite (.not (.v 8)) (.ret (.int .i64 (.z 1))) <|
.ite (.cmp .le (.z (-1000000)) (.v 5)) (.ite (.cmp .le (.v 6) (.z 1000000)) (.ite (.not (.cmp .lt (.v 5) (.v 6))) (.ret (.int .i64 (.z 1))) <|
.ite (.cmp .lt (.v 7) (.z 1)) (.ret (.int .i64 (.z 3))) <|
.ite (.cmp .lt (.z 1000) (.v 7)) (.ret (.int .i64 (.z 3))) <|
.ite (.cmp .lt (.v 1) (.z 2)) (.ret (.int .i64 (.z 12))) <|
.ite (.cmp .eq (.v 3) (.z 0)) (.ret (.int .i64 (.z 6))) <|
.ret (.int .i64 (.z 0))) <|
.ret (.int .i64 (.z 1))) <|
.ret (.int .i64 (.z 1))
noncomputable def r20b_cx : Ctx := { tys := tys, fns := fns, mets := mets, sps := [(17, rbright_sp)], anns := [], trys := [] }
def r20b_ivs : List (Option (Int × Int)) := [some ((-9223372036854775808), 9223372036854775807), some ((-9223372036854775808), 9223372036854775807), some ((-9223372036854775808), 9223372036854775807), some ((-9223372036854775808), 9223372036854775807), some ((-9223372036854775808), 9223372036854775807), some ((-9223372036854775808), 9223372036854775807), some ((-9223372036854775808), 9223372036854775807), some ((-9223372036854775808), 9223372036854775807)]
set_option maxRecDepth 100000 in
theorem r20b_walk : runFn r20b_cx 3000 6 Tryz.f6 r20b_sp.args r20b_ivs = r20b_tree := by kernel_rfl
noncomputable def r20b_M : Nat → SpecSem
  | 17 => rbright_sem
  | _ => noSem
theorem r20b_M17 : r20b_M 17 = rbright_sem := rfl
theorem r20b_cxok : CxOK Tryz.prog r20b_cx r20b_M := ⟨tysOK, fnsOK, spCons rbright_ok <| fun _ _ h => spNil h, mixedOK, fun _ _ h => trNil h, fun _ _ h => atNil h, metsOK⟩

def r20b_sem : SpecSem := { pre := fun cs => match cs with | [.i z, .i m, .i s, .i r, .i la, .i a, .i b, .i k] => IsI z ∧ IsI m ∧ IsI s ∧ IsI r ∧ IsI la ∧ IsI a ∧ IsI b ∧ IsI k | _ => False, out := fun cs => match cs with | [.i z, .i m, .i s, .i r, .i la, .i a, .i b, .i k] => [.i (cbE z m s r la a b k)] | _ => [] }
set_option maxRecDepth 10000 in
set_option maxHeartbeats 16000000 in
theorem r20b_ok : SpecOK Tryz.prog 6 r20b_sp r20b_sem := by
  refine spec_of_tree r20b_cxok Tryz.func6 (by kernel_rfl) (by kernel_rfl) r20b_walk rfl ?_
  intro cs hpre
  match cs, hpre with
  | [.i z, .i m, .i s, .i r, .i la, .i a, .i b, .i k], ⟨j_z, j_m, j_s, j_r, j_la, j_a, j_b, j_k⟩ =>
    have h_z := j_z
    unfold IsI at h_z
    have h_m := j_m
    unfold IsI at h_m
    have h_s := j_s
    unfold IsI at h_s
    have h_r := j_r
    unfold IsI at h_r
    have h_la := j_la
    unfold IsI at h_la
    have h_a := j_a
    unfold IsI at h_a
    have h_b := j_b
    unfold IsI at h_b
    have h_k := j_k
    unfold IsI at h_k
    refine ⟨rfl, IvsB.ok (by simp only [r20b_ivs, IvsB, Cv.int, and_true] <;> omega), ?_, ?_⟩
    · have he := cbE_rng z m s r la a b k
      simp only [r20b_sem, r20b_sp, Fits, and_true]; omega
    · simp only [r20b_sem, r20b_sp, rbright_sem, r20b_tree, r20b_M17, rbright_sem, Tree.den, LE.den, Cv.list, placeA, List.getElem?_cons_zero, List.getElem?_cons_succ, IE.den, BE.den, At.den, CA.den, Env.get, Cv.int, Cv.bool, List.cons_append, List.nil_append, List.map_cons, List.map_nil, bindRes, bindEq, Fits, SV.den, denL, place, placeL, eq_t, eq_f, lt_t, lt_f, le_t, le_f, beq_iff_eq, beq_eq_false_iff_ne, ne_eq, reduceCtorEq, b_dec, decide_eq_true_eq, decide_eq_false_iff_not, Bool.not_eq_false', Bool.or_eq_true, Bool.or_eq_false_iff, Bool.and_eq_false_iff, true_iff, false_iff, Bool.false_eq_true, Bool.not_eq_true', Bool.and_eq_true, Bool.not_true, Bool.not_false, List.cons.injEq, Cv.i.injEq, Cv.b.injEq, and_true, true_and, agg_inj, tup_inj, Value.int.injEq, Value.bool.injEq, j_z, j_m, j_s, j_r, j_la, forall_eq, eq_self, if_true, if_false, true_and, and_true, false_and, and_false, true_or, or_true, false_or, or_false, true_iff, iff_true, false_iff, iff_false, not_true_eq_false, not_false_eq_true, true_implies, false_implies, implies_true, forall_const, decide_true, decide_false, reduceCtorEq]
      rcases Decidable.em (BsOK z m s r la) with c1 | c1
      · have qr := c1.2.2.2.2.2.1
        simp only [cbE, c1, if_true, if_false, true_and, and_true, false_and, and_false, true_or, or_true, false_or, or_false, true_iff, iff_true, false_iff, iff_false, not_true_eq_false, not_false_eq_true, true_implies, false_implies, implies_true, forall_const, decide_true, decide_false, reduceCtorEq]
        clear j_z j_m j_s j_r j_la c1
        (repeat' (first | intro _ | refine And.intro ?_ ?_ | exact trivial)) <;> (repeat' split) <;> omega
      · simp only [cbE, c1, eq_self, if_true, if_false, true_and, and_true, false_and, and_false, true_or, or_true, false_or, or_false, true_iff, iff_true, false_iff, iff_false, not_true_eq_false, not_false_eq_true, true_implies, false_implies, implies_true, forall_const, decide_true, decide_false, reduceCtorEq]
theorem md_one {N D m : Int} (hD : 0 < D) : mdZ N 1 D m = roundZ N D m := by
  unfold mdZ absZ
  rw [if_neg (show ¬ D < 0 by omega), if_neg (show ¬ D < 0 by omega), Int.mul_one]
theorem tell_in {x : Int} (h : IsI x) : tell x = [.i x, .i 0] := by unfold tell; rw [if_pos h, if_pos h]
def rcp_sp : SpecSh := { args := [(.agg [(.int .i64 (.z 0)), (.int .i64 (.z 0)), (.int .i64 (.z 0)), (.int .i64 (.z 0)), (.int .i64 (.z 0))]), (.int .i64 (.z 0)), (.int .i64 (.z 0)), (.int .i64 (.z 0))], res := (.agg [(.int .i64 (.z 0)), (.int .i64 (.z 0))]), sh := [.i (some ((-9223372036854775808), 9223372036854775807)), .i (some ((-9223372036854775808), 9223372036854775807))] }
set_option maxRecDepth 100000 in
def rcp_tree : Tree :=
.ite (.cmp .eq (.v 0) (.z 1)) (.lett (.subw .i64 (.v 1) (.z 1)) <|
.lett (.subw .i64 (.v 6) (.v 5)) <|
.lett (.mulw .i64 (.v 9) (.v 8)) <|
.lett (.mulw .i64 (.z 60000) (.v 3)) <|
.call 23 [.i (some (0, 32670))] [.i (.z 3), .i (.z 2)] <|
.lett (.mulw .i64 (.v 10) (.v 12)) <|
.lett (.mulw .i64 (.v 13) (.v 7)) <|
.call 37 [.i (some ((-9223372036854775808), 9223372036854775807)), .i (some ((-9223372036854775808), 9223372036854775807))] [.i (.v 14), .i (.z 1), .i (.v 11), .i (.z 0)] <|
.call 37 [.i (some ((-9223372036854775808), 9223372036854775807)), .i (some ((-9223372036854775808), 9223372036854775807))] [.i (.v 14), .i (.z 1), .i (.v 11), .i (.z 1)] <|
.ret (.agg [(.int .i64 (.v 15)), (.int .i64 (.v 17))])) <|
.lett (.subw .i64 (.v 6) (.v 5)) <|
.lett (.mulw .i64 (.v 8) (.v 1)) <|
.lett (.mulw .i64 (.z 60000) (.v 3)) <|
.call 23 [.i (some (0, 32670))] [.i (.z 3), .i (.v 0)] <|
.lett (.mulw .i64 (.v 9) (.v 11)) <|
.lett (.mulw .i64 (.v 12) (.v 7)) <|
.call 37 [.i (some ((-9223372036854775808), 9223372036854775807)), .i (some ((-9223372036854775808), 9223372036854775807))] [.i (.v 13), .i (.z 1), .i (.v 10), .i (.z 0)] <|
.call 37 [.i (some ((-9223372036854775808), 9223372036854775807)), .i (some ((-9223372036854775808), 9223372036854775807))] [.i (.v 13), .i (.z 1), .i (.v 10), .i (.z 1)] <|
.ret (.agg [(.int .i64 (.v 14)), (.int .i64 (.v 16))])
noncomputable def rcp_cx : Ctx := { tys := tys, fns := fns, mets := mets, sps := [(23, rfac_sp), (37, r4md_sp)], anns := [], trys := [] }
def rcp_ivs : List (Option (Int × Int)) := [some ((-9223372036854775808), 9223372036854775807), some ((-9223372036854775808), 9223372036854775807), some ((-9223372036854775808), 9223372036854775807), some ((-9223372036854775808), 9223372036854775807), some ((-9223372036854775808), 9223372036854775807), some ((-9223372036854775808), 9223372036854775807), some ((-9223372036854775808), 9223372036854775807), some ((-9223372036854775808), 9223372036854775807)]
set_option maxRecDepth 100000 in
theorem rcp_walk : runFn rcp_cx 3000 8 Tryz.f8 rcp_sp.args rcp_ivs = rcp_tree := by kernel_rfl
noncomputable def rcp_M : Nat → SpecSem
  | 23 => rfac_sem
  | 37 => r4md_sem
  | _ => noSem
theorem rcp_M23 : rcp_M 23 = rfac_sem := rfl
theorem rcp_M37 : rcp_M 37 = r4md_sem := rfl
theorem rcp_cxok : CxOK Tryz.prog rcp_cx rcp_M := ⟨tysOK, fnsOK, spCons rfac_ok <| spCons r4md_ok <| fun _ _ h => spNil h, mixedOK, fun _ _ h => trNil h, fun _ _ h => atNil h, metsOK⟩
set_option maxRecDepth 100000 in
set_option maxHeartbeats 8000000 in
theorem rcp_den (R RP : Value → Prop) (F : Ex → St → Js → Env → Prop) (J : Js) (x0 : Int) (x1 : Int) (x2 : Int) (x3 : Int) (x4 : Int) (x5 : Int) (x6 : Int) (x7 : Int) : Tree.den rcp_M R RP F rcp_tree J [(.i x0), (.i x1), (.i x2), (.i x3), (.i x4), (.i x5), (.i x6), (.i x7)] = (
  ((Cmp.den .eq x0 (1 : Int)) = true → ∀ x8 : Int, x8 = (IntKind.i64.wrap (x1 - (1 : Int))) →
∀ x9 : Int, x9 = (IntKind.i64.wrap (x6 - x5)) →
∀ x10 : Int, x10 = (IntKind.i64.wrap (x9 * x8)) →
∀ x11 : Int, x11 = (IntKind.i64.wrap ((60000 : Int) * x3)) →
(rfac_sem.pre [(.i (3 : Int)), (.i (2 : Int))]) ∧ (
∀ x12 : Int, x12 = (Cv.int (Env.get (rfac_sem.out [(.i (3 : Int)), (.i (2 : Int))]) 0)) → (0 : Int) ≤ x12 → x12 ≤ (32670 : Int) →
∀ x13 : Int, x13 = (IntKind.i64.wrap (x10 * x12)) →
∀ x14 : Int, x14 = (IntKind.i64.wrap (x13 * x7)) →
(r4md_sem.pre [(.i x14), (.i (1 : Int)), (.i x11), (.i (0 : Int))]) ∧ (
∀ x15 : Int, x15 = (Cv.int (Env.get (r4md_sem.out [(.i x14), (.i (1 : Int)), (.i x11), (.i (0 : Int))]) 0)) → (-9223372036854775808 : Int) ≤ x15 → x15 ≤ (9223372036854775807 : Int) →
∀ x16 : Int, x16 = (Cv.int (Env.get (r4md_sem.out [(.i x14), (.i (1 : Int)), (.i x11), (.i (0 : Int))]) 1)) → (-9223372036854775808 : Int) ≤ x16 → x16 ≤ (9223372036854775807 : Int) →
(r4md_sem.pre [(.i x14), (.i (1 : Int)), (.i x11), (.i (1 : Int))]) ∧ (
∀ x17 : Int, x17 = (Cv.int (Env.get (r4md_sem.out [(.i x14), (.i (1 : Int)), (.i x11), (.i (1 : Int))]) 0)) → (-9223372036854775808 : Int) ≤ x17 → x17 ≤ (9223372036854775807 : Int) →
∀ x18 : Int, x18 = (Cv.int (Env.get (r4md_sem.out [(.i x14), (.i (1 : Int)), (.i x11), (.i (1 : Int))]) 1)) → (-9223372036854775808 : Int) ≤ x18 → x18 ≤ (9223372036854775807 : Int) →
R (Value.agg [(Value.int .i64 x15), (Value.int .i64 x17)].toArray))))) ∧ ((Cmp.den .eq x0 (1 : Int)) = false → ∀ x8 : Int, x8 = (IntKind.i64.wrap (x6 - x5)) →
∀ x9 : Int, x9 = (IntKind.i64.wrap (x8 * x1)) →
∀ x10 : Int, x10 = (IntKind.i64.wrap ((60000 : Int) * x3)) →
(rfac_sem.pre [(.i (3 : Int)), (.i x0)]) ∧ (
∀ x11 : Int, x11 = (Cv.int (Env.get (rfac_sem.out [(.i (3 : Int)), (.i x0)]) 0)) → (0 : Int) ≤ x11 → x11 ≤ (32670 : Int) →
∀ x12 : Int, x12 = (IntKind.i64.wrap (x9 * x11)) →
∀ x13 : Int, x13 = (IntKind.i64.wrap (x12 * x7)) →
(r4md_sem.pre [(.i x13), (.i (1 : Int)), (.i x10), (.i (0 : Int))]) ∧ (
∀ x14 : Int, x14 = (Cv.int (Env.get (r4md_sem.out [(.i x13), (.i (1 : Int)), (.i x10), (.i (0 : Int))]) 0)) → (-9223372036854775808 : Int) ≤ x14 → x14 ≤ (9223372036854775807 : Int) →
∀ x15 : Int, x15 = (Cv.int (Env.get (r4md_sem.out [(.i x13), (.i (1 : Int)), (.i x10), (.i (0 : Int))]) 1)) → (-9223372036854775808 : Int) ≤ x15 → x15 ≤ (9223372036854775807 : Int) →
(r4md_sem.pre [(.i x13), (.i (1 : Int)), (.i x10), (.i (1 : Int))]) ∧ (
∀ x16 : Int, x16 = (Cv.int (Env.get (r4md_sem.out [(.i x13), (.i (1 : Int)), (.i x10), (.i (1 : Int))]) 0)) → (-9223372036854775808 : Int) ≤ x16 → x16 ≤ (9223372036854775807 : Int) →
∀ x17 : Int, x17 = (Cv.int (Env.get (r4md_sem.out [(.i x13), (.i (1 : Int)), (.i x10), (.i (1 : Int))]) 1)) → (-9223372036854775808 : Int) ≤ x17 → x17 ≤ (9223372036854775807 : Int) →
R (Value.agg [(Value.int .i64 x14), (Value.int .i64 x16)].toArray)))))) := by kernel_rfl

def rcp_sem : SpecSem := { pre := fun cs => match cs with | [.i z, .i m, .i s, .i r, .i la, .i a, .i b, .i k] => IsI z ∧ IsI m ∧ IsI s ∧ IsI r ∧ IsI la ∧ IsI a ∧ IsI b ∧ IsI k ∧ (cbE z m s r la a b k = 0) | _ => False, out := fun cs => match cs with | [.i z, .i m, .i s, .i r, .i la, .i a, .i b, .i k] => [.i (roundZ (cpN z m a b k) (cpD r) 0), .i (roundZ (cpN z m a b k) (cpD r) 1)] | _ => [] }
set_option maxRecDepth 10000 in
set_option maxHeartbeats 16000000 in
theorem rcp_ok : SpecOK Tryz.prog 8 rcp_sp rcp_sem := by
  refine spec_of_tree rcp_cxok Tryz.func8 (by kernel_rfl) (by kernel_rfl) rcp_walk rfl ?_
  intro cs hpre
  match cs, hpre with
  | [.i z, .i m, .i s, .i r, .i la, .i a, .i b, .i k], ⟨j_z, j_m, j_s, j_r, j_la, j_a, j_b, j_k, hx⟩ =>
    have h_z := j_z
    unfold IsI at h_z
    have h_m := j_m
    unfold IsI at h_m
    have h_s := j_s
    unfold IsI at h_s
    have h_r := j_r
    unfold IsI at h_r
    have h_la := j_la
    unfold IsI at h_la
    have h_a := j_a
    unfold IsI at h_a
    have h_b := j_b
    unfold IsI at h_b
    have h_k := j_k
    unfold IsI at h_k
    refine ⟨rfl, IvsB.ok (by simp only [rcp_ivs, IvsB, Cv.int, and_true] <;> omega), ?_, ?_⟩
    · obtain ⟨c1, c2, c3, c4, c5⟩ := cbE_zero hx
      have hr := cp_rng (z := z) c1.2.1 c4 c2 c3
      have hD : 0 < cpD r := by unfold cpD; omega
      have r0 := rz_rng (m := 0) (Or.inl rfl) hD hr.2
      have r1 := rz_rng (m := 1) (Or.inr rfl) hD hr.2
      simp only [rcp_sem, rcp_sp, Fits, and_true]; omega
    · rw [rcp_den]
      obtain ⟨c1, c2, c3, c4, c5⟩ := cbE_zero hx
      have hb := bs_bd c1
      have qm := c1.2.1
      have qz := c1.1
      have t := ftab_rng 3 (bwK z)
      have hM : 0 ≤ bwM z m ∧ bwM z m ≤ 25 := by unfold bwM; split <;> omega
      have hr := (cp_rng (z := z) qm c4 c2 c3).2
      have hD : 0 < cpD r := by unfold cpD; omega
      have hD2 : cpD r ≤ 3000000000000 := by unfold cpD; omega
      have e1 := mbd 2000000 25 (a := b - a) (b := bwM z m) (by omega) (by omega)
      have e2 := mbd 50000000 32670 (a := (b - a) * bwM z m) (b := ftab 3 (bwK z)) (by omega) (by omega)
      have ex : (b - a) * bwM z m * ftab 3 (bwK z) * k = cpN z m a b k := by
        unfold cpN cbW
        rw [Int.mul_comm (ftab 3 (bwK z)) (bwM z m), Int.mul_right_comm ((b - a)) k, ← Int.mul_assoc, Int.mul_assoc ((b - a) * bwM z m) (ftab 3 (bwK z)) k]
      have wd : IntKind.i64.wrap (b - a) = b - a := w64 (by omega) (by omega)
      have wA : IntKind.i64.wrap ((b - a) * bwM z m) = (b - a) * bwM z m := w64 (by omega) (by omega)
      have wB : IntKind.i64.wrap ((b - a) * bwM z m * ftab 3 (bwK z)) = (b - a) * bwM z m * ftab 3 (bwK z) := w64 (by omega) (by omega)
      have wC : IntKind.i64.wrap ((b - a) * bwM z m * ftab 3 (bwK z) * k) = cpN z m a b k := by rw [ex]; exact w64 (by omega) (by omega)
      have wD : IntKind.i64.wrap (60000 * r) = cpD r := w64 (by omega) (by omega)
      have hI : IsI (cpN z m a b k) := ⟨by omega, by omega⟩
      have hJ : IsI (cpD r) := ⟨by omega, by omega⟩
      have hZ : (cpD r = 0) = False := eq_false (by omega)
      have r0 := rz_rng (m := 0) (Or.inl rfl) hD hr
      have r1 := rz_rng (m := 1) (Or.inr rfl) hD hr
      have m0 : mdZ (cpN z m a b k) 1 (cpD r) 0 = roundZ (cpN z m a b k) (cpD r) 0 := md_one hD
      have m1 : mdZ (cpN z m a b k) 1 (cpD r) 1 = roundZ (cpN z m a b k) (cpD r) 1 := md_one hD
      have t0 := tell_in (x := roundZ (cpN z m a b k) (cpD r) 0) ⟨by omega, by omega⟩
      have t1 := tell_in (x := roundZ (cpN z m a b k) (cpD r) 1) ⟨by omega, by omega⟩
      have k0 : IsI 0 := ⟨by omega, by omega⟩
      have k1 : IsI 1 := ⟨by omega, by omega⟩
      have k2 : IsI 2 := ⟨by omega, by omega⟩
      have k3 : IsI 3 := ⟨by omega, by omega⟩
      have iz : IsI z := j_z
      have wm : IntKind.i64.wrap (m - 1) = m - 1 := w64 (by omega) (by omega)
      have y1 : ((0 : Int) ≤ 3) = True := by simp
      have y2 : ((3 : Int) ≤ 6) = True := by simp
      have y3 : ((2 : Int) ≤ 2) = True := by simp
      have y4 : ((2 : Int) ≤ 10) = True := by simp
      have y5 : ((0 : Int) ≤ 0) = True := by simp
      have y6 : ((0 : Int) ≤ 2) = True := by simp
      have y7 : ((0 : Int) ≤ 1) = True := by simp
      have y8 : ((1 : Int) ≤ 2) = True := by simp
      by_cases c5z : z = 1
      · have x1 : bwM z m = m - 1 := by unfold bwM; rw [if_pos c5z]
        have x2 : bwK z = 2 := by unfold bwK; rw [if_pos c5z]
        have o1 : (z = 1) = True := eq_true c5z
        rw [x1] at wA wB wC
        rw [x2] at wB wC
        simp only [rcp_sem, rcp_sp, rfac_sem, r4md_sem, rcp_den, rfac_sem, r4md_sem, Tree.den, LE.den, Cv.list, placeA, List.getElem?_cons_zero, List.getElem?_cons_succ, IE.den, BE.den, At.den, CA.den, Env.get, Cv.int, Cv.bool, List.cons_append, List.nil_append, List.map_cons, List.map_nil, bindRes, bindEq, Fits, SV.den, denL, place, placeL, eq_t, eq_f, lt_t, lt_f, le_t, le_f, beq_iff_eq, beq_eq_false_iff_ne, ne_eq, reduceCtorEq, b_dec, decide_eq_true_eq, decide_eq_false_iff_not, Bool.not_eq_false', Bool.or_eq_true, Bool.or_eq_false_iff, Bool.and_eq_false_iff, true_iff, false_iff, Bool.false_eq_true, Bool.not_eq_true', Bool.and_eq_true, Bool.not_true, Bool.not_false, List.cons.injEq, Cv.i.injEq, Cv.b.injEq, and_true, true_and, agg_inj, tup_inj, Value.int.injEq, Value.bool.injEq, o1, wm, wA, wB, wC, wd, wD, hI, hJ, hZ, m0, m1, t0, t1, k0, k1, k2, k3, y1, y2, y3, y4, y5, y6, y7, y8, forall_eq, eq_self, if_true, if_false, true_and, and_true, false_and, and_false, true_or, or_true, false_or, or_false, true_iff, iff_true, false_iff, iff_false, not_true_eq_false, not_false_eq_true, true_implies, false_implies, implies_true, forall_const, decide_true, decide_false, reduceCtorEq]
      · have z2 : 2 ≤ z ∧ z ≤ 10 := by omega
        have x1 : bwM z m = m := by unfold bwM; rw [if_neg c5z]
        have x2 : bwK z = z := by unfold bwK; rw [if_neg c5z]
        have o1 : (z = 1) = False := eq_false c5z
        rw [x1] at wA wB wC
        rw [x2] at wB wC
        simp only [rcp_sem, rcp_sp, rfac_sem, r4md_sem, rcp_den, rfac_sem, r4md_sem, Tree.den, LE.den, Cv.list, placeA, List.getElem?_cons_zero, List.getElem?_cons_succ, IE.den, BE.den, At.den, CA.den, Env.get, Cv.int, Cv.bool, List.cons_append, List.nil_append, List.map_cons, List.map_nil, bindRes, bindEq, Fits, SV.den, denL, place, placeL, eq_t, eq_f, lt_t, lt_f, le_t, le_f, beq_iff_eq, beq_eq_false_iff_ne, ne_eq, reduceCtorEq, b_dec, decide_eq_true_eq, decide_eq_false_iff_not, Bool.not_eq_false', Bool.or_eq_true, Bool.or_eq_false_iff, Bool.and_eq_false_iff, true_iff, false_iff, Bool.false_eq_true, Bool.not_eq_true', Bool.and_eq_true, Bool.not_true, Bool.not_false, List.cons.injEq, Cv.i.injEq, Cv.b.injEq, and_true, true_and, agg_inj, tup_inj, Value.int.injEq, Value.bool.injEq, o1, iz, z2.1, z2.2, wA, wB, wC, wd, wD, hI, hJ, hZ, m0, m1, t0, t1, k0, k1, k2, k3, y1, y2, y3, y4, y5, y6, y7, y8, forall_eq, eq_self, if_true, if_false, true_and, and_true, false_and, and_false, true_or, or_true, false_or, or_false, true_iff, iff_true, false_iff, iff_false, not_true_eq_false, not_false_eq_true, true_implies, false_implies, implies_true, forall_const, decide_true, decide_false, reduceCtorEq]
def rcpk_sp : SpecSh := { args := [(.agg [(.int .i64 (.z 0)), (.int .i64 (.z 0)), (.int .i64 (.z 0)), (.int .i64 (.z 0)), (.int .i64 (.z 0))]), (.int .i64 (.z 0)), (.int .i64 (.z 0)), (.int .i64 (.z 0))], res := (.agg [(.int .i64 (.z 0)), (.int .i64 (.z 0))]), sh := [.i (some ((-9223372036854775808), 9223372036854775807)), .i (some ((-9223372036854775808), 9223372036854775807))] }
set_option maxRecDepth 100000 in
def rcpk_tree : Tree :=
.ite (.cmp .eq (.v 0) (.z 1)) (.lett (.subw .i64 (.v 1) (.z 1)) <|
.lett (.mul (.v 1) (.v 0)) <|
.lett (.mulw .i64 (.v 6) (.v 9)) <|
.lett (.subw .i64 (.v 10) (.v 2)) <|
.lett (.mulw .i64 (.v 5) (.v 9)) <|
.lett (.subw .i64 (.v 2) (.v 12)) <|
.lett (.ite (.cmp .lt (.v 13) (.v 11)) (.v 13) (.v 11)) <|
.lett (.mulw .i64 (.v 14) (.v 8)) <|
.lett (.mulw .i64 (.z 30000) (.v 3)) <|
.lett (.mulw .i64 (.v 16) (.v 9)) <|
.call 23 [.i (some (0, 32670))] [.i (.z 3), .i (.z 2)] <|
.lett (.mulw .i64 (.v 15) (.v 18)) <|
.lett (.mulw .i64 (.v 19) (.v 7)) <|
.call 37 [.i (some ((-9223372036854775808), 9223372036854775807)), .i (some ((-9223372036854775808), 9223372036854775807))] [.i (.v 20), .i (.z 1), .i (.v 17), .i (.z 0)] <|
.call 37 [.i (some ((-9223372036854775808), 9223372036854775807)), .i (some ((-9223372036854775808), 9223372036854775807))] [.i (.v 20), .i (.z 1), .i (.v 17), .i (.z 1)] <|
.ret (.agg [(.int .i64 (.v 21)), (.int .i64 (.v 23))])) <|
.lett (.mulw .i64 (.v 1) (.v 0)) <|
.lett (.mulw .i64 (.v 6) (.v 8)) <|
.lett (.subw .i64 (.v 9) (.v 2)) <|
.lett (.mulw .i64 (.v 5) (.v 8)) <|
.lett (.subw .i64 (.v 2) (.v 11)) <|
.lett (.ite (.cmp .lt (.v 12) (.v 10)) (.v 12) (.v 10)) <|
.lett (.mulw .i64 (.v 13) (.v 1)) <|
.lett (.mulw .i64 (.z 30000) (.v 3)) <|
.lett (.mulw .i64 (.v 15) (.v 8)) <|
.call 23 [.i (some (0, 32670))] [.i (.z 3), .i (.v 0)] <|
.lett (.mulw .i64 (.v 14) (.v 17)) <|
.lett (.mulw .i64 (.v 18) (.v 7)) <|
.call 37 [.i (some ((-9223372036854775808), 9223372036854775807)), .i (some ((-9223372036854775808), 9223372036854775807))] [.i (.v 19), .i (.z 1), .i (.v 16), .i (.z 0)] <|
.call 37 [.i (some ((-9223372036854775808), 9223372036854775807)), .i (some ((-9223372036854775808), 9223372036854775807))] [.i (.v 19), .i (.z 1), .i (.v 16), .i (.z 1)] <|
.ret (.agg [(.int .i64 (.v 20)), (.int .i64 (.v 22))])
noncomputable def rcpk_cx : Ctx := { tys := tys, fns := fns, mets := mets, sps := [(23, rfac_sp), (37, r4md_sp)], anns := [], trys := [] }
def rcpk_ivs : List (Option (Int × Int)) := [some ((-9223372036854775808), 9223372036854775807), some ((-9223372036854775808), 9223372036854775807), some ((-9223372036854775808), 9223372036854775807), some ((-9223372036854775808), 9223372036854775807), some ((-9223372036854775808), 9223372036854775807), some ((-9223372036854775808), 9223372036854775807), some ((-9223372036854775808), 9223372036854775807), some ((-9223372036854775808), 9223372036854775807)]
set_option maxRecDepth 100000 in
theorem rcpk_walk : runFn rcpk_cx 3000 9 Tryz.f9 rcpk_sp.args rcpk_ivs = rcpk_tree := by kernel_rfl
noncomputable def rcpk_M : Nat → SpecSem
  | 23 => rfac_sem
  | 37 => r4md_sem
  | _ => noSem
theorem rcpk_M23 : rcpk_M 23 = rfac_sem := rfl
theorem rcpk_M37 : rcpk_M 37 = r4md_sem := rfl
theorem rcpk_cxok : CxOK Tryz.prog rcpk_cx rcpk_M := ⟨tysOK, fnsOK, spCons rfac_ok <| spCons r4md_ok <| fun _ _ h => spNil h, mixedOK, fun _ _ h => trNil h, fun _ _ h => atNil h, metsOK⟩
set_option maxRecDepth 100000 in
set_option maxHeartbeats 8000000 in
theorem rcpk_den (R RP : Value → Prop) (F : Ex → St → Js → Env → Prop) (J : Js) (x0 : Int) (x1 : Int) (x2 : Int) (x3 : Int) (x4 : Int) (x5 : Int) (x6 : Int) (x7 : Int) : Tree.den rcpk_M R RP F rcpk_tree J [(.i x0), (.i x1), (.i x2), (.i x3), (.i x4), (.i x5), (.i x6), (.i x7)] = (
  ((Cmp.den .eq x0 (1 : Int)) = true → ∀ x8 : Int, x8 = (IntKind.i64.wrap (x1 - (1 : Int))) →
∀ x9 : Int, x9 = (x1 * x0) →
∀ x10 : Int, x10 = (IntKind.i64.wrap (x6 * x9)) →
∀ x11 : Int, x11 = (IntKind.i64.wrap (x10 - x2)) →
∀ x12 : Int, x12 = (IntKind.i64.wrap (x5 * x9)) →
∀ x13 : Int, x13 = (IntKind.i64.wrap (x2 - x12)) →
∀ x14 : Int, x14 = (if (Cmp.den .lt x13 x11) = true then x13 else x11) →
∀ x15 : Int, x15 = (IntKind.i64.wrap (x14 * x8)) →
∀ x16 : Int, x16 = (IntKind.i64.wrap ((30000 : Int) * x3)) →
∀ x17 : Int, x17 = (IntKind.i64.wrap (x16 * x9)) →
(rfac_sem.pre [(.i (3 : Int)), (.i (2 : Int))]) ∧ (
∀ x18 : Int, x18 = (Cv.int (Env.get (rfac_sem.out [(.i (3 : Int)), (.i (2 : Int))]) 0)) → (0 : Int) ≤ x18 → x18 ≤ (32670 : Int) →
∀ x19 : Int, x19 = (IntKind.i64.wrap (x15 * x18)) →
∀ x20 : Int, x20 = (IntKind.i64.wrap (x19 * x7)) →
(r4md_sem.pre [(.i x20), (.i (1 : Int)), (.i x17), (.i (0 : Int))]) ∧ (
∀ x21 : Int, x21 = (Cv.int (Env.get (r4md_sem.out [(.i x20), (.i (1 : Int)), (.i x17), (.i (0 : Int))]) 0)) → (-9223372036854775808 : Int) ≤ x21 → x21 ≤ (9223372036854775807 : Int) →
∀ x22 : Int, x22 = (Cv.int (Env.get (r4md_sem.out [(.i x20), (.i (1 : Int)), (.i x17), (.i (0 : Int))]) 1)) → (-9223372036854775808 : Int) ≤ x22 → x22 ≤ (9223372036854775807 : Int) →
(r4md_sem.pre [(.i x20), (.i (1 : Int)), (.i x17), (.i (1 : Int))]) ∧ (
∀ x23 : Int, x23 = (Cv.int (Env.get (r4md_sem.out [(.i x20), (.i (1 : Int)), (.i x17), (.i (1 : Int))]) 0)) → (-9223372036854775808 : Int) ≤ x23 → x23 ≤ (9223372036854775807 : Int) →
∀ x24 : Int, x24 = (Cv.int (Env.get (r4md_sem.out [(.i x20), (.i (1 : Int)), (.i x17), (.i (1 : Int))]) 1)) → (-9223372036854775808 : Int) ≤ x24 → x24 ≤ (9223372036854775807 : Int) →
R (Value.agg [(Value.int .i64 x21), (Value.int .i64 x23)].toArray))))) ∧ ((Cmp.den .eq x0 (1 : Int)) = false → ∀ x8 : Int, x8 = (IntKind.i64.wrap (x1 * x0)) →
∀ x9 : Int, x9 = (IntKind.i64.wrap (x6 * x8)) →
∀ x10 : Int, x10 = (IntKind.i64.wrap (x9 - x2)) →
∀ x11 : Int, x11 = (IntKind.i64.wrap (x5 * x8)) →
∀ x12 : Int, x12 = (IntKind.i64.wrap (x2 - x11)) →
∀ x13 : Int, x13 = (if (Cmp.den .lt x12 x10) = true then x12 else x10) →
∀ x14 : Int, x14 = (IntKind.i64.wrap (x13 * x1)) →
∀ x15 : Int, x15 = (IntKind.i64.wrap ((30000 : Int) * x3)) →
∀ x16 : Int, x16 = (IntKind.i64.wrap (x15 * x8)) →
(rfac_sem.pre [(.i (3 : Int)), (.i x0)]) ∧ (
∀ x17 : Int, x17 = (Cv.int (Env.get (rfac_sem.out [(.i (3 : Int)), (.i x0)]) 0)) → (0 : Int) ≤ x17 → x17 ≤ (32670 : Int) →
∀ x18 : Int, x18 = (IntKind.i64.wrap (x14 * x17)) →
∀ x19 : Int, x19 = (IntKind.i64.wrap (x18 * x7)) →
(r4md_sem.pre [(.i x19), (.i (1 : Int)), (.i x16), (.i (0 : Int))]) ∧ (
∀ x20 : Int, x20 = (Cv.int (Env.get (r4md_sem.out [(.i x19), (.i (1 : Int)), (.i x16), (.i (0 : Int))]) 0)) → (-9223372036854775808 : Int) ≤ x20 → x20 ≤ (9223372036854775807 : Int) →
∀ x21 : Int, x21 = (Cv.int (Env.get (r4md_sem.out [(.i x19), (.i (1 : Int)), (.i x16), (.i (0 : Int))]) 1)) → (-9223372036854775808 : Int) ≤ x21 → x21 ≤ (9223372036854775807 : Int) →
(r4md_sem.pre [(.i x19), (.i (1 : Int)), (.i x16), (.i (1 : Int))]) ∧ (
∀ x22 : Int, x22 = (Cv.int (Env.get (r4md_sem.out [(.i x19), (.i (1 : Int)), (.i x16), (.i (1 : Int))]) 0)) → (-9223372036854775808 : Int) ≤ x22 → x22 ≤ (9223372036854775807 : Int) →
∀ x23 : Int, x23 = (Cv.int (Env.get (r4md_sem.out [(.i x19), (.i (1 : Int)), (.i x16), (.i (1 : Int))]) 1)) → (-9223372036854775808 : Int) ≤ x23 → x23 ≤ (9223372036854775807 : Int) →
R (Value.agg [(Value.int .i64 x20), (Value.int .i64 x22)].toArray)))))) := by kernel_rfl

def rcpk_sem : SpecSem := { pre := fun cs => match cs with | [.i z, .i m, .i s, .i r, .i la, .i a, .i b, .i k] => IsI z ∧ IsI m ∧ IsI s ∧ IsI r ∧ IsI la ∧ IsI a ∧ IsI b ∧ IsI k ∧ (cbE z m s r la a b k = 0) | _ => False, out := fun cs => match cs with | [.i z, .i m, .i s, .i r, .i la, .i a, .i b, .i k] => [.i (roundZ (ckN z m s a b k) (ckD z m r) 0), .i (roundZ (ckN z m s a b k) (ckD z m r) 1)] | _ => [] }
set_option maxRecDepth 10000 in
set_option maxHeartbeats 16000000 in
theorem rcpk_ok : SpecOK Tryz.prog 9 rcpk_sp rcpk_sem := by
  refine spec_of_tree rcpk_cxok Tryz.func9 (by kernel_rfl) (by kernel_rfl) rcpk_walk rfl ?_
  intro cs hpre
  match cs, hpre with
  | [.i z, .i m, .i s, .i r, .i la, .i a, .i b, .i k], ⟨j_z, j_m, j_s, j_r, j_la, j_a, j_b, j_k, hx⟩ =>
    have h_z := j_z
    unfold IsI at h_z
    have h_m := j_m
    unfold IsI at h_m
    have h_s := j_s
    unfold IsI at h_s
    have h_r := j_r
    unfold IsI at h_r
    have h_la := j_la
    unfold IsI at h_la
    have h_a := j_a
    unfold IsI at h_a
    have h_b := j_b
    unfold IsI at h_b
    have h_k := j_k
    unfold IsI at h_k
    refine ⟨rfl, IvsB.ok (by simp only [rcpk_ivs, IvsB, Cv.int, and_true] <;> omega), ?_, ?_⟩
    · obtain ⟨c1, c2, c3, c4, c5⟩ := cbE_zero hx
      have hr := ck_rng c1 c4 c5 c2 c3
      have hD : 0 < ckD z m r := by omega
      have r0 := rz_rng (m := 0) (Or.inl rfl) hD hr.2.2.2.2.2.1
      have r1 := rz_rng (m := 1) (Or.inr rfl) hD hr.2.2.2.2.2.1
      simp only [rcpk_sem, rcpk_sp, Fits, and_true]; omega
    · rw [rcpk_den]
      obtain ⟨c1, c2, c3, c4, c5⟩ := cbE_zero hx
      have hb := bs_bd c1
      have qm := c1.2.1
      have qz := c1.1
      have t := ftab_rng 3 (bwK z)
      have hM : 0 ≤ bwM z m ∧ bwM z m ≤ 25 := by unfold bwM; split <;> omega
      have hR := ck_rng c1 c4 c5 c2 c3
      have hr := hR.2.2.2.2.2.1
      have hD : 0 < ckD z m r := by omega
      have hn := hR.2.2.2.1
      have e1 := mbd 500000000 25 (a := cbNear z m s a b) (b := bwM z m) (by omega) (by omega)
      have e2 := mbd 12500000000 32670 (a := cbNear z m s a b * bwM z m) (b := ftab 3 (bwK z)) (by omega) (by omega)
      have ex : cbNear z m s a b * bwM z m * ftab 3 (bwK z) * k = ckN z m s a b k := by
        unfold ckN cbW
        rw [Int.mul_comm (ftab 3 (bwK z)) (bwM z m), Int.mul_right_comm (cbNear z m s a b) k, ← Int.mul_assoc, Int.mul_assoc (cbNear z m s a b * bwM z m) (ftab 3 (bwK z)) k]
      have w2 : IntKind.i64.wrap (30000 * r) = 30000 * r := w64 (by omega) (by omega)
      have w6 : IntKind.i64.wrap (30000 * r * (m * z)) = ckD z m r := w64 (by unfold ckD at hR; omega) (by unfold ckD at hR; omega)
      have w7 : IntKind.i64.wrap (m * z) = m * z := w64 (by omega) (by omega)
      have w8 : IntKind.i64.wrap (b * (m * z)) = b * (m * z) := w64 (by omega) (by omega)
      have w9 : IntKind.i64.wrap (a * (m * z)) = a * (m * z) := w64 (by omega) (by omega)
      have w10 : IntKind.i64.wrap (b * (m * z) - s) = b * (m * z) - s := w64 (by omega) (by omega)
      have w11 : IntKind.i64.wrap (s - a * (m * z)) = s - a * (m * z) := w64 (by omega) (by omega)
      have w12 : (if s - a * (m * z) < b * (m * z) - s then s - a * (m * z) else b * (m * z) - s) = cbNear z m s a b := rfl
      have wA : IntKind.i64.wrap (cbNear z m s a b * bwM z m) = cbNear z m s a b * bwM z m := w64 (by omega) (by omega)
      have wB : IntKind.i64.wrap (cbNear z m s a b * bwM z m * ftab 3 (bwK z)) = cbNear z m s a b * bwM z m * ftab 3 (bwK z) := w64 (by omega) (by omega)
      have wC : IntKind.i64.wrap (cbNear z m s a b * bwM z m * ftab 3 (bwK z) * k) = ckN z m s a b k := by rw [ex]; exact w64 (by omega) (by omega)
      have hI : IsI (ckN z m s a b k) := ⟨by omega, by omega⟩
      have hJ : IsI (ckD z m r) := ⟨by omega, by omega⟩
      have hZ : (ckD z m r = 0) = False := eq_false (by omega)
      have r0 := rz_rng (m := 0) (Or.inl rfl) hD hr
      have r1 := rz_rng (m := 1) (Or.inr rfl) hD hr
      have m0 : mdZ (ckN z m s a b k) 1 (ckD z m r) 0 = roundZ (ckN z m s a b k) (ckD z m r) 0 := md_one hD
      have m1 : mdZ (ckN z m s a b k) 1 (ckD z m r) 1 = roundZ (ckN z m s a b k) (ckD z m r) 1 := md_one hD
      have t0 := tell_in (x := roundZ (ckN z m s a b k) (ckD z m r) 0) ⟨by omega, by omega⟩
      have t1 := tell_in (x := roundZ (ckN z m s a b k) (ckD z m r) 1) ⟨by omega, by omega⟩
      have k0 : IsI 0 := ⟨by omega, by omega⟩
      have k1 : IsI 1 := ⟨by omega, by omega⟩
      have k2 : IsI 2 := ⟨by omega, by omega⟩
      have k3 : IsI 3 := ⟨by omega, by omega⟩
      have iz : IsI z := j_z
      have wm : IntKind.i64.wrap (m - 1) = m - 1 := w64 (by omega) (by omega)
      have y1 : ((0 : Int) ≤ 3) = True := by simp
      have y2 : ((3 : Int) ≤ 6) = True := by simp
      have y3 : ((2 : Int) ≤ 2) = True := by simp
      have y4 : ((2 : Int) ≤ 10) = True := by simp
      have y5 : ((0 : Int) ≤ 0) = True := by simp
      have y6 : ((0 : Int) ≤ 2) = True := by simp
      have y7 : ((0 : Int) ≤ 1) = True := by simp
      have y8 : ((1 : Int) ≤ 2) = True := by simp
      by_cases c5z : z = 1
      · have x1 : bwM z m = m - 1 := by unfold bwM; rw [if_pos c5z]
        have x2 : bwK z = 2 := by unfold bwK; rw [if_pos c5z]
        have o1 : (z = 1) = True := eq_true c5z
        rw [x1] at wA wB wC
        rw [x2] at wB wC
        simp only [rcpk_sem, rcpk_sp, rfac_sem, r4md_sem, rcpk_den, rfac_sem, r4md_sem, Tree.den, LE.den, Cv.list, placeA, List.getElem?_cons_zero, List.getElem?_cons_succ, IE.den, BE.den, At.den, CA.den, Env.get, Cv.int, Cv.bool, List.cons_append, List.nil_append, List.map_cons, List.map_nil, bindRes, bindEq, Fits, SV.den, denL, place, placeL, eq_t, eq_f, lt_t, lt_f, le_t, le_f, beq_iff_eq, beq_eq_false_iff_ne, ne_eq, reduceCtorEq, b_dec, decide_eq_true_eq, decide_eq_false_iff_not, Bool.not_eq_false', Bool.or_eq_true, Bool.or_eq_false_iff, Bool.and_eq_false_iff, true_iff, false_iff, Bool.false_eq_true, Bool.not_eq_true', Bool.and_eq_true, Bool.not_true, Bool.not_false, List.cons.injEq, Cv.i.injEq, Cv.b.injEq, and_true, true_and, agg_inj, tup_inj, Value.int.injEq, Value.bool.injEq, o1, wm, wA, wB, wC, w2, w6, w7, w8, w9, w10, w11, w12, hI, hJ, hZ, m0, m1, t0, t1, k0, k1, k2, k3, y1, y2, y3, y4, y5, y6, y7, y8, forall_eq, eq_self, if_true, if_false, true_and, and_true, false_and, and_false, true_or, or_true, false_or, or_false, true_iff, iff_true, false_iff, iff_false, not_true_eq_false, not_false_eq_true, true_implies, false_implies, implies_true, forall_const, decide_true, decide_false, reduceCtorEq]
      · have z2 : 2 ≤ z ∧ z ≤ 10 := by omega
        have x1 : bwM z m = m := by unfold bwM; rw [if_neg c5z]
        have x2 : bwK z = z := by unfold bwK; rw [if_neg c5z]
        have o1 : (z = 1) = False := eq_false c5z
        rw [x1] at wA wB wC
        rw [x2] at wB wC
        simp only [rcpk_sem, rcpk_sp, rfac_sem, r4md_sem, rcpk_den, rfac_sem, r4md_sem, Tree.den, LE.den, Cv.list, placeA, List.getElem?_cons_zero, List.getElem?_cons_succ, IE.den, BE.den, At.den, CA.den, Env.get, Cv.int, Cv.bool, List.cons_append, List.nil_append, List.map_cons, List.map_nil, bindRes, bindEq, Fits, SV.den, denL, place, placeL, eq_t, eq_f, lt_t, lt_f, le_t, le_f, beq_iff_eq, beq_eq_false_iff_ne, ne_eq, reduceCtorEq, b_dec, decide_eq_true_eq, decide_eq_false_iff_not, Bool.not_eq_false', Bool.or_eq_true, Bool.or_eq_false_iff, Bool.and_eq_false_iff, true_iff, false_iff, Bool.false_eq_true, Bool.not_eq_true', Bool.and_eq_true, Bool.not_true, Bool.not_false, List.cons.injEq, Cv.i.injEq, Cv.b.injEq, and_true, true_and, agg_inj, tup_inj, Value.int.injEq, Value.bool.injEq, o1, iz, z2.1, z2.2, wA, wB, wC, w2, w6, w7, w8, w9, w10, w11, w12, hI, hJ, hZ, m0, m1, t0, t1, k0, k1, k2, k3, y1, y2, y3, y4, y5, y6, y7, y8, forall_eq, eq_self, if_true, if_false, true_and, and_true, false_and, and_false, true_or, or_true, false_or, or_false, true_iff, iff_true, false_iff, iff_false, not_true_eq_false, not_false_eq_true, true_implies, false_implies, implies_true, forall_const, decide_true, decide_false, reduceCtorEq]
def labs_sp : SpecSh := { args := [(.agg [(.int .i64 (.z 0)), (.int .i64 (.z 0)), (.int .i64 (.z 0)), (.int .i64 (.z 0)), (.int .i64 (.z 0))]), (.int .i64 (.z 0)), (.int .i64 (.z 0)), (.int .i64 (.z 0))], res := (.bool .f), sh := [.b] }
set_option maxRecDepth 100000 in
def labs_tree : Tree :=
.call 4 [.i (some ((-9223372036854775808), 9223372036854775807)), .i (some ((-9223372036854775808), 9223372036854775807)), .i (some ((-9223372036854775808), 9223372036854775807))] [.i (.v 0), .i (.v 1), .i (.v 2), .i (.v 3), .i (.v 4), .i (.v 5), .i (.v 6), .i (.v 7)] <|
.call 5 [.i (some ((-9223372036854775808), 9223372036854775807)), .i (some ((-9223372036854775808), 9223372036854775807)), .i (some ((-9223372036854775808), 9223372036854775807))] [.i (.v 0), .i (.v 1), .i (.v 2), .i (.v 3), .i (.v 4), .i (.v 5), .i (.v 6), .i (.v 7)] <|
.call 6 [.i (some ((-9223372036854775808), 9223372036854775807))] [.i (.v 0), .i (.v 1), .i (.v 2), .i (.v 3), .i (.v 4), .i (.v 5), .i (.v 6), .i (.v 7)] <|
.ite (.not (.cmp .eq (.v 14) (.z 0))) (.call 7 [.b] [] <|
.ite (.v 15) (.ite (.cmp .eq (.v 10) (.v 14)) (.ite (.cmp .eq (.v 13) (.v 14)) (.ite (.and (.cmp .eq (.v 8) (.z 0)) (.cmp .eq (.v 9) (.z 0))) (.ret (.bool (.and (.cmp .eq (.v 11) (.z 0)) (.cmp .eq (.v 12) (.z 0))))) <|
.ret (.bool .f)) <|
.ret (.bool .f)) <|
.ret (.bool .f)) <|
.ret (.bool .f)) <|
.call 7 [.b] [] <|
.ite (.v 15) (.ite (.cmp .eq (.v 10) (.z 0)) (.ite (.cmp .eq (.v 13) (.z 0)) (.call 8 [.i (some ((-9223372036854775808), 9223372036854775807)), .i (some ((-9223372036854775808), 9223372036854775807))] [.i (.v 0), .i (.v 1), .i (.v 2), .i (.v 3), .i (.v 4), .i (.v 5), .i (.v 6), .i (.v 7)] <|
.ite (.and (.cmp .eq (.v 8) (.v 16)) (.cmp .eq (.v 9) (.v 17))) (.call 9 [.i (some ((-9223372036854775808), 9223372036854775807)), .i (some ((-9223372036854775808), 9223372036854775807))] [.i (.v 0), .i (.v 1), .i (.v 2), .i (.v 3), .i (.v 4), .i (.v 5), .i (.v 6), .i (.v 7)] <|
.ret (.bool (.and (.cmp .eq (.v 11) (.v 18)) (.cmp .eq (.v 12) (.v 19))))) <|
.ret (.bool .f)) <|
.ret (.bool .f)) <|
.ret (.bool .f)) <|
.ret (.bool .f)
noncomputable def labs_cx : Ctx := { tys := tys, fns := fns, mets := mets, sps := [(4, acp_sp), (5, acpk_sp), (7, a20al_sp), (6, r20b_sp), (8, rcp_sp), (9, rcpk_sp)], anns := [], trys := [] }
def labs_ivs : List (Option (Int × Int)) := [some ((-9223372036854775808), 9223372036854775807), some ((-9223372036854775808), 9223372036854775807), some ((-9223372036854775808), 9223372036854775807), some ((-9223372036854775808), 9223372036854775807), some ((-9223372036854775808), 9223372036854775807), some ((-9223372036854775808), 9223372036854775807), some ((-9223372036854775808), 9223372036854775807), some ((-9223372036854775808), 9223372036854775807)]
set_option maxRecDepth 100000 in
theorem labs_walk : runFn labs_cx 3000 3 Tryz.f3 labs_sp.args labs_ivs = labs_tree := by kernel_rfl
noncomputable def labs_M : Nat → SpecSem
  | 4 => acp_sem
  | 5 => acpk_sem
  | 7 => a20al_sem
  | 6 => r20b_sem
  | 8 => rcp_sem
  | 9 => rcpk_sem
  | _ => noSem
theorem labs_M4 : labs_M 4 = acp_sem := rfl
theorem labs_M5 : labs_M 5 = acpk_sem := rfl
theorem labs_M7 : labs_M 7 = a20al_sem := rfl
theorem labs_M6 : labs_M 6 = r20b_sem := rfl
theorem labs_M8 : labs_M 8 = rcp_sem := rfl
theorem labs_M9 : labs_M 9 = rcpk_sem := rfl
theorem labs_cxok : CxOK Tryz.prog labs_cx labs_M := ⟨tysOK, fnsOK, spCons acp_ok <| spCons acpk_ok <| spCons a20al_ok <| spCons r20b_ok <| spCons rcp_ok <| spCons rcpk_ok <| fun _ _ h => spNil h, mixedOK, fun _ _ h => trNil h, fun _ _ h => atNil h, metsOK⟩
set_option maxRecDepth 100000 in
set_option maxHeartbeats 8000000 in
theorem labs_den (R RP : Value → Prop) (F : Ex → St → Js → Env → Prop) (J : Js) (x0 : Int) (x1 : Int) (x2 : Int) (x3 : Int) (x4 : Int) (x5 : Int) (x6 : Int) (x7 : Int) : Tree.den labs_M R RP F labs_tree J [(.i x0), (.i x1), (.i x2), (.i x3), (.i x4), (.i x5), (.i x6), (.i x7)] = (
  (acp_sem.pre [(.i x0), (.i x1), (.i x2), (.i x3), (.i x4), (.i x5), (.i x6), (.i x7)]) ∧ (
∀ x8 : Int, x8 = (Cv.int (Env.get (acp_sem.out [(.i x0), (.i x1), (.i x2), (.i x3), (.i x4), (.i x5), (.i x6), (.i x7)]) 0)) → (-9223372036854775808 : Int) ≤ x8 → x8 ≤ (9223372036854775807 : Int) →
∀ x9 : Int, x9 = (Cv.int (Env.get (acp_sem.out [(.i x0), (.i x1), (.i x2), (.i x3), (.i x4), (.i x5), (.i x6), (.i x7)]) 1)) → (-9223372036854775808 : Int) ≤ x9 → x9 ≤ (9223372036854775807 : Int) →
∀ x10 : Int, x10 = (Cv.int (Env.get (acp_sem.out [(.i x0), (.i x1), (.i x2), (.i x3), (.i x4), (.i x5), (.i x6), (.i x7)]) 2)) → (-9223372036854775808 : Int) ≤ x10 → x10 ≤ (9223372036854775807 : Int) →
(acpk_sem.pre [(.i x0), (.i x1), (.i x2), (.i x3), (.i x4), (.i x5), (.i x6), (.i x7)]) ∧ (
∀ x11 : Int, x11 = (Cv.int (Env.get (acpk_sem.out [(.i x0), (.i x1), (.i x2), (.i x3), (.i x4), (.i x5), (.i x6), (.i x7)]) 0)) → (-9223372036854775808 : Int) ≤ x11 → x11 ≤ (9223372036854775807 : Int) →
∀ x12 : Int, x12 = (Cv.int (Env.get (acpk_sem.out [(.i x0), (.i x1), (.i x2), (.i x3), (.i x4), (.i x5), (.i x6), (.i x7)]) 1)) → (-9223372036854775808 : Int) ≤ x12 → x12 ≤ (9223372036854775807 : Int) →
∀ x13 : Int, x13 = (Cv.int (Env.get (acpk_sem.out [(.i x0), (.i x1), (.i x2), (.i x3), (.i x4), (.i x5), (.i x6), (.i x7)]) 2)) → (-9223372036854775808 : Int) ≤ x13 → x13 ≤ (9223372036854775807 : Int) →
(r20b_sem.pre [(.i x0), (.i x1), (.i x2), (.i x3), (.i x4), (.i x5), (.i x6), (.i x7)]) ∧ (
∀ x14 : Int, x14 = (Cv.int (Env.get (r20b_sem.out [(.i x0), (.i x1), (.i x2), (.i x3), (.i x4), (.i x5), (.i x6), (.i x7)]) 0)) → (-9223372036854775808 : Int) ≤ x14 → x14 ≤ (9223372036854775807 : Int) →
((!(Cmp.den .eq x14 (0 : Int))) = true → (a20al_sem.pre []) ∧ (
((Cv.bool (Env.get (a20al_sem.out []) 0)) = true → ((Cmp.den .eq x10 x14) = true → ((Cmp.den .eq x13 x14) = true → (((Cmp.den .eq x8 (0 : Int)) && (Cmp.den .eq x9 (0 : Int))) = true → R (Value.bool ((Cmp.den .eq x11 (0 : Int)) && (Cmp.den .eq x12 (0 : Int))))) ∧ (((Cmp.den .eq x8 (0 : Int)) && (Cmp.den .eq x9 (0 : Int))) = false → R (Value.bool false))) ∧ ((Cmp.den .eq x13 x14) = false → R (Value.bool false))) ∧ ((Cmp.den .eq x10 x14) = false → R (Value.bool false))) ∧ ((Cv.bool (Env.get (a20al_sem.out []) 0)) = false → R (Value.bool false)))) ∧ ((!(Cmp.den .eq x14 (0 : Int))) = false → (a20al_sem.pre []) ∧ (
((Cv.bool (Env.get (a20al_sem.out []) 0)) = true → ((Cmp.den .eq x10 (0 : Int)) = true → ((Cmp.den .eq x13 (0 : Int)) = true → (rcp_sem.pre [(.i x0), (.i x1), (.i x2), (.i x3), (.i x4), (.i x5), (.i x6), (.i x7)]) ∧ (
∀ x16 : Int, x16 = (Cv.int (Env.get (rcp_sem.out [(.i x0), (.i x1), (.i x2), (.i x3), (.i x4), (.i x5), (.i x6), (.i x7)]) 0)) → (-9223372036854775808 : Int) ≤ x16 → x16 ≤ (9223372036854775807 : Int) →
∀ x17 : Int, x17 = (Cv.int (Env.get (rcp_sem.out [(.i x0), (.i x1), (.i x2), (.i x3), (.i x4), (.i x5), (.i x6), (.i x7)]) 1)) → (-9223372036854775808 : Int) ≤ x17 → x17 ≤ (9223372036854775807 : Int) →
(((Cmp.den .eq x8 x16) && (Cmp.den .eq x9 x17)) = true → (rcpk_sem.pre [(.i x0), (.i x1), (.i x2), (.i x3), (.i x4), (.i x5), (.i x6), (.i x7)]) ∧ (
∀ x18 : Int, x18 = (Cv.int (Env.get (rcpk_sem.out [(.i x0), (.i x1), (.i x2), (.i x3), (.i x4), (.i x5), (.i x6), (.i x7)]) 0)) → (-9223372036854775808 : Int) ≤ x18 → x18 ≤ (9223372036854775807 : Int) →
∀ x19 : Int, x19 = (Cv.int (Env.get (rcpk_sem.out [(.i x0), (.i x1), (.i x2), (.i x3), (.i x4), (.i x5), (.i x6), (.i x7)]) 1)) → (-9223372036854775808 : Int) ≤ x19 → x19 ≤ (9223372036854775807 : Int) →
R (Value.bool ((Cmp.den .eq x11 x18) && (Cmp.den .eq x12 x19))))) ∧ (((Cmp.den .eq x8 x16) && (Cmp.den .eq x9 x17)) = false → R (Value.bool false)))) ∧ ((Cmp.den .eq x13 (0 : Int)) = false → R (Value.bool false))) ∧ ((Cmp.den .eq x10 (0 : Int)) = false → R (Value.bool false))) ∧ ((Cv.bool (Env.get (a20al_sem.out []) 0)) = false → R (Value.bool false)))))))) := by kernel_rfl

def labs_sem : SpecSem := { pre := fun cs => match cs with | [.i z, .i m, .i s, .i r, .i la, .i a, .i b, .i k] => IsI z ∧ IsI m ∧ IsI s ∧ IsI r ∧ IsI la ∧ IsI a ∧ IsI b ∧ IsI k | _ => False, out := fun cs => match cs with | [.i z, .i m, .i s, .i r, .i la, .i a, .i b, .i k] => [.b true] | _ => [] }
set_option maxRecDepth 10000 in
set_option maxHeartbeats 16000000 in
theorem labs_ok : SpecOK Tryz.prog 3 labs_sp labs_sem := by
  refine spec_of_tree labs_cxok Tryz.func3 (by kernel_rfl) (by kernel_rfl) labs_walk rfl ?_
  intro cs hpre
  match cs, hpre with
  | [.i z, .i m, .i s, .i r, .i la, .i a, .i b, .i k], ⟨j_z, j_m, j_s, j_r, j_la, j_a, j_b, j_k⟩ =>
    have h_z := j_z
    unfold IsI at h_z
    have h_m := j_m
    unfold IsI at h_m
    have h_s := j_s
    unfold IsI at h_s
    have h_r := j_r
    unfold IsI at h_r
    have h_la := j_la
    unfold IsI at h_la
    have h_a := j_a
    unfold IsI at h_a
    have h_b := j_b
    unfold IsI at h_b
    have h_k := j_k
    unfold IsI at h_k
    refine ⟨rfl, IvsB.ok (by simp only [labs_ivs, IvsB, Cv.int, and_true] <;> omega), ?_, ?_⟩
    · simp only [labs_sem, labs_sp, Fits]
    · rw [labs_den]
      have ia : IsI a := j_a
      have ib : IsI b := j_b
      have ik : IsI k := j_k
      by_cases h : cbE z m s r la a b k = 0
      · simp only [labs_sem, labs_sp, acp_sem, acpk_sem, a20al_sem, r20b_sem, rcp_sem, rcpk_sem, labs_den, acp_sem, acpk_sem, a20al_sem, r20b_sem, rcp_sem, rcpk_sem, Tree.den, LE.den, Cv.list, placeA, List.getElem?_cons_zero, List.getElem?_cons_succ, IE.den, BE.den, At.den, CA.den, Env.get, Cv.int, Cv.bool, List.cons_append, List.nil_append, List.map_cons, List.map_nil, bindRes, bindEq, Fits, SV.den, denL, place, placeL, eq_t, eq_f, lt_t, lt_f, le_t, le_f, beq_iff_eq, beq_eq_false_iff_ne, ne_eq, reduceCtorEq, b_dec, decide_eq_true_eq, decide_eq_false_iff_not, Bool.not_eq_false', Bool.or_eq_true, Bool.or_eq_false_iff, Bool.and_eq_false_iff, true_iff, false_iff, Bool.false_eq_true, Bool.not_eq_true', Bool.and_eq_true, Bool.not_true, Bool.not_false, List.cons.injEq, Cv.i.injEq, Cv.b.injEq, and_true, true_and, agg_inj, tup_inj, Value.int.injEq, Value.bool.injEq, j_z, j_m, j_s, j_r, j_la, ia, ib, ik, h, forall_eq, eq_self, if_true, if_false, true_and, and_true, false_and, and_false, true_or, or_true, false_or, or_false, true_iff, iff_true, false_iff, iff_false, not_true_eq_false, not_false_eq_true, true_implies, false_implies, implies_true, forall_const, decide_true, decide_false, reduceCtorEq]
      · simp only [labs_sem, labs_sp, acp_sem, acpk_sem, a20al_sem, r20b_sem, rcp_sem, rcpk_sem, labs_den, acp_sem, acpk_sem, a20al_sem, r20b_sem, rcp_sem, rcpk_sem, Tree.den, LE.den, Cv.list, placeA, List.getElem?_cons_zero, List.getElem?_cons_succ, IE.den, BE.den, At.den, CA.den, Env.get, Cv.int, Cv.bool, List.cons_append, List.nil_append, List.map_cons, List.map_nil, bindRes, bindEq, Fits, SV.den, denL, place, placeL, eq_t, eq_f, lt_t, lt_f, le_t, le_f, beq_iff_eq, beq_eq_false_iff_ne, ne_eq, reduceCtorEq, b_dec, decide_eq_true_eq, decide_eq_false_iff_not, Bool.not_eq_false', Bool.or_eq_true, Bool.or_eq_false_iff, Bool.and_eq_false_iff, true_iff, false_iff, Bool.false_eq_true, Bool.not_eq_true', Bool.and_eq_true, Bool.not_true, Bool.not_false, List.cons.injEq, Cv.i.injEq, Cv.b.injEq, and_true, true_and, agg_inj, tup_inj, Value.int.injEq, Value.bool.injEq, j_z, j_m, j_s, j_r, j_la, ia, ib, ik, h, forall_eq, eq_self, if_true, if_false, true_and, and_true, false_and, and_false, true_or, or_true, false_or, or_false, true_iff, iff_true, false_iff, iff_false, not_true_eq_false, not_false_eq_true, true_implies, false_implies, implies_true, forall_const, decide_true, decide_false, reduceCtorEq]
end Go.Proofs.YtglpelnaeipenaaGreat.X
