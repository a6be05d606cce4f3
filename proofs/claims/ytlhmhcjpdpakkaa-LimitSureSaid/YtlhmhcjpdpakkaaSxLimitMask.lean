/-
  The contracts of limit's verdicts and masks, and of the reference's, for every input in range.
-/
import Derived.Test.YtlhmhcjpdpakkaaSxLimit
import Derived.Test.YtlhmhcjpdpakkaaSxZone
namespace Go.Proofs.Ytlhmhcjpdpakkaa.X
open Go Go.SX Go.RowKit
set_option linter.unusedVariables false
set_option linter.unusedSimpArgs false




/-- lines that may be, and what they tell -/
def lnOK (a b c d e f g h : Int) : Prop := a ≤ b ∧ c ≤ d ∧ e ≤ f ∧ g ≤ h
instance decLn (a b c d e f g h : Int) : Decidable (lnOK a b c d e f g h) := by unfold lnOK; exact inferInstance
def vdZ (a b e f g h : Int) : Int := if f < g then 1 else if h < a then 1 else if e < h then 2 else if g < b then 2 else 0
def lverd_sp : SpecSh := { args := [(.agg [(.int .i64 (.z 0)), (.int .i64 (.z 0)), (.int .i64 (.z 0)), (.int .i64 (.z 0)), (.int .i64 (.z 0)), (.int .i64 (.z 0)), (.int .i64 (.z 0)), (.int .i64 (.z 0))])], res := (.tup [(.int .i64 (.z 0)), (.int .i64 (.z 0))]), sh := [.i (some (0, 2)), .i (some (0, 1))] }
set_option maxRecDepth 100000 in
def lverd_tree : Tree :=
.ite (.not (.cmp .le (.v 0) (.v 1))) (.ret (.tup [(.int .i64 (.z 0)), (.int .i64 (.z 1))])) <|
.ite (.not (.cmp .le (.v 2) (.v 3))) (.ret (.tup [(.int .i64 (.z 0)), (.int .i64 (.z 1))])) <|
.ite (.not (.cmp .le (.v 4) (.v 5))) (.ret (.tup [(.int .i64 (.z 0)), (.int .i64 (.z 1))])) <|
.ite (.not (.cmp .le (.v 6) (.v 7))) (.ret (.tup [(.int .i64 (.z 0)), (.int .i64 (.z 1))])) <|
.ite (.or (.and (.cmp .lt (.v 5) (.v 6)) (.cmp .lt (.v 5) (.v 6))) (.and (.not (.cmp .lt (.v 5) (.v 6))) (.cmp .lt (.v 7) (.v 0)))) (.ret (.tup [(.int .i64 (.z 1)), (.int .i64 (.z 0))])) <|
.ite (.or (.and (.cmp .lt (.v 4) (.v 7)) (.cmp .lt (.v 4) (.v 7))) (.and (.not (.cmp .lt (.v 4) (.v 7))) (.cmp .lt (.v 6) (.v 1)))) (.ret (.tup [(.int .i64 (.z 2)), (.int .i64 (.z 0))])) <|
.ret (.tup [(.int .i64 (.z 0)), (.int .i64 (.z 0))])
noncomputable def lverd_cx : Ctx := { tys := tys, fns := fns, sps := [], anns := [], trys := [] }
def lverd_ivs : List (Option (Int × Int)) := [some ((-9223372036854775808), 9223372036854775807), some ((-9223372036854775808), 9223372036854775807), some ((-9223372036854775808), 9223372036854775807), some ((-9223372036854775808), 9223372036854775807), some ((-9223372036854775808), 9223372036854775807), some ((-9223372036854775808), 9223372036854775807), some ((-9223372036854775808), 9223372036854775807), some ((-9223372036854775808), 9223372036854775807)]
set_option maxRecDepth 100000 in
theorem lverd_walk : runFn lverd_cx 3000 61 Try.f61 lverd_sp.args lverd_ivs = lverd_tree := by kernel_rfl
noncomputable def lverd_M : Nat → SpecSem
  | _ => noSem
theorem lverd_cxok : CxOK Try.prog lverd_cx lverd_M := ⟨tysOK, fnsOK, fun _ _ h => spNil h, mixedOK, fun _ _ h => trNil h⟩

def lverd_sem : SpecSem := { pre := fun cs => match cs with | [.i a, .i b, .i c, .i d, .i e, .i f, .i g, .i h] => IsI a ∧ IsI b ∧ IsI c ∧ IsI d ∧ IsI e ∧ IsI f ∧ IsI g ∧ IsI h | _ => False, out := fun cs => match cs with | [.i a, .i b, .i c, .i d, .i e, .i f, .i g, .i h] => [.i (if lnOK a b c d e f g h then vdZ a b e f g h else 0), .i (if lnOK a b c d e f g h then 0 else 1)] | _ => [] }
set_option maxRecDepth 10000 in
set_option maxHeartbeats 16000000 in
theorem lverd_ok : SpecOK Try.prog 61 lverd_sp lverd_sem := by
  refine spec_of_tree lverd_cxok Try.func61 (by kernel_rfl) (by kernel_rfl) lverd_walk rfl ?_
  intro cs hpre
  match cs, hpre with
  | [.i a, .i b, .i c, .i d, .i e, .i f, .i g, .i h], ⟨j_a, j_b, j_c, j_d, j_e, j_f, j_g, j_h⟩ =>
    have h_a := j_a
    unfold IsI at h_a
    have h_b := j_b
    unfold IsI at h_b
    have h_c := j_c
    unfold IsI at h_c
    have h_d := j_d
    unfold IsI at h_d
    have h_e := j_e
    unfold IsI at h_e
    have h_f := j_f
    unfold IsI at h_f
    have h_g := j_g
    unfold IsI at h_g
    have h_h := j_h
    unfold IsI at h_h
    refine ⟨rfl, IvsB.ok (by simp only [lverd_ivs, IvsB, Cv.int, and_true] <;> omega), ?_, ?_⟩
    · simp only [lverd_sem, lverd_sp, Fits, and_true, vdZ]
      by_cases hl : lnOK a b c d e f g h <;> simp only [hl, if_true, if_false, true_and, and_true, false_and, and_false, true_or, or_true, false_or, or_false, true_iff, iff_true, false_iff, iff_false, not_true_eq_false, not_false_eq_true, true_implies, false_implies, implies_true, forall_const, decide_true, decide_false, reduceCtorEq] <;> omega
    · simp only [lverd_sem, lverd_sp, vdZ, lverd_tree, Tree.den, LE.den, Cv.list, placeA, List.getElem?_cons_zero, List.getElem?_cons_succ, IE.den, BE.den, At.den, CA.den, Env.get, Cv.int, Cv.bool, List.cons_append, List.nil_append, List.map_cons, List.map_nil, bindRes, bindEq, Fits, SV.den, denL, place, placeL, eq_t, eq_f, lt_t, lt_f, le_t, le_f, beq_iff_eq, beq_eq_false_iff_ne, ne_eq, reduceCtorEq, b_dec, decide_eq_true_eq, decide_eq_false_iff_not, Bool.not_eq_false', Bool.or_eq_true, Bool.or_eq_false_iff, Bool.and_eq_false_iff, true_iff, false_iff, Bool.false_eq_true, Bool.not_eq_true', Bool.and_eq_true, Bool.not_true, Bool.not_false, List.cons.injEq, Cv.i.injEq, Cv.b.injEq, and_true, true_and, agg_inj, tup_inj, Value.int.injEq, Value.bool.injEq]
      by_cases hl : lnOK a b c d e f g h
      · simp only [hl, if_true, if_false, true_and, and_true, false_and, and_false, true_or, or_true, false_or, or_false, true_iff, iff_true, false_iff, iff_false, not_true_eq_false, not_false_eq_true, true_implies, false_implies, implies_true, forall_const, decide_true, decide_false, reduceCtorEq]
        unfold lnOK at hl
        (repeat' (first | intro _ | refine And.intro ?_ ?_ | exact trivial)) <;> omega
      · simp only [hl, if_true, if_false, true_and, and_true, false_and, and_false, true_or, or_true, false_or, or_false, true_iff, iff_true, false_iff, iff_false, not_true_eq_false, not_false_eq_true, true_implies, false_implies, implies_true, forall_const, decide_true, decide_false, reduceCtorEq]
        unfold lnOK at hl
        (repeat' (first | intro _ | refine And.intro ?_ ?_ | exact trivial)) <;> omega
def r17ln_sp : SpecSh := { args := [(.agg [(.int .i64 (.z 0)), (.int .i64 (.z 0)), (.int .i64 (.z 0)), (.int .i64 (.z 0)), (.int .i64 (.z 0)), (.int .i64 (.z 0)), (.int .i64 (.z 0)), (.int .i64 (.z 0))])], res := (.bool .f), sh := [.b] }
set_option maxRecDepth 100000 in
def r17ln_tree : Tree :=
.ite (.cmp .le (.v 0) (.v 1)) (.ite (.cmp .le (.v 2) (.v 3)) (.ite (.cmp .le (.v 4) (.v 5)) (.ret (.bool (.cmp .le (.v 6) (.v 7)))) <|
.ret (.bool .f)) <|
.ret (.bool .f)) <|
.ret (.bool .f)
noncomputable def r17ln_cx : Ctx := { tys := tys, fns := fns, sps := [], anns := [], trys := [] }
def r17ln_ivs : List (Option (Int × Int)) := [some ((-9223372036854775808), 9223372036854775807), some ((-9223372036854775808), 9223372036854775807), some ((-9223372036854775808), 9223372036854775807), some ((-9223372036854775808), 9223372036854775807), some ((-9223372036854775808), 9223372036854775807), some ((-9223372036854775808), 9223372036854775807), some ((-9223372036854775808), 9223372036854775807), some ((-9223372036854775808), 9223372036854775807)]
set_option maxRecDepth 100000 in
theorem r17ln_walk : runFn r17ln_cx 3000 74 Try.f74 r17ln_sp.args r17ln_ivs = r17ln_tree := by kernel_rfl
noncomputable def r17ln_M : Nat → SpecSem
  | _ => noSem
theorem r17ln_cxok : CxOK Try.prog r17ln_cx r17ln_M := ⟨tysOK, fnsOK, fun _ _ h => spNil h, mixedOK, fun _ _ h => trNil h⟩

def r17ln_sem : SpecSem := { pre := fun cs => match cs with | [.i a, .i b, .i c, .i d, .i e, .i f, .i g, .i h] => IsI a ∧ IsI b ∧ IsI c ∧ IsI d ∧ IsI e ∧ IsI f ∧ IsI g ∧ IsI h | _ => False, out := fun cs => match cs with | [.i a, .i b, .i c, .i d, .i e, .i f, .i g, .i h] => [.b (decide (lnOK a b c d e f g h))] | _ => [] }
set_option maxRecDepth 10000 in
set_option maxHeartbeats 16000000 in
theorem r17ln_ok : SpecOK Try.prog 74 r17ln_sp r17ln_sem := by
  refine spec_of_tree r17ln_cxok Try.func74 (by kernel_rfl) (by kernel_rfl) r17ln_walk rfl ?_
  intro cs hpre
  match cs, hpre with
  | [.i a, .i b, .i c, .i d, .i e, .i f, .i g, .i h], ⟨j_a, j_b, j_c, j_d, j_e, j_f, j_g, j_h⟩ =>
    have h_a := j_a
    unfold IsI at h_a
    have h_b := j_b
    unfold IsI at h_b
    have h_c := j_c
    unfold IsI at h_c
    have h_d := j_d
    unfold IsI at h_d
    have h_e := j_e
    unfold IsI at h_e
    have h_f := j_f
    unfold IsI at h_f
    have h_g := j_g
    unfold IsI at h_g
    have h_h := j_h
    unfold IsI at h_h
    refine ⟨rfl, IvsB.ok (by simp only [r17ln_ivs, IvsB, Cv.int, and_true] <;> omega), ?_, ?_⟩
    · simp only [r17ln_sem, r17ln_sp, Fits]
    · simp only [r17ln_sem, r17ln_sp, r17ln_tree, Tree.den, LE.den, Cv.list, placeA, List.getElem?_cons_zero, List.getElem?_cons_succ, IE.den, BE.den, At.den, CA.den, Env.get, Cv.int, Cv.bool, List.cons_append, List.nil_append, List.map_cons, List.map_nil, bindRes, bindEq, Fits, SV.den, denL, place, placeL, eq_t, eq_f, lt_t, lt_f, le_t, le_f, beq_iff_eq, beq_eq_false_iff_ne, ne_eq, reduceCtorEq, b_dec, decide_eq_true_eq, decide_eq_false_iff_not, Bool.not_eq_false', Bool.or_eq_true, Bool.or_eq_false_iff, Bool.and_eq_false_iff, true_iff, false_iff, Bool.false_eq_true, Bool.not_eq_true', Bool.and_eq_true, Bool.not_true, Bool.not_false, List.cons.injEq, Cv.i.injEq, Cv.b.injEq, and_true, true_and, agg_inj, tup_inj, Value.int.injEq, Value.bool.injEq]
      unfold lnOK
      (repeat' (first | intro _ | refine And.intro ?_ ?_ | exact trivial)) <;> omega
def r17verd_sp : SpecSh := { args := [(.agg [(.int .i64 (.z 0)), (.int .i64 (.z 0)), (.int .i64 (.z 0)), (.int .i64 (.z 0)), (.int .i64 (.z 0)), (.int .i64 (.z 0)), (.int .i64 (.z 0)), (.int .i64 (.z 0))])], res := (.int .i64 (.z 0)), sh := [.i (some (0, 2))] }
set_option maxRecDepth 100000 in
def r17verd_tree : Tree :=
.ite (.cmp .lt (.v 5) (.v 6)) (.ret (.int .i64 (.z 1))) <|
.ite (.cmp .lt (.v 7) (.v 0)) (.ret (.int .i64 (.z 1))) <|
.ite (.cmp .le (.v 7) (.v 4)) (.ite (.cmp .le (.v 1) (.v 6)) (.ret (.int .i64 (.z 0))) <|
.ret (.int .i64 (.z 2))) <|
.ret (.int .i64 (.z 2))
noncomputable def r17verd_cx : Ctx := { tys := tys, fns := fns, sps := [], anns := [], trys := [] }
def r17verd_ivs : List (Option (Int × Int)) := [some ((-9223372036854775808), 9223372036854775807), some ((-9223372036854775808), 9223372036854775807), some ((-9223372036854775808), 9223372036854775807), some ((-9223372036854775808), 9223372036854775807), some ((-9223372036854775808), 9223372036854775807), some ((-9223372036854775808), 9223372036854775807), some ((-9223372036854775808), 9223372036854775807), some ((-9223372036854775808), 9223372036854775807)]
set_option maxRecDepth 100000 in
theorem r17verd_walk : runFn r17verd_cx 3000 75 Try.f75 r17verd_sp.args r17verd_ivs = r17verd_tree := by kernel_rfl
noncomputable def r17verd_M : Nat → SpecSem
  | _ => noSem
theorem r17verd_cxok : CxOK Try.prog r17verd_cx r17verd_M := ⟨tysOK, fnsOK, fun _ _ h => spNil h, mixedOK, fun _ _ h => trNil h⟩

def r17verd_sem : SpecSem := { pre := fun cs => match cs with | [.i a, .i b, .i c, .i d, .i e, .i f, .i g, .i h] => IsI a ∧ IsI b ∧ IsI c ∧ IsI d ∧ IsI e ∧ IsI f ∧ IsI g ∧ IsI h | _ => False, out := fun cs => match cs with | [.i a, .i b, .i c, .i d, .i e, .i f, .i g, .i h] => [.i (vdZ a b e f g h)] | _ => [] }
set_option maxRecDepth 10000 in
set_option maxHeartbeats 16000000 in
theorem r17verd_ok : SpecOK Try.prog 75 r17verd_sp r17verd_sem := by
  refine spec_of_tree r17verd_cxok Try.func75 (by kernel_rfl) (by kernel_rfl) r17verd_walk rfl ?_
  intro cs hpre
  match cs, hpre with
  | [.i a, .i b, .i c, .i d, .i e, .i f, .i g, .i h], ⟨j_a, j_b, j_c, j_d, j_e, j_f, j_g, j_h⟩ =>
    have h_a := j_a
    unfold IsI at h_a
    have h_b := j_b
    unfold IsI at h_b
    have h_c := j_c
    unfold IsI at h_c
    have h_d := j_d
    unfold IsI at h_d
    have h_e := j_e
    unfold IsI at h_e
    have h_f := j_f
    unfold IsI at h_f
    have h_g := j_g
    unfold IsI at h_g
    have h_h := j_h
    unfold IsI at h_h
    refine ⟨rfl, IvsB.ok (by simp only [r17verd_ivs, IvsB, Cv.int, and_true] <;> omega), ?_, ?_⟩
    · simp only [r17verd_sem, r17verd_sp, Fits, and_true, vdZ]; omega
    · simp only [r17verd_sem, r17verd_sp, vdZ, r17verd_tree, Tree.den, LE.den, Cv.list, placeA, List.getElem?_cons_zero, List.getElem?_cons_succ, IE.den, BE.den, At.den, CA.den, Env.get, Cv.int, Cv.bool, List.cons_append, List.nil_append, List.map_cons, List.map_nil, bindRes, bindEq, Fits, SV.den, denL, place, placeL, eq_t, eq_f, lt_t, lt_f, le_t, le_f, beq_iff_eq, beq_eq_false_iff_ne, ne_eq, reduceCtorEq, b_dec, decide_eq_true_eq, decide_eq_false_iff_not, Bool.not_eq_false', Bool.or_eq_true, Bool.or_eq_false_iff, Bool.and_eq_false_iff, true_iff, false_iff, Bool.false_eq_true, Bool.not_eq_true', Bool.and_eq_true, Bool.not_true, Bool.not_false, List.cons.injEq, Cv.i.injEq, Cv.b.injEq, and_true, true_and, agg_inj, tup_inj, Value.int.injEq, Value.bool.injEq]
      (repeat' (first | intro _ | refine And.intro ?_ ?_ | exact trivial)) <;> omega
def mkZ (d e v s : Int) : Int := maskZ (hullLo (e - upD d s) v v) (hullHi (e + upD d s) v v)
theorem mkZ_rng (d e v s : Int) : 0 ≤ mkZ d e v s ∧ mkZ d e v s ≤ 511 := by
  obtain ⟨⟨r1, r2⟩, _⟩ := hull_rng (e - upD d s) (e + upD d s) v v
  obtain ⟨_, ⟨r3, r4⟩⟩ := hull_rng (e - upD d s) (e + upD d s) v v
  exact maskZ_rng r1 r4
theorem up_rng {d s : Int} (hd : 1 ≤ d) (hs : 1 ≤ s) : 1 ≤ upD d s ∧ upD d s ≤ d := by
  have e2 : upD d s = -(-d / s) := by rw [upD_eq, if_neg (by omega)]; unfold absZ; rw [if_neg (by omega)]
  have h1 : -d / s < 0 := Int.ediv_neg_of_neg_of_pos (by omega) (by omega)
  have h2 : -d ≤ -d / s := by
    rw [Int.le_ediv_iff_mul_le (by omega)]
    have : -d * s ≤ -d * 1 := Int.mul_le_mul_of_nonpos_left (by omega) hs
    omega
  omega
def lmask_sp : SpecSh := { args := [(.agg [(.int .i64 (.z 0)), (.int .i64 (.z 0)), (.int .i64 (.z 0)), (.int .u64 (.z 0)), (.int .u64 (.z 0))]), (.int .i64 (.z 0))], res := (.tup [(.int .i64 (.z 0)), (.int .i64 (.z 0))]), sh := [.i (some (0, 511)), .i (some (0, 3))] }
set_option maxRecDepth 100000 in
def lmask_tree : Tree :=
.ite (.cmp .le (.z 1) (.v 1)) (.ite (.not (.cmp .lt (.z 100000000000000) (.v 1))) (.ite (.cmp .lt (.v 0) (.z (-100000000000000))) (.ret (.tup [(.int .i64 (.z 0)), (.int .i64 (.z 1))])) <|
.ite (.not (.cmp .lt (.z 100000000000000) (.v 0))) (.ite (.cmp .lt (.v 2) (.z (-100000000000000))) (.ret (.tup [(.int .i64 (.z 0)), (.int .i64 (.z 1))])) <|
.ite (.not (.cmp .lt (.z 100000000000000) (.v 2))) (.ite (.not (.cmp .lt (.v 3) (.z 274877906944))) (.ret (.tup [(.int .i64 (.z 0)), (.int .i64 (.z 1))])) <|
.ite (.cmp .le (.z 1) (.v 5)) (.ite (.not (.cmp .le (.v 5) (.z 1000))) (.ret (.tup [(.int .i64 (.z 0)), (.int .i64 (.z 3))])) <|
.call 49 [.i (some ((-9223372036854775808), 9223372036854775807)), .i (some ((-9223372036854775808), 9223372036854775807))] [.i (.v 1), .i (.z 1), .i (.v 5), .i (.z 1)] <|
.lett (.subw .i64 (.v 2) (.v 6)) <|
.lett (.addw .i64 (.v 2) (.v 6)) <|
.call 139 [.i (some (0, 511)), .i (some (0, 1))] [.i (.v 8), .i (.v 9), .i (.v 3), .i (.v 4), .i (.v 3), .i (.v 4)] <|
.ret (.tup [(.int .i64 (.v 10)), (.int .i64 (.v 11))])) <|
.ret (.tup [(.int .i64 (.z 0)), (.int .i64 (.z 3))])) <|
.ret (.tup [(.int .i64 (.z 0)), (.int .i64 (.z 1))])) <|
.ret (.tup [(.int .i64 (.z 0)), (.int .i64 (.z 1))])) <|
.ret (.tup [(.int .i64 (.z 0)), (.int .i64 (.z 1))])) <|
.ret (.tup [(.int .i64 (.z 0)), (.int .i64 (.z 1))])
noncomputable def lmask_cx : Ctx := { tys := tys, fns := fns, sps := [(49, fmd_sp), (139, zhull_sp)], anns := [], trys := [] }
def lmask_ivs : List (Option (Int × Int)) := [some ((-9223372036854775808), 9223372036854775807), some ((-9223372036854775808), 9223372036854775807), some ((-9223372036854775808), 9223372036854775807), some (0, 18446744073709551615), some (0, 18446744073709551615), some ((-9223372036854775808), 9223372036854775807)]
set_option maxRecDepth 100000 in
theorem lmask_walk : runFn lmask_cx 3000 73 Try.f73 lmask_sp.args lmask_ivs = lmask_tree := by kernel_rfl
noncomputable def lmask_M : Nat → SpecSem
  | 49 => fmd_sem
  | 139 => zhull_sem
  | _ => noSem
theorem lmask_M49 : lmask_M 49 = fmd_sem := rfl
theorem lmask_M139 : lmask_M 139 = zhull_sem := rfl
theorem lmask_cxok : CxOK Try.prog lmask_cx lmask_M := ⟨tysOK, fnsOK, spCons fmd_ok <| spCons zhull_ok <| fun _ _ h => spNil h, mixedOK, fun _ _ h => trNil h⟩
set_option maxRecDepth 100000 in
set_option maxHeartbeats 8000000 in
theorem lmask_den (R RP : Value → Prop) (F : Ex → St → Js → Env → Prop) (J : Js) (x0 : Int) (x1 : Int) (x2 : Int) (x3 : Int) (x4 : Int) (x5 : Int) : Tree.den lmask_M R RP F lmask_tree J [(.i x0), (.i x1), (.i x2), (.i x3), (.i x4), (.i x5)] = (
  ((Cmp.den .le (1 : Int) x1) = true → ((!(Cmp.den .lt (100000000000000 : Int) x1)) = true → ((Cmp.den .lt x0 (-100000000000000 : Int)) = true → R (Value.tuple [(Value.int .i64 (0 : Int)), (Value.int .i64 (1 : Int))].toArray)) ∧ ((Cmp.den .lt x0 (-100000000000000 : Int)) = false → ((!(Cmp.den .lt (100000000000000 : Int) x0)) = true → ((Cmp.den .lt x2 (-100000000000000 : Int)) = true → R (Value.tuple [(Value.int .i64 (0 : Int)), (Value.int .i64 (1 : Int))].toArray)) ∧ ((Cmp.den .lt x2 (-100000000000000 : Int)) = false → ((!(Cmp.den .lt (100000000000000 : Int) x2)) = true → ((!(Cmp.den .lt x3 (274877906944 : Int))) = true → R (Value.tuple [(Value.int .i64 (0 : Int)), (Value.int .i64 (1 : Int))].toArray)) ∧ ((!(Cmp.den .lt x3 (274877906944 : Int))) = false → ((Cmp.den .le (1 : Int) x5) = true → ((!(Cmp.den .le x5 (1000 : Int))) = true → R (Value.tuple [(Value.int .i64 (0 : Int)), (Value.int .i64 (3 : Int))].toArray)) ∧ ((!(Cmp.den .le x5 (1000 : Int))) = false → (fmd_sem.pre [(.i x1), (.i (1 : Int)), (.i x5), (.i (1 : Int))]) ∧ (
∀ x6 : Int, x6 = (Cv.int (Env.get (fmd_sem.out [(.i x1), (.i (1 : Int)), (.i x5), (.i (1 : Int))]) 0)) → (-9223372036854775808 : Int) ≤ x6 → x6 ≤ (9223372036854775807 : Int) →
∀ x7 : Int, x7 = (Cv.int (Env.get (fmd_sem.out [(.i x1), (.i (1 : Int)), (.i x5), (.i (1 : Int))]) 1)) → (-9223372036854775808 : Int) ≤ x7 → x7 ≤ (9223372036854775807 : Int) →
∀ x8 : Int, x8 = (IntKind.i64.wrap (x2 - x6)) →
∀ x9 : Int, x9 = (IntKind.i64.wrap (x2 + x6)) →
(zhull_sem.pre [(.i x8), (.i x9), (.i x3), (.i x4), (.i x3), (.i x4)]) ∧ (
∀ x10 : Int, x10 = (Cv.int (Env.get (zhull_sem.out [(.i x8), (.i x9), (.i x3), (.i x4), (.i x3), (.i x4)]) 0)) → (0 : Int) ≤ x10 → x10 ≤ (511 : Int) →
∀ x11 : Int, x11 = (Cv.int (Env.get (zhull_sem.out [(.i x8), (.i x9), (.i x3), (.i x4), (.i x3), (.i x4)]) 1)) → (0 : Int) ≤ x11 → x11 ≤ (1 : Int) →
R (Value.tuple [(Value.int .i64 x10), (Value.int .i64 x11)].toArray))))) ∧ ((Cmp.den .le (1 : Int) x5) = false → R (Value.tuple [(Value.int .i64 (0 : Int)), (Value.int .i64 (3 : Int))].toArray)))) ∧ ((!(Cmp.den .lt (100000000000000 : Int) x2)) = false → R (Value.tuple [(Value.int .i64 (0 : Int)), (Value.int .i64 (1 : Int))].toArray)))) ∧ ((!(Cmp.den .lt (100000000000000 : Int) x0)) = false → R (Value.tuple [(Value.int .i64 (0 : Int)), (Value.int .i64 (1 : Int))].toArray)))) ∧ ((!(Cmp.den .lt (100000000000000 : Int) x1)) = false → R (Value.tuple [(Value.int .i64 (0 : Int)), (Value.int .i64 (1 : Int))].toArray))) ∧ ((Cmp.den .le (1 : Int) x1) = false → R (Value.tuple [(Value.int .i64 (0 : Int)), (Value.int .i64 (1 : Int))].toArray))) := by kernel_rfl

def lmask_sem : SpecSem := { pre := fun cs => match cs with | [.i c, .i d, .i e, .i h, .i l, .i s] => IsI c ∧ IsI d ∧ IsI e ∧ IsU h ∧ IsU l ∧ IsI s | _ => False, out := fun cs => match cs with | [.i c, .i d, .i e, .i h, .i l, .i s] => [.i (if drOK c d e h s then mkZ d e (val h l) s else 0), .i (if ptOK c d e h then (if 1 ≤ s ∧ s ≤ 1000 then 0 else 3) else 1)] | _ => [] }
set_option maxRecDepth 10000 in
set_option maxHeartbeats 16000000 in
theorem lmask_ok : SpecOK Try.prog 73 lmask_sp lmask_sem := by
  refine spec_of_tree lmask_cxok Try.func73 (by kernel_rfl) (by kernel_rfl) lmask_walk rfl ?_
  intro cs hpre
  match cs, hpre with
  | [.i c, .i d, .i e, .i h, .i l, .i s], ⟨j_c, j_d, j_e, j_h, j_l, j_s⟩ =>
    have h_c := j_c
    unfold IsI at h_c
    have h_d := j_d
    unfold IsI at h_d
    have h_e := j_e
    unfold IsI at h_e
    have h_h := j_h
    unfold IsU at h_h
    have h_l := j_l
    unfold IsU at h_l
    have h_s := j_s
    unfold IsI at h_s
    refine ⟨rfl, IvsB.ok (by simp only [lmask_ivs, IvsB, Cv.int, and_true] <;> omega), ?_, ?_⟩
    · simp only [lmask_sem, lmask_sp, Fits, and_true]
      have := mkZ_rng d e (val h l) s
      split <;> (try split) <;> (try split) <;> omega
    · rw [lmask_den]
      simp only [lmask_sem, lmask_sp, lmask_den, fmd_sem, zhull_sem, Tree.den, LE.den, Cv.list, placeA, List.getElem?_cons_zero, List.getElem?_cons_succ, IE.den, BE.den, At.den, CA.den, Env.get, Cv.int, Cv.bool, List.cons_append, List.nil_append, List.map_cons, List.map_nil, bindRes, bindEq, Fits, SV.den, denL, place, placeL, eq_t, eq_f, lt_t, lt_f, le_t, le_f, beq_iff_eq, beq_eq_false_iff_ne, ne_eq, reduceCtorEq, b_dec, decide_eq_true_eq, decide_eq_false_iff_not, Bool.not_eq_false', Bool.or_eq_true, Bool.or_eq_false_iff, Bool.and_eq_false_iff, true_iff, false_iff, Bool.false_eq_true, Bool.not_eq_true', Bool.and_eq_true, Bool.not_true, Bool.not_false, List.cons.injEq, Cv.i.injEq, Cv.b.injEq, and_true, true_and, agg_inj, tup_inj, Value.int.injEq, Value.bool.injEq]
      by_cases hp : ptOK c d e h
      · by_cases hs : 1 ≤ s ∧ s ≤ 1000
        · have hr : drOK c d e h s := ⟨hp, hs⟩
          obtain ⟨⟨d1, d2⟩, ⟨c1, c2⟩, ⟨e1, e2⟩, v1⟩ := id hp
          have hg := up_rng d1 hs.1
          have sne : s ≠ 0 := by omega
          have ho : hOK (e - upD d s) (e + upD d s) h l h l := ⟨by omega, by omega, by omega⟩
          have n1 : (c < -100000000000000) = False := eq_false (by omega)
          have n2 : (e < -100000000000000) = False := eq_false (by omega)
          have n3 : (274877906944 ≤ h) = False := eq_false (by omega)
          have n4 : (1000 < s) = False := eq_false (by omega)
          have n5 : (s < 1) = False := eq_false (by omega)
          have n6 : (100000000000000 < e) = False := eq_false (by omega)
          have n7 : (100000000000000 < c) = False := eq_false (by omega)
          have n8 : (100000000000000 < d) = False := eq_false (by omega)
          have n9 : (d < 1) = False := eq_false (by omega)
          have n10 : (d < -100000000000000) = False := eq_false (by omega)
          have i1 : IsI (upD d s) := ⟨by omega, by omega⟩
          have i2 : IsI (e - upD d s) := ⟨by omega, by omega⟩
          have i3 : IsI (e + upD d s) := ⟨by omega, by omega⟩
          have i9 : IsI 1 := ⟨by omega, by omega⟩
          have w1 : IntKind.i64.wrap (e - upD d s) = e - upD d s := w64 (by omega) (by omega)
          have w2 : IntKind.i64.wrap (e + upD d s) = e + upD d s := w64 (by omega) (by omega)
          simp only [hp, hr, hs.1, hs.2, d1, d2, c1, c2, e1, e2, v1, n1, n2, n3, n4, n5, n6, n7, n8, n9, n10, w1, w2, i1, i2, i3, i9, ho, mkZ, j_c, j_d, j_e, j_h, j_l, j_s, mdV1 sne, forall_eq, if_true, if_false, true_and, and_true, false_and, and_false, true_or, or_true, false_or, or_false, true_iff, iff_true, false_iff, iff_false, not_true_eq_false, not_false_eq_true, true_implies, false_implies, implies_true, forall_const, decide_true, decide_false, reduceCtorEq] <;> (try ((repeat' (first | intro _ | refine And.intro ?_ ?_ | exact trivial)) <;> omega))
        · have hr : ¬ drOK c d e h s := fun k => hs k.2
          obtain ⟨⟨d1, d2⟩, ⟨c1, c2⟩, ⟨e1, e2⟩, v1⟩ := id hp
          simp only [hp, hr, hs, if_true, if_false, true_and, and_true, false_and, and_false, true_or, or_true, false_or, or_false, true_iff, iff_true, false_iff, iff_false, not_true_eq_false, not_false_eq_true, true_implies, false_implies, implies_true, forall_const, decide_true, decide_false, reduceCtorEq]
          (repeat' (first | intro _ | refine And.intro ?_ ?_ | exact trivial)) <;> omega
      · have hr : ¬ drOK c d e h s := fun k => hp k.1
        simp only [hp, hr, if_true, if_false, true_and, and_true, false_and, and_false, true_or, or_true, false_or, or_false, true_iff, iff_true, false_iff, iff_false, not_true_eq_false, not_false_eq_true, true_implies, false_implies, implies_true, forall_const, decide_true, decide_false, reduceCtorEq]
        unfold ptOK at hp
        (repeat' (first | intro _ | refine And.intro ?_ ?_ | exact trivial)) <;> omega
def r17mask_sp : SpecSh := { args := [(.agg [(.int .i64 (.z 0)), (.int .i64 (.z 0)), (.int .i64 (.z 0)), (.int .u64 (.z 0)), (.int .u64 (.z 0))]), (.int .i64 (.z 0))], res := (.int .i64 (.z 0)), sh := [.i (some (0, 511))] }
set_option maxRecDepth 100000 in
def r17mask_tree : Tree :=
.call 123 [.i (some ((-9223372036854775808), 9223372036854775807)), .i (some ((-9223372036854775808), 9223372036854775807))] [.i (.v 1), .i (.z 1), .i (.v 5), .i (.z 1)] <|
.lett (.subw .i64 (.v 2) (.v 6)) <|
.lett (.addw .i64 (.v 2) (.v 6)) <|
.call 140 [.i (some (0, 511))] [.i (.v 8), .i (.v 9), .i (.v 3), .i (.v 4), .i (.v 3), .i (.v 4)] <|
.ret (.int .i64 (.v 10))
noncomputable def r17mask_cx : Ctx := { tys := tys, fns := fns, sps := [(123, r4md_sp), (140, r13hull_sp)], anns := [], trys := [] }
def r17mask_ivs : List (Option (Int × Int)) := [some ((-9223372036854775808), 9223372036854775807), some ((-9223372036854775808), 9223372036854775807), some ((-9223372036854775808), 9223372036854775807), some (0, 18446744073709551615), some (0, 18446744073709551615), some ((-9223372036854775808), 9223372036854775807)]
set_option maxRecDepth 100000 in
theorem r17mask_walk : runFn r17mask_cx 3000 76 Try.f76 r17mask_sp.args r17mask_ivs = r17mask_tree := by kernel_rfl
noncomputable def r17mask_M : Nat → SpecSem
  | 123 => r4md_sem
  | 140 => r13hull_sem
  | _ => noSem
theorem r17mask_M123 : r17mask_M 123 = r4md_sem := rfl
theorem r17mask_M140 : r17mask_M 140 = r13hull_sem := rfl
theorem r17mask_cxok : CxOK Try.prog r17mask_cx r17mask_M := ⟨tysOK, fnsOK, spCons r4md_ok <| spCons r13hull_ok <| fun _ _ h => spNil h, mixedOK, fun _ _ h => trNil h⟩
set_option maxRecDepth 100000 in
set_option maxHeartbeats 8000000 in
theorem r17mask_den (R RP : Value → Prop) (F : Ex → St → Js → Env → Prop) (J : Js) (x0 : Int) (x1 : Int) (x2 : Int) (x3 : Int) (x4 : Int) (x5 : Int) : Tree.den r17mask_M R RP F r17mask_tree J [(.i x0), (.i x1), (.i x2), (.i x3), (.i x4), (.i x5)] = (
  (r4md_sem.pre [(.i x1), (.i (1 : Int)), (.i x5), (.i (1 : Int))]) ∧ (
∀ x6 : Int, x6 = (Cv.int (Env.get (r4md_sem.out [(.i x1), (.i (1 : Int)), (.i x5), (.i (1 : Int))]) 0)) → (-9223372036854775808 : Int) ≤ x6 → x6 ≤ (9223372036854775807 : Int) →
∀ x7 : Int, x7 = (Cv.int (Env.get (r4md_sem.out [(.i x1), (.i (1 : Int)), (.i x5), (.i (1 : Int))]) 1)) → (-9223372036854775808 : Int) ≤ x7 → x7 ≤ (9223372036854775807 : Int) →
∀ x8 : Int, x8 = (IntKind.i64.wrap (x2 - x6)) →
∀ x9 : Int, x9 = (IntKind.i64.wrap (x2 + x6)) →
(r13hull_sem.pre [(.i x8), (.i x9), (.i x3), (.i x4), (.i x3), (.i x4)]) ∧ (
∀ x10 : Int, x10 = (Cv.int (Env.get (r13hull_sem.out [(.i x8), (.i x9), (.i x3), (.i x4), (.i x3), (.i x4)]) 0)) → (0 : Int) ≤ x10 → x10 ≤ (511 : Int) →
R (Value.int .i64 x10)))) := by kernel_rfl

def r17mask_sem : SpecSem := { pre := fun cs => match cs with | [.i c, .i d, .i e, .i h, .i l, .i s] => IsI c ∧ IsI d ∧ IsI e ∧ IsU h ∧ IsU l ∧ IsI s ∧ (drOK c d e h s) | _ => False, out := fun cs => match cs with | [.i c, .i d, .i e, .i h, .i l, .i s] => [.i (mkZ d e (val h l) s)] | _ => [] }
set_option maxRecDepth 10000 in
set_option maxHeartbeats 16000000 in
theorem r17mask_ok : SpecOK Try.prog 76 r17mask_sp r17mask_sem := by
  refine spec_of_tree r17mask_cxok Try.func76 (by kernel_rfl) (by kernel_rfl) r17mask_walk rfl ?_
  intro cs hpre
  match cs, hpre with
  | [.i c, .i d, .i e, .i h, .i l, .i s], ⟨j_c, j_d, j_e, j_h, j_l, j_s, hx⟩ =>
    have h_c := j_c
    unfold IsI at h_c
    have h_d := j_d
    unfold IsI at h_d
    have h_e := j_e
    unfold IsI at h_e
    have h_h := j_h
    unfold IsU at h_h
    have h_l := j_l
    unfold IsU at h_l
    have h_s := j_s
    unfold IsI at h_s
    refine ⟨rfl, IvsB.ok (by simp only [r17mask_ivs, IvsB, Cv.int, and_true] <;> omega), ?_, ?_⟩
    · simp only [r17mask_sem, r17mask_sp, Fits, and_true]; exact mkZ_rng d e (val h l) s
    · rw [r17mask_den]
      obtain ⟨⟨⟨d1, d2⟩, ⟨c1, c2⟩, ⟨e1, e2⟩, v1⟩, hs⟩ := id hx
      have hg := up_rng d1 hs.1
      have sne : s ≠ 0 := by omega
      have m1 : ∀ x y : Int, mdZ x 1 y 1 = upD x y := fun _ _ => rfl
      have ho : hOK (e - upD d s) (e + upD d s) h l h l := ⟨by omega, by omega, by omega⟩
      have i1 : IsI (upD d s) := ⟨by omega, by omega⟩
      have i2 : IsI (e - upD d s) := ⟨by omega, by omega⟩
      have i3 : IsI (e + upD d s) := ⟨by omega, by omega⟩
      have i9 : IsI 1 := ⟨by omega, by omega⟩
      have w1 : IntKind.i64.wrap (e - upD d s) = e - upD d s := w64 (by omega) (by omega)
      have w2 : IntKind.i64.wrap (e + upD d s) = e + upD d s := w64 (by omega) (by omega)
      simp only [r17mask_sem, r17mask_sp, tell, sne, w1, w2, i1, i2, i3, i9, ho, mkZ, m1, j_c, j_d, j_e, j_h, j_l, j_s, ne_eq, Int.reduceLE, forall_eq, if_true, if_false, true_and, and_true, false_and, and_false, true_or, or_true, false_or, or_false, true_iff, iff_true, false_iff, iff_false, not_true_eq_false, not_false_eq_true, true_implies, false_implies, implies_true, forall_const, decide_true, decide_false, reduceCtorEq, r17mask_den, r4md_sem, r13hull_sem, Tree.den, LE.den, Cv.list, placeA, List.getElem?_cons_zero, List.getElem?_cons_succ, IE.den, BE.den, At.den, CA.den, Env.get, Cv.int, Cv.bool, List.cons_append, List.nil_append, List.map_cons, List.map_nil, bindRes, bindEq, Fits, SV.den, denL, place, placeL, eq_t, eq_f, lt_t, lt_f, le_t, le_f, beq_iff_eq, beq_eq_false_iff_ne, ne_eq, reduceCtorEq, b_dec, decide_eq_true_eq, decide_eq_false_iff_not, Bool.not_eq_false', Bool.or_eq_true, Bool.or_eq_false_iff, Bool.and_eq_false_iff, true_iff, false_iff, Bool.false_eq_true, Bool.not_eq_true', Bool.and_eq_true, Bool.not_true, Bool.not_false, List.cons.injEq, Cv.i.injEq, Cv.b.injEq, and_true, true_and, agg_inj, tup_inj, Value.int.injEq, Value.bool.injEq] <;> (try ((repeat' (first | intro _ | refine And.intro ?_ ?_ | exact trivial)) <;> omega))
end Go.Proofs.Ytlhmhcjpdpakkaa.X
