/-
  The contracts of ewma's charts, and of the reference's (datumref19), for every input in range.
-/
import Derived.Test.YtlhmhcjpdpakkaaSxSpanMul
import Derived.Test.YtlhmhcjpdpakkaaSxTimes
import Derived.Test.YtlhmhcjpdpakkaaSxDivide
import Derived.Test.YtlhmhcjpdpakkaaSxRef4M
import Derived.Test.YtlhmhcjpdpakkaaSxRefRoot
import Derived.Test.YtlhmhcjpdpakkaaSxSpanRoot
import Derived.Test.YtlhmhcjpdpakkaaSxRefDiv
namespace Go.Proofs.Ytlhmhcjpdpakkaa.X
open Go Go.SX Go.RowKit
set_option linter.unusedVariables false
set_option linter.unusedSimpArgs false
set_option pp.maxSteps 100000
set_option pp.deepTerms true












def szOK (t w s : Int) : Prop := (-1000000 ≤ t ∧ t ≤ 1000000) ∧ (1 ≤ w ∧ w ≤ 99) ∧ (1 ≤ s ∧ s ≤ 1000000)
instance decSz (t w s : Int) : Decidable (szOK t w s) := by unfold szOK; exact inferInstance
def ewOK (t w s n zl zh ql qh : Int) : Prop := szOK t w s ∧ (0 ≤ n ∧ n ≤ 1000000000) ∧ ((n = 0 ∧ zl = 1000 * t ∧ zh = 1000 * t ∧ ql = 1000000 ∧ qh = 1000000) ∨ (n ≠ 0 ∧ zl ≤ zh ∧ -1000000000 ≤ zl ∧ zh ≤ 1000000000 ∧ zh - zl ≤ 64 ∧ ql ≤ qh ∧ 0 ≤ ql ∧ qh ≤ 1000000))
instance decEw (t w s n zl zh ql qh : Int) : Decidable (ewOK t w s n zl zh ql qh) := by unfold ewOK; exact inferInstance
def eright_sp : SpecSh := { args := [(.agg [(.int .i64 (.z 0)), (.int .i64 (.z 0)), (.int .i64 (.z 0)), (.int .i64 (.z 0)), (.int .i64 (.z 0)), (.int .i64 (.z 0)), (.int .i64 (.z 0)), (.int .i64 (.z 0))])], res := (.bool .f), sh := [.b] }
set_option maxRecDepth 100000 in
def eright_tree : Tree :=
.ite (.cmp .le (.z (-1000000)) (.v 0)) (.ite (.not (.cmp .le (.v 0) (.z 1000000))) (.ret (.bool .f)) <|
.ite (.cmp .le (.z 1) (.v 1)) (.ite (.not (.cmp .le (.v 1) (.z 99))) (.ret (.bool .f)) <|
.ite (.cmp .le (.z 1) (.v 2)) (.ite (.not (.cmp .le (.v 2) (.z 1000000))) (.ret (.bool .f)) <|
.ite (.cmp .le (.z 0) (.v 3)) (.ite (.not (.cmp .le (.v 3) (.z 1000000000))) (.ret (.bool .f)) <|
.ite (.cmp .eq (.v 3) (.z 0)) (.lett (.mul (.v 0) (.z 1000)) <|
.ret (.bool (.and (.cmp .eq (.v 0) (.v 0)) (.and (.cmp .eq (.v 1) (.v 1)) (.and (.cmp .eq (.v 2) (.v 2)) (.and (.cmp .eq (.v 3) (.z 0)) (.and (.cmp .eq (.v 4) (.v 8)) (.and (.cmp .eq (.v 5) (.v 8)) (.and (.cmp .eq (.v 6) (.z 1000000)) (.cmp .eq (.v 7) (.z 1000000))))))))))) <|
.ite (.not (.cmp .le (.v 4) (.v 5))) (.ret (.bool .f)) <|
.ite (.cmp .le (.z (-1000000000)) (.v 4)) (.ite (.not (.cmp .le (.v 4) (.z 1000000000))) (.ret (.bool .f)) <|
.ite (.cmp .le (.z (-1000000000)) (.v 5)) (.ite (.not (.cmp .le (.v 5) (.z 1000000000))) (.ret (.bool .f)) <|
.lett (.sub (.v 5) (.v 4)) <|
.ite (.cmp .lt (.z 64) (.v 8)) (.ret (.bool .f)) <|
.ite (.cmp .le (.v 6) (.v 7)) (.ite (.cmp .le (.z 0) (.v 6)) (.ret (.bool (.cmp .le (.v 7) (.z 1000000)))) <|
.ret (.bool .f)) <|
.ret (.bool .f)) <|
.ret (.bool .f)) <|
.ret (.bool .f)) <|
.ret (.bool .f)) <|
.ret (.bool .f)) <|
.ret (.bool .f)) <|
.ret (.bool .f)
noncomputable def eright_cx : Ctx := { tys := tys, fns := fns, sps := [], anns := [], trys := [] }
def eright_ivs : List (Option (Int × Int)) := [some ((-9223372036854775808), 9223372036854775807), some ((-9223372036854775808), 9223372036854775807), some ((-9223372036854775808), 9223372036854775807), some ((-9223372036854775808), 9223372036854775807), some ((-9223372036854775808), 9223372036854775807), some ((-9223372036854775808), 9223372036854775807), some ((-9223372036854775808), 9223372036854775807), some ((-9223372036854775808), 9223372036854775807)]
set_option maxRecDepth 100000 in
theorem eright_walk : runFn eright_cx 3000 72 Try.f72 eright_sp.args eright_ivs = eright_tree := by kernel_rfl
noncomputable def eright_M : Nat → SpecSem
  | _ => noSem
theorem eright_cxok : CxOK Try.prog eright_cx eright_M := ⟨tysOK, fnsOK, fun _ _ h => spNil h, mixedOK, fun _ _ h => trNil h⟩

def eright_sem : SpecSem := { pre := fun cs => match cs with | [.i t, .i w, .i s, .i n, .i zl, .i zh, .i ql, .i qh] => IsI t ∧ IsI w ∧ IsI s ∧ IsI n ∧ IsI zl ∧ IsI zh ∧ IsI ql ∧ IsI qh | _ => False, out := fun cs => match cs with | [.i t, .i w, .i s, .i n, .i zl, .i zh, .i ql, .i qh] => [.b (decide (ewOK t w s n zl zh ql qh))] | _ => [] }
set_option maxRecDepth 10000 in
set_option maxHeartbeats 16000000 in
theorem eright_ok : SpecOK Try.prog 72 eright_sp eright_sem := by
  refine spec_of_tree eright_cxok Try.func72 (by kernel_rfl) (by kernel_rfl) eright_walk rfl ?_
  intro cs hpre
  match cs, hpre with
  | [.i t, .i w, .i s, .i n, .i zl, .i zh, .i ql, .i qh], ⟨j_t, j_w, j_s, j_n, j_zl, j_zh, j_ql, j_qh⟩ =>
    have h_t := j_t
    unfold IsI at h_t
    have h_w := j_w
    unfold IsI at h_w
    have h_s := j_s
    unfold IsI at h_s
    have h_n := j_n
    unfold IsI at h_n
    have h_zl := j_zl
    unfold IsI at h_zl
    have h_zh := j_zh
    unfold IsI at h_zh
    have h_ql := j_ql
    unfold IsI at h_ql
    have h_qh := j_qh
    unfold IsI at h_qh
    refine ⟨rfl, IvsB.ok (by simp only [eright_ivs, IvsB, Cv.int, and_true] <;> omega), ?_, ?_⟩
    · simp only [eright_sem, eright_sp, Fits]
    · simp only [eright_sem, eright_sp, eright_tree, Tree.den, LE.den, Cv.list, placeA, List.getElem?_cons_zero, List.getElem?_cons_succ, IE.den, BE.den, At.den, CA.den, Env.get, Cv.int, Cv.bool, List.cons_append, List.nil_append, List.map_cons, List.map_nil, bindRes, bindEq, Fits, SV.den, denL, place, placeL, eq_t, eq_f, lt_t, lt_f, le_t, le_f, beq_iff_eq, beq_eq_false_iff_ne, ne_eq, reduceCtorEq, b_dec, decide_eq_true_eq, decide_eq_false_iff_not, Bool.not_eq_false', Bool.or_eq_true, Bool.or_eq_false_iff, Bool.and_eq_false_iff, true_iff, false_iff, Bool.false_eq_true, Bool.not_eq_true', Bool.and_eq_true, Bool.not_true, Bool.not_false, List.cons.injEq, Cv.i.injEq, Cv.b.injEq, and_true, true_and, agg_inj, tup_inj, Value.int.injEq, Value.bool.injEq]
      simp only [ewOK, szOK]
      have wz : (-1000000000 ≤ zl ∧ zh ≤ 1000000000 ∧ zl ≤ zh) → IntKind.i64.wrap (zh - zl) = zh - zl := fun k => w64 (by omega) (by omega)
      (repeat' (first | intro _ | refine And.intro ?_ ?_ | exact trivial)) <;> omega
def r19right_sp : SpecSh := { args := [(.agg [(.int .i64 (.z 0)), (.int .i64 (.z 0)), (.int .i64 (.z 0)), (.int .i64 (.z 0)), (.int .i64 (.z 0)), (.int .i64 (.z 0)), (.int .i64 (.z 0)), (.int .i64 (.z 0))])], res := (.bool .f), sh := [.b] }
set_option maxRecDepth 100000 in
def r19right_tree : Tree :=
.ite (.cmp .le (.z (-1000000)) (.v 0)) (.ite (.cmp .le (.v 0) (.z 1000000)) (.ite (.cmp .le (.z 1) (.v 1)) (.ite (.cmp .le (.v 1) (.z 99)) (.ite (.cmp .le (.z 1) (.v 2)) (.ite (.not (.cmp .le (.v 2) (.z 1000000))) (.ret (.bool .f)) <|
.ite (.cmp .lt (.v 3) (.z 0)) (.ret (.bool .f)) <|
.ite (.cmp .lt (.z 1000000000) (.v 3)) (.ret (.bool .f)) <|
.ite (.cmp .eq (.v 3) (.z 0)) (.lett (.mul (.z 1000) (.v 0)) <|
.lett (.mul (.z 1000) (.v 0)) <|
.ret (.bool (.and (.cmp .eq (.v 0) (.v 0)) (.and (.cmp .eq (.v 1) (.v 1)) (.and (.cmp .eq (.v 2) (.v 2)) (.and (.cmp .eq (.v 3) (.z 0)) (.and (.cmp .eq (.v 4) (.v 8)) (.and (.cmp .eq (.v 5) (.v 9)) (.and (.cmp .eq (.v 6) (.z 1000000)) (.cmp .eq (.v 7) (.z 1000000))))))))))) <|
.ite (.cmp .lt (.v 5) (.v 4)) (.ret (.bool .f)) <|
.ite (.cmp .lt (.v 4) (.z (-1000000000))) (.ret (.bool .f)) <|
.ite (.cmp .lt (.z 1000000000) (.v 5)) (.ret (.bool .f)) <|
.lett (.subw .i64 (.v 5) (.v 4)) <|
.ite (.cmp .lt (.z 64) (.v 8)) (.ret (.bool .f)) <|
.ite (.cmp .le (.z 0) (.v 6)) (.ite (.cmp .le (.v 6) (.v 7)) (.ret (.bool (.cmp .le (.v 7) (.z 1000000)))) <|
.ret (.bool .f)) <|
.ret (.bool .f)) <|
.ret (.bool .f)) <|
.ret (.bool .f)) <|
.ret (.bool .f)) <|
.ret (.bool .f)) <|
.ret (.bool .f)
noncomputable def r19right_cx : Ctx := { tys := tys, fns := fns, sps := [], anns := [], trys := [] }
def r19right_ivs : List (Option (Int × Int)) := [some ((-9223372036854775808), 9223372036854775807), some ((-9223372036854775808), 9223372036854775807), some ((-9223372036854775808), 9223372036854775807), some ((-9223372036854775808), 9223372036854775807), some ((-9223372036854775808), 9223372036854775807), some ((-9223372036854775808), 9223372036854775807), some ((-9223372036854775808), 9223372036854775807), some ((-9223372036854775808), 9223372036854775807)]
set_option maxRecDepth 100000 in
theorem r19right_walk : runFn r19right_cx 3000 79 Try.f79 r19right_sp.args r19right_ivs = r19right_tree := by kernel_rfl
noncomputable def r19right_M : Nat → SpecSem
  | _ => noSem
theorem r19right_cxok : CxOK Try.prog r19right_cx r19right_M := ⟨tysOK, fnsOK, fun _ _ h => spNil h, mixedOK, fun _ _ h => trNil h⟩

def r19right_sem : SpecSem := { pre := fun cs => match cs with | [.i t, .i w, .i s, .i n, .i zl, .i zh, .i ql, .i qh] => IsI t ∧ IsI w ∧ IsI s ∧ IsI n ∧ IsI zl ∧ IsI zh ∧ IsI ql ∧ IsI qh | _ => False, out := fun cs => match cs with | [.i t, .i w, .i s, .i n, .i zl, .i zh, .i ql, .i qh] => [.b (decide (ewOK t w s n zl zh ql qh))] | _ => [] }
set_option maxRecDepth 10000 in
set_option maxHeartbeats 16000000 in
theorem r19right_ok : SpecOK Try.prog 79 r19right_sp r19right_sem := by
  refine spec_of_tree r19right_cxok Try.func79 (by kernel_rfl) (by kernel_rfl) r19right_walk rfl ?_
  intro cs hpre
  match cs, hpre with
  | [.i t, .i w, .i s, .i n, .i zl, .i zh, .i ql, .i qh], ⟨j_t, j_w, j_s, j_n, j_zl, j_zh, j_ql, j_qh⟩ =>
    have h_t := j_t
    unfold IsI at h_t
    have h_w := j_w
    unfold IsI at h_w
    have h_s := j_s
    unfold IsI at h_s
    have h_n := j_n
    unfold IsI at h_n
    have h_zl := j_zl
    unfold IsI at h_zl
    have h_zh := j_zh
    unfold IsI at h_zh
    have h_ql := j_ql
    unfold IsI at h_ql
    have h_qh := j_qh
    unfold IsI at h_qh
    refine ⟨rfl, IvsB.ok (by simp only [r19right_ivs, IvsB, Cv.int, and_true] <;> omega), ?_, ?_⟩
    · simp only [r19right_sem, r19right_sp, Fits]
    · simp only [r19right_sem, r19right_sp, r19right_tree, Tree.den, LE.den, Cv.list, placeA, List.getElem?_cons_zero, List.getElem?_cons_succ, IE.den, BE.den, At.den, CA.den, Env.get, Cv.int, Cv.bool, List.cons_append, List.nil_append, List.map_cons, List.map_nil, bindRes, bindEq, Fits, SV.den, denL, place, placeL, eq_t, eq_f, lt_t, lt_f, le_t, le_f, beq_iff_eq, beq_eq_false_iff_ne, ne_eq, reduceCtorEq, b_dec, decide_eq_true_eq, decide_eq_false_iff_not, Bool.not_eq_false', Bool.or_eq_true, Bool.or_eq_false_iff, Bool.and_eq_false_iff, true_iff, false_iff, Bool.false_eq_true, Bool.not_eq_true', Bool.and_eq_true, Bool.not_true, Bool.not_false, List.cons.injEq, Cv.i.injEq, Cv.b.injEq, and_true, true_and, agg_inj, tup_inj, Value.int.injEq, Value.bool.injEq]
      simp only [ewOK, szOK]
      have wz : (-1000000000 ≤ zl ∧ zh ≤ 1000000000 ∧ zl ≤ zh) → IntKind.i64.wrap (zh - zl) = zh - zl := fun k => w64 (by omega) (by omega)
      (repeat' (first | intro _ | refine And.intro ?_ ?_ | exact trivial)) <;> omega
/-- the reach's ends -/
def vaZ (s w q : Int) : Int := s * s * (9 * w) * (1000000 - q)
def rcLo (s w q : Int) : Int := rootZ (vaZ s w q / (200 - w))
def rcHi (s w q : Int) : Int := upZ (vaZ s w q / (200 - w) + (if vaZ s w q % (200 - w) = 0 then 0 else 1))
theorem vaZ_rng {s w q : Int} (hw : 1 ≤ w ∧ w ≤ 99) (hs : 1 ≤ s ∧ s ≤ 1000000) (hq : 0 ≤ q ∧ q ≤ 1000000) : (1 ≤ s * s ∧ s * s ≤ 1000000000000) ∧ (0 ≤ s * s * (9 * w) ∧ s * s * (9 * w) ≤ 891000000000000) ∧ (0 ≤ vaZ s w q ∧ vaZ s w q ≤ 891000000000000000000) := by
  have h1 := Int.mul_le_mul (a := s) (b := s) (c := 1000000) (d := 1000000) hs.2 hs.2 (by omega) (by omega)
  have h2 := Int.mul_le_mul (a := 1) (b := 1) (c := s) (d := s) hs.1 hs.1 (by omega) (by omega)
  have h3 := Int.mul_le_mul (a := s * s) (b := 9 * w) (c := 1000000000000) (d := 891) (by omega) (by omega) (by omega) (by omega)
  have h4 : 0 ≤ s * s * (9 * w) := Int.mul_nonneg (by omega) (by omega)
  have h5 := Int.mul_le_mul (a := s * s * (9 * w)) (b := 1000000 - q) (c := 891000000000000) (d := 1000000) (by omega) (by omega) (by omega) (by omega)
  have h6 : 0 ≤ s * s * (9 * w) * (1000000 - q) := Int.mul_nonneg h4 (by omega)
  unfold vaZ
  refine ⟨by omega, by omega, h6, by omega⟩
theorem vq' (x : Int) : val (x / 18446744073709551616) (x % 18446744073709551616) = x := by unfold val; omega
theorem vq2' {x : Int} (h0 : 0 ≤ x) (h1 : x < 340282366920938463463374607431768211456) : val (x / 18446744073709551616 % 18446744073709551616) (x % 18446744073709551616) = x := by unfold val; omega
theorem iu_lo (x : Int) : IsU (x % 18446744073709551616) := ⟨by omega, by omega⟩
theorem iu_mod (x : Int) : IsU (x / 18446744073709551616 % 18446744073709551616) := ⟨by omega, by omega⟩
theorem iu_hi {x : Int} (h0 : 0 ≤ x) (h1 : x < 340282366920938463463374607431768211456) : IsU (x / 18446744073709551616) := ⟨by omega, by omega⟩
theorem root_30 {v : Int} (h0 : 0 ≤ v) (h : v ≤ 900000000000000000000) : (0 ≤ rootZ v ∧ rootZ v ≤ 30000000001) ∧ (rootZ v ≤ upZ v ∧ upZ v ≤ 30000000002) := by
  obtain ⟨r0, r1, r2⟩ := rootZ_spec h0
  have h1 : rootZ v ≤ 30000000001 := by
    by_cases hc : rootZ v ≤ 30000000001
    · exact hc
    · have := Int.mul_le_mul (a := 30000000001) (b := 30000000001) (c := rootZ v) (d := rootZ v) (by omega) (by omega) (by omega) (by omega)
      omega
  refine ⟨⟨r0, h1⟩, ?_⟩
  unfold upZ
  split <;> omega
/-- the numbers of a reach fit -/
theorem rc_nums {s w q : Int} (hw : 1 ≤ w ∧ w ≤ 99) (hs : 1 ≤ s ∧ s ≤ 1000000) (hq : 0 ≤ q ∧ q ≤ 1000000) : (0 ≤ vaZ s w q / (200 - w) ∧ vaZ s w q / (200 - w) < 900000000000000000000) ∧ (0 ≤ vaZ s w q % (200 - w) ∧ vaZ s w q % (200 - w) < 200) := by
  obtain ⟨_, _, h1, h2⟩ := vaZ_rng hw hs hq
  have h3 := Int.ediv_nonneg h1 (show 0 ≤ 200 - w by omega)
  have h4 := Int.ediv_le_self (200 - w) h1
  have h5 := Int.emod_nonneg (vaZ s w q) (show 200 - w ≠ 0 by omega)
  have h6 := Int.emod_lt_of_pos (vaZ s w q) (show 0 < 200 - w by omega)
  exact ⟨⟨h3, by omega⟩, h5, by omega⟩
theorem rc_fits {s w q r : Int} (hw : 1 ≤ w ∧ w ≤ 99) (hs : 1 ≤ s ∧ s ≤ 1000000) (hq : 0 ≤ q ∧ q ≤ 1000000) (hr : 0 ≤ r ∧ r ≤ 1000000) : (0 ≤ rcLo s w q ∧ rcLo s w q ≤ 30000000002) ∧ (0 ≤ rcHi s w r ∧ rcHi s w r ≤ 30000000002) := by
  obtain ⟨⟨h1, h2⟩, _⟩ := rc_nums hw hs hq
  obtain ⟨⟨h3, h4⟩, _⟩ := rc_nums hw hs hr
  have h5 := root_30 h1 (by omega)
  have h6 := root_30 (v := vaZ s w r / (200 - w) + (if vaZ s w r % (200 - w) = 0 then 0 else 1)) (by split <;> omega) (by split <;> omega)
  unfold rcLo rcHi
  omega
def ereach0_sp : SpecSh := { args := [(.agg [(.int .i64 (.z 0)), (.int .i64 (.z 0)), (.int .i64 (.z 0)), (.int .i64 (.z 0)), (.int .i64 (.z 0)), (.int .i64 (.z 0)), (.int .i64 (.z 0)), (.int .i64 (.z 0))])], res := (.agg [(.int .i64 (.z 0)), (.int .i64 (.z 0))]), sh := [.i (some ((-9223372036854775808), 9223372036854775807)), .i (some ((-9223372036854775808), 9223372036854775807))] }
set_option maxRecDepth 100000 in
def ereach0_tree : Tree :=
.lett (.mul (.v 2) (.v 2)) <|
.lett (.mul (.z 9) (.v 1)) <|
.call 82 [.i (some (0, 18446744073709551615)), .i (some (0, 18446744073709551615))] [.i (.v 8), .i (.v 9)] <|
.lett (.sub (.z 1000000) (.v 7)) <|
.call 84 [.i (some (0, 18446744073709551615)), .i (some (0, 18446744073709551615)), .b] [.i (.v 10), .i (.v 11), .i (.z 0), .i (.v 12)] <|
.lett (.sub (.z 200) (.v 1)) <|
.call 115 [.i (some (0, 18446744073709551615)), .i (some (0, 18446744073709551615)), .i (some (0, 18446744073709551615)), .i (some (0, 18446744073709551615)), .i (some ((-9223372036854775808), 9223372036854775807))] [.i (.v 13), .i (.v 14), .i (.z 0), .i (.v 16)] <|
.lett (.mul (.v 2) (.v 2)) <|
.lett (.mul (.z 9) (.v 1)) <|
.call 82 [.i (some (0, 18446744073709551615)), .i (some (0, 18446744073709551615))] [.i (.v 22), .i (.v 23)] <|
.lett (.sub (.z 1000000) (.v 6)) <|
.call 84 [.i (some (0, 18446744073709551615)), .i (some (0, 18446744073709551615)), .b] [.i (.v 24), .i (.v 25), .i (.z 0), .i (.v 26)] <|
.lett (.sub (.z 200) (.v 1)) <|
.call 115 [.i (some (0, 18446744073709551615)), .i (some (0, 18446744073709551615)), .i (some (0, 18446744073709551615)), .i (some (0, 18446744073709551615)), .i (some ((-9223372036854775808), 9223372036854775807))] [.i (.v 27), .i (.v 28), .i (.z 0), .i (.v 30)] <|
.ite (.not (.and (.cmp .eq (.v 33) (.z 0)) (.cmp .eq (.v 34) (.z 0)))) (.call 116 [.i (some (0, 18446744073709551615)), .i (some (0, 18446744073709551615)), .b] [.i (.v 31), .i (.v 32), .i (.z 0), .i (.z 1)] <|
.call 118 [.i (some (0, 18446744073709551615))] [.i (.v 17), .i (.v 18)] <|
.lett (.wrap .i64 (.v 39)) <|
.call 117 [.i (some (0, 18446744073709551615)), .i (some (0, 18446744073709551615))] [.i (.v 36), .i (.v 37)] <|
.lett (.wrap .i64 (.v 42)) <|
.ret (.agg [(.int .i64 (.v 40)), (.int .i64 (.v 43))])) <|
.call 118 [.i (some (0, 18446744073709551615))] [.i (.v 17), .i (.v 18)] <|
.lett (.wrap .i64 (.v 36)) <|
.call 117 [.i (some (0, 18446744073709551615)), .i (some (0, 18446744073709551615))] [.i (.v 31), .i (.v 32)] <|
.lett (.wrap .i64 (.v 39)) <|
.ret (.agg [(.int .i64 (.v 37)), (.int .i64 (.v 40))])
noncomputable def ereach0_cx : Ctx := { tys := tys, fns := fns, sps := [(82, mul_sp), (84, times_sp), (115, wdiv_sp), (116, wadd_sp), (118, wroot_sp), (117, wup_sp)], anns := [], trys := [] }
def ereach0_ivs : List (Option (Int × Int)) := [some ((-9223372036854775808), 9223372036854775807), some (1, 99), some (1, 1000000), some ((-9223372036854775808), 9223372036854775807), some ((-9223372036854775808), 9223372036854775807), some ((-9223372036854775808), 9223372036854775807), some (0, 1000000), some (0, 1000000)]
set_option maxRecDepth 100000 in
theorem ereach0_walk : runFn ereach0_cx 3000 142 Try.f142 ereach0_sp.args ereach0_ivs = ereach0_tree := by kernel_rfl
noncomputable def ereach0_M : Nat → SpecSem
  | 82 => mul_sem
  | 84 => times_sem
  | 115 => wdiv_sem
  | 116 => wadd_sem
  | 118 => wroot_sem
  | 117 => wup_sem
  | _ => noSem
theorem ereach0_M82 : ereach0_M 82 = mul_sem := rfl
theorem ereach0_M84 : ereach0_M 84 = times_sem := rfl
theorem ereach0_M115 : ereach0_M 115 = wdiv_sem := rfl
theorem ereach0_M116 : ereach0_M 116 = wadd_sem := rfl
theorem ereach0_M118 : ereach0_M 118 = wroot_sem := rfl
theorem ereach0_M117 : ereach0_M 117 = wup_sem := rfl
theorem ereach0_cxok : CxOK Try.prog ereach0_cx ereach0_M := ⟨tysOK, fnsOK, spCons mul_ok <| spCons times_ok <| spCons wdiv_ok <| spCons wadd_ok <| spCons wroot_ok <| spCons wup_ok <| fun _ _ h => spNil h, mixedOK, fun _ _ h => trNil h⟩
set_option maxRecDepth 100000 in
set_option maxHeartbeats 8000000 in
theorem ereach0_den (R RP : Value → Prop) (F : Ex → St → Js → Env → Prop) (J : Js) (x0 : Int) (x1 : Int) (x2 : Int) (x3 : Int) (x4 : Int) (x5 : Int) (x6 : Int) (x7 : Int) : Tree.den ereach0_M R RP F ereach0_tree J [(.i x0), (.i x1), (.i x2), (.i x3), (.i x4), (.i x5), (.i x6), (.i x7)] = (
  ∀ x8 : Int, x8 = (x2 * x2) →
∀ x9 : Int, x9 = ((9 : Int) * x1) →
(mul_sem.pre [(.i x8), (.i x9)]) ∧ (
∀ x10 : Int, x10 = (Cv.int (Env.get (mul_sem.out [(.i x8), (.i x9)]) 0)) → (0 : Int) ≤ x10 → x10 ≤ (18446744073709551615 : Int) →
∀ x11 : Int, x11 = (Cv.int (Env.get (mul_sem.out [(.i x8), (.i x9)]) 1)) → (0 : Int) ≤ x11 → x11 ≤ (18446744073709551615 : Int) →
∀ x12 : Int, x12 = ((1000000 : Int) - x7) →
(times_sem.pre [(.i x10), (.i x11), (.i (0 : Int)), (.i x12)]) ∧ (
∀ x13 : Int, x13 = (Cv.int (Env.get (times_sem.out [(.i x10), (.i x11), (.i (0 : Int)), (.i x12)]) 0)) → (0 : Int) ≤ x13 → x13 ≤ (18446744073709551615 : Int) →
∀ x14 : Int, x14 = (Cv.int (Env.get (times_sem.out [(.i x10), (.i x11), (.i (0 : Int)), (.i x12)]) 1)) → (0 : Int) ≤ x14 → x14 ≤ (18446744073709551615 : Int) →
∀ x16 : Int, x16 = ((200 : Int) - x1) →
(wdiv_sem.pre [(.i x13), (.i x14), (.i (0 : Int)), (.i x16)]) ∧ (
∀ x17 : Int, x17 = (Cv.int (Env.get (wdiv_sem.out [(.i x13), (.i x14), (.i (0 : Int)), (.i x16)]) 0)) → (0 : Int) ≤ x17 → x17 ≤ (18446744073709551615 : Int) →
∀ x18 : Int, x18 = (Cv.int (Env.get (wdiv_sem.out [(.i x13), (.i x14), (.i (0 : Int)), (.i x16)]) 1)) → (0 : Int) ≤ x18 → x18 ≤ (18446744073709551615 : Int) →
∀ x19 : Int, x19 = (Cv.int (Env.get (wdiv_sem.out [(.i x13), (.i x14), (.i (0 : Int)), (.i x16)]) 2)) → (0 : Int) ≤ x19 → x19 ≤ (18446744073709551615 : Int) →
∀ x20 : Int, x20 = (Cv.int (Env.get (wdiv_sem.out [(.i x13), (.i x14), (.i (0 : Int)), (.i x16)]) 3)) → (0 : Int) ≤ x20 → x20 ≤ (18446744073709551615 : Int) →
∀ x21 : Int, x21 = (Cv.int (Env.get (wdiv_sem.out [(.i x13), (.i x14), (.i (0 : Int)), (.i x16)]) 4)) → (-9223372036854775808 : Int) ≤ x21 → x21 ≤ (9223372036854775807 : Int) →
∀ x22 : Int, x22 = (x2 * x2) →
∀ x23 : Int, x23 = ((9 : Int) * x1) →
(mul_sem.pre [(.i x22), (.i x23)]) ∧ (
∀ x24 : Int, x24 = (Cv.int (Env.get (mul_sem.out [(.i x22), (.i x23)]) 0)) → (0 : Int) ≤ x24 → x24 ≤ (18446744073709551615 : Int) →
∀ x25 : Int, x25 = (Cv.int (Env.get (mul_sem.out [(.i x22), (.i x23)]) 1)) → (0 : Int) ≤ x25 → x25 ≤ (18446744073709551615 : Int) →
∀ x26 : Int, x26 = ((1000000 : Int) - x6) →
(times_sem.pre [(.i x24), (.i x25), (.i (0 : Int)), (.i x26)]) ∧ (
∀ x27 : Int, x27 = (Cv.int (Env.get (times_sem.out [(.i x24), (.i x25), (.i (0 : Int)), (.i x26)]) 0)) → (0 : Int) ≤ x27 → x27 ≤ (18446744073709551615 : Int) →
∀ x28 : Int, x28 = (Cv.int (Env.get (times_sem.out [(.i x24), (.i x25), (.i (0 : Int)), (.i x26)]) 1)) → (0 : Int) ≤ x28 → x28 ≤ (18446744073709551615 : Int) →
∀ x30 : Int, x30 = ((200 : Int) - x1) →
(wdiv_sem.pre [(.i x27), (.i x28), (.i (0 : Int)), (.i x30)]) ∧ (
∀ x31 : Int, x31 = (Cv.int (Env.get (wdiv_sem.out [(.i x27), (.i x28), (.i (0 : Int)), (.i x30)]) 0)) → (0 : Int) ≤ x31 → x31 ≤ (18446744073709551615 : Int) →
∀ x32 : Int, x32 = (Cv.int (Env.get (wdiv_sem.out [(.i x27), (.i x28), (.i (0 : Int)), (.i x30)]) 1)) → (0 : Int) ≤ x32 → x32 ≤ (18446744073709551615 : Int) →
∀ x33 : Int, x33 = (Cv.int (Env.get (wdiv_sem.out [(.i x27), (.i x28), (.i (0 : Int)), (.i x30)]) 2)) → (0 : Int) ≤ x33 → x33 ≤ (18446744073709551615 : Int) →
∀ x34 : Int, x34 = (Cv.int (Env.get (wdiv_sem.out [(.i x27), (.i x28), (.i (0 : Int)), (.i x30)]) 3)) → (0 : Int) ≤ x34 → x34 ≤ (18446744073709551615 : Int) →
∀ x35 : Int, x35 = (Cv.int (Env.get (wdiv_sem.out [(.i x27), (.i x28), (.i (0 : Int)), (.i x30)]) 4)) → (-9223372036854775808 : Int) ≤ x35 → x35 ≤ (9223372036854775807 : Int) →
((!((Cmp.den .eq x33 (0 : Int)) && (Cmp.den .eq x34 (0 : Int)))) = true → (wadd_sem.pre [(.i x31), (.i x32), (.i (0 : Int)), (.i (1 : Int))]) ∧ (
∀ x36 : Int, x36 = (Cv.int (Env.get (wadd_sem.out [(.i x31), (.i x32), (.i (0 : Int)), (.i (1 : Int))]) 0)) → (0 : Int) ≤ x36 → x36 ≤ (18446744073709551615 : Int) →
∀ x37 : Int, x37 = (Cv.int (Env.get (wadd_sem.out [(.i x31), (.i x32), (.i (0 : Int)), (.i (1 : Int))]) 1)) → (0 : Int) ≤ x37 → x37 ≤ (18446744073709551615 : Int) →
(wroot_sem.pre [(.i x17), (.i x18)]) ∧ (
∀ x39 : Int, x39 = (Cv.int (Env.get (wroot_sem.out [(.i x17), (.i x18)]) 0)) → (0 : Int) ≤ x39 → x39 ≤ (18446744073709551615 : Int) →
∀ x40 : Int, x40 = (IntKind.i64.wrap x39) →
(wup_sem.pre [(.i x36), (.i x37)]) ∧ (
∀ x41 : Int, x41 = (Cv.int (Env.get (wup_sem.out [(.i x36), (.i x37)]) 0)) → (0 : Int) ≤ x41 → x41 ≤ (18446744073709551615 : Int) →
∀ x42 : Int, x42 = (Cv.int (Env.get (wup_sem.out [(.i x36), (.i x37)]) 1)) → (0 : Int) ≤ x42 → x42 ≤ (18446744073709551615 : Int) →
∀ x43 : Int, x43 = (IntKind.i64.wrap x42) →
R (Value.agg [(Value.int .i64 x40), (Value.int .i64 x43)].toArray))))) ∧ ((!((Cmp.den .eq x33 (0 : Int)) && (Cmp.den .eq x34 (0 : Int)))) = false → (wroot_sem.pre [(.i x17), (.i x18)]) ∧ (
∀ x36 : Int, x36 = (Cv.int (Env.get (wroot_sem.out [(.i x17), (.i x18)]) 0)) → (0 : Int) ≤ x36 → x36 ≤ (18446744073709551615 : Int) →
∀ x37 : Int, x37 = (IntKind.i64.wrap x36) →
(wup_sem.pre [(.i x31), (.i x32)]) ∧ (
∀ x38 : Int, x38 = (Cv.int (Env.get (wup_sem.out [(.i x31), (.i x32)]) 0)) → (0 : Int) ≤ x38 → x38 ≤ (18446744073709551615 : Int) →
∀ x39 : Int, x39 = (Cv.int (Env.get (wup_sem.out [(.i x31), (.i x32)]) 1)) → (0 : Int) ≤ x39 → x39 ≤ (18446744073709551615 : Int) →
∀ x40 : Int, x40 = (IntKind.i64.wrap x39) →
R (Value.agg [(Value.int .i64 x37), (Value.int .i64 x40)].toArray))))))))))) := by kernel_rfl

def ereach0_sem : SpecSem := { pre := fun cs => match cs with | [.i t, .i w, .i s, .i n, .i zl, .i zh, .i ql, .i qh] => IsI t ∧ IsI w ∧ IsI s ∧ IsI n ∧ IsI zl ∧ IsI zh ∧ IsI ql ∧ IsI qh ∧ ((1 ≤ w ∧ w ≤ 99) ∧ (1 ≤ s ∧ s ≤ 1000000) ∧ (0 ≤ ql ∧ ql ≤ 1000000) ∧ (0 ≤ qh ∧ qh ≤ 1000000)) | _ => False, out := fun cs => match cs with | [.i t, .i w, .i s, .i n, .i zl, .i zh, .i ql, .i qh] => [.i (rcLo s w qh), .i (rcHi s w ql)] | _ => [] }
set_option maxRecDepth 10000 in
set_option maxHeartbeats 16000000 in
theorem ereach0_ok : SpecOK Try.prog 142 ereach0_sp ereach0_sem := by
  refine spec_of_tree ereach0_cxok Try.func142 (by kernel_rfl) (by kernel_rfl) ereach0_walk rfl ?_
  intro cs hpre
  match cs, hpre with
  | [.i t, .i w, .i s, .i n, .i zl, .i zh, .i ql, .i qh], ⟨j_t, j_w, j_s, j_n, j_zl, j_zh, j_ql, j_qh, hx⟩ =>
    have h_t := j_t
    unfold IsI at h_t
    have h_w := j_w
    unfold IsI at h_w
    have h_s := j_s
    unfold IsI at h_s
    have h_n := j_n
    unfold IsI at h_n
    have h_zl := j_zl
    unfold IsI at h_zl
    have h_zh := j_zh
    unfold IsI at h_zh
    have h_ql := j_ql
    unfold IsI at h_ql
    have h_qh := j_qh
    unfold IsI at h_qh
    refine ⟨rfl, IvsB.ok (by simp only [ereach0_ivs, IvsB, Cv.int, and_true] <;> omega), ?_, ?_⟩
    · simp only [ereach0_sem, ereach0_sp, Fits, and_true]
      obtain ⟨hw, hs, hl, hh⟩ := hx
      have := rc_fits hw hs hh hl
      omega
    · rw [ereach0_den]
      obtain ⟨hw, hs, hl, hh⟩ := hx
      obtain ⟨⟨a1, a2⟩, ⟨a3, a4⟩, ⟨a5, a6⟩⟩ := vaZ_rng hw hs hl
      obtain ⟨_, _, ⟨a7, a8⟩⟩ := vaZ_rng hw hs hh
      obtain ⟨⟨b1, b2⟩, b3, b4⟩ := rc_nums hw hs hl
      obtain ⟨⟨b5, b6⟩, b7, b8⟩ := rc_nums hw hs hh
      have r1 := root_30 b1 (by omega)
      have r2 := root_30 b5 (by omega)
      have r3 := root_30 (v := vaZ s w ql / (200 - w) + 1) (by omega) (by omega)
      have e1 : ∀ q, s * s * (9 * w) * (1000000 - q) = vaZ s w q := fun _ => rfl
      have g1 := vq2' a5 (by omega)
      have g2 := vq2' a7 (by omega)
      have ne : ¬ (200 - w = 0) := by omega
      have q1 : divQ (vaZ s w ql / 18446744073709551616 % 18446744073709551616) (vaZ s w ql % 18446744073709551616) 0 (200 - w) = vaZ s w ql / (200 - w) := by unfold divQ; rw [g1, val0r, if_neg ne]
      have q2 : divQ (vaZ s w qh / 18446744073709551616 % 18446744073709551616) (vaZ s w qh % 18446744073709551616) 0 (200 - w) = vaZ s w qh / (200 - w) := by unfold divQ; rw [g2, val0r, if_neg ne]
      have q3 : divR (vaZ s w ql / 18446744073709551616 % 18446744073709551616) (vaZ s w ql % 18446744073709551616) 0 (200 - w) = vaZ s w ql % (200 - w) := by unfold divR; rw [g1, val0r, if_neg ne]
      have q4 : divR (vaZ s w qh / 18446744073709551616 % 18446744073709551616) (vaZ s w qh % 18446744073709551616) 0 (200 - w) = vaZ s w qh % (200 - w) := by unfold divR; rw [g2, val0r, if_neg ne]
      have i0 : IsU 0 := ⟨by omega, by omega⟩
      have i1 : IsU 1 := ⟨by omega, by omega⟩
      have i2 : IsU (s * s) := ⟨by omega, by omega⟩
      have i3 : IsU (9 * w) := ⟨by omega, by omega⟩
      have i4 : IsU (1000000 - ql) := ⟨by omega, by omega⟩
      have i5 : IsU (1000000 - qh) := ⟨by omega, by omega⟩
      have i6 : IsU (200 - w) := ⟨by omega, by omega⟩
      have i7 := iu_hi a3 (by omega)
      have i8 := iu_hi (x := vaZ s w ql / (200 - w)) b1 (by omega)
      have i9 := iu_hi (x := vaZ s w qh / (200 - w)) b5 (by omega)
      have i10 := iu_hi (x := vaZ s w ql / (200 - w) + 1) (by omega) (by omega)
      have g3 := vq2' (x := vaZ s w ql / (200 - w) + 1) (by omega) (by omega)
      simp only [ereach0_sem, ereach0_sp, vq', val0r, e1, g1, g2, g3, q1, q2, q3, q4, ne, i0, i1, i2, i3, i4, i5, i6, i7, i8, i9, i10, iu_lo, iu_mod, forall_eq, if_true, if_false, true_and, and_true, false_and, and_false, true_or, or_true, false_or, or_false, true_iff, iff_true, false_iff, iff_false, not_true_eq_false, not_false_eq_true, true_implies, false_implies, implies_true, forall_const, decide_true, decide_false, reduceCtorEq, ereach0_den, mul_sem, times_sem, wdiv_sem, wadd_sem, wroot_sem, wup_sem, Tree.den, LE.den, Cv.list, placeA, List.getElem?_cons_zero, List.getElem?_cons_succ, IE.den, BE.den, At.den, CA.den, Env.get, Cv.int, Cv.bool, List.cons_append, List.nil_append, List.map_cons, List.map_nil, bindRes, bindEq, Fits, SV.den, denL, place, placeL, eq_t, eq_f, lt_t, lt_f, le_t, le_f, beq_iff_eq, beq_eq_false_iff_ne, ne_eq, reduceCtorEq, b_dec, decide_eq_true_eq, decide_eq_false_iff_not, Bool.not_eq_false', Bool.or_eq_true, Bool.or_eq_false_iff, Bool.and_eq_false_iff, true_iff, false_iff, Bool.false_eq_true, Bool.not_eq_true', Bool.and_eq_true, Bool.not_true, Bool.not_false, List.cons.injEq, Cv.i.injEq, Cv.b.injEq, and_true, true_and, agg_inj, tup_inj, Value.int.injEq, Value.bool.injEq]
      have m1 : vaZ s w ql % (200 - w) / 18446744073709551616 = 0 := by omega
      have m2 : vaZ s w ql % (200 - w) % 18446744073709551616 = vaZ s w ql % (200 - w) := by omega
      have m3 : upZ (vaZ s w ql / (200 - w)) % 18446744073709551616 = upZ (vaZ s w ql / (200 - w)) := by omega
      have m4 : upZ (vaZ s w ql / (200 - w) + 1) % 18446744073709551616 = upZ (vaZ s w ql / (200 - w) + 1) := by omega
      have w1 : IntKind.i64.wrap (rootZ (vaZ s w qh / (200 - w))) = rootZ (vaZ s w qh / (200 - w)) := w64 (by omega) (by omega)
      have w2 : IntKind.i64.wrap (upZ (vaZ s w ql / (200 - w))) = upZ (vaZ s w ql / (200 - w)) := w64 (by omega) (by omega)
      have w3 : IntKind.i64.wrap (upZ (vaZ s w ql / (200 - w) + 1)) = upZ (vaZ s w ql / (200 - w) + 1) := w64 (by omega) (by omega)
      simp only [m1, m2, m3, m4, w1, w2, w3, rcLo, rcHi, f00, eq_self, if_true, if_false, true_and, and_true, false_and, and_false, true_or, or_true, false_or, or_false, true_iff, iff_true, false_iff, iff_false, not_true_eq_false, not_false_eq_true, true_implies, false_implies, implies_true, forall_const, decide_true, decide_false, reduceCtorEq]
      by_cases hR : vaZ s w ql % (200 - w) = 0
      · simp only [hR, f00, eq_self, Int.add_zero, if_true, if_false, true_and, and_true, false_and, and_false, true_or, or_true, false_or, or_false, true_iff, iff_true, false_iff, iff_false, not_true_eq_false, not_false_eq_true, true_implies, false_implies, implies_true, forall_const, decide_true, decide_false, reduceCtorEq]
      · simp only [hR, f00, eq_self, if_true, if_false, true_and, and_true, false_and, and_false, true_or, or_true, false_or, or_false, true_iff, iff_true, false_iff, iff_false, not_true_eq_false, not_false_eq_true, true_implies, false_implies, implies_true, forall_const, decide_true, decide_false, reduceCtorEq]

def veZ (t zl zh lo hi : Int) : Int := if hi < zl - t * 1000 then 1 else if zh - t * 1000 < 0 - hi then 1 else if zh - t * 1000 ≤ lo then (if 0 - lo ≤ zl - t * 1000 then 0 else 2) else 2
theorem ve_rng (t zl zh lo hi : Int) : 0 ≤ veZ t zl zh lo hi ∧ veZ t zl zh lo hi ≤ 2 := by
  unfold veZ
  split
  · omega
  · split
    · omega
    · split
      · split <;> omega
      · omega
theorem ew_rng {t w s n zl zh ql qh : Int} (h : ewOK t w s n zl zh ql qh) (hn : n ≠ 0) : (-1000000 ≤ t ∧ t ≤ 1000000) ∧ (1 ≤ w ∧ w ≤ 99) ∧ (1 ≤ s ∧ s ≤ 1000000) ∧ (-1000000000 ≤ zl ∧ zl ≤ zh ∧ zh ≤ 1000000000) ∧ (0 ≤ ql ∧ ql ≤ 1000000) ∧ (0 ≤ qh ∧ qh ≤ 1000000) := by
  unfold ewOK szOK at h
  omega
def ereach_sp : SpecSh := { args := [(.agg [(.int .i64 (.z 0)), (.int .i64 (.z 0)), (.int .i64 (.z 0)), (.int .i64 (.z 0)), (.int .i64 (.z 0)), (.int .i64 (.z 0)), (.int .i64 (.z 0)), (.int .i64 (.z 0))])], res := (.tup [(.agg [(.int .i64 (.z 0)), (.int .i64 (.z 0))]), (.int .i64 (.z 0))]), sh := [.i (some ((-9223372036854775808), 9223372036854775807)), .i (some ((-9223372036854775808), 9223372036854775807)), .i (some ((-9223372036854775808), 9223372036854775807))] }
set_option maxRecDepth 100000 in
def ereach_tree : Tree :=
.call 72 [.b] [.i (.v 0), .i (.v 1), .i (.v 2), .i (.v 3), .i (.v 4), .i (.v 5), .i (.v 6), .i (.v 7)] <|
.ite (.not (.v 8)) (.ret (.tup [(.agg [(.int .i64 (.z 0)), (.int .i64 (.z 0))]), (.int .i64 (.z 1))])) <|
.ite (.cmp .eq (.v 3) (.z 0)) (.ret (.tup [(.agg [(.int .i64 (.z 0)), (.int .i64 (.z 0))]), (.int .i64 (.z 12))])) <|
.call 142 [.i (some ((-9223372036854775808), 9223372036854775807)), .i (some ((-9223372036854775808), 9223372036854775807))] [.i (.v 0), .i (.v 1), .i (.v 2), .i (.v 3), .i (.v 4), .i (.v 5), .i (.v 6), .i (.v 7)] <|
.ret (.tup [(.agg [(.int .i64 (.v 9)), (.int .i64 (.v 10))]), (.int .i64 (.z 0))])
noncomputable def ereach_cx : Ctx := { tys := tys, fns := fns, sps := [(72, eright_sp), (142, ereach0_sp)], anns := [], trys := [] }
def ereach_ivs : List (Option (Int × Int)) := [some ((-9223372036854775808), 9223372036854775807), some ((-9223372036854775808), 9223372036854775807), some ((-9223372036854775808), 9223372036854775807), some ((-9223372036854775808), 9223372036854775807), some ((-9223372036854775808), 9223372036854775807), some ((-9223372036854775808), 9223372036854775807), some ((-9223372036854775808), 9223372036854775807), some ((-9223372036854775808), 9223372036854775807)]
set_option maxRecDepth 100000 in
theorem ereach_walk : runFn ereach_cx 3000 77 Try.f77 ereach_sp.args ereach_ivs = ereach_tree := by kernel_rfl
noncomputable def ereach_M : Nat → SpecSem
  | 72 => eright_sem
  | 142 => ereach0_sem
  | _ => noSem
theorem ereach_M72 : ereach_M 72 = eright_sem := rfl
theorem ereach_M142 : ereach_M 142 = ereach0_sem := rfl
theorem ereach_cxok : CxOK Try.prog ereach_cx ereach_M := ⟨tysOK, fnsOK, spCons eright_ok <| spCons ereach0_ok <| fun _ _ h => spNil h, mixedOK, fun _ _ h => trNil h⟩
set_option maxRecDepth 100000 in
set_option maxHeartbeats 8000000 in
theorem ereach_den (R RP : Value → Prop) (F : Ex → St → Js → Env → Prop) (J : Js) (x0 : Int) (x1 : Int) (x2 : Int) (x3 : Int) (x4 : Int) (x5 : Int) (x6 : Int) (x7 : Int) : Tree.den ereach_M R RP F ereach_tree J [(.i x0), (.i x1), (.i x2), (.i x3), (.i x4), (.i x5), (.i x6), (.i x7)] = (
  (eright_sem.pre [(.i x0), (.i x1), (.i x2), (.i x3), (.i x4), (.i x5), (.i x6), (.i x7)]) ∧ (
((!(Cv.bool (Env.get (eright_sem.out [(.i x0), (.i x1), (.i x2), (.i x3), (.i x4), (.i x5), (.i x6), (.i x7)]) 0))) = true → R (Value.tuple [(Value.agg [(Value.int .i64 (0 : Int)), (Value.int .i64 (0 : Int))].toArray), (Value.int .i64 (1 : Int))].toArray)) ∧ ((!(Cv.bool (Env.get (eright_sem.out [(.i x0), (.i x1), (.i x2), (.i x3), (.i x4), (.i x5), (.i x6), (.i x7)]) 0))) = false → ((Cmp.den .eq x3 (0 : Int)) = true → R (Value.tuple [(Value.agg [(Value.int .i64 (0 : Int)), (Value.int .i64 (0 : Int))].toArray), (Value.int .i64 (12 : Int))].toArray)) ∧ ((Cmp.den .eq x3 (0 : Int)) = false → (ereach0_sem.pre [(.i x0), (.i x1), (.i x2), (.i x3), (.i x4), (.i x5), (.i x6), (.i x7)]) ∧ (
∀ x9 : Int, x9 = (Cv.int (Env.get (ereach0_sem.out [(.i x0), (.i x1), (.i x2), (.i x3), (.i x4), (.i x5), (.i x6), (.i x7)]) 0)) → (-9223372036854775808 : Int) ≤ x9 → x9 ≤ (9223372036854775807 : Int) →
∀ x10 : Int, x10 = (Cv.int (Env.get (ereach0_sem.out [(.i x0), (.i x1), (.i x2), (.i x3), (.i x4), (.i x5), (.i x6), (.i x7)]) 1)) → (-9223372036854775808 : Int) ≤ x10 → x10 ≤ (9223372036854775807 : Int) →
R (Value.tuple [(Value.agg [(Value.int .i64 x9), (Value.int .i64 x10)].toArray), (Value.int .i64 (0 : Int))].toArray)))))) := by kernel_rfl

def ereach_sem : SpecSem := { pre := fun cs => match cs with | [.i t, .i w, .i s, .i n, .i zl, .i zh, .i ql, .i qh] => IsI t ∧ IsI w ∧ IsI s ∧ IsI n ∧ IsI zl ∧ IsI zh ∧ IsI ql ∧ IsI qh | _ => False, out := fun cs => match cs with | [.i t, .i w, .i s, .i n, .i zl, .i zh, .i ql, .i qh] => [.i (if ewOK t w s n zl zh ql qh ∧ n ≠ 0 then rcLo s w qh else 0), .i (if ewOK t w s n zl zh ql qh ∧ n ≠ 0 then rcHi s w ql else 0), .i (if ewOK t w s n zl zh ql qh then (if n = 0 then 12 else 0) else 1)] | _ => [] }
set_option maxRecDepth 10000 in
set_option maxHeartbeats 16000000 in
theorem ereach_ok : SpecOK Try.prog 77 ereach_sp ereach_sem := by
  refine spec_of_tree ereach_cxok Try.func77 (by kernel_rfl) (by kernel_rfl) ereach_walk rfl ?_
  intro cs hpre
  match cs, hpre with
  | [.i t, .i w, .i s, .i n, .i zl, .i zh, .i ql, .i qh], ⟨j_t, j_w, j_s, j_n, j_zl, j_zh, j_ql, j_qh⟩ =>
    have h_t := j_t
    unfold IsI at h_t
    have h_w := j_w
    unfold IsI at h_w
    have h_s := j_s
    unfold IsI at h_s
    have h_n := j_n
    unfold IsI at h_n
    have h_zl := j_zl
    unfold IsI at h_zl
    have h_zh := j_zh
    unfold IsI at h_zh
    have h_ql := j_ql
    unfold IsI at h_ql
    have h_qh := j_qh
    unfold IsI at h_qh
    refine ⟨rfl, IvsB.ok (by simp only [ereach_ivs, IvsB, Cv.int, and_true] <;> omega), ?_, ?_⟩
    · simp only [ereach_sem, ereach_sp, Fits, and_true]
      by_cases ho : ewOK t w s n zl zh ql qh <;> by_cases hn : n = 0
      · simp only [ho, hn, if_true, if_false, true_and, and_true, false_and, and_false, true_or, or_true, false_or, or_false, true_iff, iff_true, false_iff, iff_false, not_true_eq_false, not_false_eq_true, true_implies, false_implies, implies_true, forall_const, decide_true, decide_false, reduceCtorEq]; omega
      · obtain ⟨r1, r2, r3, r4, r5, r6⟩ := ew_rng ho hn
        have := rc_fits r2 r3 r6 r5
        simp only [ho, hn, if_true, if_false, true_and, and_true, false_and, and_false, true_or, or_true, false_or, or_false, true_iff, iff_true, false_iff, iff_false, not_true_eq_false, not_false_eq_true, true_implies, false_implies, implies_true, forall_const, decide_true, decide_false, reduceCtorEq]; omega
      · simp only [ho, hn, if_true, if_false, true_and, and_true, false_and, and_false, true_or, or_true, false_or, or_false, true_iff, iff_true, false_iff, iff_false, not_true_eq_false, not_false_eq_true, true_implies, false_implies, implies_true, forall_const, decide_true, decide_false, reduceCtorEq]; omega
      · simp only [ho, hn, if_true, if_false, true_and, and_true, false_and, and_false, true_or, or_true, false_or, or_false, true_iff, iff_true, false_iff, iff_false, not_true_eq_false, not_false_eq_true, true_implies, false_implies, implies_true, forall_const, decide_true, decide_false, reduceCtorEq]; omega
    · rw [ereach_den]
      simp only [ereach_sem, ereach_sp, ereach_den, eright_sem, ereach0_sem, Tree.den, LE.den, Cv.list, placeA, List.getElem?_cons_zero, List.getElem?_cons_succ, IE.den, BE.den, At.den, CA.den, Env.get, Cv.int, Cv.bool, List.cons_append, List.nil_append, List.map_cons, List.map_nil, bindRes, bindEq, Fits, SV.den, denL, place, placeL, eq_t, eq_f, lt_t, lt_f, le_t, le_f, beq_iff_eq, beq_eq_false_iff_ne, ne_eq, reduceCtorEq, b_dec, decide_eq_true_eq, decide_eq_false_iff_not, Bool.not_eq_false', Bool.or_eq_true, Bool.or_eq_false_iff, Bool.and_eq_false_iff, true_iff, false_iff, Bool.false_eq_true, Bool.not_eq_true', Bool.and_eq_true, Bool.not_true, Bool.not_false, List.cons.injEq, Cv.i.injEq, Cv.b.injEq, and_true, true_and, agg_inj, tup_inj, Value.int.injEq, Value.bool.injEq]
      by_cases ho : ewOK t w s n zl zh ql qh <;> by_cases hn : n = 0
      · subst hn
        simp only [ho, j_t, j_w, j_s, j_n, j_zl, j_zh, j_ql, j_qh, eq_self, f00, if_true, if_false, true_and, and_true, false_and, and_false, true_or, or_true, false_or, or_false, true_iff, iff_true, false_iff, iff_false, not_true_eq_false, not_false_eq_true, true_implies, false_implies, implies_true, forall_const, decide_true, decide_false, reduceCtorEq]
      · obtain ⟨r1, r2, r3, r4, r5, r6⟩ := ew_rng ho hn
        simp only [ho, hn, j_t, j_w, j_s, j_n, j_zl, j_zh, j_ql, j_qh, r2, r3, r5, r6, forall_eq, eq_self, if_true, if_false, true_and, and_true, false_and, and_false, true_or, or_true, false_or, or_false, true_iff, iff_true, false_iff, iff_false, not_true_eq_false, not_false_eq_true, true_implies, false_implies, implies_true, forall_const, decide_true, decide_false, reduceCtorEq]
      · simp only [ho, j_t, j_w, j_s, j_n, j_zl, j_zh, j_ql, j_qh, eq_self, if_true, if_false, true_and, and_true, false_and, and_false, true_or, or_true, false_or, or_false, true_iff, iff_true, false_iff, iff_false, not_true_eq_false, not_false_eq_true, true_implies, false_implies, implies_true, forall_const, decide_true, decide_false, reduceCtorEq]
      · simp only [ho, j_t, j_w, j_s, j_n, j_zl, j_zh, j_ql, j_qh, eq_self, if_true, if_false, true_and, and_true, false_and, and_false, true_or, or_true, false_or, or_false, true_iff, iff_true, false_iff, iff_false, not_true_eq_false, not_false_eq_true, true_implies, false_implies, implies_true, forall_const, decide_true, decide_false, reduceCtorEq]
def everd_sp : SpecSh := { args := [(.agg [(.int .i64 (.z 0)), (.int .i64 (.z 0)), (.int .i64 (.z 0)), (.int .i64 (.z 0)), (.int .i64 (.z 0)), (.int .i64 (.z 0)), (.int .i64 (.z 0)), (.int .i64 (.z 0))])], res := (.tup [(.int .i64 (.z 0)), (.int .i64 (.z 0))]), sh := [.i (some ((-9223372036854775808), 9223372036854775807)), .i (some ((-9223372036854775808), 9223372036854775807))] }
set_option maxRecDepth 100000 in
def everd_tree : Tree :=
.call 72 [.b] [.i (.v 0), .i (.v 1), .i (.v 2), .i (.v 3), .i (.v 4), .i (.v 5), .i (.v 6), .i (.v 7)] <|
.ite (.not (.v 8)) (.ret (.tup [(.int .i64 (.z 0)), (.int .i64 (.z 1))])) <|
.ite (.cmp .eq (.v 3) (.z 0)) (.ret (.tup [(.int .i64 (.z 0)), (.int .i64 (.z 12))])) <|
.call 142 [.i (some ((-9223372036854775808), 9223372036854775807)), .i (some ((-9223372036854775808), 9223372036854775807))] [.i (.v 0), .i (.v 1), .i (.v 2), .i (.v 3), .i (.v 4), .i (.v 5), .i (.v 6), .i (.v 7)] <|
.lett (.mulw .i64 (.v 0) (.z 1000)) <|
.lett (.subw .i64 (.v 4) (.v 11)) <|
.lett (.subw .i64 (.v 5) (.v 11)) <|
.ite (.cmp .lt (.v 10) (.v 12)) (.ret (.tup [(.int .i64 (.z 1)), (.int .i64 (.z 0))])) <|
.lett (.subw .i64 (.z 0) (.v 10)) <|
.ite (.cmp .lt (.v 13) (.v 14)) (.ret (.tup [(.int .i64 (.z 1)), (.int .i64 (.z 0))])) <|
.ite (.cmp .le (.v 13) (.v 9)) (.lett (.subw .i64 (.z 0) (.v 9)) <|
.ite (.cmp .le (.v 15) (.v 12)) (.ret (.tup [(.int .i64 (.z 0)), (.int .i64 (.z 0))])) <|
.ret (.tup [(.int .i64 (.z 2)), (.int .i64 (.z 0))])) <|
.ret (.tup [(.int .i64 (.z 2)), (.int .i64 (.z 0))])
noncomputable def everd_cx : Ctx := { tys := tys, fns := fns, sps := [(72, eright_sp), (142, ereach0_sp)], anns := [], trys := [] }
def everd_ivs : List (Option (Int × Int)) := [some ((-9223372036854775808), 9223372036854775807), some ((-9223372036854775808), 9223372036854775807), some ((-9223372036854775808), 9223372036854775807), some ((-9223372036854775808), 9223372036854775807), some ((-9223372036854775808), 9223372036854775807), some ((-9223372036854775808), 9223372036854775807), some ((-9223372036854775808), 9223372036854775807), some ((-9223372036854775808), 9223372036854775807)]
set_option maxRecDepth 100000 in
theorem everd_walk : runFn everd_cx 3000 78 Try.f78 everd_sp.args everd_ivs = everd_tree := by kernel_rfl
noncomputable def everd_M : Nat → SpecSem
  | 72 => eright_sem
  | 142 => ereach0_sem
  | _ => noSem
theorem everd_M72 : everd_M 72 = eright_sem := rfl
theorem everd_M142 : everd_M 142 = ereach0_sem := rfl
theorem everd_cxok : CxOK Try.prog everd_cx everd_M := ⟨tysOK, fnsOK, spCons eright_ok <| spCons ereach0_ok <| fun _ _ h => spNil h, mixedOK, fun _ _ h => trNil h⟩
set_option maxRecDepth 100000 in
set_option maxHeartbeats 8000000 in
theorem everd_den (R RP : Value → Prop) (F : Ex → St → Js → Env → Prop) (J : Js) (x0 : Int) (x1 : Int) (x2 : Int) (x3 : Int) (x4 : Int) (x5 : Int) (x6 : Int) (x7 : Int) : Tree.den everd_M R RP F everd_tree J [(.i x0), (.i x1), (.i x2), (.i x3), (.i x4), (.i x5), (.i x6), (.i x7)] = (
  (eright_sem.pre [(.i x0), (.i x1), (.i x2), (.i x3), (.i x4), (.i x5), (.i x6), (.i x7)]) ∧ (
((!(Cv.bool (Env.get (eright_sem.out [(.i x0), (.i x1), (.i x2), (.i x3), (.i x4), (.i x5), (.i x6), (.i x7)]) 0))) = true → R (Value.tuple [(Value.int .i64 (0 : Int)), (Value.int .i64 (1 : Int))].toArray)) ∧ ((!(Cv.bool (Env.get (eright_sem.out [(.i x0), (.i x1), (.i x2), (.i x3), (.i x4), (.i x5), (.i x6), (.i x7)]) 0))) = false → ((Cmp.den .eq x3 (0 : Int)) = true → R (Value.tuple [(Value.int .i64 (0 : Int)), (Value.int .i64 (12 : Int))].toArray)) ∧ ((Cmp.den .eq x3 (0 : Int)) = false → (ereach0_sem.pre [(.i x0), (.i x1), (.i x2), (.i x3), (.i x4), (.i x5), (.i x6), (.i x7)]) ∧ (
∀ x9 : Int, x9 = (Cv.int (Env.get (ereach0_sem.out [(.i x0), (.i x1), (.i x2), (.i x3), (.i x4), (.i x5), (.i x6), (.i x7)]) 0)) → (-9223372036854775808 : Int) ≤ x9 → x9 ≤ (9223372036854775807 : Int) →
∀ x10 : Int, x10 = (Cv.int (Env.get (ereach0_sem.out [(.i x0), (.i x1), (.i x2), (.i x3), (.i x4), (.i x5), (.i x6), (.i x7)]) 1)) → (-9223372036854775808 : Int) ≤ x10 → x10 ≤ (9223372036854775807 : Int) →
∀ x11 : Int, x11 = (IntKind.i64.wrap (x0 * (1000 : Int))) →
∀ x12 : Int, x12 = (IntKind.i64.wrap (x4 - x11)) →
∀ x13 : Int, x13 = (IntKind.i64.wrap (x5 - x11)) →
((Cmp.den .lt x10 x12) = true → R (Value.tuple [(Value.int .i64 (1 : Int)), (Value.int .i64 (0 : Int))].toArray)) ∧ ((Cmp.den .lt x10 x12) = false → ∀ x14 : Int, x14 = (IntKind.i64.wrap ((0 : Int) - x10)) →
((Cmp.den .lt x13 x14) = true → R (Value.tuple [(Value.int .i64 (1 : Int)), (Value.int .i64 (0 : Int))].toArray)) ∧ ((Cmp.den .lt x13 x14) = false → ((Cmp.den .le x13 x9) = true → ∀ x15 : Int, x15 = (IntKind.i64.wrap ((0 : Int) - x9)) →
((Cmp.den .le x15 x12) = true → R (Value.tuple [(Value.int .i64 (0 : Int)), (Value.int .i64 (0 : Int))].toArray)) ∧ ((Cmp.den .le x15 x12) = false → R (Value.tuple [(Value.int .i64 (2 : Int)), (Value.int .i64 (0 : Int))].toArray))) ∧ ((Cmp.den .le x13 x9) = false → R (Value.tuple [(Value.int .i64 (2 : Int)), (Value.int .i64 (0 : Int))].toArray))))))))) := by kernel_rfl

def everd_sem : SpecSem := { pre := fun cs => match cs with | [.i t, .i w, .i s, .i n, .i zl, .i zh, .i ql, .i qh] => IsI t ∧ IsI w ∧ IsI s ∧ IsI n ∧ IsI zl ∧ IsI zh ∧ IsI ql ∧ IsI qh | _ => False, out := fun cs => match cs with | [.i t, .i w, .i s, .i n, .i zl, .i zh, .i ql, .i qh] => [.i (if ewOK t w s n zl zh ql qh ∧ n ≠ 0 then veZ t zl zh (rcLo s w qh) (rcHi s w ql) else 0), .i (if ewOK t w s n zl zh ql qh then (if n = 0 then 12 else 0) else 1)] | _ => [] }
set_option maxRecDepth 10000 in
set_option maxHeartbeats 16000000 in
theorem everd_ok : SpecOK Try.prog 78 everd_sp everd_sem := by
  refine spec_of_tree everd_cxok Try.func78 (by kernel_rfl) (by kernel_rfl) everd_walk rfl ?_
  intro cs hpre
  match cs, hpre with
  | [.i t, .i w, .i s, .i n, .i zl, .i zh, .i ql, .i qh], ⟨j_t, j_w, j_s, j_n, j_zl, j_zh, j_ql, j_qh⟩ =>
    have h_t := j_t
    unfold IsI at h_t
    have h_w := j_w
    unfold IsI at h_w
    have h_s := j_s
    unfold IsI at h_s
    have h_n := j_n
    unfold IsI at h_n
    have h_zl := j_zl
    unfold IsI at h_zl
    have h_zh := j_zh
    unfold IsI at h_zh
    have h_ql := j_ql
    unfold IsI at h_ql
    have h_qh := j_qh
    unfold IsI at h_qh
    refine ⟨rfl, IvsB.ok (by simp only [everd_ivs, IvsB, Cv.int, and_true] <;> omega), ?_, ?_⟩
    · simp only [everd_sem, everd_sp, Fits, and_true]
      have := ve_rng t zl zh (rcLo s w qh) (rcHi s w ql)
      by_cases ho : ewOK t w s n zl zh ql qh <;> by_cases hn : n = 0 <;> simp only [ho, hn, if_true, if_false, true_and, and_true, false_and, and_false, true_or, or_true, false_or, or_false, true_iff, iff_true, false_iff, iff_false, not_true_eq_false, not_false_eq_true, true_implies, false_implies, implies_true, forall_const, decide_true, decide_false, reduceCtorEq] <;> omega
    · rw [everd_den]
      simp only [everd_sem, everd_sp, everd_den, eright_sem, ereach0_sem, Tree.den, LE.den, Cv.list, placeA, List.getElem?_cons_zero, List.getElem?_cons_succ, IE.den, BE.den, At.den, CA.den, Env.get, Cv.int, Cv.bool, List.cons_append, List.nil_append, List.map_cons, List.map_nil, bindRes, bindEq, Fits, SV.den, denL, place, placeL, eq_t, eq_f, lt_t, lt_f, le_t, le_f, beq_iff_eq, beq_eq_false_iff_ne, ne_eq, reduceCtorEq, b_dec, decide_eq_true_eq, decide_eq_false_iff_not, Bool.not_eq_false', Bool.or_eq_true, Bool.or_eq_false_iff, Bool.and_eq_false_iff, true_iff, false_iff, Bool.false_eq_true, Bool.not_eq_true', Bool.and_eq_true, Bool.not_true, Bool.not_false, List.cons.injEq, Cv.i.injEq, Cv.b.injEq, and_true, true_and, agg_inj, tup_inj, Value.int.injEq, Value.bool.injEq]
      by_cases ho : ewOK t w s n zl zh ql qh <;> by_cases hn : n = 0
      · subst hn
        simp only [ho, j_t, j_w, j_s, j_n, j_zl, j_zh, j_ql, j_qh, eq_self, f00, if_true, if_false, true_and, and_true, false_and, and_false, true_or, or_true, false_or, or_false, true_iff, iff_true, false_iff, iff_false, not_true_eq_false, not_false_eq_true, true_implies, false_implies, implies_true, forall_const, decide_true, decide_false, reduceCtorEq]
      · obtain ⟨r1, r2, r3, r4, r5, r6⟩ := ew_rng ho hn
        have rf := rc_fits r2 r3 r6 r5
        generalize rcLo s w qh = lo at *
        generalize rcHi s w ql = hi at *
        have w1 : IntKind.i64.wrap (t * 1000) = t * 1000 := w64 (by omega) (by omega)
        have w2 : IntKind.i64.wrap (zl - t * 1000) = zl - t * 1000 := w64 (by omega) (by omega)
        have w3 : IntKind.i64.wrap (zh - t * 1000) = zh - t * 1000 := w64 (by omega) (by omega)
        have w4 : IntKind.i64.wrap (0 - hi) = 0 - hi := w64 (by omega) (by omega)
        have w5 : IntKind.i64.wrap (0 - lo) = 0 - lo := w64 (by omega) (by omega)
        simp only [ho, hn, j_t, j_w, j_s, j_n, j_zl, j_zh, j_ql, j_qh, r2, r3, r5, r6, w1, w2, w3, w4, w5, forall_eq, eq_self, if_true, if_false, true_and, and_true, false_and, and_false, true_or, or_true, false_or, or_false, true_iff, iff_true, false_iff, iff_false, not_true_eq_false, not_false_eq_true, true_implies, false_implies, implies_true, forall_const, decide_true, decide_false, reduceCtorEq]
        clear j_t j_w j_s j_n j_zl j_zh j_ql j_qh h_t h_w h_s h_n h_zl h_zh h_ql h_qh ho hn r1 r2 r3 r4 r5 r6 rf w1 w2 w3 w4 w5
        unfold veZ
        (repeat' (first | intro _ | refine And.intro ?_ ?_ | exact trivial)) <;> omega
      · simp only [ho, j_t, j_w, j_s, j_n, j_zl, j_zh, j_ql, j_qh, eq_self, if_true, if_false, true_and, and_true, false_and, and_false, true_or, or_true, false_or, or_false, true_iff, iff_true, false_iff, iff_false, not_true_eq_false, not_false_eq_true, true_implies, false_implies, implies_true, forall_const, decide_true, decide_false, reduceCtorEq]
      · simp only [ho, j_t, j_w, j_s, j_n, j_zl, j_zh, j_ql, j_qh, eq_self, if_true, if_false, true_and, and_true, false_and, and_false, true_or, or_true, false_or, or_false, true_iff, iff_true, false_iff, iff_false, not_true_eq_false, not_false_eq_true, true_implies, false_implies, implies_true, forall_const, decide_true, decide_false, reduceCtorEq]
def r19reach_sp : SpecSh := { args := [(.agg [(.int .i64 (.z 0)), (.int .i64 (.z 0)), (.int .i64 (.z 0)), (.int .i64 (.z 0)), (.int .i64 (.z 0)), (.int .i64 (.z 0)), (.int .i64 (.z 0)), (.int .i64 (.z 0))])], res := (.agg [(.int .i64 (.z 0)), (.int .i64 (.z 0))]), sh := [.i (some ((-9223372036854775808), 9223372036854775807)), .i (some ((-9223372036854775808), 9223372036854775807))] }
set_option maxRecDepth 100000 in
def r19reach_tree : Tree :=
.lett (.sub (.z 1000000) (.v 7)) <|
.lett (.mul (.v 2) (.v 2)) <|
.lett (.mul (.z 9) (.v 1)) <|
.call 131 [.b, .i (some (0, 18446744073709551615)), .i (some (0, 18446744073709551615))] [.i (.v 9), .i (.v 10)] <|
.call 128 [.i (some (0, 18446744073709551615)), .i (some (0, 18446744073709551615)), .b] [.i (.v 12), .i (.v 13), .i (.z 0), .i (.v 8)] <|
.lett (.sub (.z 200) (.v 1)) <|
.call 157 [.i (some (0, 18446744073709551615)), .i (some (0, 18446744073709551615)), .i (some (0, 18446744073709551615)), .i (some (0, 18446744073709551615))] [.i (.v 14), .i (.v 15), .i (.z 0), .i (.v 17)] <|
.lett (.sub (.z 1000000) (.v 6)) <|
.lett (.mul (.v 2) (.v 2)) <|
.lett (.mul (.z 9) (.v 1)) <|
.call 131 [.b, .i (some (0, 18446744073709551615)), .i (some (0, 18446744073709551615))] [.i (.v 23), .i (.v 24)] <|
.call 128 [.i (some (0, 18446744073709551615)), .i (some (0, 18446744073709551615)), .b] [.i (.v 26), .i (.v 27), .i (.z 0), .i (.v 22)] <|
.lett (.sub (.z 200) (.v 1)) <|
.call 157 [.i (some (0, 18446744073709551615)), .i (some (0, 18446744073709551615)), .i (some (0, 18446744073709551615)), .i (some (0, 18446744073709551615))] [.i (.v 28), .i (.v 29), .i (.z 0), .i (.v 31)] <|
.ite (.not (.and (.cmp .eq (.v 34) (.z 0)) (.cmp .eq (.v 35) (.z 0)))) (.call 146 [.i (some (0, 18446744073709551615)), .i (some (0, 18446744073709551615)), .b] [.i (.v 32), .i (.v 33), .i (.z 0), .i (.z 1)] <|
.call 119 [.i (some (0, 18446744073709551615))] [.i (.v 18), .i (.v 19)] <|
.lett (.wrap .i64 (.v 39)) <|
.call 120 [.i (some (0, 18446744073709551615)), .i (some (0, 18446744073709551615))] [.i (.v 36), .i (.v 37)] <|
.lett (.wrap .i64 (.v 42)) <|
.ret (.agg [(.int .i64 (.v 40)), (.int .i64 (.v 43))])) <|
.call 119 [.i (some (0, 18446744073709551615))] [.i (.v 18), .i (.v 19)] <|
.lett (.wrap .i64 (.v 36)) <|
.call 120 [.i (some (0, 18446744073709551615)), .i (some (0, 18446744073709551615))] [.i (.v 32), .i (.v 33)] <|
.lett (.wrap .i64 (.v 39)) <|
.ret (.agg [(.int .i64 (.v 37)), (.int .i64 (.v 40))])
noncomputable def r19reach_cx : Ctx := { tys := tys, fns := fns, sps := [(128, rtimes_sp), (157, rdiv_sp), (146, radd_sp), (119, rroot_sp), (120, rup_sp), (131, r4prod_sp)], anns := [], trys := [] }
def r19reach_ivs : List (Option (Int × Int)) := [some ((-9223372036854775808), 9223372036854775807), some (1, 99), some (1, 1000000), some ((-9223372036854775808), 9223372036854775807), some ((-9223372036854775808), 9223372036854775807), some ((-9223372036854775808), 9223372036854775807), some (0, 1000000), some (0, 1000000)]
set_option maxRecDepth 100000 in
theorem r19reach_walk : runFn r19reach_cx 3000 80 Try.f80 r19reach_sp.args r19reach_ivs = r19reach_tree := by kernel_rfl
noncomputable def r19reach_M : Nat → SpecSem
  | 128 => rtimes_sem
  | 157 => rdiv_sem
  | 146 => radd_sem
  | 119 => rroot_sem
  | 120 => rup_sem
  | 131 => r4prod_sem
  | _ => noSem
theorem r19reach_M128 : r19reach_M 128 = rtimes_sem := rfl
theorem r19reach_M157 : r19reach_M 157 = rdiv_sem := rfl
theorem r19reach_M146 : r19reach_M 146 = radd_sem := rfl
theorem r19reach_M119 : r19reach_M 119 = rroot_sem := rfl
theorem r19reach_M120 : r19reach_M 120 = rup_sem := rfl
theorem r19reach_M131 : r19reach_M 131 = r4prod_sem := rfl
theorem r19reach_cxok : CxOK Try.prog r19reach_cx r19reach_M := ⟨tysOK, fnsOK, spCons rtimes_ok <| spCons rdiv_ok <| spCons radd_ok <| spCons rroot_ok <| spCons rup_ok <| spCons r4prod_ok <| fun _ _ h => spNil h, mixedOK, fun _ _ h => trNil h⟩
set_option maxRecDepth 100000 in
set_option maxHeartbeats 8000000 in
theorem r19reach_den (R RP : Value → Prop) (F : Ex → St → Js → Env → Prop) (J : Js) (x0 : Int) (x1 : Int) (x2 : Int) (x3 : Int) (x4 : Int) (x5 : Int) (x6 : Int) (x7 : Int) : Tree.den r19reach_M R RP F r19reach_tree J [(.i x0), (.i x1), (.i x2), (.i x3), (.i x4), (.i x5), (.i x6), (.i x7)] = (
  ∀ x8 : Int, x8 = ((1000000 : Int) - x7) →
∀ x9 : Int, x9 = (x2 * x2) →
∀ x10 : Int, x10 = ((9 : Int) * x1) →
(r4prod_sem.pre [(.i x9), (.i x10)]) ∧ (
∀ x12 : Int, x12 = (Cv.int (Env.get (r4prod_sem.out [(.i x9), (.i x10)]) 1)) → (0 : Int) ≤ x12 → x12 ≤ (18446744073709551615 : Int) →
∀ x13 : Int, x13 = (Cv.int (Env.get (r4prod_sem.out [(.i x9), (.i x10)]) 2)) → (0 : Int) ≤ x13 → x13 ≤ (18446744073709551615 : Int) →
(rtimes_sem.pre [(.i x12), (.i x13), (.i (0 : Int)), (.i x8)]) ∧ (
∀ x14 : Int, x14 = (Cv.int (Env.get (rtimes_sem.out [(.i x12), (.i x13), (.i (0 : Int)), (.i x8)]) 0)) → (0 : Int) ≤ x14 → x14 ≤ (18446744073709551615 : Int) →
∀ x15 : Int, x15 = (Cv.int (Env.get (rtimes_sem.out [(.i x12), (.i x13), (.i (0 : Int)), (.i x8)]) 1)) → (0 : Int) ≤ x15 → x15 ≤ (18446744073709551615 : Int) →
∀ x17 : Int, x17 = ((200 : Int) - x1) →
(rdiv_sem.pre [(.i x14), (.i x15), (.i (0 : Int)), (.i x17)]) ∧ (
∀ x18 : Int, x18 = (Cv.int (Env.get (rdiv_sem.out [(.i x14), (.i x15), (.i (0 : Int)), (.i x17)]) 0)) → (0 : Int) ≤ x18 → x18 ≤ (18446744073709551615 : Int) →
∀ x19 : Int, x19 = (Cv.int (Env.get (rdiv_sem.out [(.i x14), (.i x15), (.i (0 : Int)), (.i x17)]) 1)) → (0 : Int) ≤ x19 → x19 ≤ (18446744073709551615 : Int) →
∀ x20 : Int, x20 = (Cv.int (Env.get (rdiv_sem.out [(.i x14), (.i x15), (.i (0 : Int)), (.i x17)]) 2)) → (0 : Int) ≤ x20 → x20 ≤ (18446744073709551615 : Int) →
∀ x21 : Int, x21 = (Cv.int (Env.get (rdiv_sem.out [(.i x14), (.i x15), (.i (0 : Int)), (.i x17)]) 3)) → (0 : Int) ≤ x21 → x21 ≤ (18446744073709551615 : Int) →
∀ x22 : Int, x22 = ((1000000 : Int) - x6) →
∀ x23 : Int, x23 = (x2 * x2) →
∀ x24 : Int, x24 = ((9 : Int) * x1) →
(r4prod_sem.pre [(.i x23), (.i x24)]) ∧ (
∀ x26 : Int, x26 = (Cv.int (Env.get (r4prod_sem.out [(.i x23), (.i x24)]) 1)) → (0 : Int) ≤ x26 → x26 ≤ (18446744073709551615 : Int) →
∀ x27 : Int, x27 = (Cv.int (Env.get (r4prod_sem.out [(.i x23), (.i x24)]) 2)) → (0 : Int) ≤ x27 → x27 ≤ (18446744073709551615 : Int) →
(rtimes_sem.pre [(.i x26), (.i x27), (.i (0 : Int)), (.i x22)]) ∧ (
∀ x28 : Int, x28 = (Cv.int (Env.get (rtimes_sem.out [(.i x26), (.i x27), (.i (0 : Int)), (.i x22)]) 0)) → (0 : Int) ≤ x28 → x28 ≤ (18446744073709551615 : Int) →
∀ x29 : Int, x29 = (Cv.int (Env.get (rtimes_sem.out [(.i x26), (.i x27), (.i (0 : Int)), (.i x22)]) 1)) → (0 : Int) ≤ x29 → x29 ≤ (18446744073709551615 : Int) →
∀ x31 : Int, x31 = ((200 : Int) - x1) →
(rdiv_sem.pre [(.i x28), (.i x29), (.i (0 : Int)), (.i x31)]) ∧ (
∀ x32 : Int, x32 = (Cv.int (Env.get (rdiv_sem.out [(.i x28), (.i x29), (.i (0 : Int)), (.i x31)]) 0)) → (0 : Int) ≤ x32 → x32 ≤ (18446744073709551615 : Int) →
∀ x33 : Int, x33 = (Cv.int (Env.get (rdiv_sem.out [(.i x28), (.i x29), (.i (0 : Int)), (.i x31)]) 1)) → (0 : Int) ≤ x33 → x33 ≤ (18446744073709551615 : Int) →
∀ x34 : Int, x34 = (Cv.int (Env.get (rdiv_sem.out [(.i x28), (.i x29), (.i (0 : Int)), (.i x31)]) 2)) → (0 : Int) ≤ x34 → x34 ≤ (18446744073709551615 : Int) →
∀ x35 : Int, x35 = (Cv.int (Env.get (rdiv_sem.out [(.i x28), (.i x29), (.i (0 : Int)), (.i x31)]) 3)) → (0 : Int) ≤ x35 → x35 ≤ (18446744073709551615 : Int) →
((!((Cmp.den .eq x34 (0 : Int)) && (Cmp.den .eq x35 (0 : Int)))) = true → (radd_sem.pre [(.i x32), (.i x33), (.i (0 : Int)), (.i (1 : Int))]) ∧ (
∀ x36 : Int, x36 = (Cv.int (Env.get (radd_sem.out [(.i x32), (.i x33), (.i (0 : Int)), (.i (1 : Int))]) 0)) → (0 : Int) ≤ x36 → x36 ≤ (18446744073709551615 : Int) →
∀ x37 : Int, x37 = (Cv.int (Env.get (radd_sem.out [(.i x32), (.i x33), (.i (0 : Int)), (.i (1 : Int))]) 1)) → (0 : Int) ≤ x37 → x37 ≤ (18446744073709551615 : Int) →
(rroot_sem.pre [(.i x18), (.i x19)]) ∧ (
∀ x39 : Int, x39 = (Cv.int (Env.get (rroot_sem.out [(.i x18), (.i x19)]) 0)) → (0 : Int) ≤ x39 → x39 ≤ (18446744073709551615 : Int) →
∀ x40 : Int, x40 = (IntKind.i64.wrap x39) →
(rup_sem.pre [(.i x36), (.i x37)]) ∧ (
∀ x41 : Int, x41 = (Cv.int (Env.get (rup_sem.out [(.i x36), (.i x37)]) 0)) → (0 : Int) ≤ x41 → x41 ≤ (18446744073709551615 : Int) →
∀ x42 : Int, x42 = (Cv.int (Env.get (rup_sem.out [(.i x36), (.i x37)]) 1)) → (0 : Int) ≤ x42 → x42 ≤ (18446744073709551615 : Int) →
∀ x43 : Int, x43 = (IntKind.i64.wrap x42) →
R (Value.agg [(Value.int .i64 x40), (Value.int .i64 x43)].toArray))))) ∧ ((!((Cmp.den .eq x34 (0 : Int)) && (Cmp.den .eq x35 (0 : Int)))) = false → (rroot_sem.pre [(.i x18), (.i x19)]) ∧ (
∀ x36 : Int, x36 = (Cv.int (Env.get (rroot_sem.out [(.i x18), (.i x19)]) 0)) → (0 : Int) ≤ x36 → x36 ≤ (18446744073709551615 : Int) →
∀ x37 : Int, x37 = (IntKind.i64.wrap x36) →
(rup_sem.pre [(.i x32), (.i x33)]) ∧ (
∀ x38 : Int, x38 = (Cv.int (Env.get (rup_sem.out [(.i x32), (.i x33)]) 0)) → (0 : Int) ≤ x38 → x38 ≤ (18446744073709551615 : Int) →
∀ x39 : Int, x39 = (Cv.int (Env.get (rup_sem.out [(.i x32), (.i x33)]) 1)) → (0 : Int) ≤ x39 → x39 ≤ (18446744073709551615 : Int) →
∀ x40 : Int, x40 = (IntKind.i64.wrap x39) →
R (Value.agg [(Value.int .i64 x37), (Value.int .i64 x40)].toArray))))))))))) := by kernel_rfl

def r19reach_sem : SpecSem := { pre := fun cs => match cs with | [.i t, .i w, .i s, .i n, .i zl, .i zh, .i ql, .i qh] => IsI t ∧ IsI w ∧ IsI s ∧ IsI n ∧ IsI zl ∧ IsI zh ∧ IsI ql ∧ IsI qh ∧ ((1 ≤ w ∧ w ≤ 99) ∧ (1 ≤ s ∧ s ≤ 1000000) ∧ (0 ≤ ql ∧ ql ≤ 1000000) ∧ (0 ≤ qh ∧ qh ≤ 1000000)) | _ => False, out := fun cs => match cs with | [.i t, .i w, .i s, .i n, .i zl, .i zh, .i ql, .i qh] => [.i (rcLo s w qh), .i (rcHi s w ql)] | _ => [] }
set_option maxRecDepth 10000 in
set_option maxHeartbeats 16000000 in
theorem r19reach_ok : SpecOK Try.prog 80 r19reach_sp r19reach_sem := by
  refine spec_of_tree r19reach_cxok Try.func80 (by kernel_rfl) (by kernel_rfl) r19reach_walk rfl ?_
  intro cs hpre
  match cs, hpre with
  | [.i t, .i w, .i s, .i n, .i zl, .i zh, .i ql, .i qh], ⟨j_t, j_w, j_s, j_n, j_zl, j_zh, j_ql, j_qh, hx⟩ =>
    have h_t := j_t
    unfold IsI at h_t
    have h_w := j_w
    unfold IsI at h_w
    have h_s := j_s
    unfold IsI at h_s
    have h_n := j_n
    unfold IsI at h_n
    have h_zl := j_zl
    unfold IsI at h_zl
    have h_zh := j_zh
    unfold IsI at h_zh
    have h_ql := j_ql
    unfold IsI at h_ql
    have h_qh := j_qh
    unfold IsI at h_qh
    refine ⟨rfl, IvsB.ok (by simp only [r19reach_ivs, IvsB, Cv.int, and_true] <;> omega), ?_, ?_⟩
    · simp only [r19reach_sem, r19reach_sp, Fits, and_true]
      obtain ⟨hw, hs, hl, hh⟩ := hx
      have := rc_fits hw hs hh hl
      omega
    · rw [r19reach_den]
      obtain ⟨hw, hs, hl, hh⟩ := hx
      obtain ⟨⟨a1, a2⟩, ⟨a3, a4⟩, ⟨a5, a6⟩⟩ := vaZ_rng hw hs hl
      obtain ⟨_, _, ⟨a7, a8⟩⟩ := vaZ_rng hw hs hh
      obtain ⟨⟨b1, b2⟩, b3, b4⟩ := rc_nums hw hs hl
      obtain ⟨⟨b5, b6⟩, b7, b8⟩ := rc_nums hw hs hh
      have r1 := root_30 b1 (by omega)
      have r2 := root_30 b5 (by omega)
      have r3 := root_30 (v := vaZ s w ql / (200 - w) + 1) (by omega) (by omega)
      have e1 : ∀ q, s * s * (9 * w) * (1000000 - q) = vaZ s w q := fun _ => rfl
      have g1 := vq2' a5 (by omega)
      have g2 := vq2' a7 (by omega)
      have ne : ¬ (200 - w = 0) := by omega
      have q1 : divQ (vaZ s w ql / 18446744073709551616 % 18446744073709551616) (vaZ s w ql % 18446744073709551616) 0 (200 - w) = vaZ s w ql / (200 - w) := by unfold divQ; rw [g1, val0r, if_neg ne]
      have q2 : divQ (vaZ s w qh / 18446744073709551616 % 18446744073709551616) (vaZ s w qh % 18446744073709551616) 0 (200 - w) = vaZ s w qh / (200 - w) := by unfold divQ; rw [g2, val0r, if_neg ne]
      have q3 : divR (vaZ s w ql / 18446744073709551616 % 18446744073709551616) (vaZ s w ql % 18446744073709551616) 0 (200 - w) = vaZ s w ql % (200 - w) := by unfold divR; rw [g1, val0r, if_neg ne]
      have q4 : divR (vaZ s w qh / 18446744073709551616 % 18446744073709551616) (vaZ s w qh % 18446744073709551616) 0 (200 - w) = vaZ s w qh % (200 - w) := by unfold divR; rw [g2, val0r, if_neg ne]
      have ab1 : absZ (s * s) = s * s := by unfold absZ; rw [if_neg (by omega)]
      have ab2 : absZ (9 * w) = 9 * w := by unfold absZ; rw [if_neg (by omega)]
      have ge1 : 1 ≤ 200 - w := by omega
      have ii2 : IsI (s * s) := ⟨by omega, by omega⟩
      have ii3 : IsI (9 * w) := ⟨by omega, by omega⟩
      have i0 : IsU 0 := ⟨by omega, by omega⟩
      have i1 : IsU 1 := ⟨by omega, by omega⟩
      have i2 : IsU (s * s) := ⟨by omega, by omega⟩
      have i3 : IsU (9 * w) := ⟨by omega, by omega⟩
      have i4 : IsU (1000000 - ql) := ⟨by omega, by omega⟩
      have i5 : IsU (1000000 - qh) := ⟨by omega, by omega⟩
      have i6 : IsU (200 - w) := ⟨by omega, by omega⟩
      have i7 := iu_hi a3 (by omega)
      have i8 := iu_hi (x := vaZ s w ql / (200 - w)) b1 (by omega)
      have i9 := iu_hi (x := vaZ s w qh / (200 - w)) b5 (by omega)
      have i10 := iu_hi (x := vaZ s w ql / (200 - w) + 1) (by omega) (by omega)
      have g3 := vq2' (x := vaZ s w ql / (200 - w) + 1) (by omega) (by omega)
      simp only [r19reach_sem, r19reach_sp, wup_sem, ab1, ab2, ge1, ii2, ii3, vq', val0r, e1, g1, g2, g3, q1, q2, q3, q4, ne, i0, i1, i2, i3, i4, i5, i6, i7, i8, i9, i10, iu_lo, iu_mod, forall_eq, if_true, if_false, true_and, and_true, false_and, and_false, true_or, or_true, false_or, or_false, true_iff, iff_true, false_iff, iff_false, not_true_eq_false, not_false_eq_true, true_implies, false_implies, implies_true, forall_const, decide_true, decide_false, reduceCtorEq, r19reach_den, rtimes_sem, rdiv_sem, radd_sem, rroot_sem, rup_sem, r4prod_sem, Tree.den, LE.den, Cv.list, placeA, List.getElem?_cons_zero, List.getElem?_cons_succ, IE.den, BE.den, At.den, CA.den, Env.get, Cv.int, Cv.bool, List.cons_append, List.nil_append, List.map_cons, List.map_nil, bindRes, bindEq, Fits, SV.den, denL, place, placeL, eq_t, eq_f, lt_t, lt_f, le_t, le_f, beq_iff_eq, beq_eq_false_iff_ne, ne_eq, reduceCtorEq, b_dec, decide_eq_true_eq, decide_eq_false_iff_not, Bool.not_eq_false', Bool.or_eq_true, Bool.or_eq_false_iff, Bool.and_eq_false_iff, true_iff, false_iff, Bool.false_eq_true, Bool.not_eq_true', Bool.and_eq_true, Bool.not_true, Bool.not_false, List.cons.injEq, Cv.i.injEq, Cv.b.injEq, and_true, true_and, agg_inj, tup_inj, Value.int.injEq, Value.bool.injEq]
      have m1 : vaZ s w ql % (200 - w) / 18446744073709551616 = 0 := by omega
      have m2 : vaZ s w ql % (200 - w) % 18446744073709551616 = vaZ s w ql % (200 - w) := by omega
      have m3 : upZ (vaZ s w ql / (200 - w)) % 18446744073709551616 = upZ (vaZ s w ql / (200 - w)) := by omega
      have m4 : upZ (vaZ s w ql / (200 - w) + 1) % 18446744073709551616 = upZ (vaZ s w ql / (200 - w) + 1) := by omega
      have w1 : IntKind.i64.wrap (rootZ (vaZ s w qh / (200 - w))) = rootZ (vaZ s w qh / (200 - w)) := w64 (by omega) (by omega)
      have w2 : IntKind.i64.wrap (upZ (vaZ s w ql / (200 - w))) = upZ (vaZ s w ql / (200 - w)) := w64 (by omega) (by omega)
      have w3 : IntKind.i64.wrap (upZ (vaZ s w ql / (200 - w) + 1)) = upZ (vaZ s w ql / (200 - w) + 1) := w64 (by omega) (by omega)
      simp only [m1, m2, m3, m4, w1, w2, w3, rcLo, rcHi, f00, eq_self, if_true, if_false, true_and, and_true, false_and, and_false, true_or, or_true, false_or, or_false, true_iff, iff_true, false_iff, iff_false, not_true_eq_false, not_false_eq_true, true_implies, false_implies, implies_true, forall_const, decide_true, decide_false, reduceCtorEq]
      by_cases hR : vaZ s w ql % (200 - w) = 0
      · simp only [hR, f00, eq_self, Int.add_zero, if_true, if_false, true_and, and_true, false_and, and_false, true_or, or_true, false_or, or_false, true_iff, iff_true, false_iff, iff_false, not_true_eq_false, not_false_eq_true, true_implies, false_implies, implies_true, forall_const, decide_true, decide_false, reduceCtorEq]
      · simp only [hR, f00, eq_self, if_true, if_false, true_and, and_true, false_and, and_false, true_or, or_true, false_or, or_false, true_iff, iff_true, false_iff, iff_false, not_true_eq_false, not_false_eq_true, true_implies, false_implies, implies_true, forall_const, decide_true, decide_false, reduceCtorEq]

def r19verd_sp : SpecSh := { args := [(.agg [(.int .i64 (.z 0)), (.int .i64 (.z 0)), (.int .i64 (.z 0)), (.int .i64 (.z 0)), (.int .i64 (.z 0)), (.int .i64 (.z 0)), (.int .i64 (.z 0)), (.int .i64 (.z 0))])], res := (.int .i64 (.z 0)), sh := [.i (some ((-9223372036854775808), 9223372036854775807))] }
set_option maxRecDepth 100000 in
def r19verd_tree : Tree :=
.call 80 [.i (some ((-9223372036854775808), 9223372036854775807)), .i (some ((-9223372036854775808), 9223372036854775807))] [.i (.v 0), .i (.v 1), .i (.v 2), .i (.v 3), .i (.v 4), .i (.v 5), .i (.v 6), .i (.v 7)] <|
.lett (.mulw .i64 (.z 1000) (.v 0)) <|
.lett (.subw .i64 (.v 4) (.v 10)) <|
.lett (.mulw .i64 (.z 1000) (.v 0)) <|
.lett (.subw .i64 (.v 5) (.v 12)) <|
.ite (.cmp .lt (.v 9) (.v 11)) (.ret (.int .i64 (.z 1))) <|
.lett (.subw .i64 (.z 0) (.v 9)) <|
.ite (.cmp .lt (.v 13) (.v 14)) (.ret (.int .i64 (.z 1))) <|
.ite (.cmp .le (.v 13) (.v 8)) (.lett (.subw .i64 (.z 0) (.v 8)) <|
.ite (.cmp .le (.v 15) (.v 11)) (.ret (.int .i64 (.z 0))) <|
.ret (.int .i64 (.z 2))) <|
.ret (.int .i64 (.z 2))
noncomputable def r19verd_cx : Ctx := { tys := tys, fns := fns, sps := [(80, r19reach_sp)], anns := [], trys := [] }
def r19verd_ivs : List (Option (Int × Int)) := [some ((-9223372036854775808), 9223372036854775807), some ((-9223372036854775808), 9223372036854775807), some ((-9223372036854775808), 9223372036854775807), some ((-9223372036854775808), 9223372036854775807), some ((-9223372036854775808), 9223372036854775807), some ((-9223372036854775808), 9223372036854775807), some ((-9223372036854775808), 9223372036854775807), some ((-9223372036854775808), 9223372036854775807)]
set_option maxRecDepth 100000 in
theorem r19verd_walk : runFn r19verd_cx 3000 81 Try.f81 r19verd_sp.args r19verd_ivs = r19verd_tree := by kernel_rfl
noncomputable def r19verd_M : Nat → SpecSem
  | 80 => r19reach_sem
  | _ => noSem
theorem r19verd_M80 : r19verd_M 80 = r19reach_sem := rfl
theorem r19verd_cxok : CxOK Try.prog r19verd_cx r19verd_M := ⟨tysOK, fnsOK, spCons r19reach_ok <| fun _ _ h => spNil h, mixedOK, fun _ _ h => trNil h⟩
set_option maxRecDepth 100000 in
set_option maxHeartbeats 8000000 in
theorem r19verd_den (R RP : Value → Prop) (F : Ex → St → Js → Env → Prop) (J : Js) (x0 : Int) (x1 : Int) (x2 : Int) (x3 : Int) (x4 : Int) (x5 : Int) (x6 : Int) (x7 : Int) : Tree.den r19verd_M R RP F r19verd_tree J [(.i x0), (.i x1), (.i x2), (.i x3), (.i x4), (.i x5), (.i x6), (.i x7)] = (
  (r19reach_sem.pre [(.i x0), (.i x1), (.i x2), (.i x3), (.i x4), (.i x5), (.i x6), (.i x7)]) ∧ (
∀ x8 : Int, x8 = (Cv.int (Env.get (r19reach_sem.out [(.i x0), (.i x1), (.i x2), (.i x3), (.i x4), (.i x5), (.i x6), (.i x7)]) 0)) → (-9223372036854775808 : Int) ≤ x8 → x8 ≤ (9223372036854775807 : Int) →
∀ x9 : Int, x9 = (Cv.int (Env.get (r19reach_sem.out [(.i x0), (.i x1), (.i x2), (.i x3), (.i x4), (.i x5), (.i x6), (.i x7)]) 1)) → (-9223372036854775808 : Int) ≤ x9 → x9 ≤ (9223372036854775807 : Int) →
∀ x10 : Int, x10 = (IntKind.i64.wrap ((1000 : Int) * x0)) →
∀ x11 : Int, x11 = (IntKind.i64.wrap (x4 - x10)) →
∀ x12 : Int, x12 = (IntKind.i64.wrap ((1000 : Int) * x0)) →
∀ x13 : Int, x13 = (IntKind.i64.wrap (x5 - x12)) →
((Cmp.den .lt x9 x11) = true → R (Value.int .i64 (1 : Int))) ∧ ((Cmp.den .lt x9 x11) = false → ∀ x14 : Int, x14 = (IntKind.i64.wrap ((0 : Int) - x9)) →
((Cmp.den .lt x13 x14) = true → R (Value.int .i64 (1 : Int))) ∧ ((Cmp.den .lt x13 x14) = false → ((Cmp.den .le x13 x8) = true → ∀ x15 : Int, x15 = (IntKind.i64.wrap ((0 : Int) - x8)) →
((Cmp.den .le x15 x11) = true → R (Value.int .i64 (0 : Int))) ∧ ((Cmp.den .le x15 x11) = false → R (Value.int .i64 (2 : Int)))) ∧ ((Cmp.den .le x13 x8) = false → R (Value.int .i64 (2 : Int))))))) := by kernel_rfl

def r19verd_sem : SpecSem := { pre := fun cs => match cs with | [.i t, .i w, .i s, .i n, .i zl, .i zh, .i ql, .i qh] => IsI t ∧ IsI w ∧ IsI s ∧ IsI n ∧ IsI zl ∧ IsI zh ∧ IsI ql ∧ IsI qh ∧ ((-1000000 ≤ t ∧ t ≤ 1000000) ∧ (1 ≤ w ∧ w ≤ 99) ∧ (1 ≤ s ∧ s ≤ 1000000) ∧ (-1000000000 ≤ zl ∧ zl ≤ zh ∧ zh ≤ 1000000000) ∧ (0 ≤ ql ∧ ql ≤ 1000000) ∧ (0 ≤ qh ∧ qh ≤ 1000000)) | _ => False, out := fun cs => match cs with | [.i t, .i w, .i s, .i n, .i zl, .i zh, .i ql, .i qh] => [.i (veZ t zl zh (rcLo s w qh) (rcHi s w ql))] | _ => [] }
set_option maxRecDepth 10000 in
set_option maxHeartbeats 16000000 in
theorem r19verd_ok : SpecOK Try.prog 81 r19verd_sp r19verd_sem := by
  refine spec_of_tree r19verd_cxok Try.func81 (by kernel_rfl) (by kernel_rfl) r19verd_walk rfl ?_
  intro cs hpre
  match cs, hpre with
  | [.i t, .i w, .i s, .i n, .i zl, .i zh, .i ql, .i qh], ⟨j_t, j_w, j_s, j_n, j_zl, j_zh, j_ql, j_qh, hx⟩ =>
    have h_t := j_t
    unfold IsI at h_t
    have h_w := j_w
    unfold IsI at h_w
    have h_s := j_s
    unfold IsI at h_s
    have h_n := j_n
    unfold IsI at h_n
    have h_zl := j_zl
    unfold IsI at h_zl
    have h_zh := j_zh
    unfold IsI at h_zh
    have h_ql := j_ql
    unfold IsI at h_ql
    have h_qh := j_qh
    unfold IsI at h_qh
    refine ⟨rfl, IvsB.ok (by simp only [r19verd_ivs, IvsB, Cv.int, and_true] <;> omega), ?_, ?_⟩
    · simp only [r19verd_sem, r19verd_sp, Fits, and_true]
      have := ve_rng t zl zh (rcLo s w qh) (rcHi s w ql)
      omega
    · rw [r19verd_den]
      simp only [r19verd_sem, r19verd_sp, forall_eq, r19verd_den, r19reach_sem, Tree.den, LE.den, Cv.list, placeA, List.getElem?_cons_zero, List.getElem?_cons_succ, IE.den, BE.den, At.den, CA.den, Env.get, Cv.int, Cv.bool, List.cons_append, List.nil_append, List.map_cons, List.map_nil, bindRes, bindEq, Fits, SV.den, denL, place, placeL, eq_t, eq_f, lt_t, lt_f, le_t, le_f, beq_iff_eq, beq_eq_false_iff_ne, ne_eq, reduceCtorEq, b_dec, decide_eq_true_eq, decide_eq_false_iff_not, Bool.not_eq_false', Bool.or_eq_true, Bool.or_eq_false_iff, Bool.and_eq_false_iff, true_iff, false_iff, Bool.false_eq_true, Bool.not_eq_true', Bool.and_eq_true, Bool.not_true, Bool.not_false, List.cons.injEq, Cv.i.injEq, Cv.b.injEq, and_true, true_and, agg_inj, tup_inj, Value.int.injEq, Value.bool.injEq]
      obtain ⟨r1, r2, r3, r4, r5, r6⟩ := hx
      have rf := rc_fits r2 r3 r6 r5
      have cm : 1000 * t = t * 1000 := Int.mul_comm ..
      rw [cm] at *
      generalize rcLo s w qh = lo at *
      generalize rcHi s w ql = hi at *
      have w1 : IntKind.i64.wrap (t * 1000) = t * 1000 := w64 (by omega) (by omega)
      have w2 : IntKind.i64.wrap (zl - t * 1000) = zl - t * 1000 := w64 (by omega) (by omega)
      have w3 : IntKind.i64.wrap (zh - t * 1000) = zh - t * 1000 := w64 (by omega) (by omega)
      have w4 : IntKind.i64.wrap (0 - hi) = 0 - hi := w64 (by omega) (by omega)
      have w5 : IntKind.i64.wrap (0 - lo) = 0 - lo := w64 (by omega) (by omega)
      simp only [j_t, j_w, j_s, j_n, j_zl, j_zh, j_ql, j_qh, r2, r3, r5, r6, w1, w2, w3, w4, w5, forall_eq, eq_self, if_true, if_false, true_and, and_true, false_and, and_false, true_or, or_true, false_or, or_false, true_iff, iff_true, false_iff, iff_false, not_true_eq_false, not_false_eq_true, true_implies, false_implies, implies_true, forall_const, decide_true, decide_false, reduceCtorEq]
      unfold veZ
      (repeat' (first | intro _ | refine And.intro ?_ ?_ | exact trivial)) <;> omega
end Go.Proofs.Ytlhmhcjpdpakkaa.X
