/-
  The contract of wide.Mul, for every input in range.
-/
import Derived.Test.YtjbokdekofiihaaSxTab
import Derived.Test.YtjbokdekofiihaaShelf
import Derived.WalkKit
import Derived.WalkLawsBesides
namespace Go.Proofs.Ytjbokdekofiihaa.X
open Go Go.SX Go.RowKit
set_option linter.unusedVariables false
set_option linter.unusedSimpArgs false

theorem w64 {x : Int} (h0 : -9223372036854775808 ≤ x) (h1 : x ≤ 9223372036854775807) : IntKind.i64.wrap x = x := wrap_id h0 h1
theorem wu64 {x : Int} (h0 : 0 ≤ x) (h1 : x ≤ 18446744073709551615) : IntKind.u64.wrap x = x := wrap_id h0 h1
theorem wu64_mod (x : Int) : IntKind.u64.wrap x = x % 18446744073709551616 := by
  simp only [IntKind.wrap, IntKind.bits, IntKind.signed, Bool.false_and, Bool.false_eq_true, if_false, Int.reducePow]
def mul64_sp : SpecSh := { args := [(.int .u64 (.z 0)), (.int .u64 (.z 0))], res := (.tup [(.int .u64 (.z 0)), (.int .u64 (.z 0))]), sh := [.i (some (0, 18446744073709551615)), .i (some (0, 18446744073709551615))] }
def mul64_sem : SpecSem := { pre := fun cs => match cs with | [.i x, .i y] => IsU x ∧ IsU y | _ => False, out := fun cs => match cs with | [.i x, .i y] => [.i (x * y / 18446744073709551616), .i (x * y % 18446744073709551616)] | _ => [] }

theorem mul_hi {x y : Int} (hx : IsU x) (hy : IsU y) : 0 ≤ x * y / 18446744073709551616 ∧ x * y / 18446744073709551616 ≤ 18446744073709551615 := by
  obtain ⟨x0, x1⟩ := hx
  obtain ⟨y0, y1⟩ := hy
  have h1 : 0 ≤ x * y := Int.mul_nonneg x0 y0
  have h2 : x * y ≤ 18446744073709551615 * 18446744073709551615 := Int.mul_le_mul x1 y1 y0 (by omega)
  omega

theorem mul64_ok : SpecOK Try.prog 20 mul64_sp mul64_sem := by
  refine spec_of_calls Try.func20 (by kernel_rfl) (by kernel_rfl) ?_
  intro cs hpre
  match cs, hpre with
  | [.i x, .i y], ⟨hx, hy⟩ =>
    have hm := mul_hi hx hy
    refine ⟨?_, fun w => ?_⟩
    · simp only [mul64_sem, mul64_sp, Fits, and_true]; omega
    · obtain ⟨a, rfl⟩ := Int.eq_ofNat_of_zero_le hx.1
      obtain ⟨b, rfl⟩ := Int.eq_ofNat_of_zero_le hy.1
      have hx1 := hx.2
      have hy1 := hy.2
      refine (Try.bits_Mul64 a b (by omega) (by omega) w).mono ?_
      rintro e w' ⟨rfl, rfl⟩
      refine ⟨?_, .refl _ _⟩
      simp only [mul64_sem, mul64_sp, place, placeL, SV.den, denL, At.den, Env.get, Cv.int]
      simp

def mul_sp : SpecSh := { args := [(.int .u64 (.z 0)), (.int .u64 (.z 0))], res := (.agg [(.int .u64 (.z 0)), (.int .u64 (.z 0))]), sh := [.i (some (0, 18446744073709551615)), .i (some (0, 18446744073709551615))] }
set_option maxRecDepth 100000 in
def mul_tree : Tree :=
.call 20 [.i (some (0, 18446744073709551615)), .i (some (0, 18446744073709551615))] [.i (.v 0), .i (.v 1)] <|
.ret (.agg [(.int .u64 (.v 2)), (.int .u64 (.v 3))])
noncomputable def mul_cx : Ctx := { tys := tys, fns := fns, mets := mets, sps := [(20, mul64_sp)], anns := [], trys := [] }
def mul_ivs : List (Option (Int × Int)) := [some (0, 18446744073709551615), some (0, 18446744073709551615)]
set_option maxRecDepth 100000 in
theorem mul_walk : runFn mul_cx 3000 15 Try.f15 mul_sp.args mul_ivs = mul_tree := by kernel_rfl
noncomputable def mul_M : Nat → SpecSem
  | 20 => mul64_sem
  | _ => noSem
theorem mul_M20 : mul_M 20 = mul64_sem := rfl
theorem mul_cxok : CxOK Try.prog mul_cx mul_M := ⟨tysOK, fnsOK, spCons mul64_ok <| fun _ _ h => spNil h, mixedOK, fun _ _ h => trNil h, fun _ _ h => atNil h, metsOK⟩

def mul_sem : SpecSem := { pre := fun cs => match cs with | [.i x, .i y] => IsU x ∧ IsU y | _ => False, out := fun cs => match cs with | [.i x, .i y] => [.i (x * y / 18446744073709551616), .i (x * y % 18446744073709551616)] | _ => [] }
theorem mul_ok : SpecOK Try.prog 15 mul_sp mul_sem := by
  refine spec_of_tree mul_cxok Try.func15 (by kernel_rfl) (by kernel_rfl) mul_walk rfl ?_
  intro cs hpre
  match cs, hpre with
  | [.i x, .i y], ⟨hx, hy⟩ =>
    have hm := mul_hi hx hy
    have h1 := hx.1; have h2 := hx.2; have h3 := hy.1; have h4 := hy.2
    refine ⟨rfl, IvsB.ok (by simp only [mul_ivs, IvsB, Cv.int, and_true]; omega), ?_, ?_⟩
    · simp only [mul_sem, mul_sp, Fits, and_true]; omega
    · simp only [mul_sem, mul_sp, mul_tree, mul_M20, mul64_sem, Tree.den, LE.den, Cv.list, placeA, List.getElem?_cons_zero, List.getElem?_cons_succ, IE.den, BE.den, At.den, CA.den, Env.get, Cv.int, Cv.bool, List.cons_append, List.nil_append, List.map_cons, List.map_nil, bindRes, bindEq, Fits, SV.den, denL, place, placeL, eq_t, eq_f, lt_t, lt_f, le_t, le_f, beq_iff_eq, beq_eq_false_iff_ne, ne_eq, reduceCtorEq, b_dec, decide_eq_true_eq, decide_eq_false_iff_not, Bool.not_eq_false', Bool.or_eq_true, Bool.or_eq_false_iff, Bool.and_eq_false_iff, true_iff, false_iff, Bool.false_eq_true, Bool.not_eq_true', Bool.and_eq_true, Bool.not_true, Bool.not_false, List.cons.injEq, Cv.i.injEq, Cv.b.injEq, and_true, true_and, agg_inj, tup_inj, Value.int.injEq, Value.bool.injEq]
      exact ⟨⟨hx, hy⟩, fun a e _ _ b e' _ _ => ⟨e, e'⟩⟩

end Go.Proofs.Ytjbokdekofiihaa.X
