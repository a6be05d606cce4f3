/-
  The contracts of the reference's sums and differences of ints (datumref04.Add, Sub), for every int.
-/
import Derived.Test.YtlhmhcjpdpakkaaSxFix
import Derived.Test.YtlhmhcjpdpakkaaSxRef
namespace Go.Proofs.Ytlhmhcjpdpakkaa.X
open Go Go.SX Go.RowKit
set_option linter.unusedVariables false
set_option linter.unusedSimpArgs false


theorem spec_congr {P : Program} {f : Nat} {sp : SpecSh} {m m' : SpecSem} (h : SpecOK P f sp m) (hp : ∀ cs, m'.pre cs → m.pre cs) (ho : ∀ cs, m'.pre cs → m'.out cs = m.out cs) : SpecOK P f sp m' := by
  intro cs hpre
  have := h cs (hp cs hpre)
  rw [ho cs hpre]; exact this
/-- the same, in words that tell more where nothing is carried -/
def radd2_sem : SpecSem := { pre := radd_sem.pre, out := fun cs => match cs with | [.i a, .i b, .i c, .i d] => [.i (if val a b + val c d < 18446744073709551616 then 0 else (val a b + val c d) / 18446744073709551616 % 18446744073709551616), .i (if val a b + val c d < 18446744073709551616 then val a b + val c d else (val a b + val c d) % 18446744073709551616), .b (decide (340282366920938463463374607431768211456 ≤ val a b + val c d))] | _ => [] }
theorem radd2_ok : SpecOK Try.prog 146 radd_sp radd2_sem := by
  refine spec_congr radd_ok (fun _ h => h) fun cs hpre => ?_
  match cs, hpre with
  | [.i a, .i b, .i c, .i d], ⟨⟨h1, h2⟩, ⟨h3, h4⟩, ⟨h5, h6⟩, ⟨h7, h8⟩⟩ =>
    have e : 0 ≤ val a b + val c d := by unfold val; omega
    simp only [radd2_sem, radd_sem, List.cons.injEq, Cv.i.injEq, and_true]
    split <;> omega
def rsub2_sem : SpecSem := { pre := rsub_sem.pre, out := fun cs => match cs with | [.i a, .i b, .i c, .i d] => [.i (if 0 ≤ val a b - val c d ∧ val a b - val c d < 18446744073709551616 then 0 else (val a b - val c d) / 18446744073709551616 % 18446744073709551616), .i (if 0 ≤ val a b - val c d ∧ val a b - val c d < 18446744073709551616 then val a b - val c d else (val a b - val c d) % 18446744073709551616), .b (decide (val a b < val c d))] | _ => [] }
theorem rsub2_ok : SpecOK Try.prog 177 rsub_sp rsub2_sem := by
  refine spec_congr rsub_ok (fun _ h => h) fun cs hpre => ?_
  match cs, hpre with
  | [.i a, .i b, .i c, .i d], _ =>
    simp only [rsub2_sem, rsub_sem, List.cons.injEq, Cv.i.injEq, and_true]
    split <;> omega
def radd2_sp : SpecSh := radd_sp
def rsub2_sp : SpecSh := rsub_sp
def r4add_sp : SpecSh := { args := [(.int .i64 (.z 0)), (.int .i64 (.z 0))], res := (.tup [(.int .i64 (.z 0)), (.int .i64 (.z 0))]), sh := [.i (some ((-9223372036854775808), 9223372036854775807)), .i (some ((-9223372036854775808), 9223372036854775807))] }
set_option maxRecDepth 100000 in
def r4add_tree : Tree :=
.ite (.cmp .lt (.v 0) (.z 0)) (.lett (.add (.v 0) (.z 1)) <|
.lett (.sub (.z 0) (.v 2)) <|
.call 146 [.i (some (0, 18446744073709551615)), .i (some (0, 18446744073709551615)), .b] [.i (.z 0), .i (.v 3), .i (.z 0), .i (.z 1)] <|
.ite (.cmp .lt (.v 1) (.z 0)) (.lett (.add (.v 1) (.z 1)) <|
.lett (.sub (.z 0) (.v 7)) <|
.call 146 [.i (some (0, 18446744073709551615)), .i (some (0, 18446744073709551615)), .b] [.i (.z 0), .i (.v 8), .i (.z 0), .i (.z 1)] <|
.call 146 [.i (some (0, 18446744073709551615)), .i (some (0, 18446744073709551615)), .b] [.i (.v 4), .i (.v 5), .i (.v 9), .i (.v 10)] <|
.ite (.cmp .lt (.z 0) (.v 12)) (.ret (.tup [(.int .i64 (.z 0)), (.int .i64 (.z 5))])) <|
.ite (.cmp .lt (.z 9223372036854775808) (.v 13)) (.ret (.tup [(.int .i64 (.z 0)), (.int .i64 (.z 5))])) <|
.ite (.cmp .eq (.v 13) (.z 9223372036854775808)) (.ret (.tup [(.int .i64 (.z (-9223372036854775808))), (.int .i64 (.z 0))])) <|
.lett (.sub (.z 0) (.v 13)) <|
.ret (.tup [(.int .i64 (.v 15)), (.int .i64 (.z 0))])) <|
.ite (.not (.cmp .eq (.v 4) (.z 0))) (.call 177 [.i (some (0, 18446744073709551615)), .i (some (0, 18446744073709551615)), .b] [.i (.v 4), .i (.v 5), .i (.z 0), .i (.v 1)] <|
.ite (.cmp .lt (.z 0) (.v 7)) (.ret (.tup [(.int .i64 (.z 0)), (.int .i64 (.z 5))])) <|
.ite (.cmp .lt (.z 9223372036854775808) (.v 8)) (.ret (.tup [(.int .i64 (.z 0)), (.int .i64 (.z 5))])) <|
.ite (.cmp .eq (.v 8) (.z 9223372036854775808)) (.ret (.tup [(.int .i64 (.z (-9223372036854775808))), (.int .i64 (.z 0))])) <|
.ite (.not (.and (.cmp .eq (.v 7) (.z 0)) (.cmp .eq (.v 8) (.z 0)))) (.lett (.sub (.z 0) (.v 8)) <|
.ret (.tup [(.int .i64 (.v 10)), (.int .i64 (.z 0))])) <|
.ret (.tup [(.int .i64 (.z 0)), (.int .i64 (.z 0))])) <|
.ite (.cmp .lt (.v 5) (.v 1)) (.call 177 [.i (some (0, 18446744073709551615)), .i (some (0, 18446744073709551615)), .b] [.i (.z 0), .i (.v 1), .i (.v 4), .i (.v 5)] <|
.ite (.cmp .lt (.z 0) (.v 7)) (.ret (.tup [(.int .i64 (.z 0)), (.int .i64 (.z 5))])) <|
.ite (.cmp .lt (.z 9223372036854775808) (.v 8)) (.ret (.tup [(.int .i64 (.z 0)), (.int .i64 (.z 5))])) <|
.ite (.cmp .eq (.v 8) (.z 9223372036854775808)) (.ret (.tup [(.int .i64 (.z 0)), (.int .i64 (.z 5))])) <|
.ret (.tup [(.int .i64 (.v 8)), (.int .i64 (.z 0))])) <|
.call 177 [.i (some (0, 18446744073709551615)), .i (some (0, 18446744073709551615)), .b] [.i (.v 4), .i (.v 5), .i (.z 0), .i (.v 1)] <|
.ite (.cmp .lt (.z 0) (.v 7)) (.ret (.tup [(.int .i64 (.z 0)), (.int .i64 (.z 5))])) <|
.ite (.cmp .lt (.z 9223372036854775808) (.v 8)) (.ret (.tup [(.int .i64 (.z 0)), (.int .i64 (.z 5))])) <|
.ite (.cmp .eq (.v 8) (.z 9223372036854775808)) (.ret (.tup [(.int .i64 (.z (-9223372036854775808))), (.int .i64 (.z 0))])) <|
.ite (.not (.and (.cmp .eq (.v 7) (.z 0)) (.cmp .eq (.v 8) (.z 0)))) (.lett (.sub (.z 0) (.v 8)) <|
.ret (.tup [(.int .i64 (.v 10)), (.int .i64 (.z 0))])) <|
.ret (.tup [(.int .i64 (.z 0)), (.int .i64 (.z 0))])) <|
.ite (.cmp .lt (.v 1) (.z 0)) (.lett (.add (.v 1) (.z 1)) <|
.lett (.sub (.z 0) (.v 2)) <|
.call 146 [.i (some (0, 18446744073709551615)), .i (some (0, 18446744073709551615)), .b] [.i (.z 0), .i (.v 3), .i (.z 0), .i (.z 1)] <|
.ite (.not (.cmp .eq (.z 0) (.v 4))) (.call 177 [.i (some (0, 18446744073709551615)), .i (some (0, 18446744073709551615)), .b] [.i (.v 4), .i (.v 5), .i (.z 0), .i (.v 0)] <|
.ite (.cmp .lt (.z 0) (.v 7)) (.ret (.tup [(.int .i64 (.z 0)), (.int .i64 (.z 5))])) <|
.ite (.cmp .lt (.z 9223372036854775808) (.v 8)) (.ret (.tup [(.int .i64 (.z 0)), (.int .i64 (.z 5))])) <|
.ite (.cmp .eq (.v 8) (.z 9223372036854775808)) (.ret (.tup [(.int .i64 (.z (-9223372036854775808))), (.int .i64 (.z 0))])) <|
.lett (.sub (.z 0) (.v 8)) <|
.ret (.tup [(.int .i64 (.v 10)), (.int .i64 (.z 0))])) <|
.ite (.cmp .lt (.v 0) (.v 5)) (.call 177 [.i (some (0, 18446744073709551615)), .i (some (0, 18446744073709551615)), .b] [.i (.v 4), .i (.v 5), .i (.z 0), .i (.v 0)] <|
.ite (.cmp .lt (.z 0) (.v 7)) (.ret (.tup [(.int .i64 (.z 0)), (.int .i64 (.z 5))])) <|
.ite (.cmp .lt (.z 9223372036854775808) (.v 8)) (.ret (.tup [(.int .i64 (.z 0)), (.int .i64 (.z 5))])) <|
.ite (.cmp .eq (.v 8) (.z 9223372036854775808)) (.ret (.tup [(.int .i64 (.z (-9223372036854775808))), (.int .i64 (.z 0))])) <|
.lett (.sub (.z 0) (.v 8)) <|
.ret (.tup [(.int .i64 (.v 10)), (.int .i64 (.z 0))])) <|
.call 177 [.i (some (0, 18446744073709551615)), .i (some (0, 18446744073709551615)), .b] [.i (.z 0), .i (.v 0), .i (.v 4), .i (.v 5)] <|
.ite (.cmp .lt (.z 0) (.v 7)) (.ret (.tup [(.int .i64 (.z 0)), (.int .i64 (.z 5))])) <|
.ite (.cmp .lt (.z 9223372036854775808) (.v 8)) (.ret (.tup [(.int .i64 (.z 0)), (.int .i64 (.z 5))])) <|
.ite (.cmp .eq (.v 8) (.z 9223372036854775808)) (.ret (.tup [(.int .i64 (.z 0)), (.int .i64 (.z 5))])) <|
.ret (.tup [(.int .i64 (.v 8)), (.int .i64 (.z 0))])) <|
.call 146 [.i (some (0, 18446744073709551615)), .i (some (0, 18446744073709551615)), .b] [.i (.z 0), .i (.v 0), .i (.z 0), .i (.v 1)] <|
.ite (.cmp .lt (.z 0) (.v 2)) (.ret (.tup [(.int .i64 (.z 0)), (.int .i64 (.z 5))])) <|
.ite (.cmp .lt (.z 9223372036854775808) (.v 3)) (.ret (.tup [(.int .i64 (.z 0)), (.int .i64 (.z 5))])) <|
.ite (.cmp .eq (.v 3) (.z 9223372036854775808)) (.ret (.tup [(.int .i64 (.z 0)), (.int .i64 (.z 5))])) <|
.ret (.tup [(.int .i64 (.v 3)), (.int .i64 (.z 0))])
noncomputable def r4add_cx : Ctx := { tys := tys, fns := fns, sps := [(146, radd2_sp), (177, rsub2_sp)], anns := [], trys := [] }
def r4add_ivs : List (Option (Int × Int)) := [some ((-9223372036854775808), 9223372036854775807), some ((-9223372036854775808), 9223372036854775807)]
set_option maxRecDepth 100000 in
theorem r4add_walk : runFn r4add_cx 3000 97 Try.f97 r4add_sp.args r4add_ivs = r4add_tree := by kernel_rfl
noncomputable def r4add_M : Nat → SpecSem
  | 146 => radd2_sem
  | 177 => rsub2_sem
  | _ => noSem
theorem r4add_M146 : r4add_M 146 = radd2_sem := rfl
theorem r4add_M177 : r4add_M 177 = rsub2_sem := rfl
theorem r4add_cxok : CxOK Try.prog r4add_cx r4add_M := ⟨tysOK, fnsOK, spCons radd2_ok <| spCons rsub2_ok <| fun _ _ h => spNil h, mixedOK, fun _ _ h => trNil h⟩

def r4add_sem : SpecSem := { pre := fun cs => match cs with | [.i a, .i b] => IsI a ∧ IsI b | _ => False, out := fun cs => match cs with | [.i a, .i b] => tell (a + b) | _ => [] }
theorem r4add_ok : SpecOK Try.prog 97 r4add_sp r4add_sem := by
  refine spec_of_tree r4add_cxok Try.func97 (by kernel_rfl) (by kernel_rfl) r4add_walk rfl ?_
  intro cs hpre
  match cs, hpre with
  | [.i a, .i b], ⟨⟨h1, h2⟩, ⟨h3, h4⟩⟩ =>
    refine ⟨rfl, IvsB.ok (by simp only [r4add_ivs, IvsB, Cv.int, and_true]; omega), ?_, ?_⟩
    · simp only [r4add_sem, r4add_sp, tell, Fits, and_true]; have := tell_fits (a + b); omega
    · simp (config := { maxSteps := 4000000 }) only [r4add_sem, r4add_sp, tell, IsU, radd_sem, rsub_sem, r4add_tree, r4add_M146, radd2_sem, r4add_M177, rsub2_sem, Tree.den, LE.den, Cv.list, placeA, List.getElem?_cons_zero, List.getElem?_cons_succ, IE.den, BE.den, At.den, CA.den, Env.get, Cv.int, Cv.bool, List.cons_append, List.nil_append, List.map_cons, List.map_nil, bindRes, bindEq, Fits, SV.den, denL, place, placeL, eq_t, eq_f, lt_t, lt_f, le_t, le_f, beq_iff_eq, beq_eq_false_iff_ne, ne_eq, reduceCtorEq, b_dec, decide_eq_true_eq, decide_eq_false_iff_not, Bool.not_eq_false', Bool.or_eq_true, Bool.or_eq_false_iff, Bool.and_eq_false_iff, true_iff, false_iff, Bool.false_eq_true, Bool.not_eq_true', Bool.and_eq_true, Bool.not_true, Bool.not_false, List.cons.injEq, Cv.i.injEq, Cv.b.injEq, and_true, true_and, agg_inj, tup_inj, Value.int.injEq, Value.bool.injEq]
      simp only [IsI, wi64, wu64_mod]
      unfold val
      (repeat' (first | intro _ | refine And.intro ?_ ?_ | exact trivial)) <;> omega
theorem ceq (a b : Int) : (Cmp.lt.den a 0 = !(Cmp.eq.den 0 0 && Cmp.eq.den b 0)) ↔ (a < 0 ↔ ¬ b = 0) := by
  by_cases h1 : a < 0 <;> by_cases h2 : b = 0 <;> simp [Cmp.den, h1, h2]
def r4sub_sp : SpecSh := { args := [(.int .i64 (.z 0)), (.int .i64 (.z 0))], res := (.tup [(.int .i64 (.z 0)), (.int .i64 (.z 0))]), sh := [.i (some ((-9223372036854775808), 9223372036854775807)), .i (some ((-9223372036854775808), 9223372036854775807))] }
set_option maxRecDepth 100000 in
def r4sub_tree : Tree :=
.ite (.cmp .lt (.v 1) (.z 0)) (.lett (.add (.v 1) (.z 1)) <|
.lett (.sub (.z 0) (.v 2)) <|
.call 146 [.i (some (0, 18446744073709551615)), .i (some (0, 18446744073709551615)), .b] [.i (.z 0), .i (.v 3), .i (.z 0), .i (.z 1)] <|
.ite (.cmp .lt (.v 0) (.z 0)) (.lett (.add (.v 0) (.z 1)) <|
.lett (.sub (.z 0) (.v 7)) <|
.call 146 [.i (some (0, 18446744073709551615)), .i (some (0, 18446744073709551615)), .b] [.i (.z 0), .i (.v 8), .i (.z 0), .i (.z 1)] <|
.ite (.not (.cmp .eq (.v 9) (.v 4))) (.ite (.cmp .lt (.v 9) (.v 4)) (.call 177 [.i (some (0, 18446744073709551615)), .i (some (0, 18446744073709551615)), .b] [.i (.v 4), .i (.v 5), .i (.v 9), .i (.v 10)] <|
.ite (.cmp .lt (.z 0) (.v 12)) (.ret (.tup [(.int .i64 (.z 0)), (.int .i64 (.z 5))])) <|
.ite (.cmp .lt (.z 9223372036854775808) (.v 13)) (.ret (.tup [(.int .i64 (.z 0)), (.int .i64 (.z 5))])) <|
.ite (.cmp .eq (.v 13) (.z 9223372036854775808)) (.ret (.tup [(.int .i64 (.z 0)), (.int .i64 (.z 5))])) <|
.ret (.tup [(.int .i64 (.v 13)), (.int .i64 (.z 0))])) <|
.call 177 [.i (some (0, 18446744073709551615)), .i (some (0, 18446744073709551615)), .b] [.i (.v 9), .i (.v 10), .i (.v 4), .i (.v 5)] <|
.ite (.cmp .lt (.z 0) (.v 12)) (.ret (.tup [(.int .i64 (.z 0)), (.int .i64 (.z 5))])) <|
.ite (.cmp .lt (.z 9223372036854775808) (.v 13)) (.ret (.tup [(.int .i64 (.z 0)), (.int .i64 (.z 5))])) <|
.ite (.cmp .eq (.v 13) (.z 9223372036854775808)) (.ret (.tup [(.int .i64 (.z (-9223372036854775808))), (.int .i64 (.z 0))])) <|
.ite (.not (.and (.cmp .eq (.v 12) (.z 0)) (.cmp .eq (.v 13) (.z 0)))) (.lett (.sub (.z 0) (.v 13)) <|
.ret (.tup [(.int .i64 (.v 15)), (.int .i64 (.z 0))])) <|
.ret (.tup [(.int .i64 (.z 0)), (.int .i64 (.z 0))])) <|
.ite (.cmp .lt (.v 10) (.v 5)) (.call 177 [.i (some (0, 18446744073709551615)), .i (some (0, 18446744073709551615)), .b] [.i (.v 4), .i (.v 5), .i (.v 9), .i (.v 10)] <|
.ite (.cmp .lt (.z 0) (.v 12)) (.ret (.tup [(.int .i64 (.z 0)), (.int .i64 (.z 5))])) <|
.ite (.cmp .lt (.z 9223372036854775808) (.v 13)) (.ret (.tup [(.int .i64 (.z 0)), (.int .i64 (.z 5))])) <|
.ite (.cmp .eq (.v 13) (.z 9223372036854775808)) (.ret (.tup [(.int .i64 (.z 0)), (.int .i64 (.z 5))])) <|
.ret (.tup [(.int .i64 (.v 13)), (.int .i64 (.z 0))])) <|
.call 177 [.i (some (0, 18446744073709551615)), .i (some (0, 18446744073709551615)), .b] [.i (.v 9), .i (.v 10), .i (.v 4), .i (.v 5)] <|
.ite (.cmp .lt (.z 0) (.v 12)) (.ret (.tup [(.int .i64 (.z 0)), (.int .i64 (.z 5))])) <|
.ite (.cmp .lt (.z 9223372036854775808) (.v 13)) (.ret (.tup [(.int .i64 (.z 0)), (.int .i64 (.z 5))])) <|
.ite (.cmp .eq (.v 13) (.z 9223372036854775808)) (.ret (.tup [(.int .i64 (.z (-9223372036854775808))), (.int .i64 (.z 0))])) <|
.ite (.not (.and (.cmp .eq (.v 12) (.z 0)) (.cmp .eq (.v 13) (.z 0)))) (.lett (.sub (.z 0) (.v 13)) <|
.ret (.tup [(.int .i64 (.v 15)), (.int .i64 (.z 0))])) <|
.ret (.tup [(.int .i64 (.z 0)), (.int .i64 (.z 0))])) <|
.call 146 [.i (some (0, 18446744073709551615)), .i (some (0, 18446744073709551615)), .b] [.i (.z 0), .i (.v 0), .i (.v 4), .i (.v 5)] <|
.ite (.cmp .lt (.z 0) (.v 7)) (.ret (.tup [(.int .i64 (.z 0)), (.int .i64 (.z 5))])) <|
.ite (.cmp .lt (.z 9223372036854775808) (.v 8)) (.ret (.tup [(.int .i64 (.z 0)), (.int .i64 (.z 5))])) <|
.ite (.cmp .eq (.v 8) (.z 9223372036854775808)) (.ret (.tup [(.int .i64 (.z 0)), (.int .i64 (.z 5))])) <|
.ret (.tup [(.int .i64 (.v 8)), (.int .i64 (.z 0))])) <|
.ite (.cmp .lt (.v 0) (.z 0)) (.lett (.add (.v 0) (.z 1)) <|
.lett (.sub (.z 0) (.v 2)) <|
.call 146 [.i (some (0, 18446744073709551615)), .i (some (0, 18446744073709551615)), .b] [.i (.z 0), .i (.v 3), .i (.z 0), .i (.z 1)] <|
.ite (.eqv (.cmp .lt (.v 0) (.z 0)) (.not (.and (.cmp .eq (.z 0) (.z 0)) (.cmp .eq (.v 1) (.z 0))))) (.call 146 [.i (some (0, 18446744073709551615)), .i (some (0, 18446744073709551615)), .b] [.i (.v 4), .i (.v 5), .i (.z 0), .i (.v 1)] <|
.ite (.cmp .lt (.z 0) (.v 7)) (.ret (.tup [(.int .i64 (.z 0)), (.int .i64 (.z 5))])) <|
.ite (.cmp .lt (.z 9223372036854775808) (.v 8)) (.ret (.tup [(.int .i64 (.z 0)), (.int .i64 (.z 5))])) <|
.ite (.cmp .eq (.v 8) (.z 9223372036854775808)) (.ret (.tup [(.int .i64 (.z (-9223372036854775808))), (.int .i64 (.z 0))])) <|
.lett (.sub (.z 0) (.v 8)) <|
.ret (.tup [(.int .i64 (.v 10)), (.int .i64 (.z 0))])) <|
.ite (.not (.cmp .eq (.v 4) (.z 0))) (.call 177 [.i (some (0, 18446744073709551615)), .i (some (0, 18446744073709551615)), .b] [.i (.v 4), .i (.v 5), .i (.z 0), .i (.v 1)] <|
.ite (.cmp .lt (.z 0) (.v 7)) (.ret (.tup [(.int .i64 (.z 0)), (.int .i64 (.z 5))])) <|
.ite (.cmp .lt (.z 9223372036854775808) (.v 8)) (.ret (.tup [(.int .i64 (.z 0)), (.int .i64 (.z 5))])) <|
.ite (.cmp .eq (.v 8) (.z 9223372036854775808)) (.ret (.tup [(.int .i64 (.z (-9223372036854775808))), (.int .i64 (.z 0))])) <|
.ite (.not (.and (.cmp .eq (.v 7) (.z 0)) (.cmp .eq (.v 8) (.z 0)))) (.lett (.sub (.z 0) (.v 8)) <|
.ret (.tup [(.int .i64 (.v 10)), (.int .i64 (.z 0))])) <|
.ret (.tup [(.int .i64 (.z 0)), (.int .i64 (.z 0))])) <|
.ite (.cmp .lt (.v 5) (.v 1)) (.call 177 [.i (some (0, 18446744073709551615)), .i (some (0, 18446744073709551615)), .b] [.i (.z 0), .i (.v 1), .i (.v 4), .i (.v 5)] <|
.ite (.cmp .lt (.z 0) (.v 7)) (.ret (.tup [(.int .i64 (.z 0)), (.int .i64 (.z 5))])) <|
.ite (.cmp .lt (.z 9223372036854775808) (.v 8)) (.ret (.tup [(.int .i64 (.z 0)), (.int .i64 (.z 5))])) <|
.ite (.cmp .eq (.v 8) (.z 9223372036854775808)) (.ret (.tup [(.int .i64 (.z (-9223372036854775808))), (.int .i64 (.z 0))])) <|
.lett (.sub (.z 0) (.v 8)) <|
.ret (.tup [(.int .i64 (.v 10)), (.int .i64 (.z 0))])) <|
.call 177 [.i (some (0, 18446744073709551615)), .i (some (0, 18446744073709551615)), .b] [.i (.v 4), .i (.v 5), .i (.z 0), .i (.v 1)] <|
.ite (.cmp .lt (.z 0) (.v 7)) (.ret (.tup [(.int .i64 (.z 0)), (.int .i64 (.z 5))])) <|
.ite (.cmp .lt (.z 9223372036854775808) (.v 8)) (.ret (.tup [(.int .i64 (.z 0)), (.int .i64 (.z 5))])) <|
.ite (.cmp .eq (.v 8) (.z 9223372036854775808)) (.ret (.tup [(.int .i64 (.z (-9223372036854775808))), (.int .i64 (.z 0))])) <|
.ite (.not (.and (.cmp .eq (.v 7) (.z 0)) (.cmp .eq (.v 8) (.z 0)))) (.lett (.sub (.z 0) (.v 8)) <|
.ret (.tup [(.int .i64 (.v 10)), (.int .i64 (.z 0))])) <|
.ret (.tup [(.int .i64 (.z 0)), (.int .i64 (.z 0))])) <|
.ite (.eqv (.cmp .lt (.v 0) (.z 0)) (.not (.and (.cmp .eq (.z 0) (.z 0)) (.cmp .eq (.v 1) (.z 0))))) (.call 146 [.i (some (0, 18446744073709551615)), .i (some (0, 18446744073709551615)), .b] [.i (.z 0), .i (.v 0), .i (.z 0), .i (.v 1)] <|
.ite (.cmp .lt (.z 0) (.v 2)) (.ret (.tup [(.int .i64 (.z 0)), (.int .i64 (.z 5))])) <|
.ite (.cmp .lt (.z 9223372036854775808) (.v 3)) (.ret (.tup [(.int .i64 (.z 0)), (.int .i64 (.z 5))])) <|
.ite (.cmp .eq (.v 3) (.z 9223372036854775808)) (.ret (.tup [(.int .i64 (.z 0)), (.int .i64 (.z 5))])) <|
.ret (.tup [(.int .i64 (.v 3)), (.int .i64 (.z 0))])) <|
.ite (.cmp .lt (.v 0) (.v 1)) (.call 177 [.i (some (0, 18446744073709551615)), .i (some (0, 18446744073709551615)), .b] [.i (.z 0), .i (.v 1), .i (.z 0), .i (.v 0)] <|
.ite (.cmp .lt (.z 0) (.v 2)) (.ret (.tup [(.int .i64 (.z 0)), (.int .i64 (.z 5))])) <|
.ite (.cmp .lt (.z 9223372036854775808) (.v 3)) (.ret (.tup [(.int .i64 (.z 0)), (.int .i64 (.z 5))])) <|
.ite (.cmp .eq (.v 3) (.z 9223372036854775808)) (.ret (.tup [(.int .i64 (.z (-9223372036854775808))), (.int .i64 (.z 0))])) <|
.lett (.sub (.z 0) (.v 3)) <|
.ret (.tup [(.int .i64 (.v 5)), (.int .i64 (.z 0))])) <|
.call 177 [.i (some (0, 18446744073709551615)), .i (some (0, 18446744073709551615)), .b] [.i (.z 0), .i (.v 0), .i (.z 0), .i (.v 1)] <|
.ite (.cmp .lt (.z 0) (.v 2)) (.ret (.tup [(.int .i64 (.z 0)), (.int .i64 (.z 5))])) <|
.ite (.cmp .lt (.z 9223372036854775808) (.v 3)) (.ret (.tup [(.int .i64 (.z 0)), (.int .i64 (.z 5))])) <|
.ite (.cmp .eq (.v 3) (.z 9223372036854775808)) (.ret (.tup [(.int .i64 (.z 0)), (.int .i64 (.z 5))])) <|
.ret (.tup [(.int .i64 (.v 3)), (.int .i64 (.z 0))])
noncomputable def r4sub_cx : Ctx := { tys := tys, fns := fns, sps := [(146, radd2_sp), (177, rsub2_sp)], anns := [], trys := [] }
def r4sub_ivs : List (Option (Int × Int)) := [some ((-9223372036854775808), 9223372036854775807), some ((-9223372036854775808), 9223372036854775807)]
set_option maxRecDepth 100000 in
theorem r4sub_walk : runFn r4sub_cx 3000 99 Try.f99 r4sub_sp.args r4sub_ivs = r4sub_tree := by kernel_rfl
noncomputable def r4sub_M : Nat → SpecSem
  | 146 => radd2_sem
  | 177 => rsub2_sem
  | _ => noSem
theorem r4sub_M146 : r4sub_M 146 = radd2_sem := rfl
theorem r4sub_M177 : r4sub_M 177 = rsub2_sem := rfl
theorem r4sub_cxok : CxOK Try.prog r4sub_cx r4sub_M := ⟨tysOK, fnsOK, spCons radd2_ok <| spCons rsub2_ok <| fun _ _ h => spNil h, mixedOK, fun _ _ h => trNil h⟩

def r4sub_sem : SpecSem := { pre := fun cs => match cs with | [.i a, .i b] => IsI a ∧ IsI b | _ => False, out := fun cs => match cs with | [.i a, .i b] => tell (a - b) | _ => [] }
set_option maxHeartbeats 4000000 in
theorem r4sub_ok : SpecOK Try.prog 99 r4sub_sp r4sub_sem := by
  refine spec_of_tree r4sub_cxok Try.func99 (by kernel_rfl) (by kernel_rfl) r4sub_walk rfl ?_
  intro cs hpre
  match cs, hpre with
  | [.i a, .i b], ⟨⟨h1, h2⟩, ⟨h3, h4⟩⟩ =>
    refine ⟨rfl, IvsB.ok (by simp only [r4sub_ivs, IvsB, Cv.int, and_true]; omega), ?_, ?_⟩
    · simp only [r4sub_sem, r4sub_sp, tell, Fits, and_true]; have := tell_fits (a - b); omega
    · simp (config := { maxSteps := 4000000 }) only [r4sub_sem, r4sub_sp, tell, IsU, radd_sem, rsub_sem, r4sub_tree, r4sub_M146, radd2_sem, r4sub_M177, rsub2_sem, Tree.den, LE.den, Cv.list, placeA, List.getElem?_cons_zero, List.getElem?_cons_succ, IE.den, BE.den, At.den, CA.den, Env.get, Cv.int, Cv.bool, List.cons_append, List.nil_append, List.map_cons, List.map_nil, bindRes, bindEq, Fits, SV.den, denL, place, placeL, eq_t, eq_f, lt_t, lt_f, le_t, le_f, beq_iff_eq, beq_eq_false_iff_ne, ne_eq, reduceCtorEq, b_dec, decide_eq_true_eq, decide_eq_false_iff_not, Bool.not_eq_false', Bool.or_eq_true, Bool.or_eq_false_iff, Bool.and_eq_false_iff, true_iff, false_iff, Bool.false_eq_true, Bool.not_eq_true', Bool.and_eq_true, Bool.not_true, Bool.not_false, List.cons.injEq, Cv.i.injEq, Cv.b.injEq, and_true, true_and, agg_inj, tup_inj, Value.int.injEq, Value.bool.injEq]
      simp only [IsI, wi64, wu64_mod, ceq]
      unfold val
      (repeat' (first | intro _ | refine And.intro ?_ ?_ | exact trivial)) <;> omega
end Go.Proofs.Ytlhmhcjpdpakkaa.X
