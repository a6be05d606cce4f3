/-
  The contracts of package wide, more: Sub64 and Len64 of the library, sums and differences of numbers of 128 bits, for every input in range.
-/
import Derived.Test.YtglpelnaeipenaaGreatSxWide
namespace Go.Proofs.YtglpelnaeipenaaGreat.X
open Go Go.SX Go.RowKit
set_option linter.unusedVariables false
set_option linter.unusedSimpArgs false
theorem bit_or {x y : Nat} (hx : x < 18446744073709551616) (hy : y < 18446744073709551616) : bitDen .or .u64 (x : Int) (y : Int) = ((x ||| y : Nat) : Int) := by
  have h : x ||| y < 18446744073709551616 := Nat.or_lt_two_pow (n := 64) hx hy
  have e : (BitVec.ofNat 64 x ||| BitVec.ofNat 64 y).toNat = x ||| y := by
    rw [BitVec.toNat_or, BitVec.toNat_ofNat, BitVec.toNat_ofNat, Nat.mod_eq_of_lt (by simpa using hx), Nat.mod_eq_of_lt (by simpa using hy)]
  show IntKind.u64.wrap ((BitVec.ofInt 64 x ||| BitVec.ofInt 64 y).toNat : Int) = _
  rw [BitVec.ofInt_natCast, BitVec.ofInt_natCast, e]
  exact wu64 (x := ((x ||| y : Nat) : Int)) (by omega) (by omega)
theorem bit_and {x y : Nat} (hx : x < 18446744073709551616) (hy : y < 18446744073709551616) : bitDen .and .u64 (x : Int) (y : Int) = ((x &&& y : Nat) : Int) := by
  have h : x &&& y < 18446744073709551616 := Nat.and_lt_two_pow (n := 64) x hy
  have e : (BitVec.ofNat 64 x &&& BitVec.ofNat 64 y).toNat = x &&& y := by
    rw [BitVec.toNat_and, BitVec.toNat_ofNat, BitVec.toNat_ofNat, Nat.mod_eq_of_lt (by simpa using hx), Nat.mod_eq_of_lt (by simpa using hy)]
  show IntKind.u64.wrap ((BitVec.ofInt 64 x &&& BitVec.ofInt 64 y).toNat : Int) = _
  rw [BitVec.ofInt_natCast, BitVec.ofInt_natCast, e]
  exact wu64 (x := ((x &&& y : Nat) : Int)) (by omega) (by omega)
/-- or, of numbers that have no bit in common: their sum -/
theorem or_add {x y : Int} (k : Nat) (hx : 0 ≤ x) (hx1 : x < 18446744073709551616) (hy : 0 ≤ y) (hy1 : y < 18446744073709551616) (hm : x % (2 ^ k : Nat) = 0) (hl : y < (2 ^ k : Nat)) : bitDen .or .u64 x y = x + y := by
  obtain ⟨a, rfl⟩ := Int.eq_ofNat_of_zero_le hx
  obtain ⟨b, rfl⟩ := Int.eq_ofNat_of_zero_le hy
  rw [bit_or (by omega) (by omega)]
  have h2 : a % 2 ^ k = 0 := by exact_mod_cast hm
  obtain ⟨q, hq⟩ : ∃ q, a = 2 ^ k * q := ⟨a / 2 ^ k, (by have := Nat.div_add_mod a (2 ^ k); omega)⟩
  rw [hq, ← Nat.two_pow_add_eq_or_of_lt (by exact_mod_cast hl)]
  simp
theorem or_le {x y : Int} (hx : 0 ≤ x) (hx1 : x < 18446744073709551616) (hy : 0 ≤ y) (hy1 : y < 18446744073709551616) : x ≤ bitDen .or .u64 x y ∧ bitDen .or .u64 x y ≤ 18446744073709551615 := by
  obtain ⟨a, rfl⟩ := Int.eq_ofNat_of_zero_le hx
  obtain ⟨b, rfl⟩ := Int.eq_ofNat_of_zero_le hy
  rw [bit_or (by omega) (by omega)]
  have h1 : a ≤ a ||| b := Nat.left_le_or
  have h2 : a ||| b < 18446744073709551616 := Nat.or_lt_two_pow (n := 64) (by omega) (by omega)
  omega
theorem and_mod {x : Int} (k : Nat) (hk : k < 64) (hx : 0 ≤ x) (hx1 : x < 18446744073709551616) : bitDen .and .u64 x ((2 ^ k - 1 : Nat) : Int) = x % (2 ^ k : Nat) := by
  obtain ⟨a, rfl⟩ := Int.eq_ofNat_of_zero_le hx
  have hp : 2 ^ k < 2 ^ 64 := Nat.pow_lt_pow_right (by omega) hk
  rw [bit_and (by omega) (by omega), Nat.and_two_pow_sub_one_eq_mod]
  simp

def sub64_sp : SpecSh := { args := [(.int .u64 (.z 0)), (.int .u64 (.z 0)), (.int .u64 (.z 0))], res := (.tup [(.int .u64 (.z 0)), (.int .u64 (.z 0))]), sh := [.i (some (0, 18446744073709551615)), .i (some (0, 18446744073709551615))] }
def sub64_sem : SpecSem := { pre := fun cs => match cs with | [.i x, .i y, .i c] => IsU x ∧ IsU y ∧ 0 ≤ c ∧ c ≤ 1 | _ => False, out := fun cs => match cs with | [.i x, .i y, .i c] => [.i ((x - y - c) % 18446744073709551616), .i (if x - y - c < 0 then 1 else 0)] | _ => [] }
def sub64E : Array Value → Sem Value := fun args => do
  let (x, y, b) ← Extern.MathBitsCarry.three "Sub64" args
  pure (Extern.MathBitsCarry.pair ((x + Extern.MathBitsCarry.m64 - y - b) % Extern.MathBitsCarry.m64) (if x < y + b then 1 else 0))
theorem run_sub64E {P : Program} (x y c : Int) (hx : 0 ≤ x) (hy : 0 ≤ y) (hy1 : y < 18446744073709551616) (hc0 : 0 ≤ c) (hc : c ≤ 1) (w : World) :
    (sub64E #[.int .u64 x, .int .u64 y, .int .u64 c]).run P w = .ok (.tuple #[.int .u64 ((x - y - c) % 18446744073709551616), .int .u64 (if x - y - c < 0 then 1 else 0)]) w := by
  have key : ∀ k : Nat, k ≤ 1 → (sub64E #[.int .u64 x, .int .u64 y, .int .u64 (k : Int)]).run P w =
      .ok (Extern.MathBitsCarry.pair ((x.toNat + Extern.MathBitsCarry.m64 - y.toNat - k) % Extern.MathBitsCarry.m64) (if x.toNat < y.toNat + k then 1 else 0)) w := by
    intro k hk
    have : k = 0 ∨ k = 1 := by omega
    rcases this with rfl | rfl <;> rfl
  obtain ⟨k, rfl⟩ := Int.eq_ofNat_of_zero_le hc0
  rw [key k (by omega)]
  obtain ⟨X, rfl⟩ := Int.eq_ofNat_of_zero_le hx
  obtain ⟨Y, rfl⟩ := Int.eq_ofNat_of_zero_le hy
  have e1 : ((X + 18446744073709551616 - Y - k) % 18446744073709551616 : Nat) = ((X : Int) - Y - k) % 18446744073709551616 := by omega
  have e2 : (((if X < Y + k then 1 else 0 : Nat)) : Int) = if (X : Int) - Y - k < 0 then 1 else 0 := by split <;> split <;> omega
  simp only [Extern.MathBitsCarry.pair, Extern.MathBitsCarry.m64, Int.toNat_natCast, Nat.reducePow, Int.ofNat_eq_natCast, e1, e2]
theorem sub64_ok : SpecOK Tryz.prog 85 sub64_sp sub64_sem := by
  refine spec_of_run ?_
  intro cs hpre
  match cs, hpre with
  | [.i x, .i y, .i c], ⟨hx, hy, hc0, hc1⟩ =>
    have h1 := hx.1; have h2 := hx.2; have h3 := hy.1; have h4 := hy.2
    refine ⟨?_, fun w => ⟨w, ?_, .refl _ _⟩⟩
    · simp only [sub64_sem, sub64_sp, Fits, and_true]; split <;> omega
    · have := run_callFunc_extern (P := Tryz.prog) Tryz.func85 (by kernel_rfl) (by kernel_rfl) (by kernel_rfl) (e := sub64E) (by kernel_rfl) #[.int .u64 x, .int .u64 y, .int .u64 c] w
      rw [run_sub64E x y c h1 h3 (by omega) hc0 hc1] at this
      exact this

def wadd_sp : SpecSh := { args := [(.agg [(.int .u64 (.z 0)), (.int .u64 (.z 0))]), (.agg [(.int .u64 (.z 0)), (.int .u64 (.z 0))])], res := (.tup [(.agg [(.int .u64 (.z 0)), (.int .u64 (.z 0))]), (.bool .f)]), sh := [.i (some (0, 18446744073709551615)), .i (some (0, 18446744073709551615)), .b] }
set_option maxRecDepth 100000 in
def wadd_tree : Tree :=
.call 72 [.i (some (0, 18446744073709551615)), .i (some (0, 18446744073709551615))] [.i (.v 1), .i (.v 3), .i (.z 0)] <|
.call 72 [.i (some (0, 18446744073709551615)), .i (some (0, 18446744073709551615))] [.i (.v 0), .i (.v 2), .i (.v 5)] <|
.ret (.tup [(.agg [(.int .u64 (.v 6)), (.int .u64 (.v 4))]), (.bool (.cmp .lt (.z 0) (.v 7)))])
noncomputable def wadd_cx : Ctx := { tys := tys, fns := fns, mets := mets, sps := [(72, add64_sp)], anns := [], trys := [] }
def wadd_ivs : List (Option (Int × Int)) := [some (0, 18446744073709551615), some (0, 18446744073709551615), some (0, 18446744073709551615), some (0, 18446744073709551615)]
set_option maxRecDepth 100000 in
theorem wadd_walk : runFn wadd_cx 3000 48 Tryz.f48 wadd_sp.args wadd_ivs = wadd_tree := by kernel_rfl
noncomputable def wadd_M : Nat → SpecSem
  | 72 => add64_sem
  | _ => noSem
theorem wadd_M72 : wadd_M 72 = add64_sem := rfl
theorem wadd_cxok : CxOK Tryz.prog wadd_cx wadd_M := ⟨tysOK, fnsOK, spCons add64_ok <| fun _ _ h => spNil h, mixedOK, fun _ _ h => trNil h, fun _ _ h => atNil h, metsOK⟩

def wadd_sem : SpecSem := { pre := fun cs => match cs with | [.i a, .i b, .i c, .i d] => IsU a ∧ IsU b ∧ IsU c ∧ IsU d | _ => False, out := fun cs => match cs with | [.i a, .i b, .i c, .i d] => [.i ((val a b + val c d) / 18446744073709551616 % 18446744073709551616), .i ((val a b + val c d) % 18446744073709551616), .b (decide (340282366920938463463374607431768211456 ≤ val a b + val c d))] | _ => [] }
theorem wadd_ok : SpecOK Tryz.prog 48 wadd_sp wadd_sem := by
  refine spec_of_tree wadd_cxok Tryz.func48 (by kernel_rfl) (by kernel_rfl) wadd_walk rfl ?_
  intro cs hpre
  match cs, hpre with
  | [.i a, .i b, .i c, .i d], ⟨⟨h1, h2⟩, ⟨h3, h4⟩, ⟨h5, h6⟩, ⟨h7, h8⟩⟩ =>
    refine ⟨rfl, IvsB.ok (by simp only [wadd_ivs, IvsB, Cv.int, and_true]; omega), ?_, ?_⟩
    · simp only [wadd_sem, wadd_sp, Fits, and_true]; omega
    · simp only [wadd_sem, wadd_sp, IsU, wadd_tree, wadd_M72, add64_sem, Tree.den, LE.den, Cv.list, placeA, List.getElem?_cons_zero, List.getElem?_cons_succ, IE.den, BE.den, At.den, CA.den, Env.get, Cv.int, Cv.bool, List.cons_append, List.nil_append, List.map_cons, List.map_nil, bindRes, bindEq, Fits, SV.den, denL, place, placeL, eq_t, eq_f, lt_t, lt_f, le_t, le_f, beq_iff_eq, beq_eq_false_iff_ne, ne_eq, reduceCtorEq, b_dec, decide_eq_true_eq, decide_eq_false_iff_not, Bool.not_eq_false', Bool.or_eq_true, Bool.or_eq_false_iff, Bool.and_eq_false_iff, true_iff, false_iff, Bool.false_eq_true, Bool.not_eq_true', Bool.and_eq_true, Bool.not_true, Bool.not_false, List.cons.injEq, Cv.i.injEq, Cv.b.injEq, and_true, true_and, agg_inj, tup_inj, Value.int.injEq, Value.bool.injEq]
      unfold val
      (repeat' (first | intro _ | refine And.intro ?_ ?_)) <;> omega
def wsub_sp : SpecSh := { args := [(.agg [(.int .u64 (.z 0)), (.int .u64 (.z 0))]), (.agg [(.int .u64 (.z 0)), (.int .u64 (.z 0))])], res := (.tup [(.agg [(.int .u64 (.z 0)), (.int .u64 (.z 0))]), (.bool .f)]), sh := [.i (some (0, 18446744073709551615)), .i (some (0, 18446744073709551615)), .b] }
set_option maxRecDepth 100000 in
def wsub_tree : Tree :=
.call 85 [.i (some (0, 18446744073709551615)), .i (some (0, 18446744073709551615))] [.i (.v 1), .i (.v 3), .i (.z 0)] <|
.call 85 [.i (some (0, 18446744073709551615)), .i (some (0, 18446744073709551615))] [.i (.v 0), .i (.v 2), .i (.v 5)] <|
.ret (.tup [(.agg [(.int .u64 (.v 6)), (.int .u64 (.v 4))]), (.bool (.cmp .lt (.z 0) (.v 7)))])
noncomputable def wsub_cx : Ctx := { tys := tys, fns := fns, mets := mets, sps := [(85, sub64_sp)], anns := [], trys := [] }
def wsub_ivs : List (Option (Int × Int)) := [some (0, 18446744073709551615), some (0, 18446744073709551615), some (0, 18446744073709551615), some (0, 18446744073709551615)]
set_option maxRecDepth 100000 in
theorem wsub_walk : runFn wsub_cx 3000 65 Tryz.f65 wsub_sp.args wsub_ivs = wsub_tree := by kernel_rfl
noncomputable def wsub_M : Nat → SpecSem
  | 85 => sub64_sem
  | _ => noSem
theorem wsub_M85 : wsub_M 85 = sub64_sem := rfl
theorem wsub_cxok : CxOK Tryz.prog wsub_cx wsub_M := ⟨tysOK, fnsOK, spCons sub64_ok <| fun _ _ h => spNil h, mixedOK, fun _ _ h => trNil h, fun _ _ h => atNil h, metsOK⟩

def wsub_sem : SpecSem := { pre := fun cs => match cs with | [.i a, .i b, .i c, .i d] => IsU a ∧ IsU b ∧ IsU c ∧ IsU d | _ => False, out := fun cs => match cs with | [.i a, .i b, .i c, .i d] => [.i ((val a b - val c d) / 18446744073709551616 % 18446744073709551616), .i ((val a b - val c d) % 18446744073709551616), .b (decide (val a b < val c d))] | _ => [] }
theorem wsub_ok : SpecOK Tryz.prog 65 wsub_sp wsub_sem := by
  refine spec_of_tree wsub_cxok Tryz.func65 (by kernel_rfl) (by kernel_rfl) wsub_walk rfl ?_
  intro cs hpre
  match cs, hpre with
  | [.i a, .i b, .i c, .i d], ⟨⟨h1, h2⟩, ⟨h3, h4⟩, ⟨h5, h6⟩, ⟨h7, h8⟩⟩ =>
    refine ⟨rfl, IvsB.ok (by simp only [wsub_ivs, IvsB, Cv.int, and_true]; omega), ?_, ?_⟩
    · simp only [wsub_sem, wsub_sp, Fits, and_true]; omega
    · simp only [wsub_sem, wsub_sp, IsU, wsub_tree, wsub_M85, sub64_sem, Tree.den, LE.den, Cv.list, placeA, List.getElem?_cons_zero, List.getElem?_cons_succ, IE.den, BE.den, At.den, CA.den, Env.get, Cv.int, Cv.bool, List.cons_append, List.nil_append, List.map_cons, List.map_nil, bindRes, bindEq, Fits, SV.den, denL, place, placeL, eq_t, eq_f, lt_t, lt_f, le_t, le_f, beq_iff_eq, beq_eq_false_iff_ne, ne_eq, reduceCtorEq, b_dec, decide_eq_true_eq, decide_eq_false_iff_not, Bool.not_eq_false', Bool.or_eq_true, Bool.or_eq_false_iff, Bool.and_eq_false_iff, true_iff, false_iff, Bool.false_eq_true, Bool.not_eq_true', Bool.and_eq_true, Bool.not_true, Bool.not_false, List.cons.injEq, Cv.i.injEq, Cv.b.injEq, and_true, true_and, agg_inj, tup_inj, Value.int.injEq, Value.bool.injEq]
      unfold val
      (repeat' (first | intro _ | refine And.intro ?_ ?_)) <;> omega
end Go.Proofs.YtglpelnaeipenaaGreat.X
