/-
  factor: Nearest, by contract.
-/
import Derived.Test.YtdhhkoghfggkfaaSxFct
namespace Go.Proofs.Ytdhhkoghfggkfaa.X
open Go Go.SX
set_option linter.unusedVariables false
set_option linter.unusedSimpArgs false



/-- how far a number is from another -/
def dist (a v : Int) : Int := if v < a then a - v else v - a
/-- the first nearest of the first m + 1 entries -/
def nearR (k v : Int) : Nat → Int
  | 0 => 2
  | m + 1 => if dist (ftab k (m + 3)) v < dist (ftab k (nearR k v m)) v then m + 3 else nearR k v m
theorem nearR_rng (k v : Int) : ∀ m : Nat, 2 ≤ nearR k v m ∧ nearR k v m ≤ m + 2
  | 0 => by unfold nearR; omega
  | m + 1 => by have := nearR_rng k v m; unfold nearR; split <;> omega
def neaV (k v : Int) : Int := if 0 ≤ k ∧ k ≤ 6 then nearR k v 8 else 0
def neaE (k : Int) : Int := if 0 ≤ k ∧ k ≤ 6 then 0 else 1
def fap_sp : SpecSh := { args := [(.int .i64 (.z 0)), (.int .i64 (.z 0))], res := (.int .u64 (.z 0)), sh := [.i (some (0, 18446744073709551615))] }
set_option maxRecDepth 100000 in
def fap_tree : Tree :=
.ite (.cmp .lt (.v 1) (.v 0)) (.lett (.wrap .u64 (.v 1)) <|
.lett (.subw .u64 (.v 0) (.v 2)) <|
.ret (.int .u64 (.v 3))) <|
.lett (.subw .u64 (.v 1) (.v 0)) <|
.ret (.int .u64 (.v 2))
noncomputable def fap_cx : Ctx := { tys := tys, fns := fns, sps := [], anns := [], trys := [] }
def fap_ivs : List (Option (Int × Int)) := [some (0, 32670), some ((-9223372036854775808), 9223372036854775807)]
set_option maxRecDepth 100000 in
theorem fap_walk : runFn fap_cx 3000 17 Try.f17 fap_sp.args fap_ivs = fap_tree := by kernel_rfl
noncomputable def fap_M : Nat → SpecSem
  | _ => noSem
theorem fap_cxok : CxOK Try.prog fap_cx fap_M := ⟨tysOK, fnsOK, fun _ _ h => spNil h, mixedOK, fun _ _ h => trNil h, fun _ _ h => atNil h⟩
set_option maxRecDepth 100000 in
set_option maxHeartbeats 8000000 in
theorem fap_den (R RP : Value → Prop) (F : Ex → St → Js → Env → Prop) (J : Js) (x0 : Int) (x1 : Int) : Tree.den fap_M R RP F fap_tree J [(.i x0), (.i x1)] = (
  ((Cmp.den .lt x1 x0) = true → ∀ x2 : Int, x2 = (IntKind.u64.wrap x1) →
∀ x3 : Int, x3 = (IntKind.u64.wrap (x0 - x2)) →
R (Value.int .u64 x3)) ∧ ((Cmp.den .lt x1 x0) = false → ∀ x2 : Int, x2 = (IntKind.u64.wrap (x1 - x0)) →
R (Value.int .u64 x2))) := by kernel_rfl

def fap_sem : SpecSem := { pre := fun cs => match cs with | [.i a, .i v] => IsI a ∧ IsI v ∧ (0 ≤ a ∧ a ≤ 32670) | _ => False, out := fun cs => match cs with | [.i a, .i v] => [.i (dist a v)] | _ => [] }
set_option maxRecDepth 10000 in
set_option maxHeartbeats 16000000 in
theorem fap_ok : SpecOK Try.prog 17 fap_sp fap_sem := by
  refine spec_of_tree fap_cxok Try.func17 (by kernel_rfl) (by kernel_rfl) fap_walk rfl ?_
  intro cs hpre
  match cs, hpre with
  | [.i a, .i v], ⟨j_a, j_v, hx⟩ =>
    have h_a := j_a
    unfold IsI at h_a
    have h_v := j_v
    unfold IsI at h_v
    refine ⟨rfl, IvsB.ok (by simp only [fap_ivs, IvsB, Cv.int, and_true] <;> omega), ?_, ?_⟩
    · simp only [fap_sem, fap_sp, Fits, and_true]; unfold dist; split <;> omega
    · rw [fap_den]
      simp only [fap_sem, fap_sp, fap_den, Tree.den, LE.den, Cv.list, placeA, List.getElem?_cons_zero, List.getElem?_cons_succ, IE.den, BE.den, At.den, CA.den, Env.get, Cv.int, Cv.bool, List.cons_append, List.nil_append, List.map_cons, List.map_nil, bindRes, bindEq, Fits, SV.den, denL, place, placeL, eq_t, eq_f, lt_t, lt_f, le_t, le_f, beq_iff_eq, beq_eq_false_iff_ne, ne_eq, reduceCtorEq, b_dec, decide_eq_true_eq, decide_eq_false_iff_not, Bool.not_eq_false', Bool.or_eq_true, Bool.or_eq_false_iff, Bool.and_eq_false_iff, true_iff, false_iff, Bool.false_eq_true, Bool.not_eq_true', Bool.and_eq_true, Bool.not_true, Bool.not_false, List.cons.injEq, Cv.i.injEq, Cv.b.injEq, and_true, true_and, agg_inj, tup_inj, Value.int.injEq, Value.bool.injEq, IntKind.wrap, IntKind.bits, IntKind.signed, Bool.false_eq_true, if_false, Int.reducePow, Nat.reduceSub, forall_eq, if_true, if_false, true_and, and_true, false_and, and_false, true_or, or_true, false_or, or_false, true_iff, iff_true, false_iff, iff_false, not_true_eq_false, not_false_eq_true, true_implies, false_implies, implies_true, forall_const, decide_true, decide_false, reduceCtorEq]
      unfold dist
      refine ⟨fun h => ?_, fun h => ?_⟩
      · rw [if_pos h]; omega
      · have hq : ¬ v < a := by omega
        rw [if_neg hq]; omega
def fnea_sp : SpecSh := { args := [(.int .i64 (.z 0)), (.int .i64 (.z 0))], res := (.tup [(.int .i64 (.z 0)), (.int .i64 (.z 0))]), sh := [.i (some ((-9223372036854775808), 9223372036854775807)), .i (some ((-9223372036854775808), 9223372036854775807))] }
set_option maxRecDepth 100000 in
def fnea_tree : Tree :=
.ite (.cmp .le (.z 0) (.v 0)) (.ite (.not (.cmp .lt (.v 0) (.z 7))) (.ret (.tup [(.int .i64 (.z 0)), (.int .i64 (.z 1))])) <|
.call 15 [.i (some (0, 32670))] [.i (.v 0), .i (.z 3)] <|
.call 17 [.i (some (0, 18446744073709551615))] [.i (.v 2), .i (.v 1)] <|
.call 15 [.i (some (0, 32670))] [.i (.v 0), .i (.z 2)] <|
.call 17 [.i (some (0, 18446744073709551615))] [.i (.v 4), .i (.v 1)] <|
.lett (.ite (.cmp .lt (.v 3) (.v 5)) (.z 3) (.z 2)) <|
.loop [.i (some (4, 11)), .i (some (2, 10))] [.i (.z 4), .i (.v 6)] <|
.ite (.cmp .le (.v 7) (.z 10)) (.call 15 [.i (some (0, 32670))] [.i (.v 0), .i (.v 7)] <|
.call 17 [.i (some (0, 18446744073709551615))] [.i (.v 9), .i (.v 1)] <|
.call 15 [.i (some (0, 32670))] [.i (.v 0), .i (.v 8)] <|
.call 17 [.i (some (0, 18446744073709551615))] [.i (.v 11), .i (.v 1)] <|
.lett (.ite (.cmp .lt (.v 10) (.v 12)) (.v 7) (.v 8)) <|
.lett (.add (.v 7) (.z 1)) <|
.again 0 [.i (.v 14), .i (.v 13)]) <|
.ret (.tup [(.int .i64 (.v 8)), (.int .i64 (.z 0))])) <|
.ret (.tup [(.int .i64 (.z 0)), (.int .i64 (.z 1))])
noncomputable def fnea_cx : Ctx := { tys := tys, fns := fns, sps := [(17, fap_sp)], anns := [((8, 6), { slots := [8, 7], cells := [], ivs := [some (4, 11), some (2, 10)], only := some (0, 0, 1) })], trys := [], ats := [(15, fat_at)] }
def fnea_ivs : List (Option (Int × Int)) := [some ((-9223372036854775808), 9223372036854775807), some ((-9223372036854775808), 9223372036854775807)]
set_option maxRecDepth 100000 in
theorem fnea_walk : runFn fnea_cx 3000 8 Try.f8 fnea_sp.args fnea_ivs = fnea_tree := by kernel_rfl
noncomputable def fnea_M : Nat → SpecSem
  | 17 => fap_sem
  | 15 => fat_sem
  | _ => noSem
theorem fnea_M17 : fnea_M 17 = fap_sem := rfl
theorem fnea_M15 : fnea_M 15 = fat_sem := rfl
theorem fnea_cxok : CxOK Try.prog fnea_cx fnea_M := ⟨tysOK, fnsOK, spCons fap_ok <| fun _ _ h => spNil h, mixedOK, fun _ _ h => trNil h, atCons fat_ok <| fun _ _ h => atNil h⟩
set_option maxRecDepth 100000 in
set_option maxHeartbeats 8000000 in
theorem fnea_den (R RP : Value → Prop) (F : Ex → St → Js → Env → Prop) (x0 : Int) (x1 : Int) : Tree.den fnea_M R RP F fnea_tree [] [(.i x0), (.i x1)] = (
  ((Cmp.den .le (0 : Int) x0) = true → ((!(Cmp.den .lt x0 (7 : Int))) = true → R (Value.tuple [(Value.int .i64 (0 : Int)), (Value.int .i64 (1 : Int))].toArray)) ∧ ((!(Cmp.den .lt x0 (7 : Int))) = false → (fat_sem.pre [(.i x0), (.i (3 : Int))]) ∧ (
∀ x2 : Int, x2 = (Cv.int (Env.get (fat_sem.out [(.i x0), (.i (3 : Int))]) 0)) → (0 : Int) ≤ x2 → x2 ≤ (32670 : Int) →
(fap_sem.pre [(.i x2), (.i x1)]) ∧ (
∀ x3 : Int, x3 = (Cv.int (Env.get (fap_sem.out [(.i x2), (.i x1)]) 0)) → (0 : Int) ≤ x3 → x3 ≤ (18446744073709551615 : Int) →
(fat_sem.pre [(.i x0), (.i (2 : Int))]) ∧ (
∀ x4 : Int, x4 = (Cv.int (Env.get (fat_sem.out [(.i x0), (.i (2 : Int))]) 0)) → (0 : Int) ≤ x4 → x4 ≤ (32670 : Int) →
(fap_sem.pre [(.i x4), (.i x1)]) ∧ (
∀ x5 : Int, x5 = (Cv.int (Env.get (fap_sem.out [(.i x4), (.i x1)]) 0)) → (0 : Int) ≤ x5 → x5 ≤ (18446744073709551615 : Int) →
∀ x6 : Int, x6 = (if (Cmp.den .lt x3 x5) = true then (3 : Int) else (2 : Int)) →
∃ (I0 : List Cv → Prop) (mu0 : List Cv → Nat), Fits [.i (some ((4), (11))), .i (some ((2), (10)))] [(.i (4 : Int)), (.i x6)] ∧ I0 [(.i (4 : Int)), (.i x6)] ∧ (
∀ x7 : Int, (4 : Int) ≤ x7 → x7 ≤ (11 : Int) → ∀ x8 : Int, (2 : Int) ≤ x8 → x8 ≤ (10 : Int) → I0 [.i x7, .i x8] →
((Cmp.den .le x7 (10 : Int)) = true → (fat_sem.pre [(.i x0), (.i x7)]) ∧ (
∀ x9 : Int, x9 = (Cv.int (Env.get (fat_sem.out [(.i x0), (.i x7)]) 0)) → (0 : Int) ≤ x9 → x9 ≤ (32670 : Int) →
(fap_sem.pre [(.i x9), (.i x1)]) ∧ (
∀ x10 : Int, x10 = (Cv.int (Env.get (fap_sem.out [(.i x9), (.i x1)]) 0)) → (0 : Int) ≤ x10 → x10 ≤ (18446744073709551615 : Int) →
(fat_sem.pre [(.i x0), (.i x8)]) ∧ (
∀ x11 : Int, x11 = (Cv.int (Env.get (fat_sem.out [(.i x0), (.i x8)]) 0)) → (0 : Int) ≤ x11 → x11 ≤ (32670 : Int) →
(fap_sem.pre [(.i x11), (.i x1)]) ∧ (
∀ x12 : Int, x12 = (Cv.int (Env.get (fap_sem.out [(.i x11), (.i x1)]) 0)) → (0 : Int) ≤ x12 → x12 ≤ (18446744073709551615 : Int) →
∀ x13 : Int, x13 = (if (Cmp.den .lt x10 x12) = true then x7 else x8) →
∀ x14 : Int, x14 = (x7 + (1 : Int)) →
Fits [.i (some ((4), (11))), .i (some ((2), (10)))] [(.i x14), (.i x13)] ∧ I0 [(.i x14), (.i x13)] ∧ mu0 [(.i x14), (.i x13)] < mu0 [.i x7, .i x8]))))) ∧ ((Cmp.den .le x7 (10 : Int)) = false → R (Value.tuple [(Value.int .i64 x8), (Value.int .i64 (0 : Int))].toArray))))))))) ∧ ((Cmp.den .le (0 : Int) x0) = false → R (Value.tuple [(Value.int .i64 (0 : Int)), (Value.int .i64 (1 : Int))].toArray))) := by kernel_rfl

def fnea_sem : SpecSem := { pre := fun cs => match cs with | [.i k, .i v] => IsI k ∧ IsI v | _ => False, out := fun cs => match cs with | [.i k, .i v] => [.i (neaV k v), .i (neaE k)] | _ => [] }
set_option maxRecDepth 10000 in
set_option maxHeartbeats 16000000 in
theorem fnea_ok : SpecOK Try.prog 8 fnea_sp fnea_sem := by
  refine spec_of_tree fnea_cxok Try.func8 (by kernel_rfl) (by kernel_rfl) fnea_walk rfl ?_
  intro cs hpre
  match cs, hpre with
  | [.i k, .i v], ⟨j_k, j_v⟩ =>
    have h_k := j_k
    unfold IsI at h_k
    have h_v := j_v
    unfold IsI at h_v
    refine ⟨rfl, IvsB.ok (by simp only [fnea_ivs, IvsB, Cv.int, and_true] <;> omega), ?_, ?_⟩
    · have h1 := nearR_rng k v 8
      simp only [fnea_sem, fnea_sp, Fits, and_true]; unfold neaV neaE; split <;> omega
    · rw [fnea_den]
      have I2 : ∀ a : Int, 0 ≤ a → a ≤ 32670 → IsI a := fun a h g => ⟨by omega, by omega⟩
      refine ⟨fun h1 => ⟨fun h2 => ?_, fun h2 => ?_⟩, fun h1 => ?_⟩
      · simp only [Bool.not_eq_true', lt_f] at h2
        show _ = Value.tuple #[.int .i64 (neaV k v), .int .i64 (neaE k)]
        have hk : ¬ (0 ≤ k ∧ k ≤ 6) := by omega
        simp only [neaV, neaE, if_neg hk]
      · simp only [Bool.not_eq_false', lt_t, le_t] at h1 h2
        have hk : 0 ≤ k ∧ k ≤ 6 := ⟨h1, by omega⟩
        refine ⟨⟨h1, hk.2, by omega, by omega⟩, fun x2 e2 a2 b2 => ⟨⟨I2 _ a2 b2, j_v, a2, b2⟩, fun x3 e3 _ _ => ⟨⟨h1, hk.2, by omega, by omega⟩, fun x4 e4 a4 b4 => ⟨⟨I2 _ a4 b4, j_v, a4, b4⟩, fun x5 e5 _ _ x6 e6 => ?_⟩⟩⟩⟩
        have e2 : x2 = ftab k 3 := e2
        have e3 : x3 = dist x2 v := e3
        have e4 : x4 = ftab k 2 := e4
        have e5 : x5 = dist x4 v := e5
        have e6 : x6 = nearR k v 1 := by rw [e6]; simp only [lt_t, nearR, e3, e5, e2, e4]; rfl
        have r1 := nearR_rng k v 1
        refine ⟨fun cs => match cs with | [.i n, .i b] => b = nearR k v (n - 3).toNat | _ => False, fun cs => match cs with | [.i n, .i b] => (11 - n).toNat | _ => 0, ⟨by omega, by omega, by omega, by omega, trivial⟩, e6, fun x7 g7 g7' x8 g8 g8' hI => ⟨fun c => ?_, fun c => ?_⟩⟩
        · have hI : x8 = nearR k v (x7 - 3).toNat := hI
          simp only [le_t] at c
          refine ⟨⟨h1, hk.2, by omega, by omega⟩, fun x9 e9 a9 b9 => ⟨⟨I2 _ a9 b9, j_v, a9, b9⟩, fun x10 e10 _ _ => ⟨⟨h1, hk.2, by omega, by omega⟩, fun x11 e11 a11 b11 => ⟨⟨I2 _ a11 b11, j_v, a11, b11⟩, fun x12 e12 _ _ x13 e13 x14 e14 => ?_⟩⟩⟩⟩
          have e9 : x9 = ftab k x7 := e9
          have e10 : x10 = dist x9 v := e10
          have e11 : x11 = ftab k x8 := e11
          have e12 : x12 = dist x11 v := e12
          obtain ⟨m, rfl⟩ : ∃ m : Nat, x7 = m + 3 := ⟨(x7 - 3).toNat, by omega⟩
          have t1 : ((m : Int) + 3 - 3).toNat = m := by omega
          have t2 : ((m : Int) + 3 + 1 - 3).toNat = m + 1 := by omega
          rw [t1] at hI
          have e13' : x13 = nearR k v (m + 1) := by rw [e13]; simp only [lt_t, nearR, e10, e12, e9, e11, hI]
          have r := nearR_rng k v (m + 1)
          refine ⟨⟨by omega, by omega, by omega, by omega, trivial⟩, ?_, ?_⟩
          · show x13 = nearR k v (x14 - 3).toNat
            rw [e14, t2]; exact e13'
          · show (11 - x14).toNat < (11 - ((m : Int) + 3)).toNat
            omega
        · simp only [le_f] at c
          obtain rfl : x7 = 11 := by omega
          have hI : x8 = nearR k v 8 := hI
          show _ = Value.tuple #[.int .i64 (neaV k v), .int .i64 (neaE k)]
          simp only [neaV, neaE, if_pos hk, hI]
      · simp only [le_f] at h1
        show _ = Value.tuple #[.int .i64 (neaV k v), .int .i64 (neaE k)]
        have hk : ¬ (0 ≤ k ∧ k ≤ 6) := by omega
        simp only [neaV, neaE, if_neg hk]
end Go.Proofs.Ytdhhkoghfggkfaa.X
