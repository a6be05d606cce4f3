/-
  The contract of zone.Has, for every mask and class; what the masks of hulls have.
-/
import Derived.Test.YtehoiibnemjkaaaDoorSxZoneNum
namespace Go.Proofs.YtehoiibnemjkaaaDoor.X
open Go Go.SX Go.RowKit
set_option linter.unusedVariables false
set_option linter.unusedSimpArgs false
def hasP (m c : Int) : Prop := (0 < m ∧ m < 512) ∧ (-4 ≤ c ∧ c ≤ 4) ∧ m / p2 (c + 4) % 2 = 1
instance decHas (m c : Int) : Decidable (hasP m c) := by unfold hasP; exact inferInstance
theorem has_all : ∀ a b c : Fin 9, a ≤ c → c ≤ b → ((2 ^ (b.val + 1) : Nat) : Int) / ((2 ^ c.val : Nat) : Int) % 2 = ((2 ^ (b.val + 1) : Nat) : Int) / ((2 ^ c.val : Nat) : Int) % 2 → (((2 ^ (b.val + 1) : Nat) : Int) - ((2 ^ a.val : Nat) : Int)) / ((2 ^ c.val : Nat) : Int) % 2 = 1 := by decide +kernel
theorem mask_has {a b c : Int} (ha : -4 ≤ a) (hac : a ≤ c) (hcb : c ≤ b) (hb : b ≤ 4) : hasP (maskZ a b) c := by
  have h1 := maskZ_rng ha hb
  have h2 := maskZ_pos (l := a) (g := b) ha (by omega)
  refine ⟨⟨by omega, by omega⟩, ⟨by omega, by omega⟩, ?_⟩
  obtain ⟨i, hi⟩ : ∃ i : Nat, a = (i : Int) - 4 := ⟨(a + 4).toNat, by omega⟩
  obtain ⟨j, hj⟩ : ∃ i : Nat, b = (i : Int) - 4 := ⟨(b + 4).toNat, by omega⟩
  obtain ⟨k, hk⟩ : ∃ i : Nat, c = (i : Int) - 4 := ⟨(c + 4).toNat, by omega⟩
  subst hi hj hk
  have := has_all ⟨i, by omega⟩ ⟨j, by omega⟩ ⟨k, by omega⟩ (by show i ≤ k; omega) (by show k ≤ j; omega) rfl
  unfold maskZ
  rw [if_pos (by omega)]
  unfold p2
  have e1 : ((j : Int) - 4 + 5).toNat = j + 1 := by omega
  have e2 : ((i : Int) - 4 + 4).toNat = i := by omega
  have e3 : ((k : Int) - 4 + 4).toNat = k := by omega
  rw [e1, e2, e3]
  exact this
theorem and_one {x : Int} (hx : 0 ≤ x) (hx1 : x < 9223372036854775808) : bitDen .and .i64 x 1 = x % 2 := by
  obtain ⟨n, rfl⟩ := Int.eq_ofNat_of_zero_le hx
  have h1 : (BitVec.ofInt 64 (n : Int) &&& BitVec.ofInt 64 (1 : Int)).toNat = n % 2 := by
    have e1 : BitVec.ofInt 64 (n : Int) = BitVec.ofNat 64 n := by simp
    have e2 : BitVec.ofInt 64 (1 : Int) = BitVec.ofNat 64 1 := by rfl
    rw [e1, e2, BitVec.toNat_and, BitVec.toNat_ofNat, BitVec.toNat_ofNat]
    have e3 : n % 2 ^ 64 = n := Nat.mod_eq_of_lt (by omega)
    rw [e3]
    exact Nat.and_one_is_mod n
  have h2 : bitDen .and .i64 (n : Int) 1 = IntKind.i64.wrap ((n % 2 : Nat) : Int) := by
    show IntKind.i64.wrap _ = _
    congr 1
    exact_mod_cast h1
  rw [h2, w64 (by omega) (by omega)]
  omega
def zhas_sp : SpecSh := { args := [(.int .i64 (.z 0)), (.int .i64 (.z 0))], res := (.bool .f), sh := [.b] }
set_option maxRecDepth 100000 in
def zhas_tree : Tree :=
.ite (.cmp .lt (.z 0) (.v 0)) (.ite (.cmp .lt (.v 0) (.z 512)) (.ite (.cmp .le (.z (-4)) (.v 1)) (.ite (.cmp .le (.v 1) (.z 4)) (.lett (.add (.v 1) (.z 4)) <|
.lett (.shr .i64 (.v 0) (.v 2)) <|
.lett (.bit .and .i64 (.v 3) (.z 1)) <|
.ret (.bool (.cmp .eq (.v 4) (.z 1)))) <|
.ret (.bool .f)) <|
.ret (.bool .f)) <|
.ret (.bool .f)) <|
.ret (.bool .f)
noncomputable def zhas_cx : Ctx := { tys := tys, fns := fns, mets := mets, sps := [], anns := [], trys := [] }
def zhas_ivs : List (Option (Int × Int)) := [some ((-9223372036854775808), 9223372036854775807), some ((-9223372036854775808), 9223372036854775807)]
set_option maxRecDepth 100000 in
theorem zhas_walk : runFn zhas_cx 3000 7 Tryd.f7 zhas_sp.args zhas_ivs = zhas_tree := by kernel_rfl
noncomputable def zhas_M : Nat → SpecSem
  | _ => noSem
theorem zhas_cxok : CxOK Tryd.prog zhas_cx zhas_M := ⟨tysOK, fnsOK, fun _ _ h => spNil h, mixedOK, fun _ _ h => trNil h, fun _ _ h => atNil h, metsOK⟩

def zhas_sem : SpecSem := { pre := fun cs => match cs with | [.i m, .i c] => IsI m ∧ IsI c | _ => False, out := fun cs => match cs with | [.i m, .i c] => [.b (decide (hasP m c))] | _ => [] }
set_option maxRecDepth 10000 in
set_option maxHeartbeats 16000000 in
theorem zhas_ok : SpecOK Tryd.prog 7 zhas_sp zhas_sem := by
  refine spec_of_tree zhas_cxok Tryd.func7 (by kernel_rfl) (by kernel_rfl) zhas_walk rfl ?_
  intro cs hpre
  match cs, hpre with
  | [.i m, .i c], ⟨j_m, j_c⟩ =>
    have h_m := j_m
    unfold IsI at h_m
    have h_c := j_c
    unfold IsI at h_c
    refine ⟨rfl, IvsB.ok (by simp only [zhas_ivs, IvsB, Cv.int, and_true] <;> omega), ?_, ?_⟩
    · simp only [zhas_sem, zhas_sp, Fits]
    · simp only [zhas_sem, zhas_sp, zhas_tree, Tree.den, LE.den, Cv.list, placeA, List.getElem?_cons_zero, List.getElem?_cons_succ, IE.den, BE.den, At.den, CA.den, Env.get, Cv.int, Cv.bool, List.cons_append, List.nil_append, List.map_cons, List.map_nil, bindRes, bindEq, Fits, SV.den, denL, place, placeL, eq_t, eq_f, lt_t, lt_f, le_t, le_f, beq_iff_eq, beq_eq_false_iff_ne, ne_eq, reduceCtorEq, b_dec, decide_eq_true_eq, decide_eq_false_iff_not, Bool.not_eq_false', Bool.or_eq_true, Bool.or_eq_false_iff, Bool.and_eq_false_iff, true_iff, false_iff, Bool.false_eq_true, Bool.not_eq_true', Bool.and_eq_true, Bool.not_true, Bool.not_false, List.cons.injEq, Cv.i.injEq, Cv.b.injEq, and_true, true_and, agg_inj, tup_inj, Value.int.injEq, Value.bool.injEq]
      unfold hasP
      refine ⟨fun m0 => ⟨fun m1 => ⟨fun c0 => ⟨fun c1 => ?_, fun c1 => by omega⟩, fun c1 => by omega⟩, fun m1 => by omega⟩, fun m0 => by omega⟩
      simp only [forall_eq]
      rw [p2_deni (by omega) (by omega), Int.fdiv_eq_ediv_of_nonneg _ (Int.le_of_lt (p2_pos _))]
      have q0 := Int.ediv_nonneg (a := m) (b := p2 (c + 4)) (by omega) (Int.le_of_lt (p2_pos _))
      have q1 := Int.ediv_le_self (a := m) (p2 (c + 4)) (by omega)
      generalize m / p2 (c + 4) = q at *
      rw [and_one q0 (by omega)]
      simp only [m0, m1, c0, c1, if_true, if_false, true_and, and_true, false_and, and_false, true_or, or_true, false_or, or_false, true_iff, iff_true, false_iff, iff_false, not_true_eq_false, not_false_eq_true, true_implies, false_implies, implies_true, forall_const, decide_true, decide_false, reduceCtorEq]
end Go.Proofs.YtehoiibnemjkaaaDoor.X
