/-
  ZoneTells holds of every input: its contract.
-/
import Derived.Test.YtehoiibnemjkaaaDoorSxZoneE
import Derived.Test.YtehoiibnemjkaaaDoorSxZoneC
namespace Go.Proofs.YtehoiibnemjkaaaDoor.X
open Go Go.SX
set_option linter.unusedVariables false
set_option linter.unusedSimpArgs false





def r13has_sp : SpecSh := { args := [(.int .i64 (.z 0)), (.int .i64 (.z 0))], res := (.bool .f), sh := [.b] }
set_option maxRecDepth 100000 in
def r13has_tree : Tree :=
.ite (.cmp .le (.z 1) (.v 0)) (.ite (.cmp .le (.v 0) (.z 511)) (.ite (.cmp .le (.z (-4)) (.v 1)) (.ite (.cmp .le (.v 1) (.z 4)) (.lett (.add (.v 1) (.z 4)) <|
.lett (.shr .i64 (.v 0) (.v 2)) <|
.lett (.rem (.v 3) (.z 2)) <|
.ret (.bool (.cmp .eq (.v 4) (.z 1)))) <|
.ret (.bool .f)) <|
.ret (.bool .f)) <|
.ret (.bool .f)) <|
.ret (.bool .f)
noncomputable def r13has_cx : Ctx := { tys := tys, fns := fns, mets := mets, sps := [], anns := [], trys := [] }
def r13has_ivs : List (Option (Int × Int)) := [some ((-9223372036854775808), 9223372036854775807), some ((-9223372036854775808), 9223372036854775807)]
set_option maxRecDepth 100000 in
theorem r13has_walk : runFn r13has_cx 3000 8 Tryd.f8 r13has_sp.args r13has_ivs = r13has_tree := by kernel_rfl
noncomputable def r13has_M : Nat → SpecSem
  | _ => noSem
theorem r13has_cxok : CxOK Tryd.prog r13has_cx r13has_M := ⟨tysOK, fnsOK, fun _ _ h => spNil h, mixedOK, fun _ _ h => trNil h, fun _ _ h => atNil h, metsOK⟩

def r13has_sem : SpecSem := { pre := fun cs => match cs with | [.i m, .i c] => IsI m ∧ IsI c | _ => False, out := fun cs => match cs with | [.i m, .i c] => [.b (decide (hasP m c))] | _ => [] }
set_option maxRecDepth 10000 in
set_option maxHeartbeats 16000000 in
theorem r13has_ok : SpecOK Tryd.prog 8 r13has_sp r13has_sem := by
  refine spec_of_tree r13has_cxok Tryd.func8 (by kernel_rfl) (by kernel_rfl) r13has_walk rfl ?_
  intro cs hpre
  match cs, hpre with
  | [.i m, .i c], ⟨j_m, j_c⟩ =>
    have h_m := j_m
    unfold IsI at h_m
    have h_c := j_c
    unfold IsI at h_c
    refine ⟨rfl, IvsB.ok (by simp only [r13has_ivs, IvsB, Cv.int, and_true] <;> omega), ?_, ?_⟩
    · simp only [r13has_sem, r13has_sp, Fits]
    · simp only [r13has_sem, r13has_sp, r13has_tree, Tree.den, LE.den, Cv.list, placeA, List.getElem?_cons_zero, List.getElem?_cons_succ, IE.den, BE.den, At.den, CA.den, Env.get, Cv.int, Cv.bool, List.cons_append, List.nil_append, List.map_cons, List.map_nil, bindRes, bindEq, Fits, SV.den, denL, place, placeL, eq_t, eq_f, lt_t, lt_f, le_t, le_f, beq_iff_eq, beq_eq_false_iff_ne, ne_eq, reduceCtorEq, b_dec, decide_eq_true_eq, decide_eq_false_iff_not, Bool.not_eq_false', Bool.or_eq_true, Bool.or_eq_false_iff, Bool.and_eq_false_iff, true_iff, false_iff, Bool.false_eq_true, Bool.not_eq_true', Bool.and_eq_true, Bool.not_true, Bool.not_false, List.cons.injEq, Cv.i.injEq, Cv.b.injEq, and_true, true_and, agg_inj, tup_inj, Value.int.injEq, Value.bool.injEq]
      unfold hasP
      refine ⟨fun m0 => ⟨fun m1 => ⟨fun c0 => ⟨fun c1 => ?_, fun c1 => by omega⟩, fun c1 => by omega⟩, fun m1 => by omega⟩, fun m0 => by omega⟩
      simp only [forall_eq]
      rw [p2_deni (by omega) (by omega), Int.fdiv_eq_ediv_of_nonneg _ (Int.le_of_lt (p2_pos _))]
      have q0 := Int.ediv_nonneg (a := m) (b := p2 (c + 4)) (by omega) (Int.le_of_lt (p2_pos _))
      generalize m / p2 (c + 4) = q at *
      rw [Int.tmod_eq_emod_of_nonneg q0]
      omega
/-- the classes that a mask has, of the first n -/
def clsA (m : Int) : Nat → List Int
  | 0 => []
  | n + 1 => if hasP m ((n : Int) - 4) then clsA m n ++ [(n : Int) - 4] else clsA m n
theorem clsA_rng (m : Int) : ∀ n : Nat, n ≤ 9 → (∀ y ∈ clsA m n, -4 ≤ y ∧ y ≤ 4) ∧ (clsA m n).length ≤ n
  | 0, _ => ⟨fun y hy => (by cases hy), Nat.le_refl _⟩
  | n + 1, h => by
    obtain ⟨h1, h2⟩ := clsA_rng m n (by omega)
    unfold clsA
    split
    · refine ⟨fun y hy => ?_, by simp; omega⟩
      rw [List.mem_append, List.mem_singleton] at hy
      rcases hy with hy | rfl
      · exact h1 y hy
      · omega
    · exact ⟨h1, by omega⟩
def hasB (m c : Nat) : Bool := m / 2 ^ c % 2 == 1
def clsB (m : Nat) : Nat → List Int
  | 0 => []
  | n + 1 => if hasB m n then clsB m n ++ [(n : Int) - 4] else clsB m n
theorem clsAB {m : Nat} (h0 : 1 ≤ m) (h1 : m ≤ 511) : ∀ n : Nat, n ≤ 9 → clsA m n = clsB m n
  | 0, _ => rfl
  | n + 1, h => by
    have e : hasP (m : Int) ((n : Int) - 4) ↔ hasB m n = true := by
      unfold hasP hasB p2
      have e2 : ((n : Int) - 4 + 4).toNat = n := by omega
      rw [e2, beq_iff_eq]
      constructor
      · rintro ⟨_, _, h3⟩; exact_mod_cast h3
      · intro h3; exact ⟨⟨by omega, by omega⟩, ⟨by omega, by omega⟩, by exact_mod_cast h3⟩
    unfold clsA clsB
    rw [clsAB h0 h1 n (by omega)]
    by_cases k : hasB m n = true
    · rw [if_pos (e.2 k), if_pos k]
    · rw [if_neg (fun x => k (e.1 x)), if_neg k]
theorem cls_all : ∀ i : Fin 512, i.val ≠ 0 → (clsB i.val 9).length ≠ 0 ∧ (clsB i.val 9).getD 0 0 = ((Lib.ctz 64 i.val : Nat) : Int) - 4 ∧ (clsB i.val 9).getD ((clsB i.val 9).length - 1) 0 = ((Lib.bitLen i.val : Nat) : Int) - 5 := by decide +kernel
theorem cls_ends {m : Int} (h0 : 1 ≤ m) (h1 : m ≤ 511) : 0 < ((clsA m 9).length : Int) ∧ (clsA m 9).getD 0 0 = tzN m - 4 ∧ (clsA m 9).getD (((clsA m 9).length : Int) - 1).toNat 0 = lenN m - 5 := by
  obtain ⟨n, rfl⟩ := Int.eq_ofNat_of_zero_le (show 0 ≤ m by omega)
  have := cls_all ⟨n, by omega⟩ (by show n ≠ 0; omega)
  obtain ⟨h2, h3, h4⟩ := this
  rw [clsAB (by omega) (by omega) 9 (by omega)]
  unfold tzN lenN
  simp only [Int.toNat_natCast] at *
  refine ⟨by omega, h3, ?_⟩
  rw [show (((clsB n 9).length : Int) - 1).toNat = (clsB n 9).length - 1 by omega]
  exact h4
theorem cls_loop {m : Int} (h0 : 1 ≤ m) (h1 : m ≤ 511) {Q : List Int → Prop} (hQ : Q (clsA m 9)) :
    ∃ (I0 : List Cv → Prop) (mu0 : List Cv → Nat), ((-4 : Int) ≤ -4 ∧ (-4 : Int) ≤ 5 ∧ InI []) ∧ I0 [Cv.i (-4), Cv.l []] ∧ ∀ (x13 : Int), -4 ≤ x13 → x13 ≤ 5 → ∀ (x14 : List Int), InI x14 → I0 [Cv.i x13, Cv.l x14] →
      (x13 ≤ 4 → IsI x13 ∧ (hasP m x13 → ((x14.length : Int) ≤ 100000 → (-4 ≤ x13 + 1 ∧ x13 + 1 ≤ 5 ∧ InI (x14 ++ [x13])) ∧ I0 [Cv.i (x13 + 1), Cv.l (x14 ++ [x13])] ∧ mu0 [Cv.i (x13 + 1), Cv.l (x14 ++ [x13])] < mu0 [Cv.i x13, Cv.l x14]) ∧ (100000 < (x14.length : Int) → False)) ∧ (¬hasP m x13 → (-4 ≤ x13 + 1 ∧ x13 + 1 ≤ 5 ∧ InI x14) ∧ I0 [Cv.i (x13 + 1), Cv.l x14] ∧ mu0 [Cv.i (x13 + 1), Cv.l x14] < mu0 [Cv.i x13, Cv.l x14])) ∧ (4 < x13 → Q x14) := by
  refine ⟨fun vs => match vs with | [.i i, .l ys] => ys = clsA m (i + 4).toNat | _ => False, fun vs => match vs with | .i i :: _ => (5 - i).toNat | _ => 0, ⟨by omega, by omega, fun y hy => (by cases hy)⟩, rfl, ?_⟩
  intro i i0 i1 ys hys hI
  obtain rfl : ys = clsA m (i + 4).toNat := hI
  have e : (i + 1 + 4).toNat = (i + 4).toNat + 1 := by omega
  have e2 : (((i + 4).toNat : Nat) : Int) - 4 = i := by omega
  have hl := (clsA_rng m (i + 4).toNat (by omega)).2
  refine ⟨fun hle => ⟨⟨by omega, by omega⟩, fun hp => ⟨fun _ => ⟨⟨by omega, by omega, ?_⟩, ?_, ?_⟩, fun hgt => by omega⟩, fun hp => ⟨⟨by omega, by omega, hys⟩, ?_, ?_⟩⟩, fun hgt => ?_⟩
  · intro y hy
    rw [List.mem_append, List.mem_singleton] at hy
    rcases hy with hy | rfl
    · exact hys y hy
    · omega
  · show clsA m (i + 4).toNat ++ [i] = clsA m (i + 1 + 4).toNat
    rw [e, clsA, e2, if_pos hp]
  · show (5 - (i + 1)).toNat < (5 - i).toNat
    omega
  · show clsA m (i + 4).toNat = clsA m (i + 1 + 4).toNat
    rw [e, clsA, e2, if_neg hp]
  · show (5 - (i + 1)).toNat < (5 - i).toNat
    omega
  · rw [show (i + 4).toNat = 9 by omega]
    exact hQ

def lzt_sp : SpecSh := { args := [(.int .i64 (.z 0)), (.agg [(.int .u64 (.z 0)), (.int .u64 (.z 0))]), (.int .i64 (.z 0)), (.int .i64 (.z 0))], res := (.bool .f), sh := [.b] }
set_option maxRecDepth 100000 in
def lzt_tree : Tree :=
.call 5 [.i (some ((-4), 4)), .i (some (0, 1))] [.i (.v 0), .i (.v 1), .i (.v 2)] <|
.call 6 [.i (some ((-9223372036854775808), 9223372036854775807)), .i (some ((-9223372036854775808), 9223372036854775807)), .i (some ((-9223372036854775808), 9223372036854775807))] [.i (.v 3)] <|
.call 7 [.b] [.i (.v 3), .i (.v 4)] <|
.call 8 [.b] [.i (.v 3), .i (.v 4)] <|
.ite (.not (.eqv (.v 10) (.v 11))) (.ret (.bool .f)) <|
.call 9 [.b] [] <|
.ite (.not (.v 12)) (.ret (.bool .f)) <|
.ite (.cmp .le (.z 1) (.v 3)) (.ite (.not (.cmp .le (.v 3) (.z 511))) (.ite (.not (.cmp .eq (.v 9) (.z 1))) (.ret (.bool .f)) <|
.ite (.not (.cmp .eq (.v 7) (.z 0))) (.ret (.bool .f)) <|
.ite (.not (.cmp .eq (.v 8) (.z 0))) (.ret (.bool .f)) <|
.ite (.not (.cmp .lt (.v 1) (.z 1152921504606846976))) (.ite (.cmp .eq (.v 6) (.z 1)) (.ret (.bool (.cmp .eq (.v 5) (.z 0)))) <|
.ret (.bool .f)) <|
.ite (.cmp .eq (.v 6) (.z 0)) (.call 13 [.i (some ((-4), 4))] [.i (.v 0), .i (.v 1), .i (.v 2)] <|
.ret (.bool (.cmp .eq (.v 5) (.v 13)))) <|
.ret (.bool .f)) <|
.loop [.i (some ((-4), 5)), .l] [.i (.z (-4)), .l (.nil)] <|
.ite (.cmp .le (.v 13) (.z 4)) (.call 8 [.b] [.i (.v 3), .i (.v 13)] <|
.ite (.v 15) (.lett (.len 14) <|
.ite (.cmp .le (.v 16) (.z 100000)) (.letl (.app 14 [.v 13]) <|
.lett (.add (.v 13) (.z 1)) <|
.again 0 [.i (.v 18), .l (.v 17)]) <|
.bad 113) <|
.lett (.add (.v 13) (.z 1)) <|
.again 0 [.i (.v 16), .l (.v 14)]) <|
.ite (.not (.cmp .eq (.v 9) (.z 0))) (.ret (.bool .f)) <|
.lett (.len 14) <|
.ite (.cmp .lt (.z 0) (.v 15)) (.lett (.nth 14 (.z 0)) <|
.ite (.not (.cmp .eq (.v 7) (.v 16))) (.ret (.bool .f)) <|
.lett (.sub (.v 15) (.z 1)) <|
.ite (.cmp .lt (.v 17) (.v 15)) (.lett (.nth 14 (.v 17)) <|
.ite (.not (.cmp .eq (.v 8) (.v 18))) (.ret (.bool .f)) <|
.ite (.not (.cmp .lt (.v 1) (.z 1152921504606846976))) (.ite (.cmp .eq (.v 6) (.z 1)) (.ret (.bool (.cmp .eq (.v 5) (.z 0)))) <|
.ret (.bool .f)) <|
.ite (.cmp .eq (.v 6) (.z 0)) (.call 13 [.i (some ((-4), 4))] [.i (.v 0), .i (.v 1), .i (.v 2)] <|
.ret (.bool (.cmp .eq (.v 5) (.v 19)))) <|
.ret (.bool .f)) <|
.bad 29) <|
.bad 29) <|
.ite (.not (.cmp .eq (.v 9) (.z 1))) (.ret (.bool .f)) <|
.ite (.not (.cmp .eq (.v 7) (.z 0))) (.ret (.bool .f)) <|
.ite (.not (.cmp .eq (.v 8) (.z 0))) (.ret (.bool .f)) <|
.ite (.not (.cmp .lt (.v 1) (.z 1152921504606846976))) (.ite (.cmp .eq (.v 6) (.z 1)) (.ret (.bool (.cmp .eq (.v 5) (.z 0)))) <|
.ret (.bool .f)) <|
.ite (.cmp .eq (.v 6) (.z 0)) (.call 13 [.i (some ((-4), 4))] [.i (.v 0), .i (.v 1), .i (.v 2)] <|
.ret (.bool (.cmp .eq (.v 5) (.v 13)))) <|
.ret (.bool .f)
noncomputable def lzt_cx : Ctx := { tys := tys, fns := fns, mets := mets, sps := [(5, zClass_sp), (7, zhas_sp), (6, zends_sp), (9, zal_sp), (13, r13class_sp), (8, r13has_sp)], anns := [((11, 3), { slots := [4], cells := [], ivs := [some ((-4), 5)], lsts := [3], elem := 3 })], trys := [] }
def lzt_ivs : List (Option (Int × Int)) := [some ((-9223372036854775808), 9223372036854775807), some (0, 18446744073709551615), some (0, 18446744073709551615), some ((-9223372036854775808), 9223372036854775807), some ((-9223372036854775808), 9223372036854775807)]
set_option maxRecDepth 100000 in
theorem lzt_walk : runFn lzt_cx 3000 3 Tryd.f3 lzt_sp.args lzt_ivs = lzt_tree := by kernel_rfl
noncomputable def lzt_M : Nat → SpecSem
  | 5 => zClass_sem
  | 7 => zhas_sem
  | 6 => zends_sem
  | 9 => zal_sem
  | 13 => r13class_sem
  | 8 => r13has_sem
  | _ => noSem
theorem lzt_M5 : lzt_M 5 = zClass_sem := rfl
theorem lzt_M7 : lzt_M 7 = zhas_sem := rfl
theorem lzt_M6 : lzt_M 6 = zends_sem := rfl
theorem lzt_M9 : lzt_M 9 = zal_sem := rfl
theorem lzt_M13 : lzt_M 13 = r13class_sem := rfl
theorem lzt_M8 : lzt_M 8 = r13has_sem := rfl
theorem lzt_cxok : CxOK Tryd.prog lzt_cx lzt_M tzG := ⟨tysOK, fnsOK, spCons zClass_ok <| spCons zhas_ok <| spCons zends_ok <| spCons zal_ok <| spCons r13class_ok <| spCons r13has_ok <| fun _ _ h => spNil h, mixedOK, fun _ _ h => trNil h, fun _ _ h => atNil h, metsOK⟩
set_option maxRecDepth 100000 in
set_option maxHeartbeats 8000000 in
theorem lzt_den (R RP : Value → Prop) (F : Ex → St → Js → Env → Prop) (x0 : Int) (x1 : Int) (x2 : Int) (x3 : Int) (x4 : Int) : Tree.den lzt_M R RP F lzt_tree [] [(.i x0), (.i x1), (.i x2), (.i x3), (.i x4)] = (
  (zClass_sem.pre [(.i x0), (.i x1), (.i x2)]) ∧ (
∀ x5 : Int, x5 = (Cv.int (Env.get (zClass_sem.out [(.i x0), (.i x1), (.i x2)]) 0)) → (-4 : Int) ≤ x5 → x5 ≤ (4 : Int) →
∀ x6 : Int, x6 = (Cv.int (Env.get (zClass_sem.out [(.i x0), (.i x1), (.i x2)]) 1)) → (0 : Int) ≤ x6 → x6 ≤ (1 : Int) →
(zends_sem.pre [(.i x3)]) ∧ (
∀ x7 : Int, x7 = (Cv.int (Env.get (zends_sem.out [(.i x3)]) 0)) → (-9223372036854775808 : Int) ≤ x7 → x7 ≤ (9223372036854775807 : Int) →
∀ x8 : Int, x8 = (Cv.int (Env.get (zends_sem.out [(.i x3)]) 1)) → (-9223372036854775808 : Int) ≤ x8 → x8 ≤ (9223372036854775807 : Int) →
∀ x9 : Int, x9 = (Cv.int (Env.get (zends_sem.out [(.i x3)]) 2)) → (-9223372036854775808 : Int) ≤ x9 → x9 ≤ (9223372036854775807 : Int) →
(zhas_sem.pre [(.i x3), (.i x4)]) ∧ (
(r13has_sem.pre [(.i x3), (.i x4)]) ∧ (
((!((Cv.bool (Env.get (zhas_sem.out [(.i x3), (.i x4)]) 0)) == (Cv.bool (Env.get (r13has_sem.out [(.i x3), (.i x4)]) 0)))) = true → R (Value.bool false)) ∧ ((!((Cv.bool (Env.get (zhas_sem.out [(.i x3), (.i x4)]) 0)) == (Cv.bool (Env.get (r13has_sem.out [(.i x3), (.i x4)]) 0)))) = false → (zal_sem.pre []) ∧ (
((!(Cv.bool (Env.get (zal_sem.out []) 0))) = true → R (Value.bool false)) ∧ ((!(Cv.bool (Env.get (zal_sem.out []) 0))) = false → ((Cmp.den .le (1 : Int) x3) = true → ((!(Cmp.den .le x3 (511 : Int))) = true → ((!(Cmp.den .eq x9 (1 : Int))) = true → R (Value.bool false)) ∧ ((!(Cmp.den .eq x9 (1 : Int))) = false → ((!(Cmp.den .eq x7 (0 : Int))) = true → R (Value.bool false)) ∧ ((!(Cmp.den .eq x7 (0 : Int))) = false → ((!(Cmp.den .eq x8 (0 : Int))) = true → R (Value.bool false)) ∧ ((!(Cmp.den .eq x8 (0 : Int))) = false → ((!(Cmp.den .lt x1 (1152921504606846976 : Int))) = true → ((Cmp.den .eq x6 (1 : Int)) = true → R (Value.bool (Cmp.den .eq x5 (0 : Int)))) ∧ ((Cmp.den .eq x6 (1 : Int)) = false → R (Value.bool false))) ∧ ((!(Cmp.den .lt x1 (1152921504606846976 : Int))) = false → ((Cmp.den .eq x6 (0 : Int)) = true → (r13class_sem.pre [(.i x0), (.i x1), (.i x2)]) ∧ (
∀ x13 : Int, x13 = (Cv.int (Env.get (r13class_sem.out [(.i x0), (.i x1), (.i x2)]) 0)) → (-4 : Int) ≤ x13 → x13 ≤ (4 : Int) →
R (Value.bool (Cmp.den .eq x5 x13)))) ∧ ((Cmp.den .eq x6 (0 : Int)) = false → R (Value.bool false))))))) ∧ ((!(Cmp.den .le x3 (511 : Int))) = false → ∃ (I0 : List Cv → Prop) (mu0 : List Cv → Nat), Fits [.i (some ((-4), (5))), .l] [(.i (-4 : Int)), (.l (([] : List Int)))] ∧ I0 [(.i (-4 : Int)), (.l (([] : List Int)))] ∧ (
∀ x13 : Int, (-4 : Int) ≤ x13 → x13 ≤ (5 : Int) → ∀ x14 : List Int, InI x14 → I0 [.i x13, .l x14] →
((Cmp.den .le x13 (4 : Int)) = true → (r13has_sem.pre [(.i x3), (.i x13)]) ∧ (
((Cv.bool (Env.get (r13has_sem.out [(.i x3), (.i x13)]) 0)) = true → ∀ x16 : Int, x16 = ((List.length x14 : Int)) →
((Cmp.den .le x16 (100000 : Int)) = true → ∀ x17 : List Int, x17 = (x14 ++ ([x13] : List Int)) →
∀ x18 : Int, x18 = (x13 + (1 : Int)) →
Fits [.i (some ((-4), (5))), .l] [(.i x18), (.l (x17))] ∧ I0 [(.i x18), (.l (x17))] ∧ mu0 [(.i x18), (.l (x17))] < mu0 [.i x13, .l x14]) ∧ ((Cmp.den .le x16 (100000 : Int)) = false → False)) ∧ ((Cv.bool (Env.get (r13has_sem.out [(.i x3), (.i x13)]) 0)) = false → ∀ x16 : Int, x16 = (x13 + (1 : Int)) →
Fits [.i (some ((-4), (5))), .l] [(.i x16), (.l (x14))] ∧ I0 [(.i x16), (.l (x14))] ∧ mu0 [(.i x16), (.l (x14))] < mu0 [.i x13, .l x14]))) ∧ ((Cmp.den .le x13 (4 : Int)) = false → ((!(Cmp.den .eq x9 (0 : Int))) = true → R (Value.bool false)) ∧ ((!(Cmp.den .eq x9 (0 : Int))) = false → ∀ x15 : Int, x15 = ((List.length x14 : Int)) →
((Cmp.den .lt (0 : Int) x15) = true → ∀ x16 : Int, x16 = (List.getD x14 (Int.toNat (0 : Int)) 0) →
((!(Cmp.den .eq x7 x16)) = true → R (Value.bool false)) ∧ ((!(Cmp.den .eq x7 x16)) = false → ∀ x17 : Int, x17 = (x15 - (1 : Int)) →
((Cmp.den .lt x17 x15) = true → ∀ x18 : Int, x18 = (List.getD x14 (Int.toNat x17) 0) →
((!(Cmp.den .eq x8 x18)) = true → R (Value.bool false)) ∧ ((!(Cmp.den .eq x8 x18)) = false → ((!(Cmp.den .lt x1 (1152921504606846976 : Int))) = true → ((Cmp.den .eq x6 (1 : Int)) = true → R (Value.bool (Cmp.den .eq x5 (0 : Int)))) ∧ ((Cmp.den .eq x6 (1 : Int)) = false → R (Value.bool false))) ∧ ((!(Cmp.den .lt x1 (1152921504606846976 : Int))) = false → ((Cmp.den .eq x6 (0 : Int)) = true → (r13class_sem.pre [(.i x0), (.i x1), (.i x2)]) ∧ (
∀ x19 : Int, x19 = (Cv.int (Env.get (r13class_sem.out [(.i x0), (.i x1), (.i x2)]) 0)) → (-4 : Int) ≤ x19 → x19 ≤ (4 : Int) →
R (Value.bool (Cmp.den .eq x5 x19)))) ∧ ((Cmp.den .eq x6 (0 : Int)) = false → R (Value.bool false))))) ∧ ((Cmp.den .lt x17 x15) = false → False))) ∧ ((Cmp.den .lt (0 : Int) x15) = false → False)))))) ∧ ((Cmp.den .le (1 : Int) x3) = false → ((!(Cmp.den .eq x9 (1 : Int))) = true → R (Value.bool false)) ∧ ((!(Cmp.den .eq x9 (1 : Int))) = false → ((!(Cmp.den .eq x7 (0 : Int))) = true → R (Value.bool false)) ∧ ((!(Cmp.den .eq x7 (0 : Int))) = false → ((!(Cmp.den .eq x8 (0 : Int))) = true → R (Value.bool false)) ∧ ((!(Cmp.den .eq x8 (0 : Int))) = false → ((!(Cmp.den .lt x1 (1152921504606846976 : Int))) = true → ((Cmp.den .eq x6 (1 : Int)) = true → R (Value.bool (Cmp.den .eq x5 (0 : Int)))) ∧ ((Cmp.den .eq x6 (1 : Int)) = false → R (Value.bool false))) ∧ ((!(Cmp.den .lt x1 (1152921504606846976 : Int))) = false → ((Cmp.den .eq x6 (0 : Int)) = true → (r13class_sem.pre [(.i x0), (.i x1), (.i x2)]) ∧ (
∀ x13 : Int, x13 = (Cv.int (Env.get (r13class_sem.out [(.i x0), (.i x1), (.i x2)]) 0)) → (-4 : Int) ≤ x13 → x13 ≤ (4 : Int) →
R (Value.bool (Cmp.den .eq x5 x13)))) ∧ ((Cmp.den .eq x6 (0 : Int)) = false → R (Value.bool false))))))))))))))) := by kernel_rfl

def lzt_sem : SpecSem := { pre := fun cs => match cs with | [.i d, .i v1, .i v0, .i m, .i c] => IsI d ∧ IsU v1 ∧ IsU v0 ∧ IsI m ∧ IsI c | _ => False, out := fun cs => match cs with | [.i d, .i v1, .i v0, .i m, .i c] => [.b true] | _ => [], g := tzG }
set_option maxRecDepth 10000 in
set_option maxHeartbeats 16000000 in
theorem lzt_ok : SpecOK Tryd.prog 3 lzt_sp lzt_sem := by
  refine spec_of_tree lzt_cxok Tryd.func3 (by kernel_rfl) (by kernel_rfl) lzt_walk rfl ?_
  intro cs hpre
  match cs, hpre with
  | [.i d, .i v1, .i v0, .i m, .i c], ⟨j_d, j_v1, j_v0, j_m, j_c⟩ =>
    have h_d := j_d
    unfold IsI at h_d
    have h_v1 := j_v1
    unfold IsU at h_v1
    have h_v0 := j_v0
    unfold IsU at h_v0
    have h_m := j_m
    unfold IsI at h_m
    have h_c := j_c
    unfold IsI at h_c
    refine ⟨rfl, IvsB.ok (by simp only [lzt_ivs, IvsB, Cv.int, and_true] <;> omega), ?_, ?_⟩
    · simp only [lzt_sem, lzt_sp, Fits]
    · rw [lzt_den]
      have g1 : ((1 : Int) = 0) = False := by simp
      have g2 : ((0 : Int) = 1) = False := by simp
      have n1 : (v1 < 1152921504606846976) = ¬ (1152921504606846976 ≤ v1) := propext ⟨fun h => by omega, fun h => by omega⟩
      have n2 : (m ≤ 511) = ¬ (511 < m) := propext ⟨fun h => by omega, fun h => by omega⟩
      have n3 : (1 ≤ m) = ¬ (m < 1) := propext ⟨fun h => by omega, fun h => by omega⟩
      rcases Decidable.em (1152921504606846976 ≤ v1) with hv | hv <;> rcases Decidable.em (m < 1) with h0 | h0
      · simp only [lzt_sem, lzt_sp, zClass_sem, zhas_sem, zends_sem, zal_sem, r13class_sem, r13has_sem, lzt_den, zClass_sem, zhas_sem, zends_sem, zal_sem, r13class_sem, r13has_sem, Tree.den, LE.den, Cv.list, placeA, List.getElem?_cons_zero, List.getElem?_cons_succ, IE.den, BE.den, At.den, CA.den, Env.get, Cv.int, Cv.bool, List.cons_append, List.nil_append, List.map_cons, List.map_nil, bindRes, bindEq, Fits, SV.den, denL, place, placeL, eq_t, eq_f, lt_t, lt_f, le_t, le_f, beq_iff_eq, beq_eq_false_iff_ne, ne_eq, reduceCtorEq, b_dec, decide_eq_true_eq, decide_eq_false_iff_not, Bool.not_eq_false', Bool.or_eq_true, Bool.or_eq_false_iff, Bool.and_eq_false_iff, true_iff, false_iff, Bool.false_eq_true, Bool.not_eq_true', Bool.and_eq_true, Bool.not_true, Bool.not_false, List.cons.injEq, Cv.i.injEq, Cv.b.injEq, and_true, true_and, agg_inj, tup_inj, Value.int.injEq, Value.bool.injEq, j_d, j_v1, j_v0, j_m, j_c, hv, h0, n1, n2, n3, g1, g2, forall_eq, eq_self, if_true, if_false, true_and, and_true, false_and, and_false, true_or, or_true, false_or, or_false, true_iff, iff_true, false_iff, iff_false, not_true_eq_false, not_false_eq_true, true_implies, false_implies, implies_true, forall_const, decide_true, decide_false, reduceCtorEq]
      · rcases Decidable.em (511 < m) with h1 | h1
        · simp only [lzt_sem, lzt_sp, zClass_sem, zhas_sem, zends_sem, zal_sem, r13class_sem, r13has_sem, lzt_den, zClass_sem, zhas_sem, zends_sem, zal_sem, r13class_sem, r13has_sem, Tree.den, LE.den, Cv.list, placeA, List.getElem?_cons_zero, List.getElem?_cons_succ, IE.den, BE.den, At.den, CA.den, Env.get, Cv.int, Cv.bool, List.cons_append, List.nil_append, List.map_cons, List.map_nil, bindRes, bindEq, Fits, SV.den, denL, place, placeL, eq_t, eq_f, lt_t, lt_f, le_t, le_f, beq_iff_eq, beq_eq_false_iff_ne, ne_eq, reduceCtorEq, b_dec, decide_eq_true_eq, decide_eq_false_iff_not, Bool.not_eq_false', Bool.or_eq_true, Bool.or_eq_false_iff, Bool.and_eq_false_iff, true_iff, false_iff, Bool.false_eq_true, Bool.not_eq_true', Bool.and_eq_true, Bool.not_true, Bool.not_false, List.cons.injEq, Cv.i.injEq, Cv.b.injEq, and_true, true_and, agg_inj, tup_inj, Value.int.injEq, Value.bool.injEq, j_d, j_v1, j_v0, j_m, j_c, hv, h0, h1, n1, n2, n3, g1, g2, forall_eq, eq_self, if_true, if_false, true_and, and_true, false_and, and_false, true_or, or_true, false_or, or_false, true_iff, iff_true, false_iff, iff_false, not_true_eq_false, not_false_eq_true, true_implies, false_implies, implies_true, forall_const, decide_true, decide_false, reduceCtorEq]
        · simp only [lzt_sem, lzt_sp, zClass_sem, zhas_sem, zends_sem, zal_sem, r13class_sem, r13has_sem, lzt_den, zClass_sem, zhas_sem, zends_sem, zal_sem, r13class_sem, r13has_sem, Tree.den, LE.den, Cv.list, placeA, List.getElem?_cons_zero, List.getElem?_cons_succ, IE.den, BE.den, At.den, CA.den, Env.get, Cv.int, Cv.bool, List.cons_append, List.nil_append, List.map_cons, List.map_nil, bindRes, bindEq, Fits, SV.den, denL, place, placeL, eq_t, eq_f, lt_t, lt_f, le_t, le_f, beq_iff_eq, beq_eq_false_iff_ne, ne_eq, reduceCtorEq, b_dec, decide_eq_true_eq, decide_eq_false_iff_not, Bool.not_eq_false', Bool.or_eq_true, Bool.or_eq_false_iff, Bool.and_eq_false_iff, true_iff, false_iff, Bool.false_eq_true, Bool.not_eq_true', Bool.and_eq_true, Bool.not_true, Bool.not_false, List.cons.injEq, Cv.i.injEq, Cv.b.injEq, and_true, true_and, agg_inj, tup_inj, Value.int.injEq, Value.bool.injEq, j_d, j_v1, j_v0, j_m, j_c, hv, h0, h1, n1, n2, n3, g1, g2, forall_eq, eq_self, if_true, if_false, true_and, and_true, false_and, and_false, true_or, or_true, false_or, or_false, true_iff, iff_true, false_iff, iff_false, not_true_eq_false, not_false_eq_true, true_implies, false_implies, implies_true, forall_const, decide_true, decide_false, reduceCtorEq]
          intros
          refine cls_loop (by omega) (by omega) ?_
          obtain ⟨z1, z2, z3⟩ := cls_ends (m := m) (by omega) (by omega)
          have z0 : Int.toNat 0 = 0 := rfl
          have z4 : (((clsA m 9).length : Int) ≤ 0) = False := eq_false (by omega)
          have z5 : (((clsA m 9).length : Int) ≤ ((clsA m 9).length : Int) - 1) = False := eq_false (by omega)
          simp only [z0, z2, z3, z4, z5, eq_self, if_true, if_false, true_and, and_true, false_and, and_false, true_or, or_true, false_or, or_false, true_iff, iff_true, false_iff, iff_false, not_true_eq_false, not_false_eq_true, true_implies, false_implies, implies_true, forall_const, decide_true, decide_false, reduceCtorEq]
      · simp only [lzt_sem, lzt_sp, zClass_sem, zhas_sem, zends_sem, zal_sem, r13class_sem, r13has_sem, lzt_den, zClass_sem, zhas_sem, zends_sem, zal_sem, r13class_sem, r13has_sem, Tree.den, LE.den, Cv.list, placeA, List.getElem?_cons_zero, List.getElem?_cons_succ, IE.den, BE.den, At.den, CA.den, Env.get, Cv.int, Cv.bool, List.cons_append, List.nil_append, List.map_cons, List.map_nil, bindRes, bindEq, Fits, SV.den, denL, place, placeL, eq_t, eq_f, lt_t, lt_f, le_t, le_f, beq_iff_eq, beq_eq_false_iff_ne, ne_eq, reduceCtorEq, b_dec, decide_eq_true_eq, decide_eq_false_iff_not, Bool.not_eq_false', Bool.or_eq_true, Bool.or_eq_false_iff, Bool.and_eq_false_iff, true_iff, false_iff, Bool.false_eq_true, Bool.not_eq_true', Bool.and_eq_true, Bool.not_true, Bool.not_false, List.cons.injEq, Cv.i.injEq, Cv.b.injEq, and_true, true_and, agg_inj, tup_inj, Value.int.injEq, Value.bool.injEq, j_d, j_v1, j_v0, j_m, j_c, hv, h0, n1, n2, n3, g1, g2, forall_eq, eq_self, if_true, if_false, true_and, and_true, false_and, and_false, true_or, or_true, false_or, or_false, true_iff, iff_true, false_iff, iff_false, not_true_eq_false, not_false_eq_true, true_implies, false_implies, implies_true, forall_const, decide_true, decide_false, reduceCtorEq]
      · rcases Decidable.em (511 < m) with h1 | h1
        · simp only [lzt_sem, lzt_sp, zClass_sem, zhas_sem, zends_sem, zal_sem, r13class_sem, r13has_sem, lzt_den, zClass_sem, zhas_sem, zends_sem, zal_sem, r13class_sem, r13has_sem, Tree.den, LE.den, Cv.list, placeA, List.getElem?_cons_zero, List.getElem?_cons_succ, IE.den, BE.den, At.den, CA.den, Env.get, Cv.int, Cv.bool, List.cons_append, List.nil_append, List.map_cons, List.map_nil, bindRes, bindEq, Fits, SV.den, denL, place, placeL, eq_t, eq_f, lt_t, lt_f, le_t, le_f, beq_iff_eq, beq_eq_false_iff_ne, ne_eq, reduceCtorEq, b_dec, decide_eq_true_eq, decide_eq_false_iff_not, Bool.not_eq_false', Bool.or_eq_true, Bool.or_eq_false_iff, Bool.and_eq_false_iff, true_iff, false_iff, Bool.false_eq_true, Bool.not_eq_true', Bool.and_eq_true, Bool.not_true, Bool.not_false, List.cons.injEq, Cv.i.injEq, Cv.b.injEq, and_true, true_and, agg_inj, tup_inj, Value.int.injEq, Value.bool.injEq, j_d, j_v1, j_v0, j_m, j_c, hv, h0, h1, n1, n2, n3, g1, g2, forall_eq, eq_self, if_true, if_false, true_and, and_true, false_and, and_false, true_or, or_true, false_or, or_false, true_iff, iff_true, false_iff, iff_false, not_true_eq_false, not_false_eq_true, true_implies, false_implies, implies_true, forall_const, decide_true, decide_false, reduceCtorEq]
        · simp only [lzt_sem, lzt_sp, zClass_sem, zhas_sem, zends_sem, zal_sem, r13class_sem, r13has_sem, lzt_den, zClass_sem, zhas_sem, zends_sem, zal_sem, r13class_sem, r13has_sem, Tree.den, LE.den, Cv.list, placeA, List.getElem?_cons_zero, List.getElem?_cons_succ, IE.den, BE.den, At.den, CA.den, Env.get, Cv.int, Cv.bool, List.cons_append, List.nil_append, List.map_cons, List.map_nil, bindRes, bindEq, Fits, SV.den, denL, place, placeL, eq_t, eq_f, lt_t, lt_f, le_t, le_f, beq_iff_eq, beq_eq_false_iff_ne, ne_eq, reduceCtorEq, b_dec, decide_eq_true_eq, decide_eq_false_iff_not, Bool.not_eq_false', Bool.or_eq_true, Bool.or_eq_false_iff, Bool.and_eq_false_iff, true_iff, false_iff, Bool.false_eq_true, Bool.not_eq_true', Bool.and_eq_true, Bool.not_true, Bool.not_false, List.cons.injEq, Cv.i.injEq, Cv.b.injEq, and_true, true_and, agg_inj, tup_inj, Value.int.injEq, Value.bool.injEq, j_d, j_v1, j_v0, j_m, j_c, hv, h0, h1, n1, n2, n3, g1, g2, forall_eq, eq_self, if_true, if_false, true_and, and_true, false_and, and_false, true_or, or_true, false_or, or_false, true_iff, iff_true, false_iff, iff_false, not_true_eq_false, not_false_eq_true, true_implies, false_implies, implies_true, forall_const, decide_true, decide_false, reduceCtorEq]
          intros
          refine cls_loop (by omega) (by omega) ?_
          obtain ⟨z1, z2, z3⟩ := cls_ends (m := m) (by omega) (by omega)
          have z0 : Int.toNat 0 = 0 := rfl
          have z4 : (((clsA m 9).length : Int) ≤ 0) = False := eq_false (by omega)
          have z5 : (((clsA m 9).length : Int) ≤ ((clsA m 9).length : Int) - 1) = False := eq_false (by omega)
          simp only [z0, z2, z3, z4, z5, eq_self, if_true, if_false, true_and, and_true, false_and, and_false, true_or, or_true, false_or, or_false, true_iff, iff_true, false_iff, iff_false, not_true_eq_false, not_false_eq_true, true_implies, false_implies, implies_true, forall_const, decide_true, decide_false, reduceCtorEq]
end Go.Proofs.YtehoiibnemjkaaaDoor.X
