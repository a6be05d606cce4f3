/-
  NelsonTells holds of every input.
-/
import Derived.Test.YtmnpeneplobpdaaDoorSxNeM
namespace Go.Proofs.YtmnpeneplobpdaaDoor.X
open Go Go.SX Go.RowKit
set_option linter.unusedVariables false
set_option linter.unusedSimpArgs false














/-- the window behind a push -/
def pushV (v : List Int) (m : Int) : List Int := if v.length < 15 then v ++ [m] else v.drop 1 ++ [m]
def pushT (v : List Int) (i : Nat) : List Int := if v.length < 15 then v.take i else (v.take i).drop 1
theorem pushW {v : List Int} {m : Int} (h : v.length ≤ 15) : List.take (((v ++ [m]).length : Int).toNat - (if 0 < ((v ++ [m]).length : Int) - 15 then ((v ++ [m]).length : Int) - 15 else 0).toNat) (List.drop (if 0 < ((v ++ [m]).length : Int) - 15 then ((v ++ [m]).length : Int) - 15 else 0).toNat (v ++ [m])) = pushV v m := by
  have e : ((v ++ [m]).length : Int) = (v.length : Int) + 1 := by simp
  rw [e]
  unfold pushV
  by_cases q : v.length < 15
  · rw [if_neg (by omega), if_pos q, show Int.toNat 0 = 0 from rfl, List.drop_zero, List.take_of_length_le (by rw [List.length_append, List.length_singleton]; omega)]
  · rw [if_pos (by omega), if_neg q, show ((v.length : Int) + 1 - 15).toNat = 1 by omega, List.drop_append_of_le_length (by omega), List.take_of_length_le (by rw [List.length_append, List.length_drop, List.length_singleton]; omega)]
theorem pushV_inI {v : List Int} {m : Int} (h : InI v) (hm : IsI m) : InI (pushV v m) := fun y hy => by
  have k : y ∈ v ∨ y = m := by
    unfold pushV at hy
    split at hy <;> rw [List.mem_append, List.mem_singleton] at hy
    · exact hy
    · exact hy.imp List.mem_of_mem_drop id
  rcases k with k | rfl
  · exact h y k
  · exact hm
theorem pushV_len (v : List Int) (m : Int) : (pushV v m).length ≤ v.length + 1 := by
  unfold pushV; split
  · rw [List.length_append, List.length_singleton]; omega
  · rw [List.length_append, List.length_drop, List.length_singleton]; omega
theorem pushT_zero (v : List Int) : pushT v 0 = [] := by unfold pushT; split <;> simp
theorem pushT_len (v : List Int) (i : Nat) : (pushT v i).length ≤ v.length := by
  unfold pushT; split
  · rw [List.length_take]; omega
  · rw [List.length_drop, List.length_take]; omega
theorem pushT_inI {v : List Int} (h : InI v) (i : Nat) : InI (pushT v i) := fun y hy => by
  unfold pushT at hy
  split at hy
  · exact h y (List.mem_of_mem_take hy)
  · exact h y (List.mem_of_mem_take (List.mem_of_mem_drop hy))
theorem pushT_step {v : List Int} {i : Nat} (h : v.length < 15 ∨ 1 ≤ i) (hi : i < v.length) : pushT v i ++ [v.getD i 0] = pushT v (i + 1) := by
  unfold pushT
  by_cases q : v.length < 15
  · rw [if_pos q, if_pos q, take_snoc hi]
  · rw [if_neg q, if_neg q, take_snoc hi, List.drop_append_of_le_length (by rw [List.length_take]; omega)]
def lntl_sp : SpecSh := { args := [(.lst 0), (.int .i64 (.z 0))], res := (.bool .f), sh := [.b] }
set_option maxRecDepth 100000 in
def lntl_tree : Tree :=
.lett (.len 0) <|
.lett (.ite (.cmp .lt (.z 17) (.v 2)) (.z 17) (.v 2)) <|
.ite (.cmp .le (.v 3) (.v 2)) (.letl (.sub 0 (.z 0) (.v 3)) <|
.call 14 [.i (some (0, 2)), .i (some (0, 2)), .i (some (0, 2)), .i (some (0, 2)), .i (some (0, 2)), .i (some (0, 2)), .i (some (0, 2)), .i (some (0, 2)), .i (some (0, 1))] [.l (.v 4)] <|
.call 24 [.b] [.l (.v 4)] <|
.ite (.not (.v 14)) (.call 11 [.b] [] <|
.ite (.not (.v 15)) (.ret (.bool .f)) <|
.call 17 [.b] [.l (.v 4)] <|
.ite (.not (.v 16)) (.ite (.cmp .eq (.v 13) (.z 1)) (.ite (.and (.cmp .eq (.v 5) (.z 0)) (.and (.cmp .eq (.v 6) (.z 0)) (.and (.cmp .eq (.v 7) (.z 0)) (.and (.cmp .eq (.v 8) (.z 0)) (.and (.cmp .eq (.v 9) (.z 0)) (.and (.cmp .eq (.v 10) (.z 0)) (.and (.cmp .eq (.v 11) (.z 0)) (.cmp .eq (.v 12) (.z 0))))))))) (.ret (.bool (.cmp .eq (.z 0) (.z 0)))) <|
.ret (.bool .f)) <|
.ret (.bool .f)) <|
.call 18 [.b] [.i (.v 1)] <|
.ite (.not (.v 17)) (.ite (.cmp .eq (.v 13) (.z 0)) (.call 21 [.i (some (0, 2)), .i (some (0, 2)), .i (some (0, 2)), .i (some (0, 2)), .i (some (0, 2)), .i (some (0, 2)), .i (some (0, 2)), .i (some (0, 2))] [.l (.v 4)] <|
.ret (.bool (.and (.cmp .eq (.v 5) (.v 18)) (.and (.cmp .eq (.v 6) (.v 19)) (.and (.cmp .eq (.v 7) (.v 20)) (.and (.cmp .eq (.v 8) (.v 21)) (.and (.cmp .eq (.v 9) (.v 22)) (.and (.cmp .eq (.v 10) (.v 23)) (.and (.cmp .eq (.v 11) (.v 24)) (.cmp .eq (.v 12) (.v 25))))))))))) <|
.ret (.bool .f)) <|
.ret (.bool .f)) <|
.call 24 [.b] [.l (.lit [.v 1])] <|
.ite (.not (.v 15)) (.call 11 [.b] [] <|
.ite (.not (.v 16)) (.ret (.bool .f)) <|
.call 17 [.b] [.l (.v 4)] <|
.ite (.not (.v 17)) (.ite (.cmp .eq (.v 13) (.z 1)) (.ite (.and (.cmp .eq (.v 5) (.z 0)) (.and (.cmp .eq (.v 6) (.z 0)) (.and (.cmp .eq (.v 7) (.z 0)) (.and (.cmp .eq (.v 8) (.z 0)) (.and (.cmp .eq (.v 9) (.z 0)) (.and (.cmp .eq (.v 10) (.z 0)) (.and (.cmp .eq (.v 11) (.z 0)) (.cmp .eq (.v 12) (.z 0))))))))) (.ret (.bool (.cmp .eq (.z 0) (.z 0)))) <|
.ret (.bool .f)) <|
.ret (.bool .f)) <|
.call 18 [.b] [.i (.v 1)] <|
.ite (.not (.v 18)) (.ite (.cmp .eq (.v 13) (.z 0)) (.call 21 [.i (some (0, 2)), .i (some (0, 2)), .i (some (0, 2)), .i (some (0, 2)), .i (some (0, 2)), .i (some (0, 2)), .i (some (0, 2)), .i (some (0, 2))] [.l (.v 4)] <|
.ret (.bool (.and (.cmp .eq (.v 5) (.v 19)) (.and (.cmp .eq (.v 6) (.v 20)) (.and (.cmp .eq (.v 7) (.v 21)) (.and (.cmp .eq (.v 8) (.v 22)) (.and (.cmp .eq (.v 9) (.v 23)) (.and (.cmp .eq (.v 10) (.v 24)) (.and (.cmp .eq (.v 11) (.v 25)) (.cmp .eq (.v 12) (.v 26))))))))))) <|
.ret (.bool .f)) <|
.ret (.bool .f)) <|
.call 27 [.l] [.l (.v 4)] <|
.lett (.len 16) <|
.ite (.cmp .le (.v 17) (.z 100000)) (.letl (.app 16 [.v 1]) <|
.lett (.len 18) <|
.lett (.sub (.v 19) (.z 15)) <|
.lett (.ite (.cmp .lt (.z 0) (.v 20)) (.v 20) (.z 0)) <|
.ite (.cmp .le (.v 21) (.v 19)) (.ite (.cmp .le (.v 19) (.v 19)) (.letl (.sub 18 (.v 21) (.v 19)) <|
.call 11 [.b] [] <|
.ite (.not (.v 23)) (.ret (.bool .f)) <|
.call 17 [.b] [.l (.v 4)] <|
.ite (.not (.v 24)) (.ite (.cmp .eq (.v 13) (.z 1)) (.ret (.bool .f)) <|
.ret (.bool .f)) <|
.call 18 [.b] [.i (.v 1)] <|
.ite (.not (.v 25)) (.ret (.bool .f)) <|
.lett (.len 4) <|
.loop [.i (some (0, 100000)), .l] [.i (.z 0), .l (.nil)] <|
.ite (.cmp .lt (.v 27) (.v 26)) (.lett (.nth 4 (.v 27)) <|
.ite (.cmp .lt (.z 0) (.v 27)) (.lett (.len 28) <|
.ite (.cmp .le (.v 30) (.z 100000)) (.letl (.app 28 [.v 29]) <|
.lett (.add (.v 27) (.z 1)) <|
.again 0 [.i (.v 32), .l (.v 31)]) <|
.bad 113) <|
.ite (.cmp .lt (.v 26) (.z 15)) (.lett (.len 28) <|
.ite (.cmp .le (.v 30) (.z 100000)) (.letl (.app 28 [.v 29]) <|
.again 0 [.i (.z 1), .l (.v 31)]) <|
.bad 113) <|
.again 0 [.i (.z 1), .l (.v 28)]) <|
.lett (.len 28) <|
.ite (.cmp .le (.v 29) (.z 100000)) (.letl (.app 28 [.v 1]) <|
.call 19 [.b] [.l (.v 22), .l (.v 30)] <|
.ite (.not (.v 31)) (.ret (.bool .f)) <|
.ite (.cmp .eq (.v 13) (.z 0)) (.call 21 [.i (some (0, 2)), .i (some (0, 2)), .i (some (0, 2)), .i (some (0, 2)), .i (some (0, 2)), .i (some (0, 2)), .i (some (0, 2)), .i (some (0, 2))] [.l (.v 4)] <|
.ret (.bool (.and (.cmp .eq (.v 5) (.v 32)) (.and (.cmp .eq (.v 6) (.v 33)) (.and (.cmp .eq (.v 7) (.v 34)) (.and (.cmp .eq (.v 8) (.v 35)) (.and (.cmp .eq (.v 9) (.v 36)) (.and (.cmp .eq (.v 10) (.v 37)) (.and (.cmp .eq (.v 11) (.v 38)) (.cmp .eq (.v 12) (.v 39))))))))))) <|
.ret (.bool .f)) <|
.bad 113) <|
.bad 120) <|
.bad 121) <|
.bad 113) <|
.bad 120
noncomputable def lntl_cx : Ctx := { tys := tys, fns := fns, mets := mets, sps := [(14, ntell_sp), (24, nmay_sp), (11, nal_sp), (18, r13mask_sp), (17, r14masks_sp), (19, r10ints_sp), (21, r14tell_sp)], anns := [((20, 3), { slots := [11], cells := [], ivs := [some (0, 100000)], lsts := [5], elem := 3 })], trys := [], lss := [(27, clone_ls)] }
def lntl_ivs : List (Option (Int × Int)) := [none, some ((-9223372036854775808), 9223372036854775807)]
set_option maxRecDepth 100000 in
theorem lntl_walk : runFn lntl_cx 3000 6 Tryd.f6 lntl_sp.args lntl_ivs = lntl_tree := by kernel_rfl
noncomputable def lntl_M : Nat → SpecSem
  | 14 => ntell_sem
  | 24 => nmay_sem
  | 11 => nal_sem
  | 18 => r13mask_sem
  | 17 => r14masks_sem
  | 19 => r10ints_sem
  | 21 => r14tell_sem
  | 27 => clone_sem
  | _ => noSem
theorem lntl_M14 : lntl_M 14 = ntell_sem := rfl
theorem lntl_M24 : lntl_M 24 = nmay_sem := rfl
theorem lntl_M11 : lntl_M 11 = nal_sem := rfl
theorem lntl_M18 : lntl_M 18 = r13mask_sem := rfl
theorem lntl_M17 : lntl_M 17 = r14masks_sem := rfl
theorem lntl_M19 : lntl_M 19 = r10ints_sem := rfl
theorem lntl_M21 : lntl_M 21 = r14tell_sem := rfl
theorem lntl_M27 : lntl_M 27 = clone_sem := rfl
theorem lntl_cxok : CxOK Tryd.prog lntl_cx lntl_M tzG := ⟨tysOK, fnsOK, spCons ntell_ok <| spCons nmay_ok <| spCons nal_ok <| spCons r13mask_ok <| spCons r14masks_ok <| spCons r10ints_ok <| spCons r14tell_ok <| fun _ _ h => spNil h, mixedOK, fun _ _ h => trNil h, fun _ _ h => atNil h, metsOK, fun _ _ h => efNil h, lsCons clone_ok <| fun _ _ h => lsNil h⟩
set_option maxRecDepth 100000 in
set_option maxHeartbeats 8000000 in
theorem lntl_den (R RP : Value → Prop) (F : Ex → St → Js → Env → Prop) (x0 : List Int) (x1 : Int) : Tree.den lntl_M R RP F lntl_tree [] [(.l x0), (.i x1)] = (
  ∀ x2 : Int, x2 = ((List.length x0 : Int)) →
∀ x3 : Int, x3 = (if (Cmp.den .lt (17 : Int) x2) = true then (17 : Int) else x2) →
((Cmp.den .le x3 x2) = true → ∀ x4 : List Int, x4 = (List.take (Int.toNat x3 - Int.toNat (0 : Int)) (List.drop (Int.toNat (0 : Int)) x0)) →
(ntell_sem.pre [(.l (x4))]) ∧ (
∀ x5 : Int, x5 = (Cv.int (Env.get (ntell_sem.out [(.l (x4))]) 0)) → (0 : Int) ≤ x5 → x5 ≤ (2 : Int) →
∀ x6 : Int, x6 = (Cv.int (Env.get (ntell_sem.out [(.l (x4))]) 1)) → (0 : Int) ≤ x6 → x6 ≤ (2 : Int) →
∀ x7 : Int, x7 = (Cv.int (Env.get (ntell_sem.out [(.l (x4))]) 2)) → (0 : Int) ≤ x7 → x7 ≤ (2 : Int) →
∀ x8 : Int, x8 = (Cv.int (Env.get (ntell_sem.out [(.l (x4))]) 3)) → (0 : Int) ≤ x8 → x8 ≤ (2 : Int) →
∀ x9 : Int, x9 = (Cv.int (Env.get (ntell_sem.out [(.l (x4))]) 4)) → (0 : Int) ≤ x9 → x9 ≤ (2 : Int) →
∀ x10 : Int, x10 = (Cv.int (Env.get (ntell_sem.out [(.l (x4))]) 5)) → (0 : Int) ≤ x10 → x10 ≤ (2 : Int) →
∀ x11 : Int, x11 = (Cv.int (Env.get (ntell_sem.out [(.l (x4))]) 6)) → (0 : Int) ≤ x11 → x11 ≤ (2 : Int) →
∀ x12 : Int, x12 = (Cv.int (Env.get (ntell_sem.out [(.l (x4))]) 7)) → (0 : Int) ≤ x12 → x12 ≤ (2 : Int) →
∀ x13 : Int, x13 = (Cv.int (Env.get (ntell_sem.out [(.l (x4))]) 8)) → (0 : Int) ≤ x13 → x13 ≤ (1 : Int) →
(nmay_sem.pre [(.l (x4))]) ∧ (
((!(Cv.bool (Env.get (nmay_sem.out [(.l (x4))]) 0))) = true → (nal_sem.pre []) ∧ (
((!(Cv.bool (Env.get (nal_sem.out []) 0))) = true → R (Value.bool false)) ∧ ((!(Cv.bool (Env.get (nal_sem.out []) 0))) = false → (r14masks_sem.pre [(.l (x4))]) ∧ (
((!(Cv.bool (Env.get (r14masks_sem.out [(.l (x4))]) 0))) = true → ((Cmp.den .eq x13 (1 : Int)) = true → (((Cmp.den .eq x5 (0 : Int)) && ((Cmp.den .eq x6 (0 : Int)) && ((Cmp.den .eq x7 (0 : Int)) && ((Cmp.den .eq x8 (0 : Int)) && ((Cmp.den .eq x9 (0 : Int)) && ((Cmp.den .eq x10 (0 : Int)) && ((Cmp.den .eq x11 (0 : Int)) && (Cmp.den .eq x12 (0 : Int))))))))) = true → R (Value.bool (Cmp.den .eq (0 : Int) (0 : Int)))) ∧ (((Cmp.den .eq x5 (0 : Int)) && ((Cmp.den .eq x6 (0 : Int)) && ((Cmp.den .eq x7 (0 : Int)) && ((Cmp.den .eq x8 (0 : Int)) && ((Cmp.den .eq x9 (0 : Int)) && ((Cmp.den .eq x10 (0 : Int)) && ((Cmp.den .eq x11 (0 : Int)) && (Cmp.den .eq x12 (0 : Int))))))))) = false → R (Value.bool false))) ∧ ((Cmp.den .eq x13 (1 : Int)) = false → R (Value.bool false))) ∧ ((!(Cv.bool (Env.get (r14masks_sem.out [(.l (x4))]) 0))) = false → (r13mask_sem.pre [(.i x1)]) ∧ (
((!(Cv.bool (Env.get (r13mask_sem.out [(.i x1)]) 0))) = true → ((Cmp.den .eq x13 (0 : Int)) = true → (r14tell_sem.pre [(.l (x4))]) ∧ (
∀ x18 : Int, x18 = (Cv.int (Env.get (r14tell_sem.out [(.l (x4))]) 0)) → (0 : Int) ≤ x18 → x18 ≤ (2 : Int) →
∀ x19 : Int, x19 = (Cv.int (Env.get (r14tell_sem.out [(.l (x4))]) 1)) → (0 : Int) ≤ x19 → x19 ≤ (2 : Int) →
∀ x20 : Int, x20 = (Cv.int (Env.get (r14tell_sem.out [(.l (x4))]) 2)) → (0 : Int) ≤ x20 → x20 ≤ (2 : Int) →
∀ x21 : Int, x21 = (Cv.int (Env.get (r14tell_sem.out [(.l (x4))]) 3)) → (0 : Int) ≤ x21 → x21 ≤ (2 : Int) →
∀ x22 : Int, x22 = (Cv.int (Env.get (r14tell_sem.out [(.l (x4))]) 4)) → (0 : Int) ≤ x22 → x22 ≤ (2 : Int) →
∀ x23 : Int, x23 = (Cv.int (Env.get (r14tell_sem.out [(.l (x4))]) 5)) → (0 : Int) ≤ x23 → x23 ≤ (2 : Int) →
∀ x24 : Int, x24 = (Cv.int (Env.get (r14tell_sem.out [(.l (x4))]) 6)) → (0 : Int) ≤ x24 → x24 ≤ (2 : Int) →
∀ x25 : Int, x25 = (Cv.int (Env.get (r14tell_sem.out [(.l (x4))]) 7)) → (0 : Int) ≤ x25 → x25 ≤ (2 : Int) →
R (Value.bool ((Cmp.den .eq x5 x18) && ((Cmp.den .eq x6 x19) && ((Cmp.den .eq x7 x20) && ((Cmp.den .eq x8 x21) && ((Cmp.den .eq x9 x22) && ((Cmp.den .eq x10 x23) && ((Cmp.den .eq x11 x24) && (Cmp.den .eq x12 x25))))))))))) ∧ ((Cmp.den .eq x13 (0 : Int)) = false → R (Value.bool false))) ∧ ((!(Cv.bool (Env.get (r13mask_sem.out [(.i x1)]) 0))) = false → R (Value.bool false)))))))) ∧ ((!(Cv.bool (Env.get (nmay_sem.out [(.l (x4))]) 0))) = false → (nmay_sem.pre [(.l (([x1] : List Int)))]) ∧ (
((!(Cv.bool (Env.get (nmay_sem.out [(.l (([x1] : List Int)))]) 0))) = true → (nal_sem.pre []) ∧ (
((!(Cv.bool (Env.get (nal_sem.out []) 0))) = true → R (Value.bool false)) ∧ ((!(Cv.bool (Env.get (nal_sem.out []) 0))) = false → (r14masks_sem.pre [(.l (x4))]) ∧ (
((!(Cv.bool (Env.get (r14masks_sem.out [(.l (x4))]) 0))) = true → ((Cmp.den .eq x13 (1 : Int)) = true → (((Cmp.den .eq x5 (0 : Int)) && ((Cmp.den .eq x6 (0 : Int)) && ((Cmp.den .eq x7 (0 : Int)) && ((Cmp.den .eq x8 (0 : Int)) && ((Cmp.den .eq x9 (0 : Int)) && ((Cmp.den .eq x10 (0 : Int)) && ((Cmp.den .eq x11 (0 : Int)) && (Cmp.den .eq x12 (0 : Int))))))))) = true → R (Value.bool (Cmp.den .eq (0 : Int) (0 : Int)))) ∧ (((Cmp.den .eq x5 (0 : Int)) && ((Cmp.den .eq x6 (0 : Int)) && ((Cmp.den .eq x7 (0 : Int)) && ((Cmp.den .eq x8 (0 : Int)) && ((Cmp.den .eq x9 (0 : Int)) && ((Cmp.den .eq x10 (0 : Int)) && ((Cmp.den .eq x11 (0 : Int)) && (Cmp.den .eq x12 (0 : Int))))))))) = false → R (Value.bool false))) ∧ ((Cmp.den .eq x13 (1 : Int)) = false → R (Value.bool false))) ∧ ((!(Cv.bool (Env.get (r14masks_sem.out [(.l (x4))]) 0))) = false → (r13mask_sem.pre [(.i x1)]) ∧ (
((!(Cv.bool (Env.get (r13mask_sem.out [(.i x1)]) 0))) = true → ((Cmp.den .eq x13 (0 : Int)) = true → (r14tell_sem.pre [(.l (x4))]) ∧ (
∀ x19 : Int, x19 = (Cv.int (Env.get (r14tell_sem.out [(.l (x4))]) 0)) → (0 : Int) ≤ x19 → x19 ≤ (2 : Int) →
∀ x20 : Int, x20 = (Cv.int (Env.get (r14tell_sem.out [(.l (x4))]) 1)) → (0 : Int) ≤ x20 → x20 ≤ (2 : Int) →
∀ x21 : Int, x21 = (Cv.int (Env.get (r14tell_sem.out [(.l (x4))]) 2)) → (0 : Int) ≤ x21 → x21 ≤ (2 : Int) →
∀ x22 : Int, x22 = (Cv.int (Env.get (r14tell_sem.out [(.l (x4))]) 3)) → (0 : Int) ≤ x22 → x22 ≤ (2 : Int) →
∀ x23 : Int, x23 = (Cv.int (Env.get (r14tell_sem.out [(.l (x4))]) 4)) → (0 : Int) ≤ x23 → x23 ≤ (2 : Int) →
∀ x24 : Int, x24 = (Cv.int (Env.get (r14tell_sem.out [(.l (x4))]) 5)) → (0 : Int) ≤ x24 → x24 ≤ (2 : Int) →
∀ x25 : Int, x25 = (Cv.int (Env.get (r14tell_sem.out [(.l (x4))]) 6)) → (0 : Int) ≤ x25 → x25 ≤ (2 : Int) →
∀ x26 : Int, x26 = (Cv.int (Env.get (r14tell_sem.out [(.l (x4))]) 7)) → (0 : Int) ≤ x26 → x26 ≤ (2 : Int) →
R (Value.bool ((Cmp.den .eq x5 x19) && ((Cmp.den .eq x6 x20) && ((Cmp.den .eq x7 x21) && ((Cmp.den .eq x8 x22) && ((Cmp.den .eq x9 x23) && ((Cmp.den .eq x10 x24) && ((Cmp.den .eq x11 x25) && (Cmp.den .eq x12 x26))))))))))) ∧ ((Cmp.den .eq x13 (0 : Int)) = false → R (Value.bool false))) ∧ ((!(Cv.bool (Env.get (r13mask_sem.out [(.i x1)]) 0))) = false → R (Value.bool false)))))))) ∧ ((!(Cv.bool (Env.get (nmay_sem.out [(.l (([x1] : List Int)))]) 0))) = false → (clone_sem.pre [(.l (x4))]) ∧ (
∀ x16 : List Int, x16 = (Cv.list (Env.get (clone_sem.out [(.l (x4))]) 0)) →
∀ x17 : Int, x17 = ((List.length x16 : Int)) →
((Cmp.den .le x17 (100000 : Int)) = true → ∀ x18 : List Int, x18 = (x16 ++ ([x1] : List Int)) →
∀ x19 : Int, x19 = ((List.length x18 : Int)) →
∀ x20 : Int, x20 = (x19 - (15 : Int)) →
∀ x21 : Int, x21 = (if (Cmp.den .lt (0 : Int) x20) = true then x20 else (0 : Int)) →
((Cmp.den .le x21 x19) = true → ((Cmp.den .le x19 x19) = true → ∀ x22 : List Int, x22 = (List.take (Int.toNat x19 - Int.toNat x21) (List.drop (Int.toNat x21) x18)) →
(nal_sem.pre []) ∧ (
((!(Cv.bool (Env.get (nal_sem.out []) 0))) = true → R (Value.bool false)) ∧ ((!(Cv.bool (Env.get (nal_sem.out []) 0))) = false → (r14masks_sem.pre [(.l (x4))]) ∧ (
((!(Cv.bool (Env.get (r14masks_sem.out [(.l (x4))]) 0))) = true → ((Cmp.den .eq x13 (1 : Int)) = true → R (Value.bool false)) ∧ ((Cmp.den .eq x13 (1 : Int)) = false → R (Value.bool false))) ∧ ((!(Cv.bool (Env.get (r14masks_sem.out [(.l (x4))]) 0))) = false → (r13mask_sem.pre [(.i x1)]) ∧ (
((!(Cv.bool (Env.get (r13mask_sem.out [(.i x1)]) 0))) = true → R (Value.bool false)) ∧ ((!(Cv.bool (Env.get (r13mask_sem.out [(.i x1)]) 0))) = false → ∀ x26 : Int, x26 = ((List.length x4 : Int)) →
∃ (I0 : List Cv → Prop) (mu0 : List Cv → Nat), Fits [.i (some ((0), (100000))), .l] [(.i (0 : Int)), (.l (([] : List Int)))] ∧ I0 [(.i (0 : Int)), (.l (([] : List Int)))] ∧ (
∀ x27 : Int, (0 : Int) ≤ x27 → x27 ≤ (100000 : Int) → ∀ x28 : List Int, InI x28 → I0 [.i x27, .l x28] →
((Cmp.den .lt x27 x26) = true → ∀ x29 : Int, x29 = (List.getD x4 (Int.toNat x27) 0) →
((Cmp.den .lt (0 : Int) x27) = true → ∀ x30 : Int, x30 = ((List.length x28 : Int)) →
((Cmp.den .le x30 (100000 : Int)) = true → ∀ x31 : List Int, x31 = (x28 ++ ([x29] : List Int)) →
∀ x32 : Int, x32 = (x27 + (1 : Int)) →
Fits [.i (some ((0), (100000))), .l] [(.i x32), (.l (x31))] ∧ I0 [(.i x32), (.l (x31))] ∧ mu0 [(.i x32), (.l (x31))] < mu0 [.i x27, .l x28]) ∧ ((Cmp.den .le x30 (100000 : Int)) = false → False)) ∧ ((Cmp.den .lt (0 : Int) x27) = false → ((Cmp.den .lt x26 (15 : Int)) = true → ∀ x30 : Int, x30 = ((List.length x28 : Int)) →
((Cmp.den .le x30 (100000 : Int)) = true → ∀ x31 : List Int, x31 = (x28 ++ ([x29] : List Int)) →
Fits [.i (some ((0), (100000))), .l] [(.i (1 : Int)), (.l (x31))] ∧ I0 [(.i (1 : Int)), (.l (x31))] ∧ mu0 [(.i (1 : Int)), (.l (x31))] < mu0 [.i x27, .l x28]) ∧ ((Cmp.den .le x30 (100000 : Int)) = false → False)) ∧ ((Cmp.den .lt x26 (15 : Int)) = false → Fits [.i (some ((0), (100000))), .l] [(.i (1 : Int)), (.l (x28))] ∧ I0 [(.i (1 : Int)), (.l (x28))] ∧ mu0 [(.i (1 : Int)), (.l (x28))] < mu0 [.i x27, .l x28]))) ∧ ((Cmp.den .lt x27 x26) = false → ∀ x29 : Int, x29 = ((List.length x28 : Int)) →
((Cmp.den .le x29 (100000 : Int)) = true → ∀ x30 : List Int, x30 = (x28 ++ ([x1] : List Int)) →
(r10ints_sem.pre [(.l (x22)), (.l (x30))]) ∧ (
((!(Cv.bool (Env.get (r10ints_sem.out [(.l (x22)), (.l (x30))]) 0))) = true → R (Value.bool false)) ∧ ((!(Cv.bool (Env.get (r10ints_sem.out [(.l (x22)), (.l (x30))]) 0))) = false → ((Cmp.den .eq x13 (0 : Int)) = true → (r14tell_sem.pre [(.l (x4))]) ∧ (
∀ x32 : Int, x32 = (Cv.int (Env.get (r14tell_sem.out [(.l (x4))]) 0)) → (0 : Int) ≤ x32 → x32 ≤ (2 : Int) →
∀ x33 : Int, x33 = (Cv.int (Env.get (r14tell_sem.out [(.l (x4))]) 1)) → (0 : Int) ≤ x33 → x33 ≤ (2 : Int) →
∀ x34 : Int, x34 = (Cv.int (Env.get (r14tell_sem.out [(.l (x4))]) 2)) → (0 : Int) ≤ x34 → x34 ≤ (2 : Int) →
∀ x35 : Int, x35 = (Cv.int (Env.get (r14tell_sem.out [(.l (x4))]) 3)) → (0 : Int) ≤ x35 → x35 ≤ (2 : Int) →
∀ x36 : Int, x36 = (Cv.int (Env.get (r14tell_sem.out [(.l (x4))]) 4)) → (0 : Int) ≤ x36 → x36 ≤ (2 : Int) →
∀ x37 : Int, x37 = (Cv.int (Env.get (r14tell_sem.out [(.l (x4))]) 5)) → (0 : Int) ≤ x37 → x37 ≤ (2 : Int) →
∀ x38 : Int, x38 = (Cv.int (Env.get (r14tell_sem.out [(.l (x4))]) 6)) → (0 : Int) ≤ x38 → x38 ≤ (2 : Int) →
∀ x39 : Int, x39 = (Cv.int (Env.get (r14tell_sem.out [(.l (x4))]) 7)) → (0 : Int) ≤ x39 → x39 ≤ (2 : Int) →
R (Value.bool ((Cmp.den .eq x5 x32) && ((Cmp.den .eq x6 x33) && ((Cmp.den .eq x7 x34) && ((Cmp.den .eq x8 x35) && ((Cmp.den .eq x9 x36) && ((Cmp.den .eq x10 x37) && ((Cmp.den .eq x11 x38) && (Cmp.den .eq x12 x39))))))))))) ∧ ((Cmp.den .eq x13 (0 : Int)) = false → R (Value.bool false))))) ∧ ((Cmp.den .le x29 (100000 : Int)) = false → False)))))))))) ∧ ((Cmp.den .le x19 x19) = false → False)) ∧ ((Cmp.den .le x21 x19) = false → False)) ∧ ((Cmp.den .le x17 (100000 : Int)) = false → False)))))))) ∧ ((Cmp.den .le x3 x2) = false → False)) := by kernel_rfl

def lntl_sem : SpecSem := { pre := fun cs => match cs with | [.l l, .i m] => InI l ∧ IsI m | _ => False, out := fun cs => match cs with | [.l l, .i m] => [.b true] | _ => [], g := tzG }
set_option maxRecDepth 10000 in
set_option maxHeartbeats 16000000 in
theorem lntl_ok : SpecOK Tryd.prog 6 lntl_sp lntl_sem := by
  refine spec_of_tree lntl_cxok Tryd.func6 (by kernel_rfl) (by kernel_rfl) lntl_walk rfl ?_
  intro cs hpre
  match cs, hpre with
  | [.l l, .i m], ⟨j_l, j_m⟩ =>
    have h_m := j_m
    unfold IsI at h_m
    refine ⟨rfl, IvsB.ok (by simp only [lntl_ivs, IvsB, Cv.int, and_true, j_l, true_and] <;> omega), ?_, ?_⟩
    · simp only [lntl_sem, lntl_sp, Fits]
    · rw [lntl_den]
      have hF : List.take ((if 17 < (l.length : Int) then (17 : Int) else (l.length : Int)).toNat - Int.toNat 0) (List.drop (Int.toNat 0) l) = l.take 17 := by
        rw [show Int.toNat 0 = 0 from rfl, List.drop_zero, Nat.sub_zero]
        split
        · rfl
        · rw [List.take_of_length_le (by omega), List.take_of_length_le (by omega)]
      have hI : InI (l.take 17) := fun y hy => j_l y (List.mem_of_mem_take hy)
      have hlen : (l.take 17).length ≤ 1000 := by rw [List.length_take]; omega
      have b1 : ((if 17 < (l.length : Int) then (17 : Int) else (l.length : Int)) ≤ (l.length : Int)) = True := eq_true (by split <;> omega)
      have b2 : ((l.length : Int) < (if 17 < (l.length : Int) then (17 : Int) else (l.length : Int))) = False := eq_false (by split <;> omega)
      have b3 : (0 ≤ (if 17 < (l.length : Int) then (17 : Int) else (l.length : Int))) = True := eq_true (by split <;> omega)
      have b4 : ((if 17 < (l.length : Int) then (17 : Int) else (l.length : Int)) < 0) = False := eq_false (by split <;> omega)
      have g1 : ((1 : Int) = 0) = False := by simp
      have g2 : ((0 : Int) = 1) = False := by simp
      have g3 : ((0 : Int) = 2) = False := by simp
      have hI1 : InI [m] := fun y hy => by rw [List.mem_singleton] at hy; subst hy; exact j_m
      have hM1 : IsMs [m] ↔ IsM m := ⟨fun q => q.2 m (by simp), fun q => ⟨by simp, fun x hx => by rw [List.mem_singleton] at hx; subst hx; exact q⟩⟩
      rcases Decidable.em (IsMs (l.take 17)) with h | h
      · obtain ⟨e1, e2, e3, e4, e5, e6, e7, e8⟩ := tells_eq h
        rcases Decidable.em (IsM m) with hm | hm
        · simp only [lntl_sem, lntl_sp, ntell_sem, nmay_sem, clone_sem, nal_sem, r13mask_sem, r14masks_sem, r10ints_sem, r14tell_sem, lntl_den, ntell_sem, nmay_sem, nal_sem, r13mask_sem, r14masks_sem, r10ints_sem, r14tell_sem, clone_sem, Tree.den, LE.den, Cv.list, placeA, List.getElem?_cons_zero, List.getElem?_cons_succ, IE.den, BE.den, At.den, CA.den, Env.get, Cv.int, Cv.bool, List.cons_append, List.nil_append, List.map_cons, List.map_nil, bindRes, bindEq, Fits, SV.den, denL, place, placeL, eq_t, eq_f, lt_t, lt_f, le_t, le_f, beq_iff_eq, beq_eq_false_iff_ne, ne_eq, reduceCtorEq, b_dec, decide_eq_true_eq, decide_eq_false_iff_not, Bool.not_eq_false', Bool.or_eq_true, Bool.or_eq_false_iff, Bool.and_eq_false_iff, true_iff, false_iff, Bool.false_eq_true, Bool.not_eq_true', Bool.and_eq_true, Bool.not_true, Bool.not_false, List.cons.injEq, Cv.i.injEq, Cv.b.injEq, and_true, true_and, agg_inj, tup_inj, Value.int.injEq, Value.bool.injEq, hF, hI, hI1, hM1, j_m, hlen, b1, b2, b3, b4, h, hm, e1, e2, e3, e4, e5, e6, e7, e8, g1, g2, forall_eq, eq_self, if_true, if_false, true_and, and_true, false_and, and_false, true_or, or_true, false_or, or_false, true_iff, iff_true, false_iff, iff_false, not_true_eq_false, not_false_eq_true, true_implies, false_implies, implies_true, forall_const, decide_true, decide_false, reduceCtorEq]
          generalize l.take 17 = v at *
          have hn := h.1
          intros
          have hW := pushW (m := m) hn
          simp only [hW]
          have hWI : InI (pushV v m) := pushV_inI hI j_m
          have hWl := pushV_len v m
          refine ⟨fun _ => ⟨fun _ => ⟨fun _ => ?_, fun q => absurd q (Int.lt_irrefl _)⟩, fun q => ?_⟩, fun q => by omega⟩
          · refine ⟨fun vs => match vs with | [.i i, .l ys] => i ≤ (v.length : Int) ∧ ys = pushT v i.toNat | _ => False, fun vs => match vs with | [.i i, .l _] => (100001 - i).toNat | _ => 0, ⟨by omega, by omega, inI_nil⟩, ⟨by omega, (pushT_zero v).symm⟩, ?_⟩
            intro i i0 i1 ys hys hJ
            obtain ⟨hin, rfl⟩ : i ≤ (v.length : Int) ∧ ys = pushT v i.toNat := hJ
            have hpl := pushT_len v i.toNat
            refine ⟨fun hlt => ⟨fun hp => ⟨fun _ => ?_, fun q => by omega⟩, fun hp => ⟨fun hq => ⟨fun _ => ?_, fun q => by omega⟩, fun hq => ?_⟩⟩, fun hge => ⟨fun _ => ?_, fun q => by omega⟩⟩
            · have e := pushT_step (v := v) (i := i.toNat) (.inr (by omega)) (by omega)
              rw [e]
              refine ⟨⟨by omega, by omega, pushT_inI hI _⟩, ⟨by omega, ?_⟩, by show (100001 - (i + 1)).toNat < (100001 - i).toNat; omega⟩
              rw [show (i + 1).toNat = i.toNat + 1 by omega]
            · have z : i = 0 := by omega
              subst z
              have e := pushT_step (v := v) (i := 0) (.inl (by omega)) (by omega)
              rw [show Int.toNat 0 = 0 from rfl, e]
              refine ⟨⟨by omega, by omega, pushT_inI hI _⟩, ⟨by omega, rfl⟩, by show (100001 - 1 : Int).toNat < (100001 - 0 : Int).toNat; decide⟩
            · have z : i = 0 := by omega
              subst z
              refine ⟨⟨by omega, by omega, hys⟩, ⟨by omega, ?_⟩, by show (100001 - 1 : Int).toNat < (100001 - 0 : Int).toNat; decide⟩
              show pushT v 0 = pushT v 1
              unfold pushT
              rw [if_neg (by omega), if_neg (by omega)]
              simp
            · have e : pushT v i.toNat ++ [m] = pushV v m := by
                have : i.toNat = v.length := by omega
                rw [this]
                unfold pushT pushV
                rw [List.take_length]
                split <;> rfl
              rw [e]
              exact ⟨⟨hWI, hWI, by omega, by omega⟩, fun q => q rfl⟩
          · split at q <;> omega
        · simp only [lntl_sem, lntl_sp, ntell_sem, nmay_sem, clone_sem, nal_sem, r13mask_sem, r14masks_sem, r10ints_sem, r14tell_sem, lntl_den, ntell_sem, nmay_sem, nal_sem, r13mask_sem, r14masks_sem, r10ints_sem, r14tell_sem, clone_sem, Tree.den, LE.den, Cv.list, placeA, List.getElem?_cons_zero, List.getElem?_cons_succ, IE.den, BE.den, At.den, CA.den, Env.get, Cv.int, Cv.bool, List.cons_append, List.nil_append, List.map_cons, List.map_nil, bindRes, bindEq, Fits, SV.den, denL, place, placeL, eq_t, eq_f, lt_t, lt_f, le_t, le_f, beq_iff_eq, beq_eq_false_iff_ne, ne_eq, reduceCtorEq, b_dec, decide_eq_true_eq, decide_eq_false_iff_not, Bool.not_eq_false', Bool.or_eq_true, Bool.or_eq_false_iff, Bool.and_eq_false_iff, true_iff, false_iff, Bool.false_eq_true, Bool.not_eq_true', Bool.and_eq_true, Bool.not_true, Bool.not_false, List.cons.injEq, Cv.i.injEq, Cv.b.injEq, and_true, true_and, agg_inj, tup_inj, Value.int.injEq, Value.bool.injEq, hF, hI, hI1, hM1, j_m, hlen, b1, b2, b3, b4, h, hm, e1, e2, e3, e4, e5, e6, e7, e8, g1, g2, forall_eq, eq_self, if_true, if_false, true_and, and_true, false_and, and_false, true_or, or_true, false_or, or_false, true_iff, iff_true, false_iff, iff_false, not_true_eq_false, not_false_eq_true, true_implies, false_implies, implies_true, forall_const, decide_true, decide_false, reduceCtorEq]
      · have hb : ∀ G n, tellV G n (l.take 17) = 0 := fun G n => tells_bad h G n
        simp only [lntl_sem, lntl_sp, ntell_sem, nmay_sem, clone_sem, nal_sem, r13mask_sem, r14masks_sem, r10ints_sem, r14tell_sem, lntl_den, ntell_sem, nmay_sem, nal_sem, r13mask_sem, r14masks_sem, r10ints_sem, r14tell_sem, clone_sem, Tree.den, LE.den, Cv.list, placeA, List.getElem?_cons_zero, List.getElem?_cons_succ, IE.den, BE.den, At.den, CA.den, Env.get, Cv.int, Cv.bool, List.cons_append, List.nil_append, List.map_cons, List.map_nil, bindRes, bindEq, Fits, SV.den, denL, place, placeL, eq_t, eq_f, lt_t, lt_f, le_t, le_f, beq_iff_eq, beq_eq_false_iff_ne, ne_eq, reduceCtorEq, b_dec, decide_eq_true_eq, decide_eq_false_iff_not, Bool.not_eq_false', Bool.or_eq_true, Bool.or_eq_false_iff, Bool.and_eq_false_iff, true_iff, false_iff, Bool.false_eq_true, Bool.not_eq_true', Bool.and_eq_true, Bool.not_true, Bool.not_false, List.cons.injEq, Cv.i.injEq, Cv.b.injEq, and_true, true_and, agg_inj, tup_inj, Value.int.injEq, Value.bool.injEq, hF, hI, hI1, hM1, j_m, hlen, b1, b2, b3, b4, h, hb, g1, g2, forall_eq, eq_self, if_true, if_false, true_and, and_true, false_and, and_false, true_or, or_true, false_or, or_false, true_iff, iff_true, false_iff, iff_false, not_true_eq_false, not_false_eq_true, true_implies, false_implies, implies_true, forall_const, decide_true, decide_false, reduceCtorEq]
end Go.Proofs.YtmnpeneplobpdaaDoor.X
