/-
  nelson.Exact, and the sign of life: by contract.
-/
import Derived.Test.YtmnpeneplobpdaaDoorSxNeR5
namespace Go.Proofs.YtmnpeneplobpdaaDoor.X
open Go Go.SX Go.RowKit
set_option linter.unusedVariables false
set_option linter.unusedSimpArgs false






def bitc (c : Int) : Int := p2 (c + 4)
def InC (c : Int) : Prop := -4 ≤ c ∧ c ≤ 4
def IsCl (l : List Int) : Prop := ∀ c ∈ l, InC c
instance (c : Int) : Decidable (InC c) := by unfold InC; infer_instance
instance (l : List Int) : Decidable (IsCl l) := by unfold IsCl; infer_instance
theorem bitc_rng {c : Int} (h : InC c) : IsM (bitc c) := by
  have h1 := p2_pos (c + 4)
  have h2 := p2_le (n := c + 4) (m := 8) (by have := h.1; omega) (by have := h.2; omega)
  have h3 : p2 8 = 256 := rfl
  unfold bitc; exact ⟨by omega, by omega⟩
theorem bitc_wrap {c : Int} (h : InC c) : IntKind.i64.wrap (1 * 2 ^ (min (c + 4).toNat IntKind.i64.bits)) = bitc c := by
  have h1 := h.1; have h2 := h.2
  rw [p2_deni (n := c + 4) (by omega) (by omega), Int.one_mul]
  have := bitc_rng h
  unfold bitc at *
  exact w64 (by have := this.1; omega) (by have := this.2; omega)
theorem isMs_map {l : List Int} (h : IsCl l) : IsMs (l.map bitc) ↔ l.length ≤ 15 := by
  unfold IsMs
  rw [List.length_map]
  refine ⟨fun q => q.1, fun q => ⟨q, fun m hm => ?_⟩⟩
  obtain ⟨c, hc, rfl⟩ := List.mem_map.1 hm
  exact bitc_rng (h c hc)
theorem inI_map {l : List Int} (h : IsCl l) : InI (l.map bitc) := fun y hy => by
  obtain ⟨c, hc, rfl⟩ := List.mem_map.1 hy
  have := bitc_rng (h c hc)
  have h1 := this.1; have h2 := this.2
  omega
def nexact_sp : SpecSh := { args := [(.lst 0)], res := (.tup [(.agg [(.bool .f), (.bool .f), (.bool .f), (.bool .f), (.bool .f), (.bool .f), (.bool .f), (.bool .f)]), (.int .i64 (.z 0))]), sh := [.b, .b, .b, .b, .b, .b, .b, .b, .i (some (0, 1))] }
set_option maxRecDepth 100000 in
def nexact_tree : Tree :=
.lett (.len 0) <|
.loop [.i (some (0, 100000)), .l] [.i (.z 0), .l (.nil)] <|
.ite (.cmp .lt (.v 2) (.v 1)) (.lett (.nth 0 (.v 2)) <|
.ite (.cmp .lt (.v 4) (.z (-4))) (.ret (.tup [(.agg [(.bool .f), (.bool .f), (.bool .f), (.bool .f), (.bool .f), (.bool .f), (.bool .f), (.bool .f)]), (.int .i64 (.z 1))])) <|
.ite (.cmp .lt (.z 4) (.v 4)) (.ret (.tup [(.agg [(.bool .f), (.bool .f), (.bool .f), (.bool .f), (.bool .f), (.bool .f), (.bool .f), (.bool .f)]), (.int .i64 (.z 1))])) <|
.lett (.add (.v 4) (.z 4)) <|
.lett (.shl .i64 (.z 1) (.v 5)) <|
.lett (.len 3) <|
.ite (.cmp .le (.v 7) (.z 100000)) (.letl (.app 3 [.v 6]) <|
.lett (.add (.v 2) (.z 1)) <|
.again 0 [.i (.v 9), .l (.v 8)]) <|
.bad 113) <|
.call 14 [.i (some (0, 2)), .i (some (0, 2)), .i (some (0, 2)), .i (some (0, 2)), .i (some (0, 2)), .i (some (0, 2)), .i (some (0, 2)), .i (some (0, 2)), .i (some (0, 1))] [.l (.v 3)] <|
.loop [.i (some (0, 8)), .b, .b, .b, .b, .b, .b, .b, .b] [.i (.z 0), .b .f, .b .f, .b .f, .b .f, .b .f, .b .f, .b .f, .b .f] <|
.ite (.cmp .lt (.v 13) (.z 8)) (.ite (.cmp .le (.v 13) (.z 0)) (.again 1 [.i (.z 1), .b (.cmp .eq (.v 4) (.z 2)), .b (.v 15), .b (.v 16), .b (.v 17), .b (.v 18), .b (.v 19), .b (.v 20), .b (.v 21)]) <|
.ite (.cmp .le (.v 13) (.z 1)) (.again 1 [.i (.z 2), .b (.v 14), .b (.cmp .eq (.v 5) (.z 2)), .b (.v 16), .b (.v 17), .b (.v 18), .b (.v 19), .b (.v 20), .b (.v 21)]) <|
.ite (.cmp .le (.v 13) (.z 2)) (.again 1 [.i (.z 3), .b (.v 14), .b (.v 15), .b (.cmp .eq (.v 6) (.z 2)), .b (.v 17), .b (.v 18), .b (.v 19), .b (.v 20), .b (.v 21)]) <|
.ite (.cmp .le (.v 13) (.z 3)) (.again 1 [.i (.z 4), .b (.v 14), .b (.v 15), .b (.v 16), .b (.cmp .eq (.v 7) (.z 2)), .b (.v 18), .b (.v 19), .b (.v 20), .b (.v 21)]) <|
.ite (.cmp .le (.v 13) (.z 4)) (.again 1 [.i (.z 5), .b (.v 14), .b (.v 15), .b (.v 16), .b (.v 17), .b (.cmp .eq (.v 8) (.z 2)), .b (.v 19), .b (.v 20), .b (.v 21)]) <|
.ite (.cmp .le (.v 13) (.z 5)) (.again 1 [.i (.z 6), .b (.v 14), .b (.v 15), .b (.v 16), .b (.v 17), .b (.v 18), .b (.cmp .eq (.v 9) (.z 2)), .b (.v 20), .b (.v 21)]) <|
.ite (.cmp .le (.v 13) (.z 6)) (.again 1 [.i (.z 7), .b (.v 14), .b (.v 15), .b (.v 16), .b (.v 17), .b (.v 18), .b (.v 19), .b (.cmp .eq (.v 10) (.z 2)), .b (.v 21)]) <|
.again 1 [.i (.z 8), .b (.v 14), .b (.v 15), .b (.v 16), .b (.v 17), .b (.v 18), .b (.v 19), .b (.v 20), .b (.cmp .eq (.v 11) (.z 2))]) <|
.ret (.tup [(.agg [(.bool (.v 14)), (.bool (.v 15)), (.bool (.v 16)), (.bool (.v 17)), (.bool (.v 18)), (.bool (.v 19)), (.bool (.v 20)), (.bool (.v 21))]), (.int .i64 (.v 12))])
noncomputable def nexact_cx : Ctx := { tys := tys, fns := fns, mets := mets, sps := [(14, ntell_sp)], anns := [((9, 4), { slots := [14], cells := [], ivs := [some (0, 100000)], lsts := [5], elem := 3 }), ((9, 12), { slots := [38], cells := [], ivs := [some (0, 8), none, none, none, none, none, none, none, none], pc := [(4, 0), (4, 1), (4, 2), (4, 3), (4, 4), (4, 5), (4, 6), (4, 7)] })], trys := [] }
def nexact_ivs : List (Option (Int × Int)) := [none]
set_option maxRecDepth 100000 in
theorem nexact_walk : runFn nexact_cx 3000 9 Tryd.f9 nexact_sp.args nexact_ivs = nexact_tree := by kernel_rfl
noncomputable def nexact_M : Nat → SpecSem
  | 14 => ntell_sem
  | _ => noSem
theorem nexact_M14 : nexact_M 14 = ntell_sem := rfl
theorem nexact_cxok : CxOK Tryd.prog nexact_cx nexact_M tzG := ⟨tysOK, fnsOK, spCons ntell_ok <| fun _ _ h => spNil h, mixedOK, fun _ _ h => trNil h, fun _ _ h => atNil h, metsOK, fun _ _ h => efNil h, fun _ _ h => lsNil h⟩
set_option maxRecDepth 100000 in
set_option maxHeartbeats 8000000 in
theorem nexact_den (R RP : Value → Prop) (F : Ex → St → Js → Env → Prop) (x0 : List Int) : Tree.den nexact_M R RP F nexact_tree [] [(.l x0)] = (
  ∀ x1 : Int, x1 = ((List.length x0 : Int)) →
∃ (I0 : List Cv → Prop) (mu0 : List Cv → Nat), Fits [.i (some ((0), (100000))), .l] [(.i (0 : Int)), (.l (([] : List Int)))] ∧ I0 [(.i (0 : Int)), (.l (([] : List Int)))] ∧ (
∀ x2 : Int, (0 : Int) ≤ x2 → x2 ≤ (100000 : Int) → ∀ x3 : List Int, InI x3 → I0 [.i x2, .l x3] →
((Cmp.den .lt x2 x1) = true → ∀ x4 : Int, x4 = (List.getD x0 (Int.toNat x2) 0) →
((Cmp.den .lt x4 (-4 : Int)) = true → R (Value.tuple [(Value.agg [(Value.bool false), (Value.bool false), (Value.bool false), (Value.bool false), (Value.bool false), (Value.bool false), (Value.bool false), (Value.bool false)].toArray), (Value.int .i64 (1 : Int))].toArray)) ∧ ((Cmp.den .lt x4 (-4 : Int)) = false → ((Cmp.den .lt (4 : Int) x4) = true → R (Value.tuple [(Value.agg [(Value.bool false), (Value.bool false), (Value.bool false), (Value.bool false), (Value.bool false), (Value.bool false), (Value.bool false), (Value.bool false)].toArray), (Value.int .i64 (1 : Int))].toArray)) ∧ ((Cmp.den .lt (4 : Int) x4) = false → ∀ x5 : Int, x5 = (x4 + (4 : Int)) →
∀ x6 : Int, x6 = (IntKind.i64.wrap ((1 : Int) * 2 ^ (min (Int.toNat x5) (IntKind.i64).bits))) →
∀ x7 : Int, x7 = ((List.length x3 : Int)) →
((Cmp.den .le x7 (100000 : Int)) = true → ∀ x8 : List Int, x8 = (x3 ++ ([x6] : List Int)) →
∀ x9 : Int, x9 = (x2 + (1 : Int)) →
Fits [.i (some ((0), (100000))), .l] [(.i x9), (.l (x8))] ∧ I0 [(.i x9), (.l (x8))] ∧ mu0 [(.i x9), (.l (x8))] < mu0 [.i x2, .l x3]) ∧ ((Cmp.den .le x7 (100000 : Int)) = false → False)))) ∧ ((Cmp.den .lt x2 x1) = false → (ntell_sem.pre [(.l (x3))]) ∧ (
∀ x4 : Int, x4 = (Cv.int (Env.get (ntell_sem.out [(.l (x3))]) 0)) → (0 : Int) ≤ x4 → x4 ≤ (2 : Int) →
∀ x5 : Int, x5 = (Cv.int (Env.get (ntell_sem.out [(.l (x3))]) 1)) → (0 : Int) ≤ x5 → x5 ≤ (2 : Int) →
∀ x6 : Int, x6 = (Cv.int (Env.get (ntell_sem.out [(.l (x3))]) 2)) → (0 : Int) ≤ x6 → x6 ≤ (2 : Int) →
∀ x7 : Int, x7 = (Cv.int (Env.get (ntell_sem.out [(.l (x3))]) 3)) → (0 : Int) ≤ x7 → x7 ≤ (2 : Int) →
∀ x8 : Int, x8 = (Cv.int (Env.get (ntell_sem.out [(.l (x3))]) 4)) → (0 : Int) ≤ x8 → x8 ≤ (2 : Int) →
∀ x9 : Int, x9 = (Cv.int (Env.get (ntell_sem.out [(.l (x3))]) 5)) → (0 : Int) ≤ x9 → x9 ≤ (2 : Int) →
∀ x10 : Int, x10 = (Cv.int (Env.get (ntell_sem.out [(.l (x3))]) 6)) → (0 : Int) ≤ x10 → x10 ≤ (2 : Int) →
∀ x11 : Int, x11 = (Cv.int (Env.get (ntell_sem.out [(.l (x3))]) 7)) → (0 : Int) ≤ x11 → x11 ≤ (2 : Int) →
∀ x12 : Int, x12 = (Cv.int (Env.get (ntell_sem.out [(.l (x3))]) 8)) → (0 : Int) ≤ x12 → x12 ≤ (1 : Int) →
∃ (I1 : List Cv → Prop) (mu1 : List Cv → Nat), Fits [.i (some ((0), (8))), .b, .b, .b, .b, .b, .b, .b, .b] [(.i (0 : Int)), (.b false), (.b false), (.b false), (.b false), (.b false), (.b false), (.b false), (.b false)] ∧ I1 [(.i (0 : Int)), (.b false), (.b false), (.b false), (.b false), (.b false), (.b false), (.b false), (.b false)] ∧ (
∀ x13 : Int, (0 : Int) ≤ x13 → x13 ≤ (8 : Int) → ∀ x14 : Bool, ∀ x15 : Bool, ∀ x16 : Bool, ∀ x17 : Bool, ∀ x18 : Bool, ∀ x19 : Bool, ∀ x20 : Bool, ∀ x21 : Bool, I1 [.i x13, .b x14, .b x15, .b x16, .b x17, .b x18, .b x19, .b x20, .b x21] →
((Cmp.den .lt x13 (8 : Int)) = true → ((Cmp.den .le x13 (0 : Int)) = true → Fits [.i (some ((0), (8))), .b, .b, .b, .b, .b, .b, .b, .b] [(.i (1 : Int)), (.b (Cmp.den .eq x4 (2 : Int))), (.b x15), (.b x16), (.b x17), (.b x18), (.b x19), (.b x20), (.b x21)] ∧ I1 [(.i (1 : Int)), (.b (Cmp.den .eq x4 (2 : Int))), (.b x15), (.b x16), (.b x17), (.b x18), (.b x19), (.b x20), (.b x21)] ∧ mu1 [(.i (1 : Int)), (.b (Cmp.den .eq x4 (2 : Int))), (.b x15), (.b x16), (.b x17), (.b x18), (.b x19), (.b x20), (.b x21)] < mu1 [.i x13, .b x14, .b x15, .b x16, .b x17, .b x18, .b x19, .b x20, .b x21]) ∧ ((Cmp.den .le x13 (0 : Int)) = false → ((Cmp.den .le x13 (1 : Int)) = true → Fits [.i (some ((0), (8))), .b, .b, .b, .b, .b, .b, .b, .b] [(.i (2 : Int)), (.b x14), (.b (Cmp.den .eq x5 (2 : Int))), (.b x16), (.b x17), (.b x18), (.b x19), (.b x20), (.b x21)] ∧ I1 [(.i (2 : Int)), (.b x14), (.b (Cmp.den .eq x5 (2 : Int))), (.b x16), (.b x17), (.b x18), (.b x19), (.b x20), (.b x21)] ∧ mu1 [(.i (2 : Int)), (.b x14), (.b (Cmp.den .eq x5 (2 : Int))), (.b x16), (.b x17), (.b x18), (.b x19), (.b x20), (.b x21)] < mu1 [.i x13, .b x14, .b x15, .b x16, .b x17, .b x18, .b x19, .b x20, .b x21]) ∧ ((Cmp.den .le x13 (1 : Int)) = false → ((Cmp.den .le x13 (2 : Int)) = true → Fits [.i (some ((0), (8))), .b, .b, .b, .b, .b, .b, .b, .b] [(.i (3 : Int)), (.b x14), (.b x15), (.b (Cmp.den .eq x6 (2 : Int))), (.b x17), (.b x18), (.b x19), (.b x20), (.b x21)] ∧ I1 [(.i (3 : Int)), (.b x14), (.b x15), (.b (Cmp.den .eq x6 (2 : Int))), (.b x17), (.b x18), (.b x19), (.b x20), (.b x21)] ∧ mu1 [(.i (3 : Int)), (.b x14), (.b x15), (.b (Cmp.den .eq x6 (2 : Int))), (.b x17), (.b x18), (.b x19), (.b x20), (.b x21)] < mu1 [.i x13, .b x14, .b x15, .b x16, .b x17, .b x18, .b x19, .b x20, .b x21]) ∧ ((Cmp.den .le x13 (2 : Int)) = false → ((Cmp.den .le x13 (3 : Int)) = true → Fits [.i (some ((0), (8))), .b, .b, .b, .b, .b, .b, .b, .b] [(.i (4 : Int)), (.b x14), (.b x15), (.b x16), (.b (Cmp.den .eq x7 (2 : Int))), (.b x18), (.b x19), (.b x20), (.b x21)] ∧ I1 [(.i (4 : Int)), (.b x14), (.b x15), (.b x16), (.b (Cmp.den .eq x7 (2 : Int))), (.b x18), (.b x19), (.b x20), (.b x21)] ∧ mu1 [(.i (4 : Int)), (.b x14), (.b x15), (.b x16), (.b (Cmp.den .eq x7 (2 : Int))), (.b x18), (.b x19), (.b x20), (.b x21)] < mu1 [.i x13, .b x14, .b x15, .b x16, .b x17, .b x18, .b x19, .b x20, .b x21]) ∧ ((Cmp.den .le x13 (3 : Int)) = false → ((Cmp.den .le x13 (4 : Int)) = true → Fits [.i (some ((0), (8))), .b, .b, .b, .b, .b, .b, .b, .b] [(.i (5 : Int)), (.b x14), (.b x15), (.b x16), (.b x17), (.b (Cmp.den .eq x8 (2 : Int))), (.b x19), (.b x20), (.b x21)] ∧ I1 [(.i (5 : Int)), (.b x14), (.b x15), (.b x16), (.b x17), (.b (Cmp.den .eq x8 (2 : Int))), (.b x19), (.b x20), (.b x21)] ∧ mu1 [(.i (5 : Int)), (.b x14), (.b x15), (.b x16), (.b x17), (.b (Cmp.den .eq x8 (2 : Int))), (.b x19), (.b x20), (.b x21)] < mu1 [.i x13, .b x14, .b x15, .b x16, .b x17, .b x18, .b x19, .b x20, .b x21]) ∧ ((Cmp.den .le x13 (4 : Int)) = false → ((Cmp.den .le x13 (5 : Int)) = true → Fits [.i (some ((0), (8))), .b, .b, .b, .b, .b, .b, .b, .b] [(.i (6 : Int)), (.b x14), (.b x15), (.b x16), (.b x17), (.b x18), (.b (Cmp.den .eq x9 (2 : Int))), (.b x20), (.b x21)] ∧ I1 [(.i (6 : Int)), (.b x14), (.b x15), (.b x16), (.b x17), (.b x18), (.b (Cmp.den .eq x9 (2 : Int))), (.b x20), (.b x21)] ∧ mu1 [(.i (6 : Int)), (.b x14), (.b x15), (.b x16), (.b x17), (.b x18), (.b (Cmp.den .eq x9 (2 : Int))), (.b x20), (.b x21)] < mu1 [.i x13, .b x14, .b x15, .b x16, .b x17, .b x18, .b x19, .b x20, .b x21]) ∧ ((Cmp.den .le x13 (5 : Int)) = false → ((Cmp.den .le x13 (6 : Int)) = true → Fits [.i (some ((0), (8))), .b, .b, .b, .b, .b, .b, .b, .b] [(.i (7 : Int)), (.b x14), (.b x15), (.b x16), (.b x17), (.b x18), (.b x19), (.b (Cmp.den .eq x10 (2 : Int))), (.b x21)] ∧ I1 [(.i (7 : Int)), (.b x14), (.b x15), (.b x16), (.b x17), (.b x18), (.b x19), (.b (Cmp.den .eq x10 (2 : Int))), (.b x21)] ∧ mu1 [(.i (7 : Int)), (.b x14), (.b x15), (.b x16), (.b x17), (.b x18), (.b x19), (.b (Cmp.den .eq x10 (2 : Int))), (.b x21)] < mu1 [.i x13, .b x14, .b x15, .b x16, .b x17, .b x18, .b x19, .b x20, .b x21]) ∧ ((Cmp.den .le x13 (6 : Int)) = false → Fits [.i (some ((0), (8))), .b, .b, .b, .b, .b, .b, .b, .b] [(.i (8 : Int)), (.b x14), (.b x15), (.b x16), (.b x17), (.b x18), (.b x19), (.b x20), (.b (Cmp.den .eq x11 (2 : Int)))] ∧ I1 [(.i (8 : Int)), (.b x14), (.b x15), (.b x16), (.b x17), (.b x18), (.b x19), (.b x20), (.b (Cmp.den .eq x11 (2 : Int)))] ∧ mu1 [(.i (8 : Int)), (.b x14), (.b x15), (.b x16), (.b x17), (.b x18), (.b x19), (.b x20), (.b (Cmp.den .eq x11 (2 : Int)))] < mu1 [.i x13, .b x14, .b x15, .b x16, .b x17, .b x18, .b x19, .b x20, .b x21])))))))) ∧ ((Cmp.den .lt x13 (8 : Int)) = false → R (Value.tuple [(Value.agg [(Value.bool x14), (Value.bool x15), (Value.bool x16), (Value.bool x17), (Value.bool x18), (Value.bool x19), (Value.bool x20), (Value.bool x21)].toArray), (Value.int .i64 x12)].toArray))))))) := by kernel_rfl

noncomputable def nexact_sem : SpecSem := { pre := fun cs => match cs with | [.l l] => InI l ∧ (l.length ≤ 1000) | _ => False, out := fun cs => match cs with | [.l l] => [.b (decide (IsCl l ∧ tellV G1 1 (l.map bitc) = 2)), .b (decide (IsCl l ∧ tellV G2 9 (l.map bitc) = 2)), .b (decide (IsCl l ∧ tellV G3 6 (l.map bitc) = 2)), .b (decide (IsCl l ∧ tellV G4 14 (l.map bitc) = 2)), .b (decide (IsCl l ∧ tellV G5 3 (l.map bitc) = 2)), .b (decide (IsCl l ∧ tellV G6 5 (l.map bitc) = 2)), .b (decide (IsCl l ∧ tellV G7 15 (l.map bitc) = 2)), .b (decide (IsCl l ∧ tellV G8 8 (l.map bitc) = 2)), .i (if IsCl l ∧ l.length ≤ 15 then 0 else 1)] | _ => [], g := tzG }
set_option maxRecDepth 10000 in
set_option maxHeartbeats 16000000 in
theorem nexact_ok : SpecOK Tryd.prog 9 nexact_sp nexact_sem := by
  refine spec_of_tree nexact_cxok Tryd.func9 (by kernel_rfl) (by kernel_rfl) nexact_walk rfl ?_
  intro cs hpre
  match cs, hpre with
  | [.l l], ⟨j_l, hx⟩ =>
    refine ⟨rfl, IvsB.ok (by simp only [nexact_ivs, IvsB, Cv.int, and_true, j_l, true_and] <;> omega), ?_, ?_⟩
    · simp only [nexact_sem, nexact_sp, Fits, and_true]; split <;> omega
    · rw [nexact_den]
      simp only [nexact_sem, nexact_sp, ntell_sem, nexact_den, ntell_sem, Tree.den, LE.den, Cv.list, placeA, List.getElem?_cons_zero, List.getElem?_cons_succ, IE.den, BE.den, At.den, CA.den, Env.get, Cv.int, Cv.bool, List.cons_append, List.nil_append, List.map_cons, List.map_nil, bindRes, bindEq, Fits, SV.den, denL, place, placeL, eq_t, eq_f, lt_t, lt_f, le_t, le_f, beq_iff_eq, beq_eq_false_iff_ne, ne_eq, reduceCtorEq, b_dec, decide_eq_true_eq, decide_eq_false_iff_not, Bool.not_eq_false', Bool.or_eq_true, Bool.or_eq_false_iff, Bool.and_eq_false_iff, true_iff, false_iff, Bool.false_eq_true, Bool.not_eq_true', Bool.and_eq_true, Bool.not_true, Bool.not_false, List.cons.injEq, Cv.i.injEq, Cv.b.injEq, and_true, true_and, agg_inj, tup_inj, Value.int.injEq, Value.bool.injEq, forall_eq, eq_self, if_true, if_false, true_and, and_true, false_and, and_false, true_or, or_true, false_or, or_false, true_iff, iff_true, false_iff, iff_false, not_true_eq_false, not_false_eq_true, true_implies, false_implies, implies_true, forall_const, decide_true, decide_false, reduceCtorEq]
      refine ⟨fun vs => match vs with | [.i i, .l ys] => i ≤ (l.length : Int) ∧ UpTo l InC i ∧ ys = (l.take i.toNat).map bitc | _ => False, fun vs => match vs with | [.i i, .l _] => (100001 - i).toNat | _ => 0, ⟨by omega, by omega, inI_nil⟩, ⟨by omega, upTo_zero, rfl⟩, ?_⟩
      intro i i0 i1 ys hys hI
      obtain ⟨hin, hup, rfl⟩ : i ≤ (l.length : Int) ∧ UpTo l InC i ∧ ys = (l.take i.toNat).map bitc := hI
      refine ⟨fun hlt => ?_, fun hge => ?_⟩
      · have hmem := getD_mem (show i.toNat < l.length by omega)
        rcases Decidable.em (InC (l.getD i.toNat 0)) with hc | hc
        · have c1 : (l.getD i.toNat 0 < -4) = False := eq_false (by have := hc.1; omega)
          have c2 : (4 < l.getD i.toNat 0) = False := eq_false (by have := hc.2; omega)
          have c3 : (-4 ≤ l.getD i.toNat 0) = True := eq_true hc.1
          have c4 : (l.getD i.toNat 0 ≤ 4) = True := eq_true hc.2
          have hw := bitc_wrap hc
          have hup' := (upTo_step i0).2 ⟨hup, hc⟩
          have hT : (l.take i.toNat).map bitc ++ [bitc (l.getD i.toNat 0)] = (l.take (i + 1).toNat).map bitc := by
            rw [show (i + 1).toNat = i.toNat + 1 by omega, take_snoc (by omega), List.map_append]; rfl
          have hcl : IsCl (l.take (i + 1).toNat) := fun c hcm => by
            obtain ⟨j, hj, rfl⟩ := mem_getD hcm
            rw [List.length_take] at hj
            rw [getD_take (by omega)]
            exact hup' j (by omega)
          simp only [c1, c2, c3, c4, hw, hT, if_true, if_false, true_and, and_true, false_and, and_false, true_or, or_true, false_or, or_false, true_iff, iff_true, false_iff, iff_false, not_true_eq_false, not_false_eq_true, true_implies, false_implies, implies_true, forall_const, decide_true, decide_false, reduceCtorEq]
          refine ⟨fun _ => ⟨⟨by omega, by omega, inI_map hcl⟩, (by first | exact ⟨by omega, hup', trivial⟩ | exact ⟨by omega, hup'⟩), by show (100001 - (i + 1)).toNat < (100001 - i).toNat; omega⟩, fun q => ?_⟩
          rw [List.length_map, List.length_take] at q; omega
        · have hn : ¬ IsCl l := fun q => hc (q _ hmem)
          have e : (if IsCl l ∧ l.length ≤ 15 then (0 : Int) else 1) = 1 := if_neg fun q => hn q.1
          simp only [hn, e, if_true, if_false, true_and, and_true, false_and, and_false, true_or, or_true, false_or, or_false, true_iff, iff_true, false_iff, iff_false, not_true_eq_false, not_false_eq_true, true_implies, false_implies, implies_true, forall_const, decide_true, decide_false, reduceCtorEq]
          have hx2 : l.getD i.toNat 0 < -4 ∨ 4 < l.getD i.toNat 0 := by unfold InC at hc; omega
          (repeat' (first | intro _ | refine And.intro ?_ ?_ | exact trivial)) <;> omega
      · have hcl : IsCl l := (upTo_all (by omega)).1 hup
        have et : l.take i.toNat = l := List.take_of_length_le (by omega)
        rw [et] at hys ⊢
        have hms := isMs_map hcl
        simp only [hys, hcl, hms, true_and]
        intros
        generalize tellV G1 1 (l.map bitc) = v1 at *
        generalize tellV G2 9 (l.map bitc) = v2 at *
        generalize tellV G3 6 (l.map bitc) = v3 at *
        generalize tellV G4 14 (l.map bitc) = v4 at *
        generalize tellV G5 3 (l.map bitc) = v5 at *
        generalize tellV G6 5 (l.map bitc) = v6 at *
        generalize tellV G7 15 (l.map bitc) = v7 at *
        generalize tellV G8 8 (l.map bitc) = v8 at *
        refine ⟨fun vs => match vs with | [.i k, .b a1, .b a2, .b a3, .b a4, .b a5, .b a6, .b a7, .b a8] => (0 < k → a1 = Cmp.eq.den v1 2) ∧ (1 < k → a2 = Cmp.eq.den v2 2) ∧ (2 < k → a3 = Cmp.eq.den v3 2) ∧ (3 < k → a4 = Cmp.eq.den v4 2) ∧ (4 < k → a5 = Cmp.eq.den v5 2) ∧ (5 < k → a6 = Cmp.eq.den v6 2) ∧ (6 < k → a7 = Cmp.eq.den v7 2) ∧ (7 < k → a8 = Cmp.eq.den v8 2) | _ => False, fun vs => match vs with | .i k :: _ => (8 - k).toNat | _ => 0, (by omega), (by refine ⟨?_, ?_, ?_, ?_, ?_, ?_, ?_, ?_⟩ <;> intro h <;> omega), ?_⟩
        intro k k0 k1 a1 a2 a3 a4 a5 a6 a7 a8 hJ
        have hJ : (0 < k → a1 = Cmp.eq.den v1 2) ∧ (1 < k → a2 = Cmp.eq.den v2 2) ∧ (2 < k → a3 = Cmp.eq.den v3 2) ∧ (3 < k → a4 = Cmp.eq.den v4 2) ∧ (4 < k → a5 = Cmp.eq.den v5 2) ∧ (5 < k → a6 = Cmp.eq.den v6 2) ∧ (6 < k → a7 = Cmp.eq.den v7 2) ∧ (7 < k → a8 = Cmp.eq.den v8 2) := hJ
        have hk : k = 0 ∨ k = 1 ∨ k = 2 ∨ k = 3 ∨ k = 4 ∨ k = 5 ∨ k = 6 ∨ k = 7 ∨ k = 8 := by omega
        rcases hk with rfl | rfl | rfl | rfl | rfl | rfl | rfl | rfl | rfl
        all_goals simp only [Int.reduceLE, Int.reduceLT, Int.reduceAdd, if_true, if_false, true_and, and_true, false_and, and_false, true_or, or_true, false_or, or_false, true_iff, iff_true, false_iff, iff_false, not_true_eq_false, not_false_eq_true, true_implies, false_implies, implies_true, forall_const, decide_true, decide_false, reduceCtorEq] at hJ ⊢
        all_goals try simp only [hJ, eq_t, eq_self, if_true, if_false, true_and, and_true, false_and, and_false, true_or, or_true, false_or, or_false, true_iff, iff_true, false_iff, iff_false, not_true_eq_false, not_false_eq_true, true_implies, false_implies, implies_true, forall_const, decide_true, decide_false, reduceCtorEq]
        all_goals (repeat' (first | intro _ | refine And.intro ?_ ?_ | exact trivial)) <;> first | omega | rfl | (show (8 - _ : Int).toNat < (8 - _ : Int).toNat; decide)
end Go.Proofs.YtmnpeneplobpdaaDoor.X
