/-
  datumlaw15: BaseWide holds of every input: its contract.
-/
import Derived.Test.YtjbokdekofiihaaSxBsRows
import Derived.Test.YtjbokdekofiihaaSxBsAl
namespace Go.Proofs.Ytjbokdekofiihaa.X
open Go Go.SX
set_option linter.unusedVariables false
set_option linter.unusedSimpArgs false




theorem join2 {P Q R S X G : Prop} (hx : P → Q → X) (hg : (P → R → G)) {G' : Prop} (hg' : S → G') : (P → (Q → X) ∧ (R → G)) ∧ (S → G') := ⟨fun p => ⟨hx p, hg p⟩, hg'⟩
/-- the loop that makes rows, from any numbers -/
def rowsI (Z K : Int) : List Cv → Prop := fun vs => match vs with
  | [.l g, .l _] => ∃ L, g = enc L ∧ RowsK Z K L
  | _ => False
def rowsMu : List Cv → Nat := fun vs => match vs with
  | [.l _, .l rest] => rest.length
  | _ => 0
def rowI (K : Int) (q : List Int) : List Cv → Prop := fun vs => match vs with
  | [.i i, .l r] => (0 ≤ i ∧ i ≤ (q.length : Int)) ∧ (r.length : Int) = i ∧ inK K r
  | _ => False
def rowMu (q : List Int) : List Cv → Nat := fun vs => match vs with
  | [.i i, .l _] => ((q.length : Int) - i).toNat
  | _ => 0
theorem clamp_in {K y : Int} (hK : 0 ≤ K) : -K ≤ (if K < (if y < -K then -K else y) then K else if y < -K then -K else y) ∧ (if K < (if y < -K then -K else y) then K else if y < -K then -K else y) ≤ K := by
  (repeat' split) <;> omega
def lbwd_sp : SpecSh := { args := [(.int .i64 (.z 0)), (.lst 0), (.int .i64 (.z 0)), (.int .i64 (.z 0))], res := (.bool .f), sh := [.b] }
set_option maxRecDepth 100000 in
def lbwd_tree : Tree :=
.lett (.rem (.v 0) (.z 10)) <|
.lett (.add (.v 4) (.z 10)) <|
.lett (.mod (.v 5) (.z 10)) <|
.lett (.add (.z 1) (.v 6)) <|
.loop [.l, .l] [.l (.nil), .l (.v 1)] <|
.lett (.len 9) <|
.ite (.cmp .le (.v 7) (.v 10)) (.lett (.rows 8) <|
.ite (.cmp .lt (.v 11) (.z 25)) (.letl (.sub 9 (.z 0) (.v 7)) <|
.lett (.len 12) <|
.loop [.i (some (0, 20)), .l] [.i (.z 0), .l (.nil)] <|
.ite (.cmp .lt (.v 14) (.v 13)) (.lett (.nth 12 (.v 14)) <|
.lett (.ite (.cmp .lt (.v 16) (.z (-1000000))) (.z (-1000000)) (.v 16)) <|
.lett (.ite (.cmp .lt (.z 1000000) (.v 17)) (.z 1000000) (.v 17)) <|
.lett (.len 15) <|
.ite (.cmp .le (.v 19) (.z 100000)) (.letl (.app 15 [.v 18]) <|
.lett (.add (.v 14) (.z 1)) <|
.again 1 [.i (.v 21), .l (.v 20)]) <|
.bad 113) <|
.all (.letl (.row1 15) <|
.lett (.rows 16) <|
.all (.letl (.cat 8 16) <|
.ite (.cmp .le (.v 7) (.v 10)) (.ite (.cmp .le (.v 10) (.v 10)) (.letl (.sub 9 (.v 7) (.v 10)) <|
.again 0 [.l (.v 18), .l (.v 19)]) <|
.bad 120) <|
.bad 121) <|
.ite (.cmp .le (.v 7) (.v 10)) (.ite (.cmp .le (.v 10) (.v 10)) (.letl (.sub 9 (.v 7) (.v 10)) <|
.letl (.cat 8 16) <|
.again 0 [.l (.v 19), .l (.v 18)]) <|
.bad 120) <|
.bad 121) <|
.ite (.cmp .le (.v 7) (.v 10)) (.ite (.cmp .le (.v 10) (.v 10)) (.letl (.sub 9 (.v 7) (.v 10)) <|
.letl (.row1 15) <|
.lett (.rows 17) <|
.letl (.cat 8 17) <|
.again 0 [.l (.v 19), .l (.v 16)]) <|
.bad 120) <|
.bad 121) <|
.lett (.rem (.v 2) (.z 2000001)) <|
.lett (.add (.v 12) (.z 2000001)) <|
.lett (.mod (.v 13) (.z 2000001)) <|
.lett (.rem (.v 3) (.z 2000001)) <|
.lett (.add (.v 15) (.z 2000001)) <|
.lett (.mod (.v 16) (.z 2000001)) <|
.lett (.ite (.cmp .lt (.v 17) (.v 14)) (.v 17) (.v 14)) <|
.lett (.ite (.cmp .lt (.v 17) (.v 14)) (.v 14) (.v 17)) <|
.call 11 [.i (some ((-9223372036854775808), 9223372036854775807)), .i (some ((-9223372036854775808), 9223372036854775807)), .i (some ((-9223372036854775808), 9223372036854775807)), .i (some ((-9223372036854775808), 9223372036854775807)), .i (some ((-9223372036854775808), 9223372036854775807)), .i (some ((-9223372036854775808), 9223372036854775807))] [.i (.v 7)] <|
.ite (.not (.cmp .eq (.v 25) (.z 0))) (.ret (.bool .f)) <|
.loop [.i (some (0, 30)), .i (some (0, 10)), .i (some (0, 25)), .i (some ((-1000000000), 1000000000)), .i (some (0, 100000000)), .i (some ((-1000000), 1000000))] [.i (.z 0), .i (.v 20), .i (.v 21), .i (.v 22), .i (.v 23), .i (.v 24)] <|
.ite (.cmp .lt (.v 26) (.v 11)) (.letl (.rowAt 8 (.v 26)) <|
.call 12 [.i (some ((-9223372036854775808), 9223372036854775807)), .i (some ((-9223372036854775808), 9223372036854775807)), .i (some ((-9223372036854775808), 9223372036854775807)), .i (some ((-9223372036854775808), 9223372036854775807)), .i (some ((-9223372036854775808), 9223372036854775807)), .i (some ((-9223372036854775808), 9223372036854775807))] [.i (.v 27), .i (.v 28), .i (.v 29), .i (.v 30), .i (.v 31), .l (.v 32)] <|
.ite (.not (.cmp .eq (.v 38) (.z 0))) (.ret (.bool .f)) <|
.lett (.add (.v 26) (.z 1)) <|
.again 1 [.i (.v 39), .i (.v 33), .i (.v 34), .i (.v 35), .i (.v 36), .i (.v 37)]) <|
.call 8 [.b] [] <|
.ite (.not (.v 32)) (.ret (.bool .f)) <|
.call 10 [.i (some ((-9223372036854775808), 9223372036854775807)), .i (some ((-9223372036854775808), 9223372036854775807))] [.i (.v 27), .i (.v 28), .i (.v 29), .i (.v 30), .i (.v 31), .i (.v 18)] <|
.call 10 [.i (some ((-9223372036854775808), 9223372036854775807)), .i (some ((-9223372036854775808), 9223372036854775807))] [.i (.v 27), .i (.v 28), .i (.v 29), .i (.v 30), .i (.v 31), .i (.v 19)] <|
.ite (.cmp .eq (.v 7) (.z 1)) (.lett (.sub (.v 28) (.z 1)) <|
.ite (.not (.cmp .eq (.v 34) (.z 0))) (.ret (.bool .f)) <|
.ite (.not (.cmp .eq (.v 36) (.z 0))) (.ret (.bool .f)) <|
.ite (.cmp .lt (.v 35) (.v 33)) (.ret (.bool .f)) <|
.ite (.cmp .lt (.v 33) (.z (-1))) (.ret (.bool .f)) <|
.ite (.cmp .lt (.z 1) (.v 35)) (.ret (.bool .f)) <|
.ite (.cmp .lt (.v 37) (.z 1)) (.ret (.bool .f)) <|
.lett (.div (.v 30) (.v 37)) <|
.ite (.cmp .lt (.z 2000000) (.v 38)) (.ret (.bool .f)) <|
.ite (.cmp .eq (.v 30) (.z 0)) (.ite (.eqv (.cmp .eq (.v 18) (.z 0)) (.cmp .eq (.v 33) (.z 0))) (.ret (.bool (.cmp .le (.z 0) (.v 33)))) <|
.ret (.bool .f)) <|
.lett (.mod (.v 30) (.v 37)) <|
.ite (.not (.cmp .eq (.v 39) (.z 0))) (.ret (.bool .t)) <|
.lett (.div (.v 30) (.v 37)) <|
.call 10 [.i (some ((-9223372036854775808), 9223372036854775807)), .i (some ((-9223372036854775808), 9223372036854775807))] [.i (.v 27), .i (.v 28), .i (.v 29), .i (.v 30), .i (.v 31), .i (.v 40)] <|
.ite (.cmp .eq (.v 42) (.z 0)) (.ret (.bool (.cmp .eq (.v 41) (.z 0)))) <|
.ret (.bool .f)) <|
.ite (.not (.cmp .eq (.v 34) (.z 0))) (.ret (.bool .f)) <|
.ite (.not (.cmp .eq (.v 36) (.z 0))) (.ret (.bool .f)) <|
.ite (.cmp .lt (.v 35) (.v 33)) (.ret (.bool .f)) <|
.ite (.cmp .lt (.v 33) (.z (-1))) (.ret (.bool .f)) <|
.ite (.cmp .lt (.z 1) (.v 35)) (.ret (.bool .f)) <|
.ite (.cmp .lt (.v 28) (.z 1)) (.ret (.bool .f)) <|
.lett (.div (.v 30) (.v 28)) <|
.ite (.cmp .lt (.z 2000000) (.v 37)) (.ret (.bool .f)) <|
.ite (.cmp .eq (.v 30) (.z 0)) (.ite (.eqv (.cmp .eq (.v 18) (.z 0)) (.cmp .eq (.v 33) (.z 0))) (.ret (.bool (.cmp .le (.z 0) (.v 33)))) <|
.ret (.bool .f)) <|
.lett (.mod (.v 30) (.v 28)) <|
.ite (.not (.cmp .eq (.v 38) (.z 0))) (.ret (.bool .t)) <|
.lett (.div (.v 30) (.v 28)) <|
.call 10 [.i (some ((-9223372036854775808), 9223372036854775807)), .i (some ((-9223372036854775808), 9223372036854775807))] [.i (.v 27), .i (.v 28), .i (.v 29), .i (.v 30), .i (.v 31), .i (.v 39)] <|
.ite (.cmp .eq (.v 41) (.z 0)) (.ret (.bool (.cmp .eq (.v 40) (.z 0)))) <|
.ret (.bool .f)) <|
.lett (.rem (.v 2) (.z 2000001)) <|
.lett (.add (.v 11) (.z 2000001)) <|
.lett (.mod (.v 12) (.z 2000001)) <|
.lett (.rem (.v 3) (.z 2000001)) <|
.lett (.add (.v 14) (.z 2000001)) <|
.lett (.mod (.v 15) (.z 2000001)) <|
.lett (.ite (.cmp .lt (.v 16) (.v 13)) (.v 16) (.v 13)) <|
.lett (.ite (.cmp .lt (.v 16) (.v 13)) (.v 13) (.v 16)) <|
.call 11 [.i (some ((-9223372036854775808), 9223372036854775807)), .i (some ((-9223372036854775808), 9223372036854775807)), .i (some ((-9223372036854775808), 9223372036854775807)), .i (some ((-9223372036854775808), 9223372036854775807)), .i (some ((-9223372036854775808), 9223372036854775807)), .i (some ((-9223372036854775808), 9223372036854775807))] [.i (.v 7)] <|
.ite (.not (.cmp .eq (.v 24) (.z 0))) (.ret (.bool .f)) <|
.lett (.rows 8) <|
.loop [.i (some (0, 30)), .i (some (0, 10)), .i (some (0, 25)), .i (some ((-1000000000), 1000000000)), .i (some (0, 100000000)), .i (some ((-1000000), 1000000))] [.i (.z 0), .i (.v 19), .i (.v 20), .i (.v 21), .i (.v 22), .i (.v 23)] <|
.ite (.cmp .lt (.v 26) (.v 25)) (.letl (.rowAt 8 (.v 26)) <|
.call 12 [.i (some ((-9223372036854775808), 9223372036854775807)), .i (some ((-9223372036854775808), 9223372036854775807)), .i (some ((-9223372036854775808), 9223372036854775807)), .i (some ((-9223372036854775808), 9223372036854775807)), .i (some ((-9223372036854775808), 9223372036854775807)), .i (some ((-9223372036854775808), 9223372036854775807))] [.i (.v 27), .i (.v 28), .i (.v 29), .i (.v 30), .i (.v 31), .l (.v 32)] <|
.ite (.not (.cmp .eq (.v 38) (.z 0))) (.ret (.bool .f)) <|
.lett (.add (.v 26) (.z 1)) <|
.again 1 [.i (.v 39), .i (.v 33), .i (.v 34), .i (.v 35), .i (.v 36), .i (.v 37)]) <|
.call 8 [.b] [] <|
.ite (.not (.v 32)) (.ret (.bool .f)) <|
.call 10 [.i (some ((-9223372036854775808), 9223372036854775807)), .i (some ((-9223372036854775808), 9223372036854775807))] [.i (.v 27), .i (.v 28), .i (.v 29), .i (.v 30), .i (.v 31), .i (.v 17)] <|
.call 10 [.i (some ((-9223372036854775808), 9223372036854775807)), .i (some ((-9223372036854775808), 9223372036854775807))] [.i (.v 27), .i (.v 28), .i (.v 29), .i (.v 30), .i (.v 31), .i (.v 18)] <|
.ite (.cmp .lt (.v 25) (.z 2)) (.ite (.cmp .eq (.v 34) (.z 12)) (.ret (.bool (.cmp .eq (.v 36) (.z 12)))) <|
.ret (.bool .f)) <|
.ite (.cmp .eq (.v 7) (.z 1)) (.lett (.sub (.v 28) (.z 1)) <|
.ite (.not (.cmp .eq (.v 34) (.z 0))) (.ret (.bool .f)) <|
.ite (.not (.cmp .eq (.v 36) (.z 0))) (.ret (.bool .f)) <|
.ite (.cmp .lt (.v 35) (.v 33)) (.ret (.bool .f)) <|
.ite (.cmp .lt (.v 33) (.z (-1))) (.ret (.bool .f)) <|
.ite (.cmp .lt (.z 1) (.v 35)) (.ret (.bool .f)) <|
.ite (.cmp .lt (.v 37) (.z 1)) (.ret (.bool .f)) <|
.lett (.div (.v 30) (.v 37)) <|
.ite (.cmp .lt (.z 2000000) (.v 38)) (.ret (.bool .f)) <|
.ite (.cmp .eq (.v 30) (.z 0)) (.ite (.eqv (.cmp .eq (.v 17) (.z 0)) (.cmp .eq (.v 33) (.z 0))) (.ret (.bool (.cmp .le (.z 0) (.v 33)))) <|
.ret (.bool .f)) <|
.lett (.mod (.v 30) (.v 37)) <|
.ite (.not (.cmp .eq (.v 39) (.z 0))) (.ret (.bool .t)) <|
.lett (.div (.v 30) (.v 37)) <|
.call 10 [.i (some ((-9223372036854775808), 9223372036854775807)), .i (some ((-9223372036854775808), 9223372036854775807))] [.i (.v 27), .i (.v 28), .i (.v 29), .i (.v 30), .i (.v 31), .i (.v 40)] <|
.ite (.cmp .eq (.v 42) (.z 0)) (.ret (.bool (.cmp .eq (.v 41) (.z 0)))) <|
.ret (.bool .f)) <|
.ite (.not (.cmp .eq (.v 34) (.z 0))) (.ret (.bool .f)) <|
.ite (.not (.cmp .eq (.v 36) (.z 0))) (.ret (.bool .f)) <|
.ite (.cmp .lt (.v 35) (.v 33)) (.ret (.bool .f)) <|
.ite (.cmp .lt (.v 33) (.z (-1))) (.ret (.bool .f)) <|
.ite (.cmp .lt (.z 1) (.v 35)) (.ret (.bool .f)) <|
.ite (.cmp .lt (.v 28) (.z 1)) (.ret (.bool .f)) <|
.lett (.div (.v 30) (.v 28)) <|
.ite (.cmp .lt (.z 2000000) (.v 37)) (.ret (.bool .f)) <|
.ite (.cmp .eq (.v 30) (.z 0)) (.ite (.eqv (.cmp .eq (.v 17) (.z 0)) (.cmp .eq (.v 33) (.z 0))) (.ret (.bool (.cmp .le (.z 0) (.v 33)))) <|
.ret (.bool .f)) <|
.lett (.mod (.v 30) (.v 28)) <|
.ite (.not (.cmp .eq (.v 38) (.z 0))) (.ret (.bool .t)) <|
.lett (.div (.v 30) (.v 28)) <|
.call 10 [.i (some ((-9223372036854775808), 9223372036854775807)), .i (some ((-9223372036854775808), 9223372036854775807))] [.i (.v 27), .i (.v 28), .i (.v 29), .i (.v 30), .i (.v 31), .i (.v 39)] <|
.ite (.cmp .eq (.v 41) (.z 0)) (.ret (.bool (.cmp .eq (.v 40) (.z 0)))) <|
.ret (.bool .f)
noncomputable def lbwd_cx : Ctx := { tys := tys, fns := fns, mets := mets, sps := [(11, bnew_sp), (12, btake_sp), (10, bwide_sp), (8, bal_sp)], anns := [((6, 3), { slots := [], cells := [], ivs := [], lsts := [8, 100001], elem := (1000000 + 22) }), ((6, 6), { slots := [30], cells := [], ivs := [some (0, 20)], lsts := [9], elem := 3 }), ((7, 5), { slots := [22], cells := [], ivs := [some (0, 30), some (0, 10), some (0, 25), some ((-1000000000), 1000000000), some (0, 100000000), some ((-1000000), 1000000)], pc := [(6, 0), (6, 1), (6, 2), (6, 3), (6, 4)] })], trys := [] }
def lbwd_ivs : List (Option (Int × Int)) := [some ((-9223372036854775808), 9223372036854775807), none, some ((-9223372036854775808), 9223372036854775807), some ((-9223372036854775808), 9223372036854775807)]
set_option maxRecDepth 100000 in
theorem lbwd_walk : runFn lbwd_cx 3000 5 Try.f5 lbwd_sp.args lbwd_ivs = lbwd_tree := by kernel_rfl
noncomputable def lbwd_M : Nat → SpecSem
  | 11 => bnew_sem
  | 12 => btake_sem
  | 10 => bwide_sem
  | 8 => bal_sem
  | _ => noSem
theorem lbwd_M11 : lbwd_M 11 = bnew_sem := rfl
theorem lbwd_M12 : lbwd_M 12 = btake_sem := rfl
theorem lbwd_M10 : lbwd_M 10 = bwide_sem := rfl
theorem lbwd_M8 : lbwd_M 8 = bal_sem := rfl
theorem lbwd_cxok : CxOK Try.prog lbwd_cx lbwd_M := ⟨tysOK, fnsOK, spCons bnew_ok <| spCons btake_ok <| spCons bwide_ok <| spCons bal_ok <| fun _ _ h => spNil h, mixedOK, fun _ _ h => trNil h, fun _ _ h => atNil h, metsOK⟩
set_option maxRecDepth 100000 in
set_option maxHeartbeats 8000000 in
theorem lbwd_den (R RP : Value → Prop) (F : Ex → St → Js → Env → Prop) (x0 : Int) (x1 : List Int) (x2 : Int) (x3 : Int) : Tree.den lbwd_M R RP F lbwd_tree [] [(.i x0), (.l x1), (.i x2), (.i x3)] = (
  ∀ x4 : Int, x4 = (Int.tmod x0 (10 : Int)) →
∀ x5 : Int, x5 = (x4 + (10 : Int)) →
∀ x6 : Int, x6 = (x5 % (10 : Int)) →
∀ x7 : Int, x7 = ((1 : Int) + x6) →
∃ (I0 : List Cv → Prop) (mu0 : List Cv → Nat), Fits [.l, .l] [(.l (([] : List Int))), (.l (x1))] ∧ I0 [(.l (([] : List Int))), (.l (x1))] ∧ (
∀ x8 : List Int, InI x8 → ∀ x9 : List Int, InI x9 → I0 [.l x8, .l x9] →
∀ x10 : Int, x10 = ((List.length x9 : Int)) →
((Cmp.den .le x7 x10) = true → ∀ x11 : Int, x11 = ((List.length (dec x8) : Int)) →
((Cmp.den .lt x11 (25 : Int)) = true → ∀ x12 : List Int, x12 = (List.take (Int.toNat x7 - Int.toNat (0 : Int)) (List.drop (Int.toNat (0 : Int)) x9)) →
∀ x13 : Int, x13 = ((List.length x12 : Int)) →
∃ (I1 : List Cv → Prop) (mu1 : List Cv → Nat), Fits [.i (some ((0), (20))), .l] [(.i (0 : Int)), (.l (([] : List Int)))] ∧ I1 [(.i (0 : Int)), (.l (([] : List Int)))] ∧ (
∀ x14 : Int, (0 : Int) ≤ x14 → x14 ≤ (20 : Int) → ∀ x15 : List Int, InI x15 → I1 [.i x14, .l x15] →
((Cmp.den .lt x14 x13) = true → ∀ x16 : Int, x16 = (List.getD x12 (Int.toNat x14) 0) →
∀ x17 : Int, x17 = (if (Cmp.den .lt x16 (-1000000 : Int)) = true then (-1000000 : Int) else x16) →
∀ x18 : Int, x18 = (if (Cmp.den .lt (1000000 : Int) x17) = true then (1000000 : Int) else x17) →
∀ x19 : Int, x19 = ((List.length x15 : Int)) →
((Cmp.den .le x19 (100000 : Int)) = true → ∀ x20 : List Int, x20 = (x15 ++ ([x18] : List Int)) →
∀ x21 : Int, x21 = (x14 + (1 : Int)) →
Fits [.i (some ((0), (20))), .l] [(.i x21), (.l (x20))] ∧ I1 [(.i x21), (.l (x20))] ∧ mu1 [(.i x21), (.l (x20))] < mu1 [.i x14, .l x15]) ∧ ((Cmp.den .le x19 (100000 : Int)) = false → False)) ∧ ((Cmp.den .lt x14 x13) = false → (∀ x16 : List Int, x16 = ((List.length x15 : Int) :: x15) →
∀ x17 : Int, x17 = ((List.length (dec x16) : Int)) →
(∀ x18 : List Int, x18 = (x8 ++ x16) →
((Cmp.den .le x7 x10) = true → ((Cmp.den .le x10 x10) = true → ∀ x19 : List Int, x19 = (List.take (Int.toNat x10 - Int.toNat x7) (List.drop (Int.toNat x7) x9)) →
Fits [.l, .l] [(.l (x18)), (.l (x19))] ∧ I0 [(.l (x18)), (.l (x19))] ∧ mu0 [(.l (x18)), (.l (x19))] < mu0 [.l x8, .l x9]) ∧ ((Cmp.den .le x10 x10) = false → False)) ∧ ((Cmp.den .le x7 x10) = false → False)) ∧ (((Cmp.den .le x7 x10) = true → ((Cmp.den .le x10 x10) = true → ∀ x18 : List Int, x18 = (List.take (Int.toNat x10 - Int.toNat x7) (List.drop (Int.toNat x7) x9)) →
∀ x19 : List Int, x19 = (x8 ++ x16) →
Fits [.l, .l] [(.l (x19)), (.l (x18))] ∧ I0 [(.l (x19)), (.l (x18))] ∧ mu0 [(.l (x19)), (.l (x18))] < mu0 [.l x8, .l x9]) ∧ ((Cmp.den .le x10 x10) = false → False)) ∧ ((Cmp.den .le x7 x10) = false → False))) ∧ (((Cmp.den .le x7 x10) = true → ((Cmp.den .le x10 x10) = true → ∀ x16 : List Int, x16 = (List.take (Int.toNat x10 - Int.toNat x7) (List.drop (Int.toNat x7) x9)) →
∀ x17 : List Int, x17 = ((List.length x15 : Int) :: x15) →
∀ x18 : Int, x18 = ((List.length (dec x17) : Int)) →
∀ x19 : List Int, x19 = (x8 ++ x17) →
Fits [.l, .l] [(.l (x19)), (.l (x16))] ∧ I0 [(.l (x19)), (.l (x16))] ∧ mu0 [(.l (x19)), (.l (x16))] < mu0 [.l x8, .l x9]) ∧ ((Cmp.den .le x10 x10) = false → False)) ∧ ((Cmp.den .le x7 x10) = false → False))))) ∧ ((Cmp.den .lt x11 (25 : Int)) = false → ∀ x12 : Int, x12 = (Int.tmod x2 (2000001 : Int)) →
∀ x13 : Int, x13 = (x12 + (2000001 : Int)) →
∀ x14 : Int, x14 = (x13 % (2000001 : Int)) →
∀ x15 : Int, x15 = (Int.tmod x3 (2000001 : Int)) →
∀ x16 : Int, x16 = (x15 + (2000001 : Int)) →
∀ x17 : Int, x17 = (x16 % (2000001 : Int)) →
∀ x18 : Int, x18 = (if (Cmp.den .lt x17 x14) = true then x17 else x14) →
∀ x19 : Int, x19 = (if (Cmp.den .lt x17 x14) = true then x14 else x17) →
(bnew_sem.pre [(.i x7)]) ∧ (
∀ x20 : Int, x20 = (Cv.int (Env.get (bnew_sem.out [(.i x7)]) 0)) → (-9223372036854775808 : Int) ≤ x20 → x20 ≤ (9223372036854775807 : Int) →
∀ x21 : Int, x21 = (Cv.int (Env.get (bnew_sem.out [(.i x7)]) 1)) → (-9223372036854775808 : Int) ≤ x21 → x21 ≤ (9223372036854775807 : Int) →
∀ x22 : Int, x22 = (Cv.int (Env.get (bnew_sem.out [(.i x7)]) 2)) → (-9223372036854775808 : Int) ≤ x22 → x22 ≤ (9223372036854775807 : Int) →
∀ x23 : Int, x23 = (Cv.int (Env.get (bnew_sem.out [(.i x7)]) 3)) → (-9223372036854775808 : Int) ≤ x23 → x23 ≤ (9223372036854775807 : Int) →
∀ x24 : Int, x24 = (Cv.int (Env.get (bnew_sem.out [(.i x7)]) 4)) → (-9223372036854775808 : Int) ≤ x24 → x24 ≤ (9223372036854775807 : Int) →
∀ x25 : Int, x25 = (Cv.int (Env.get (bnew_sem.out [(.i x7)]) 5)) → (-9223372036854775808 : Int) ≤ x25 → x25 ≤ (9223372036854775807 : Int) →
((!(Cmp.den .eq x25 (0 : Int))) = true → R (Value.bool false)) ∧ ((!(Cmp.den .eq x25 (0 : Int))) = false → ∃ (I1 : List Cv → Prop) (mu1 : List Cv → Nat), Fits [.i (some ((0), (30))), .i (some ((0), (10))), .i (some ((0), (25))), .i (some ((-1000000000), (1000000000))), .i (some ((0), (100000000))), .i (some ((-1000000), (1000000)))] [(.i (0 : Int)), (.i x20), (.i x21), (.i x22), (.i x23), (.i x24)] ∧ I1 [(.i (0 : Int)), (.i x20), (.i x21), (.i x22), (.i x23), (.i x24)] ∧ (
∀ x26 : Int, (0 : Int) ≤ x26 → x26 ≤ (30 : Int) → ∀ x27 : Int, (0 : Int) ≤ x27 → x27 ≤ (10 : Int) → ∀ x28 : Int, (0 : Int) ≤ x28 → x28 ≤ (25 : Int) → ∀ x29 : Int, (-1000000000 : Int) ≤ x29 → x29 ≤ (1000000000 : Int) → ∀ x30 : Int, (0 : Int) ≤ x30 → x30 ≤ (100000000 : Int) → ∀ x31 : Int, (-1000000 : Int) ≤ x31 → x31 ≤ (1000000 : Int) → I1 [.i x26, .i x27, .i x28, .i x29, .i x30, .i x31] →
((Cmp.den .lt x26 x11) = true → ∀ x32 : List Int, x32 = (List.getD (dec x8) (Int.toNat x26) []) →
(btake_sem.pre [(.i x27), (.i x28), (.i x29), (.i x30), (.i x31), (.l (x32))]) ∧ (
∀ x33 : Int, x33 = (Cv.int (Env.get (btake_sem.out [(.i x27), (.i x28), (.i x29), (.i x30), (.i x31), (.l (x32))]) 0)) → (-9223372036854775808 : Int) ≤ x33 → x33 ≤ (9223372036854775807 : Int) →
∀ x34 : Int, x34 = (Cv.int (Env.get (btake_sem.out [(.i x27), (.i x28), (.i x29), (.i x30), (.i x31), (.l (x32))]) 1)) → (-9223372036854775808 : Int) ≤ x34 → x34 ≤ (9223372036854775807 : Int) →
∀ x35 : Int, x35 = (Cv.int (Env.get (btake_sem.out [(.i x27), (.i x28), (.i x29), (.i x30), (.i x31), (.l (x32))]) 2)) → (-9223372036854775808 : Int) ≤ x35 → x35 ≤ (9223372036854775807 : Int) →
∀ x36 : Int, x36 = (Cv.int (Env.get (btake_sem.out [(.i x27), (.i x28), (.i x29), (.i x30), (.i x31), (.l (x32))]) 3)) → (-9223372036854775808 : Int) ≤ x36 → x36 ≤ (9223372036854775807 : Int) →
∀ x37 : Int, x37 = (Cv.int (Env.get (btake_sem.out [(.i x27), (.i x28), (.i x29), (.i x30), (.i x31), (.l (x32))]) 4)) → (-9223372036854775808 : Int) ≤ x37 → x37 ≤ (9223372036854775807 : Int) →
∀ x38 : Int, x38 = (Cv.int (Env.get (btake_sem.out [(.i x27), (.i x28), (.i x29), (.i x30), (.i x31), (.l (x32))]) 5)) → (-9223372036854775808 : Int) ≤ x38 → x38 ≤ (9223372036854775807 : Int) →
((!(Cmp.den .eq x38 (0 : Int))) = true → R (Value.bool false)) ∧ ((!(Cmp.den .eq x38 (0 : Int))) = false → ∀ x39 : Int, x39 = (x26 + (1 : Int)) →
Fits [.i (some ((0), (30))), .i (some ((0), (10))), .i (some ((0), (25))), .i (some ((-1000000000), (1000000000))), .i (some ((0), (100000000))), .i (some ((-1000000), (1000000)))] [(.i x39), (.i x33), (.i x34), (.i x35), (.i x36), (.i x37)] ∧ I1 [(.i x39), (.i x33), (.i x34), (.i x35), (.i x36), (.i x37)] ∧ mu1 [(.i x39), (.i x33), (.i x34), (.i x35), (.i x36), (.i x37)] < mu1 [.i x26, .i x27, .i x28, .i x29, .i x30, .i x31]))) ∧ ((Cmp.den .lt x26 x11) = false → (bal_sem.pre []) ∧ (
((!(Cv.bool (Env.get (bal_sem.out []) 0))) = true → R (Value.bool false)) ∧ ((!(Cv.bool (Env.get (bal_sem.out []) 0))) = false → (bwide_sem.pre [(.i x27), (.i x28), (.i x29), (.i x30), (.i x31), (.i x18)]) ∧ (
∀ x33 : Int, x33 = (Cv.int (Env.get (bwide_sem.out [(.i x27), (.i x28), (.i x29), (.i x30), (.i x31), (.i x18)]) 0)) → (-9223372036854775808 : Int) ≤ x33 → x33 ≤ (9223372036854775807 : Int) →
∀ x34 : Int, x34 = (Cv.int (Env.get (bwide_sem.out [(.i x27), (.i x28), (.i x29), (.i x30), (.i x31), (.i x18)]) 1)) → (-9223372036854775808 : Int) ≤ x34 → x34 ≤ (9223372036854775807 : Int) →
(bwide_sem.pre [(.i x27), (.i x28), (.i x29), (.i x30), (.i x31), (.i x19)]) ∧ (
∀ x35 : Int, x35 = (Cv.int (Env.get (bwide_sem.out [(.i x27), (.i x28), (.i x29), (.i x30), (.i x31), (.i x19)]) 0)) → (-9223372036854775808 : Int) ≤ x35 → x35 ≤ (9223372036854775807 : Int) →
∀ x36 : Int, x36 = (Cv.int (Env.get (bwide_sem.out [(.i x27), (.i x28), (.i x29), (.i x30), (.i x31), (.i x19)]) 1)) → (-9223372036854775808 : Int) ≤ x36 → x36 ≤ (9223372036854775807 : Int) →
((Cmp.den .eq x7 (1 : Int)) = true → ∀ x37 : Int, x37 = (x28 - (1 : Int)) →
((!(Cmp.den .eq x34 (0 : Int))) = true → R (Value.bool false)) ∧ ((!(Cmp.den .eq x34 (0 : Int))) = false → ((!(Cmp.den .eq x36 (0 : Int))) = true → R (Value.bool false)) ∧ ((!(Cmp.den .eq x36 (0 : Int))) = false → ((Cmp.den .lt x35 x33) = true → R (Value.bool false)) ∧ ((Cmp.den .lt x35 x33) = false → ((Cmp.den .lt x33 (-1 : Int)) = true → R (Value.bool false)) ∧ ((Cmp.den .lt x33 (-1 : Int)) = false → ((Cmp.den .lt (1 : Int) x35) = true → R (Value.bool false)) ∧ ((Cmp.den .lt (1 : Int) x35) = false → ((Cmp.den .lt x37 (1 : Int)) = true → R (Value.bool false)) ∧ ((Cmp.den .lt x37 (1 : Int)) = false → ∀ x38 : Int, x38 = (x30 / x37) →
((Cmp.den .lt (2000000 : Int) x38) = true → R (Value.bool false)) ∧ ((Cmp.den .lt (2000000 : Int) x38) = false → ((Cmp.den .eq x30 (0 : Int)) = true → (((Cmp.den .eq x18 (0 : Int)) == (Cmp.den .eq x33 (0 : Int))) = true → R (Value.bool (Cmp.den .le (0 : Int) x33))) ∧ (((Cmp.den .eq x18 (0 : Int)) == (Cmp.den .eq x33 (0 : Int))) = false → R (Value.bool false))) ∧ ((Cmp.den .eq x30 (0 : Int)) = false → ∀ x39 : Int, x39 = (x30 % x37) →
((!(Cmp.den .eq x39 (0 : Int))) = true → R (Value.bool true)) ∧ ((!(Cmp.den .eq x39 (0 : Int))) = false → ∀ x40 : Int, x40 = (x30 / x37) →
(bwide_sem.pre [(.i x27), (.i x28), (.i x29), (.i x30), (.i x31), (.i x40)]) ∧ (
∀ x41 : Int, x41 = (Cv.int (Env.get (bwide_sem.out [(.i x27), (.i x28), (.i x29), (.i x30), (.i x31), (.i x40)]) 0)) → (-9223372036854775808 : Int) ≤ x41 → x41 ≤ (9223372036854775807 : Int) →
∀ x42 : Int, x42 = (Cv.int (Env.get (bwide_sem.out [(.i x27), (.i x28), (.i x29), (.i x30), (.i x31), (.i x40)]) 1)) → (-9223372036854775808 : Int) ≤ x42 → x42 ≤ (9223372036854775807 : Int) →
((Cmp.den .eq x42 (0 : Int)) = true → R (Value.bool (Cmp.den .eq x41 (0 : Int)))) ∧ ((Cmp.den .eq x42 (0 : Int)) = false → R (Value.bool false))))))))))))) ∧ ((Cmp.den .eq x7 (1 : Int)) = false → ((!(Cmp.den .eq x34 (0 : Int))) = true → R (Value.bool false)) ∧ ((!(Cmp.den .eq x34 (0 : Int))) = false → ((!(Cmp.den .eq x36 (0 : Int))) = true → R (Value.bool false)) ∧ ((!(Cmp.den .eq x36 (0 : Int))) = false → ((Cmp.den .lt x35 x33) = true → R (Value.bool false)) ∧ ((Cmp.den .lt x35 x33) = false → ((Cmp.den .lt x33 (-1 : Int)) = true → R (Value.bool false)) ∧ ((Cmp.den .lt x33 (-1 : Int)) = false → ((Cmp.den .lt (1 : Int) x35) = true → R (Value.bool false)) ∧ ((Cmp.den .lt (1 : Int) x35) = false → ((Cmp.den .lt x28 (1 : Int)) = true → R (Value.bool false)) ∧ ((Cmp.den .lt x28 (1 : Int)) = false → ∀ x37 : Int, x37 = (x30 / x28) →
((Cmp.den .lt (2000000 : Int) x37) = true → R (Value.bool false)) ∧ ((Cmp.den .lt (2000000 : Int) x37) = false → ((Cmp.den .eq x30 (0 : Int)) = true → (((Cmp.den .eq x18 (0 : Int)) == (Cmp.den .eq x33 (0 : Int))) = true → R (Value.bool (Cmp.den .le (0 : Int) x33))) ∧ (((Cmp.den .eq x18 (0 : Int)) == (Cmp.den .eq x33 (0 : Int))) = false → R (Value.bool false))) ∧ ((Cmp.den .eq x30 (0 : Int)) = false → ∀ x38 : Int, x38 = (x30 % x28) →
((!(Cmp.den .eq x38 (0 : Int))) = true → R (Value.bool true)) ∧ ((!(Cmp.den .eq x38 (0 : Int))) = false → ∀ x39 : Int, x39 = (x30 / x28) →
(bwide_sem.pre [(.i x27), (.i x28), (.i x29), (.i x30), (.i x31), (.i x39)]) ∧ (
∀ x40 : Int, x40 = (Cv.int (Env.get (bwide_sem.out [(.i x27), (.i x28), (.i x29), (.i x30), (.i x31), (.i x39)]) 0)) → (-9223372036854775808 : Int) ≤ x40 → x40 ≤ (9223372036854775807 : Int) →
∀ x41 : Int, x41 = (Cv.int (Env.get (bwide_sem.out [(.i x27), (.i x28), (.i x29), (.i x30), (.i x31), (.i x39)]) 1)) → (-9223372036854775808 : Int) ≤ x41 → x41 ≤ (9223372036854775807 : Int) →
((Cmp.den .eq x41 (0 : Int)) = true → R (Value.bool (Cmp.den .eq x40 (0 : Int)))) ∧ ((Cmp.den .eq x41 (0 : Int)) = false → R (Value.bool false))))))))))))))))))))))) ∧ ((Cmp.den .le x7 x10) = false → ∀ x11 : Int, x11 = (Int.tmod x2 (2000001 : Int)) →
∀ x12 : Int, x12 = (x11 + (2000001 : Int)) →
∀ x13 : Int, x13 = (x12 % (2000001 : Int)) →
∀ x14 : Int, x14 = (Int.tmod x3 (2000001 : Int)) →
∀ x15 : Int, x15 = (x14 + (2000001 : Int)) →
∀ x16 : Int, x16 = (x15 % (2000001 : Int)) →
∀ x17 : Int, x17 = (if (Cmp.den .lt x16 x13) = true then x16 else x13) →
∀ x18 : Int, x18 = (if (Cmp.den .lt x16 x13) = true then x13 else x16) →
(bnew_sem.pre [(.i x7)]) ∧ (
∀ x19 : Int, x19 = (Cv.int (Env.get (bnew_sem.out [(.i x7)]) 0)) → (-9223372036854775808 : Int) ≤ x19 → x19 ≤ (9223372036854775807 : Int) →
∀ x20 : Int, x20 = (Cv.int (Env.get (bnew_sem.out [(.i x7)]) 1)) → (-9223372036854775808 : Int) ≤ x20 → x20 ≤ (9223372036854775807 : Int) →
∀ x21 : Int, x21 = (Cv.int (Env.get (bnew_sem.out [(.i x7)]) 2)) → (-9223372036854775808 : Int) ≤ x21 → x21 ≤ (9223372036854775807 : Int) →
∀ x22 : Int, x22 = (Cv.int (Env.get (bnew_sem.out [(.i x7)]) 3)) → (-9223372036854775808 : Int) ≤ x22 → x22 ≤ (9223372036854775807 : Int) →
∀ x23 : Int, x23 = (Cv.int (Env.get (bnew_sem.out [(.i x7)]) 4)) → (-9223372036854775808 : Int) ≤ x23 → x23 ≤ (9223372036854775807 : Int) →
∀ x24 : Int, x24 = (Cv.int (Env.get (bnew_sem.out [(.i x7)]) 5)) → (-9223372036854775808 : Int) ≤ x24 → x24 ≤ (9223372036854775807 : Int) →
((!(Cmp.den .eq x24 (0 : Int))) = true → R (Value.bool false)) ∧ ((!(Cmp.den .eq x24 (0 : Int))) = false → ∀ x25 : Int, x25 = ((List.length (dec x8) : Int)) →
∃ (I1 : List Cv → Prop) (mu1 : List Cv → Nat), Fits [.i (some ((0), (30))), .i (some ((0), (10))), .i (some ((0), (25))), .i (some ((-1000000000), (1000000000))), .i (some ((0), (100000000))), .i (some ((-1000000), (1000000)))] [(.i (0 : Int)), (.i x19), (.i x20), (.i x21), (.i x22), (.i x23)] ∧ I1 [(.i (0 : Int)), (.i x19), (.i x20), (.i x21), (.i x22), (.i x23)] ∧ (
∀ x26 : Int, (0 : Int) ≤ x26 → x26 ≤ (30 : Int) → ∀ x27 : Int, (0 : Int) ≤ x27 → x27 ≤ (10 : Int) → ∀ x28 : Int, (0 : Int) ≤ x28 → x28 ≤ (25 : Int) → ∀ x29 : Int, (-1000000000 : Int) ≤ x29 → x29 ≤ (1000000000 : Int) → ∀ x30 : Int, (0 : Int) ≤ x30 → x30 ≤ (100000000 : Int) → ∀ x31 : Int, (-1000000 : Int) ≤ x31 → x31 ≤ (1000000 : Int) → I1 [.i x26, .i x27, .i x28, .i x29, .i x30, .i x31] →
((Cmp.den .lt x26 x25) = true → ∀ x32 : List Int, x32 = (List.getD (dec x8) (Int.toNat x26) []) →
(btake_sem.pre [(.i x27), (.i x28), (.i x29), (.i x30), (.i x31), (.l (x32))]) ∧ (
∀ x33 : Int, x33 = (Cv.int (Env.get (btake_sem.out [(.i x27), (.i x28), (.i x29), (.i x30), (.i x31), (.l (x32))]) 0)) → (-9223372036854775808 : Int) ≤ x33 → x33 ≤ (9223372036854775807 : Int) →
∀ x34 : Int, x34 = (Cv.int (Env.get (btake_sem.out [(.i x27), (.i x28), (.i x29), (.i x30), (.i x31), (.l (x32))]) 1)) → (-9223372036854775808 : Int) ≤ x34 → x34 ≤ (9223372036854775807 : Int) →
∀ x35 : Int, x35 = (Cv.int (Env.get (btake_sem.out [(.i x27), (.i x28), (.i x29), (.i x30), (.i x31), (.l (x32))]) 2)) → (-9223372036854775808 : Int) ≤ x35 → x35 ≤ (9223372036854775807 : Int) →
∀ x36 : Int, x36 = (Cv.int (Env.get (btake_sem.out [(.i x27), (.i x28), (.i x29), (.i x30), (.i x31), (.l (x32))]) 3)) → (-9223372036854775808 : Int) ≤ x36 → x36 ≤ (9223372036854775807 : Int) →
∀ x37 : Int, x37 = (Cv.int (Env.get (btake_sem.out [(.i x27), (.i x28), (.i x29), (.i x30), (.i x31), (.l (x32))]) 4)) → (-9223372036854775808 : Int) ≤ x37 → x37 ≤ (9223372036854775807 : Int) →
∀ x38 : Int, x38 = (Cv.int (Env.get (btake_sem.out [(.i x27), (.i x28), (.i x29), (.i x30), (.i x31), (.l (x32))]) 5)) → (-9223372036854775808 : Int) ≤ x38 → x38 ≤ (9223372036854775807 : Int) →
((!(Cmp.den .eq x38 (0 : Int))) = true → R (Value.bool false)) ∧ ((!(Cmp.den .eq x38 (0 : Int))) = false → ∀ x39 : Int, x39 = (x26 + (1 : Int)) →
Fits [.i (some ((0), (30))), .i (some ((0), (10))), .i (some ((0), (25))), .i (some ((-1000000000), (1000000000))), .i (some ((0), (100000000))), .i (some ((-1000000), (1000000)))] [(.i x39), (.i x33), (.i x34), (.i x35), (.i x36), (.i x37)] ∧ I1 [(.i x39), (.i x33), (.i x34), (.i x35), (.i x36), (.i x37)] ∧ mu1 [(.i x39), (.i x33), (.i x34), (.i x35), (.i x36), (.i x37)] < mu1 [.i x26, .i x27, .i x28, .i x29, .i x30, .i x31]))) ∧ ((Cmp.den .lt x26 x25) = false → (bal_sem.pre []) ∧ (
((!(Cv.bool (Env.get (bal_sem.out []) 0))) = true → R (Value.bool false)) ∧ ((!(Cv.bool (Env.get (bal_sem.out []) 0))) = false → (bwide_sem.pre [(.i x27), (.i x28), (.i x29), (.i x30), (.i x31), (.i x17)]) ∧ (
∀ x33 : Int, x33 = (Cv.int (Env.get (bwide_sem.out [(.i x27), (.i x28), (.i x29), (.i x30), (.i x31), (.i x17)]) 0)) → (-9223372036854775808 : Int) ≤ x33 → x33 ≤ (9223372036854775807 : Int) →
∀ x34 : Int, x34 = (Cv.int (Env.get (bwide_sem.out [(.i x27), (.i x28), (.i x29), (.i x30), (.i x31), (.i x17)]) 1)) → (-9223372036854775808 : Int) ≤ x34 → x34 ≤ (9223372036854775807 : Int) →
(bwide_sem.pre [(.i x27), (.i x28), (.i x29), (.i x30), (.i x31), (.i x18)]) ∧ (
∀ x35 : Int, x35 = (Cv.int (Env.get (bwide_sem.out [(.i x27), (.i x28), (.i x29), (.i x30), (.i x31), (.i x18)]) 0)) → (-9223372036854775808 : Int) ≤ x35 → x35 ≤ (9223372036854775807 : Int) →
∀ x36 : Int, x36 = (Cv.int (Env.get (bwide_sem.out [(.i x27), (.i x28), (.i x29), (.i x30), (.i x31), (.i x18)]) 1)) → (-9223372036854775808 : Int) ≤ x36 → x36 ≤ (9223372036854775807 : Int) →
((Cmp.den .lt x25 (2 : Int)) = true → ((Cmp.den .eq x34 (12 : Int)) = true → R (Value.bool (Cmp.den .eq x36 (12 : Int)))) ∧ ((Cmp.den .eq x34 (12 : Int)) = false → R (Value.bool false))) ∧ ((Cmp.den .lt x25 (2 : Int)) = false → ((Cmp.den .eq x7 (1 : Int)) = true → ∀ x37 : Int, x37 = (x28 - (1 : Int)) →
((!(Cmp.den .eq x34 (0 : Int))) = true → R (Value.bool false)) ∧ ((!(Cmp.den .eq x34 (0 : Int))) = false → ((!(Cmp.den .eq x36 (0 : Int))) = true → R (Value.bool false)) ∧ ((!(Cmp.den .eq x36 (0 : Int))) = false → ((Cmp.den .lt x35 x33) = true → R (Value.bool false)) ∧ ((Cmp.den .lt x35 x33) = false → ((Cmp.den .lt x33 (-1 : Int)) = true → R (Value.bool false)) ∧ ((Cmp.den .lt x33 (-1 : Int)) = false → ((Cmp.den .lt (1 : Int) x35) = true → R (Value.bool false)) ∧ ((Cmp.den .lt (1 : Int) x35) = false → ((Cmp.den .lt x37 (1 : Int)) = true → R (Value.bool false)) ∧ ((Cmp.den .lt x37 (1 : Int)) = false → ∀ x38 : Int, x38 = (x30 / x37) →
((Cmp.den .lt (2000000 : Int) x38) = true → R (Value.bool false)) ∧ ((Cmp.den .lt (2000000 : Int) x38) = false → ((Cmp.den .eq x30 (0 : Int)) = true → (((Cmp.den .eq x17 (0 : Int)) == (Cmp.den .eq x33 (0 : Int))) = true → R (Value.bool (Cmp.den .le (0 : Int) x33))) ∧ (((Cmp.den .eq x17 (0 : Int)) == (Cmp.den .eq x33 (0 : Int))) = false → R (Value.bool false))) ∧ ((Cmp.den .eq x30 (0 : Int)) = false → ∀ x39 : Int, x39 = (x30 % x37) →
((!(Cmp.den .eq x39 (0 : Int))) = true → R (Value.bool true)) ∧ ((!(Cmp.den .eq x39 (0 : Int))) = false → ∀ x40 : Int, x40 = (x30 / x37) →
(bwide_sem.pre [(.i x27), (.i x28), (.i x29), (.i x30), (.i x31), (.i x40)]) ∧ (
∀ x41 : Int, x41 = (Cv.int (Env.get (bwide_sem.out [(.i x27), (.i x28), (.i x29), (.i x30), (.i x31), (.i x40)]) 0)) → (-9223372036854775808 : Int) ≤ x41 → x41 ≤ (9223372036854775807 : Int) →
∀ x42 : Int, x42 = (Cv.int (Env.get (bwide_sem.out [(.i x27), (.i x28), (.i x29), (.i x30), (.i x31), (.i x40)]) 1)) → (-9223372036854775808 : Int) ≤ x42 → x42 ≤ (9223372036854775807 : Int) →
((Cmp.den .eq x42 (0 : Int)) = true → R (Value.bool (Cmp.den .eq x41 (0 : Int)))) ∧ ((Cmp.den .eq x42 (0 : Int)) = false → R (Value.bool false))))))))))))) ∧ ((Cmp.den .eq x7 (1 : Int)) = false → ((!(Cmp.den .eq x34 (0 : Int))) = true → R (Value.bool false)) ∧ ((!(Cmp.den .eq x34 (0 : Int))) = false → ((!(Cmp.den .eq x36 (0 : Int))) = true → R (Value.bool false)) ∧ ((!(Cmp.den .eq x36 (0 : Int))) = false → ((Cmp.den .lt x35 x33) = true → R (Value.bool false)) ∧ ((Cmp.den .lt x35 x33) = false → ((Cmp.den .lt x33 (-1 : Int)) = true → R (Value.bool false)) ∧ ((Cmp.den .lt x33 (-1 : Int)) = false → ((Cmp.den .lt (1 : Int) x35) = true → R (Value.bool false)) ∧ ((Cmp.den .lt (1 : Int) x35) = false → ((Cmp.den .lt x28 (1 : Int)) = true → R (Value.bool false)) ∧ ((Cmp.den .lt x28 (1 : Int)) = false → ∀ x37 : Int, x37 = (x30 / x28) →
((Cmp.den .lt (2000000 : Int) x37) = true → R (Value.bool false)) ∧ ((Cmp.den .lt (2000000 : Int) x37) = false → ((Cmp.den .eq x30 (0 : Int)) = true → (((Cmp.den .eq x17 (0 : Int)) == (Cmp.den .eq x33 (0 : Int))) = true → R (Value.bool (Cmp.den .le (0 : Int) x33))) ∧ (((Cmp.den .eq x17 (0 : Int)) == (Cmp.den .eq x33 (0 : Int))) = false → R (Value.bool false))) ∧ ((Cmp.den .eq x30 (0 : Int)) = false → ∀ x38 : Int, x38 = (x30 % x28) →
((!(Cmp.den .eq x38 (0 : Int))) = true → R (Value.bool true)) ∧ ((!(Cmp.den .eq x38 (0 : Int))) = false → ∀ x39 : Int, x39 = (x30 / x28) →
(bwide_sem.pre [(.i x27), (.i x28), (.i x29), (.i x30), (.i x31), (.i x39)]) ∧ (
∀ x40 : Int, x40 = (Cv.int (Env.get (bwide_sem.out [(.i x27), (.i x28), (.i x29), (.i x30), (.i x31), (.i x39)]) 0)) → (-9223372036854775808 : Int) ≤ x40 → x40 ≤ (9223372036854775807 : Int) →
∀ x41 : Int, x41 = (Cv.int (Env.get (bwide_sem.out [(.i x27), (.i x28), (.i x29), (.i x30), (.i x31), (.i x39)]) 1)) → (-9223372036854775808 : Int) ≤ x41 → x41 ≤ (9223372036854775807 : Int) →
((Cmp.den .eq x41 (0 : Int)) = true → R (Value.bool (Cmp.den .eq x40 (0 : Int)))) ∧ ((Cmp.den .eq x41 (0 : Int)) = false → R (Value.bool false))))))))))))))))))))))))) := by kernel_rfl

def lbwd_sem : SpecSem := { pre := fun cs => match cs with | [.i z, .l xs, .i r, .i t] => IsI z ∧ InI xs ∧ IsI r ∧ IsI t | _ => False, out := fun cs => match cs with | [.i z, .l xs, .i r, .i t] => [.b true] | _ => [] }
set_option maxRecDepth 10000 in
set_option maxHeartbeats 16000000 in
theorem lbwd_ok : SpecOK Try.prog 5 lbwd_sp lbwd_sem := by
  refine spec_of_tree lbwd_cxok Try.func5 (by kernel_rfl) (by kernel_rfl) lbwd_walk rfl ?_
  intro cs hpre
  match cs, hpre with
  | [.i z, .l xs, .i r, .i t], ⟨j_z, j_xs, j_r, j_t⟩ =>
    have h_z := j_z
    unfold IsI at h_z
    have h_r := j_r
    unfold IsI at h_r
    have h_t := j_t
    unfold IsI at h_t
    refine ⟨rfl, IvsB.ok (by simp only [lbwd_ivs, IvsB, Cv.int, and_true, j_xs, true_and] <;> omega), ?_, ?_⟩
    · simp only [lbwd_sem, lbwd_sp, Fits]
    · rw [lbwd_den]
      have hZ : 1 ≤ 1 + (z.tmod 10 + 10) % 10 ∧ 1 + (z.tmod 10 + 10) % 10 ≤ 10 := by omega
      have y1 : (1 ≤ 1 + (z.tmod 10 + 10) % 10 ∧ 1 + (z.tmod 10 + 10) % 10 ≤ 10) = True := by simp only [hZ, and_self]
      have y2 : IsI (1 + (z.tmod 10 + 10) % 10) := ⟨by omega, by omega⟩
      simp only [lbwd_sem, lbwd_sp, bnew_sem, btake_sem, bwide_sem, bal_sem, lbwd_den, bnew_sem, btake_sem, bwide_sem, bal_sem, Tree.den, LE.den, Cv.list, placeA, List.getElem?_cons_zero, List.getElem?_cons_succ, IE.den, BE.den, At.den, CA.den, Env.get, Cv.int, Cv.bool, List.cons_append, List.nil_append, List.map_cons, List.map_nil, bindRes, bindEq, Fits, SV.den, denL, place, placeL, eq_t, eq_f, lt_t, lt_f, le_t, le_f, beq_iff_eq, beq_eq_false_iff_ne, ne_eq, reduceCtorEq, b_dec, decide_eq_true_eq, decide_eq_false_iff_not, Bool.not_eq_false', Bool.or_eq_true, Bool.or_eq_false_iff, Bool.and_eq_false_iff, true_iff, false_iff, Bool.false_eq_true, Bool.not_eq_true', Bool.and_eq_true, Bool.not_true, Bool.not_false, List.cons.injEq, Cv.i.injEq, Cv.b.injEq, and_true, true_and, agg_inj, tup_inj, Value.int.injEq, Value.bool.injEq, y1, y2, if_true, Int.reduceLE, Int.reduceNeg, Int.reduceEq, Int.reduceToNat, List.drop_zero, Nat.sub_zero, forall_eq, eq_self, if_true, if_false, true_and, and_true, false_and, and_false, true_or, or_true, false_or, or_false, true_iff, iff_true, false_iff, iff_false, not_true_eq_false, not_false_eq_true, true_implies, false_implies, implies_true, forall_const, decide_true, decide_false, reduceCtorEq]
      generalize 1 + (z.tmod 10 + 10) % 10 = Z at hZ
      have ht : 0 ≤ (t.tmod 2000001 + 2000001) % 2000001 ∧ (t.tmod 2000001 + 2000001) % 2000001 ≤ 2000000 := by omega
      have hr : 0 ≤ (r.tmod 2000001 + 2000001) % 2000001 ∧ (r.tmod 2000001 + 2000001) % 2000001 ≤ 2000000 := by omega
      generalize (t.tmod 2000001 + 2000001) % 2000001 = T at ht
      generalize (r.tmod 2000001 + 2000001) % 2000001 = U at hr
      have hlo : 0 ≤ (if T < U then T else U) ∧ (if T < U then T else U) ≤ 2000000 := by split <;> omega
      have hhi : 0 ≤ (if T < U then U else T) ∧ (if T < U then U else T) ≤ 2000000 := by split <;> omega
      have hlh : (if T < U then T else U) ≤ (if T < U then U else T) := by split <;> omega
      generalize (if T < U then T else U) = A at hlo hlh
      generalize (if T < U then U else T) = B at hhi hlh
      have hI0 : ∀ j : Int, 0 ≤ j → j ≤ 2000000 → IsI j := fun j a b => ⟨by omega, by omega⟩
      refine ⟨rowsI Z 1000000, rowsMu, ⟨InI.nil, j_xs⟩, ⟨[], rfl, RowsK.nil hZ⟩, ?_⟩
      intro x8 hx8 x9 hx9 hI
      obtain ⟨L, rfl, hL⟩ : ∃ L, x8 = enc L ∧ RowsK Z 1000000 L := hI
      simp only [dec_enc]
      refine join2 (fun c1 c2 => ?_) (fun c1 c2 => ?_) fun c1 => ?_
      · generalize hq : List.take Z.toNat x9 = q
        have hql : (q.length : Int) = Z := by rw [← hq, List.length_take]; omega
        refine ⟨rowI 1000000 q, rowMu q, InI.nil, ⟨by omega, rfl, fun x hx => by cases hx⟩, ?_⟩
        intro x14 b1 b2 x15 b3 hI
        obtain ⟨h1, h2, h3⟩ : (0 ≤ x14 ∧ x14 ≤ (q.length : Int)) ∧ (x15.length : Int) = x14 ∧ inK 1000000 x15 := hI
        refine ⟨fun k1 => ⟨fun k2 => ?_, fun k2 => by omega⟩, fun k1 => ?_⟩
        · have hc := @clamp_in 1000000 (q.getD x14.toNat 0) (by omega)
          generalize (if 1000000 < (if q.getD x14.toNat 0 < -1000000 then -1000000 else q.getD x14.toNat 0) then 1000000 else if q.getD x14.toNat 0 < -1000000 then -1000000 else q.getD x14.toNat 0) = y at hc
          have hp := inK_push h3 hc
          refine ⟨⟨by omega, by omega, inK_inI (by omega) hp⟩, ⟨by omega, by simp only [List.length_append, List.length_singleton]; omega, hp⟩, ?_⟩
          show ((q.length : Int) - (x14 + 1)).toNat < ((q.length : Int) - x14).toNat
          omega
        · have hl : (x15.length : Int) = Z := by omega
          have fin : (InI (enc L ++ (x15.length : Int) :: x15) ∧ InI (List.take ((x9.length : Int).toNat - Z.toNat) (List.drop Z.toNat x9))) ∧ rowsI Z 1000000 [Cv.l (enc L ++ (x15.length : Int) :: x15), Cv.l (List.take ((x9.length : Int).toNat - Z.toNat) (List.drop Z.toNat x9))] ∧ rowsMu [Cv.l (enc L ++ (x15.length : Int) :: x15), Cv.l (List.take ((x9.length : Int).toNat - Z.toNat) (List.drop Z.toNat x9))] < rowsMu [Cv.l (enc L), Cv.l x9] := by
            have hp := hL.push (by omega) hl h3
            rw [enc_push]
            refine ⟨⟨enc_inI (by omega) hp, InI.sub (xs := x9) hx9 _ _⟩, ⟨_, rfl, hp⟩, ?_⟩
            show (List.take _ _).length < x9.length
            rw [List.length_take, List.length_drop]; omega
          have one : (Z ≤ (x9.length : Int) → ((x9.length : Int) ≤ (x9.length : Int) → (InI (enc L ++ (x15.length : Int) :: x15) ∧ InI (List.take ((x9.length : Int).toNat - Z.toNat) (List.drop Z.toNat x9))) ∧ rowsI Z 1000000 [Cv.l (enc L ++ (x15.length : Int) :: x15), Cv.l (List.take ((x9.length : Int).toNat - Z.toNat) (List.drop Z.toNat x9))] ∧ rowsMu [Cv.l (enc L ++ (x15.length : Int) :: x15), Cv.l (List.take ((x9.length : Int).toNat - Z.toNat) (List.drop Z.toNat x9))] < rowsMu [Cv.l (enc L), Cv.l x9]) ∧ ((x9.length : Int) < (x9.length : Int) → False)) ∧ ((x9.length : Int) < Z → False) := ⟨fun _ => ⟨fun _ => fin, fun h => by omega⟩, fun h => by omega⟩
          exact ⟨⟨one, one⟩, one⟩
      all_goals
        have hOK := hL.ok (Int.le_refl _)
        intro _ _
        refine ⟨madeI Z L, madeMu L, by omega, ⟨by omega, rfl, rfl, rfl, rfl, rfl⟩, ?_⟩
        intro x26 b1 b2 x27 b3 b4 x28 b5 b6 x29 b7 b8 x30 b9 b10 x31 b11 b12 hI
        obtain ⟨hi, e1, e2, e3, e4, e5⟩ : (0 ≤ x26 ∧ x26 ≤ (L.length : Int)) ∧ x27 = Z ∧ x28 = x26 ∧ x29 = bSn L x26.toNat ∧ x30 = bRn Z L x26.toNat ∧ x31 = bLn L x26.toNat := hI
        subst e1; subst e2; subst e3; subst e4; subst e5
        refine ⟨fun k1 => ?_, fun k1 => ?_⟩
        · obtain ⟨s1, s2, s3, s4, s5⟩ := made_step hOK hi.1 k1
          have hf := made_fits hOK (i := x28 + 1) (by omega)
          have hrow := hL.2.2 _ (getD_row (show x28.toNat < L.length by omega))
          refine ⟨⟨⟨by omega, by omega⟩, ⟨by omega, by omega⟩, ⟨by omega, by omega⟩, ⟨by omega, by omega⟩, ⟨by omega, by omega⟩, inK_inI (by omega) hrow.2, s1⟩, ?_⟩
          simp only [s2, s3, s4, s5, if_true, if_false, true_and, and_true, false_and, and_false, true_or, or_true, false_or, or_false, true_iff, iff_true, false_iff, iff_false, not_true_eq_false, not_false_eq_true, true_implies, false_implies, implies_true, forall_const, decide_true, decide_false, reduceCtorEq]
          intros
          refine ⟨by omega, ⟨by omega, rfl, rfl, rfl, rfl, rfl⟩, ?_⟩
          show ((L.length : Int) - (x28 + 1)).toNat < ((L.length : Int) - x28).toNat
          omega
        · have hm : x28 = (L.length : Int) := by omega
          have hB : BsOK x27 x28 (bSn L x28.toNat) (bRn x27 L x28.toNat) (bLn L x28.toNat) := by
            have := fold_ok hOK L.length (Nat.le_refl _)
            rw [hm, Int.toNat_natCast]; exact this
          try rw [← hm]
          generalize bSn L x28.toNat = S at *
          generalize bRn x27 L x28.toNat = R at *
          generalize bLn L x28.toNat = La at *
          have eE : ∀ x, 0 ≤ x → x ≤ 2000000 → bwE x27 x28 S R La x = if x28 < 2 then 12 else 0 := fun x h1 h2 => by unfold bwE; rw [if_pos ⟨hB, h1, h2⟩]
          have iA : IsI A := ⟨by omega, by omega⟩
          have iB : IsI B := ⟨by omega, by omega⟩
          have eA := eE A hlo.1 hlo.2
          have eB := eE B hhi.1 hhi.2
          refine ⟨⟨⟨by omega, by omega⟩, ⟨by omega, by omega⟩, ⟨by omega, by omega⟩, ⟨by omega, by omega⟩, ⟨by omega, by omega⟩, iA⟩, ?_⟩
          intro _ _ _ _
          refine ⟨⟨⟨by omega, by omega⟩, ⟨by omega, by omega⟩, ⟨by omega, by omega⟩, ⟨by omega, by omega⟩, ⟨by omega, by omega⟩, iB⟩, ?_⟩
          intro _ _ _ _
          obtain h2 | h2 : x28 < 2 ∨ 2 ≤ x28 := by omega
          · rw [if_pos h2] at eA eB
            first
              | exact absurd c2 (by omega)
              | (simp only [eA, eB, if_true, if_false, true_and, and_true, false_and, and_false, true_or, or_true, false_or, or_false, true_iff, iff_true, false_iff, iff_false, not_true_eq_false, not_false_eq_true, true_implies, false_implies, implies_true, forall_const, decide_true, decide_false, reduceCtorEq]; omega)
          · rw [if_neg (show ¬ x28 < 2 by omega)] at eA eB
            have hM : 1 ≤ bwM x27 x28 := by unfold bwM; split <;> omega
            have hmono := wide_mono (z := x27) (m := x28) (r := R) (by omega) hlh
            have rA := bwV_rng x27 x28 R A
            have rB := bwV_rng x27 x28 R B
            have hR : 0 ≤ R ∧ R ≤ 2000000 * bwM x27 x28 := by
              have h := hB.2.2.2.2.2
              unfold bsteps at h
              unfold bwM
              (repeat' split at h) <;> (repeat' split) <;> omega
            have hq : 0 ≤ R / bwM x27 x28 ∧ R / bwM x27 x28 ≤ 2000000 := ⟨Int.ediv_nonneg hR.1 (by omega), Int.ediv_le_of_le_mul (by omega) (by omega)⟩
            have eQ := eE _ hq.1 hq.2
            rw [if_neg (show ¬ x28 < 2 by omega)] at eQ
            have iQ : IsI (R / bwM x27 x28) := ⟨by omega, by omega⟩
            have hmean := fun hd => wide_mean (r := R) hL.1 hR.1 hM hd
            have hzero : R = 0 → (Cmp.den .eq A 0 = Cmp.den .eq (bwV x27 x28 R A) 0) ∧ 0 ≤ bwV x27 x28 R A := fun h => by
              have := wide_zero (z := x27) (m := x28) (x := A) hM hlo.1
              rw [h]
              refine ⟨?_, this.2⟩
              simp only [Cmp.den, decide_eq_decide]
              exact this.1
            have ij : IsI x27 ∧ IsI x28 ∧ IsI S ∧ IsI R ∧ IsI La := ⟨⟨by omega, by omega⟩, ⟨by omega, by omega⟩, ⟨by omega, by omega⟩, ⟨by omega, by omega⟩, ⟨by omega, by omega⟩⟩
            have hb : bwM x27 x28 = x28 - 1 ∧ (x27 = 1) = True ∨ bwM x27 x28 = x28 ∧ (x27 = 1) = False := by
              unfold bwM
              by_cases h : x27 = 1
              · exact .inl ⟨if_pos h, eq_true h⟩
              · exact .inr ⟨if_neg h, eq_false h⟩
            rcases hb with ⟨hb, hz⟩ | ⟨hb, hz⟩
            all_goals
              rw [hb] at hM hR hq eQ iQ hmean
              obtain ⟨i1, i2, i3, i4, i5⟩ := ij
              simp only [eA, eB, eQ, hz, i1, i2, i3, i4, i5, iQ, eq_self, if_true, if_false, true_and, and_true, false_and, and_false, true_or, or_true, false_or, or_false, true_iff, iff_true, false_iff, iff_false, not_true_eq_false, not_false_eq_true, true_implies, false_implies, implies_true, forall_const, decide_true, decide_false, reduceCtorEq]
              repeat' (first | intro _ | refine And.intro ?_ ?_)
              all_goals first
                | omega
                | exact (hzero ‹_›).2
                | exact absurd (hzero ‹_›).1 ‹_›
                | exact hmean ‹_›
end Go.Proofs.Ytjbokdekofiihaa.X
