/-
  NelsonNarrows holds of every input.
-/
import Derived.Test.YtmnpeneplobpdaaDoorSxNeSu
namespace Go.Proofs.YtmnpeneplobpdaaDoor.X
open Go Go.SX Go.RowKit
set_option linter.unusedVariables false
set_option linter.unusedSimpArgs false







def bitY (y : Int) : Nat := (BitVec.ofInt 64 y).toNat
theorem bitY_lt (y : Int) : bitY y < 2 ^ 64 := (BitVec.ofInt 64 y).isLt
theorem and_natG {x y : Int} (hx : IsM0 x) : bitDen .and .i64 x y = ((x.toNat &&& bitY y : Nat) : Int) := by
  obtain ⟨a, rfl⟩ := Int.eq_ofNat_of_zero_le hx.1
  have ha := hx.2
  have h1 : (BitVec.ofInt 64 (a : Int) &&& BitVec.ofInt 64 y).toNat = a &&& bitY y := by
    have e1 : BitVec.ofInt 64 (a : Int) = BitVec.ofNat 64 a := by simp
    rw [e1, BitVec.toNat_and, BitVec.toNat_ofNat, Nat.mod_eq_of_lt (by omega)]; rfl
  have h2 : bitDen .and .i64 (a : Int) y = IntKind.i64.wrap ((a &&& bitY y : Nat) : Int) := by
    show IntKind.i64.wrap _ = _
    congr 1
    exact_mod_cast h1
  have := Nat.and_le_left (n := a) (m := bitY y)
  rw [h2, w64 (by omega) (by omega)]
  simp
theorem andnot_natG {x y : Int} (hx : IsM0 x) : bitDen .andNot .i64 x y = ((x.toNat &&& (2 ^ 64 - (bitY y + 1)) : Nat) : Int) := by
  obtain ⟨a, rfl⟩ := Int.eq_ofNat_of_zero_le hx.1
  have ha := hx.2
  have h1 : (BitVec.ofInt 64 (a : Int) &&& ~~~ BitVec.ofInt 64 y).toNat = a &&& (2 ^ 64 - (bitY y + 1)) := by
    have e1 : BitVec.ofInt 64 (a : Int) = BitVec.ofNat 64 a := by simp
    rw [e1, BitVec.toNat_and, BitVec.toNat_not, BitVec.toNat_ofNat, Nat.mod_eq_of_lt (by omega)]
    congr 1
    unfold bitY
    omega
  have h2 : bitDen .andNot .i64 (a : Int) y = IntKind.i64.wrap ((a &&& (2 ^ 64 - (bitY y + 1)) : Nat) : Int) := by
    show IntKind.i64.wrap _ = _
    congr 1
    exact_mod_cast h1
  have := Nat.and_le_left (n := a) (m := 2 ^ 64 - (bitY y + 1))
  rw [h2, w64 (by omega) (by omega)]
  simp
theorem split_rng {x y : Int} (hx : IsM0 x) : IsM0 (bitDen .and .i64 x y) ∧ IsM0 (bitDen .andNot .i64 x y) := by
  rw [and_natG hx, andnot_natG hx]
  have h1 := hx.1; have h2 := hx.2
  have a := Nat.and_le_left (n := x.toNat) (m := bitY y)
  have b := Nat.and_le_left (n := x.toNat) (m := 2 ^ 64 - (bitY y + 1))
  exact ⟨⟨by omega, by omega⟩, ⟨by omega, by omega⟩⟩
theorem has_split {x y c : Int} (hx : IsM0 x) : has x c ↔ has (bitDen .and .i64 x y) c ∨ has (bitDen .andNot .i64 x y) c := by
  rw [and_natG hx, andnot_natG hx]
  unfold has
  rw [Int.toNat_natCast, Int.toNat_natCast, Nat.testBit_and, Nat.testBit_and, Nat.testBit_two_pow_sub_succ (bitY_lt y), Bool.and_eq_true, Bool.and_eq_true, Bool.and_eq_true, Bool.not_eq_true', decide_eq_true_eq]
  constructor
  · rintro ⟨h, h1⟩
    cases hb : (bitY y).testBit (c + 4).toNat
    · exact .inr ⟨h, h1, by omega, rfl⟩
    · exact .inl ⟨h, h1, rfl⟩
  · rintro (⟨h, h1, _⟩ | ⟨h, h1, _⟩) <;> exact ⟨h, h1⟩
theorem val3_union {A E A1 E1 A2 E2 : Prop} (h1 : A1 → E1) (h2 : A2 → E2) (hA : A ↔ A1 ∧ A2) (hE : E ↔ E1 ∨ E2) : val3 A E = if val3 A1 E1 = val3 A2 E2 then val3 A1 E1 else 1 := by
  unfold val3
  by_cases a1 : A1 <;> by_cases a2 : A2 <;> by_cases e1 : E1 <;> by_cases e2 : E2 <;> simp_all
theorem getD_set {ms : List Int} {k j : Nat} {a : Int} (hk : k < ms.length) : (ms.set k a).getD j 0 = if j = k then a else ms.getD j 0 := by
  by_cases h : j = k
  · subst h; simp [List.getD, hk]
  · rw [if_neg h]; simp [List.getD, List.getElem?_set, Ne.symm h]
theorem row_lst_iff {n : Nat} {ms row : List Int} (h : n ≤ ms.length) : Row (lst n ms) row ↔ row.length = n ∧ ∀ i : Nat, i < n → has (ms.getD (ms.length - n + i) 0) (row.getD i 0) := by
  unfold Row
  rw [lst_len h]
  have e : ∀ i, (lst n ms).getD i 0 = ms.getD (ms.length - n + i) 0 := fun i => by unfold lst; simp [List.getD, List.getElem?_drop]
  simp only [e]
theorem set_ms {ms : List Int} {k : Nat} {a : Int} (hm : ∀ m ∈ ms, IsM m) (ha : IsM a) : ∀ m ∈ ms.set k a, IsM m := fun m h => by
  rcases List.mem_or_eq_of_mem_set h with h | rfl
  · exact hm m h
  · exact ha
theorem tell_split {G : List Int → Prop} {n k : Nat} {ms : List Int} {a b : Int} (hm : ∀ m ∈ ms, IsM m) (hl : ms.length ≤ 15) (hk : k < ms.length) (ha : IsM a) (hb : IsM b) (hab : ∀ c, has (ms.getD k 0) c ↔ has a c ∨ has b c) :
    tellV G n ms = if tellV G n (ms.set k a) = tellV G n (ms.set k b) then tellV G n (ms.set k a) else 1 := by
  have ma := set_ms (k := k) hm ha
  have mb := set_ms (k := k) hm hb
  have la : (ms.set k a).length = ms.length := List.length_set
  have lb : (ms.set k b).length = ms.length := List.length_set
  have e0 : tellV G n ms = ruleV G n ms := if_pos ⟨hl, hm⟩
  have e1 : tellV G n (ms.set k a) = ruleV G n (ms.set k a) := if_pos ⟨by rw [la]; exact hl, ma⟩
  have e2 : tellV G n (ms.set k b) = ruleV G n (ms.set k b) := if_pos ⟨by rw [lb]; exact hl, mb⟩
  rw [e0, e1, e2]
  rcases Nat.lt_or_ge ms.length n with q | q
  · rw [ruleV_few q, ruleV_few (by rw [la]; exact q), ruleV_few (by rw [lb]; exact q)]; simp
  · by_cases hkn : ms.length - n ≤ k
    · rw [ruleV_of q, ruleV_of (by rw [la]; exact q), ruleV_of (by rw [lb]; exact q)]
      have hr : ∀ row, Row (lst n ms) row ↔ Row (lst n (ms.set k a)) row ∨ Row (lst n (ms.set k b)) row := fun row => by
        rw [row_lst_iff q, row_lst_iff (by rw [la]; exact q), row_lst_iff (by rw [lb]; exact q), la, lb]
        simp only [getD_set hk]
        constructor
        · rintro ⟨h1, h2⟩
          have hx := h2 (k - (ms.length - n)) (by omega)
          rw [show ms.length - n + (k - (ms.length - n)) = k by omega] at hx
          rcases (hab _).1 hx with hx | hx
          · refine .inl ⟨h1, fun i hi => ?_⟩
            by_cases e : ms.length - n + i = k
            · rw [if_pos e]; rw [show k - (ms.length - n) = i by omega] at hx; exact hx
            · rw [if_neg e]; exact h2 i hi
          · refine .inr ⟨h1, fun i hi => ?_⟩
            by_cases e : ms.length - n + i = k
            · rw [if_pos e]; rw [show k - (ms.length - n) = i by omega] at hx; exact hx
            · rw [if_neg e]; exact h2 i hi
        · rintro (⟨h1, h2⟩ | ⟨h1, h2⟩)
          · refine ⟨h1, fun i hi => ?_⟩
            have := h2 i hi
            by_cases e : ms.length - n + i = k
            · rw [if_pos e] at this; rw [e]; exact (hab _).2 (.inl this)
            · rw [if_neg e] at this; exact this
          · refine ⟨h1, fun i hi => ?_⟩
            have := h2 i hi
            by_cases e : ms.length - n + i = k
            · rw [if_pos e] at this; rw [e]; exact (hab _).2 (.inr this)
            · rw [if_neg e] at this; exact this
      obtain ⟨ra, hra⟩ := row_some (lst_mem (n := n) ma)
      obtain ⟨rb, hrb⟩ := row_some (lst_mem (n := n) mb)
      refine val3_union (fun h => ⟨ra, hra, h _ hra⟩) (fun h => ⟨rb, hrb, h _ hrb⟩) ?_ ?_
      · constructor
        · intro h; exact ⟨fun row x => h row ((hr row).2 (.inl x)), fun row x => h row ((hr row).2 (.inr x))⟩
        · rintro ⟨h1, h2⟩ row x; exact ((hr row).1 x).elim (h1 row) (h2 row)
      · constructor
        · rintro ⟨row, x, g⟩; exact ((hr row).1 x).imp (fun y => ⟨row, y, g⟩) (fun y => ⟨row, y, g⟩)
        · rintro (⟨row, x, g⟩ | ⟨row, x, g⟩)
          · exact ⟨row, (hr row).2 (.inl x), g⟩
          · exact ⟨row, (hr row).2 (.inr x), g⟩
    · have ea : ruleV G n (ms.set k a) = ruleV G n ms := by
        rw [ruleV_of q, ruleV_of (by rw [la]; exact q)]
        have : lst n (ms.set k a) = lst n ms := by unfold lst; rw [la, List.drop_set_of_lt (by omega)]
        rw [this]
      have eb : ruleV G n (ms.set k b) = ruleV G n ms := by
        rw [ruleV_of q, ruleV_of (by rw [lb]; exact q)]
        have : lst n (ms.set k b) = lst n ms := by unfold lst; rw [lb, List.drop_set_of_lt (by omega)]
        rw [this]
      rw [ea, eb, if_pos rfl]
theorem inI_ms {l : List Int} (h : ∀ m ∈ l, IsM m) : InI l := fun y hy => by
  have := h y hy
  have h1 := this.1; have h2 := this.2
  omega
theorem pick_rng2 {y n : Int} (h0 : 0 < n) (h1 : n ≤ 100) : IntKind.i64.wrap (Int.tmod y n + n) = Int.tmod y n + n ∧ 0 ≤ Int.tmod (Int.tmod y n + n) n ∧ Int.tmod (Int.tmod y n + n) n < n := by
  have a1 := Int.tmod_lt_of_pos y h0
  have a2 : -n < Int.tmod y n := by
    have := Int.tmod_lt_of_pos (-y) h0
    rw [Int.neg_tmod] at this
    omega
  refine ⟨w64 (by omega) (by omega), ?_, Int.tmod_lt_of_pos _ h0⟩
  exact Int.tmod_nonneg _ (by omega)
def lnna_sp : SpecSh := { args := [(.lst 0), (.int .i64 (.z 0)), (.int .i64 (.z 0))], res := (.bool .f), sh := [.b] }
set_option maxRecDepth 100000 in
def lnna_tree : Tree :=
.lett (.len 0) <|
.lett (.ite (.cmp .lt (.z 15) (.v 3)) (.z 15) (.v 3)) <|
.ite (.cmp .le (.v 4) (.v 3)) (.letl (.sub 0 (.z 0) (.v 4)) <|
.lett (.len 5) <|
.loop [.i (some (0, 15)), .l, .l] [.i (.z 0), .l (.nil), .l (.nil)] <|
.ite (.cmp .lt (.v 7) (.v 6)) (.lett (.nth 5 (.v 7)) <|
.lett (.rem (.v 10) (.z 511)) <|
.lett (.add (.v 11) (.z 511)) <|
.lett (.mod (.v 12) (.z 511)) <|
.lett (.add (.z 1) (.v 13)) <|
.loop [.i (some ((-4), 5)), .l] [.i (.z (-4)), .l (.nil)] <|
.ite (.cmp .le (.v 15) (.z 4)) (.call 22 [.b] [.i (.v 14), .i (.v 15)] <|
.ite (.v 17) (.lett (.len 16) <|
.ite (.cmp .le (.v 18) (.z 100000)) (.letl (.app 16 [.v 15]) <|
.lett (.add (.v 15) (.z 1)) <|
.again 1 [.i (.v 20), .l (.v 19)]) <|
.bad 113) <|
.lett (.add (.v 15) (.z 1)) <|
.again 1 [.i (.v 18), .l (.v 16)]) <|
.lett (.len 16) <|
.ite (.cmp .lt (.z 0) (.v 17)) (.lett (.nth 16 (.z 0)) <|
.all (.all (.lett (.len 8) <|
.ite (.cmp .le (.v 19) (.z 100000)) (.letl (.app 8 [.v 14]) <|
.lett (.len 9) <|
.ite (.cmp .le (.v 21) (.z 100000)) (.letl (.app 9 [.v 18]) <|
.lett (.add (.v 7) (.z 1)) <|
.again 0 [.i (.v 23), .l (.v 20), .l (.v 22)]) <|
.bad 113) <|
.bad 113) <|
.lett (.len 8) <|
.ite (.cmp .le (.v 19) (.z 100000)) (.letl (.app 8 [.v 14]) <|
.lett (.len 9) <|
.ite (.cmp .le (.v 21) (.z 100000)) (.letl (.app 9 [.v 18]) <|
.lett (.add (.v 7) (.z 1)) <|
.again 0 [.i (.v 23), .l (.v 20), .l (.v 22)]) <|
.bad 113) <|
.bad 113) <|
.lett (.len 8) <|
.ite (.cmp .le (.v 19) (.z 100000)) (.letl (.app 8 [.v 14]) <|
.lett (.len 9) <|
.ite (.cmp .le (.v 21) (.z 100000)) (.letl (.app 9 [.v 18]) <|
.lett (.add (.v 7) (.z 1)) <|
.again 0 [.i (.v 23), .l (.v 20), .l (.v 22)]) <|
.bad 113) <|
.bad 113) <|
.bad 35) <|
.lett (.len 8) <|
.ite (.cmp .eq (.v 10) (.z 0)) (.call 11 [.b] [] <|
.ret (.bool (.v 11))) <|
.lett (.rem (.v 1) (.v 10)) <|
.lett (.addw .i64 (.v 11) (.v 10)) <|
.lett (.rem (.v 12) (.v 10)) <|
.ite (.cmp .le (.z 0) (.v 13)) (.ite (.cmp .lt (.v 13) (.v 10)) (.lett (.nth 8 (.v 13)) <|
.lett (.bit .and .i64 (.v 14) (.v 2)) <|
.lett (.nth 8 (.v 13)) <|
.lett (.bit .andNot .i64 (.v 16) (.v 2)) <|
.ite (.cmp .eq (.v 15) (.z 0)) (.call 11 [.b] [] <|
.ret (.bool (.v 18))) <|
.ite (.cmp .eq (.v 17) (.z 0)) (.call 11 [.b] [] <|
.ret (.bool (.v 18))) <|
.ite (.cmp .le (.v 10) (.z 100000)) (.letl (.v 8) <|
.letl (.v 8) <|
.lett (.len 18) <|
.ite (.cmp .lt (.v 13) (.v 20)) (.letl (.set 18 (.v 13) (.v 15)) <|
.lett (.len 19) <|
.ite (.cmp .lt (.v 13) (.v 22)) (.letl (.set 19 (.v 13) (.v 17)) <|
.call 14 [.i (some (0, 2)), .i (some (0, 2)), .i (some (0, 2)), .i (some (0, 2)), .i (some (0, 2)), .i (some (0, 2)), .i (some (0, 2)), .i (some (0, 2)), .i (some (0, 1))] [.l (.v 8)] <|
.call 14 [.i (some (0, 2)), .i (some (0, 2)), .i (some (0, 2)), .i (some (0, 2)), .i (some (0, 2)), .i (some (0, 2)), .i (some (0, 2)), .i (some (0, 2)), .i (some (0, 1))] [.l (.v 21)] <|
.call 14 [.i (some (0, 2)), .i (some (0, 2)), .i (some (0, 2)), .i (some (0, 2)), .i (some (0, 2)), .i (some (0, 2)), .i (some (0, 2)), .i (some (0, 2)), .i (some (0, 1))] [.l (.v 23)] <|
.ite (.not (.cmp .eq (.v 32) (.z 0))) (.ret (.bool .f)) <|
.ite (.not (.cmp .eq (.v 41) (.z 0))) (.ret (.bool .f)) <|
.ite (.not (.cmp .eq (.v 50) (.z 0))) (.ret (.bool .f)) <|
.call 11 [.b] [] <|
.ite (.not (.v 51)) (.ret (.bool .f)) <|
.loop [.i (some (0, 8))] [.i (.z 0)] <|
.ite (.cmp .lt (.v 52) (.z 8)) (.ite (.cmp .le (.v 52) (.z 0)) (.lett (.ite (.cmp .eq (.v 33) (.v 42)) (.v 33) (.z 1)) <|
.ite (.not (.cmp .eq (.v 24) (.v 53))) (.ret (.bool .f)) <|
.again 1 [.i (.z 1)]) <|
.ite (.cmp .le (.v 52) (.z 1)) (.lett (.ite (.cmp .eq (.v 34) (.v 43)) (.v 34) (.z 1)) <|
.ite (.not (.cmp .eq (.v 25) (.v 53))) (.ret (.bool .f)) <|
.again 1 [.i (.z 2)]) <|
.ite (.cmp .le (.v 52) (.z 2)) (.lett (.ite (.cmp .eq (.v 35) (.v 44)) (.v 35) (.z 1)) <|
.ite (.not (.cmp .eq (.v 26) (.v 53))) (.ret (.bool .f)) <|
.again 1 [.i (.z 3)]) <|
.ite (.cmp .le (.v 52) (.z 3)) (.lett (.ite (.cmp .eq (.v 36) (.v 45)) (.v 36) (.z 1)) <|
.ite (.not (.cmp .eq (.v 27) (.v 53))) (.ret (.bool .f)) <|
.again 1 [.i (.z 4)]) <|
.ite (.cmp .le (.v 52) (.z 4)) (.lett (.ite (.cmp .eq (.v 37) (.v 46)) (.v 37) (.z 1)) <|
.ite (.not (.cmp .eq (.v 28) (.v 53))) (.ret (.bool .f)) <|
.again 1 [.i (.z 5)]) <|
.ite (.cmp .le (.v 52) (.z 5)) (.lett (.ite (.cmp .eq (.v 38) (.v 47)) (.v 38) (.z 1)) <|
.ite (.not (.cmp .eq (.v 29) (.v 53))) (.ret (.bool .f)) <|
.again 1 [.i (.z 6)]) <|
.ite (.cmp .le (.v 52) (.z 6)) (.lett (.ite (.cmp .eq (.v 39) (.v 48)) (.v 39) (.z 1)) <|
.ite (.not (.cmp .eq (.v 30) (.v 53))) (.ret (.bool .f)) <|
.again 1 [.i (.z 7)]) <|
.lett (.ite (.cmp .eq (.v 40) (.v 49)) (.v 40) (.z 1)) <|
.ite (.not (.cmp .eq (.v 31) (.v 53))) (.ret (.bool .f)) <|
.again 1 [.i (.z 8)]) <|
.ret (.bool .t)) <|
.bad 29) <|
.bad 29) <|
.bad 160) <|
.bad 29) <|
.bad 29) <|
.bad 120
noncomputable def lnna_cx : Ctx := { tys := tys, fns := fns, mets := mets, sps := [(14, ntell_sp), (11, nal_sp), (22, r13has_sp)], anns := [((13, 3), { slots := [18], cells := [], ivs := [some (0, 15)], lsts := [6, 7], elem := 3 }), ((23, 3), { slots := [4], cells := [], ivs := [some ((-4), 5)], lsts := [3], elem := 3 }), ((5, 17), { slots := [104], cells := [], ivs := [some (0, 8)] })], trys := [] }
def lnna_ivs : List (Option (Int × Int)) := [none, some ((-9223372036854775808), 9223372036854775807), some ((-9223372036854775808), 9223372036854775807)]
set_option maxRecDepth 100000 in
theorem lnna_walk : runFn lnna_cx 3000 5 Tryd.f5 lnna_sp.args lnna_ivs = lnna_tree := by kernel_rfl
noncomputable def lnna_M : Nat → SpecSem
  | 14 => ntell_sem
  | 11 => nal_sem
  | 22 => r13has_sem
  | _ => noSem
theorem lnna_M14 : lnna_M 14 = ntell_sem := rfl
theorem lnna_M11 : lnna_M 11 = nal_sem := rfl
theorem lnna_M22 : lnna_M 22 = r13has_sem := rfl
theorem lnna_cxok : CxOK Tryd.prog lnna_cx lnna_M tzG := ⟨tysOK, fnsOK, spCons ntell_ok <| spCons nal_ok <| spCons r13has_ok <| fun _ _ h => spNil h, mixedOK, fun _ _ h => trNil h, fun _ _ h => atNil h, metsOK, fun _ _ h => efNil h, fun _ _ h => lsNil h⟩
set_option maxRecDepth 100000 in
set_option maxHeartbeats 8000000 in
theorem lnna_den (R RP : Value → Prop) (F : Ex → St → Js → Env → Prop) (x0 : List Int) (x1 : Int) (x2 : Int) : Tree.den lnna_M R RP F lnna_tree [] [(.l x0), (.i x1), (.i x2)] = (
  ∀ x3 : Int, x3 = ((List.length x0 : Int)) →
∀ x4 : Int, x4 = (if (Cmp.den .lt (15 : Int) x3) = true then (15 : Int) else x3) →
((Cmp.den .le x4 x3) = true → ∀ x5 : List Int, x5 = (List.take (Int.toNat x4 - Int.toNat (0 : Int)) (List.drop (Int.toNat (0 : Int)) x0)) →
∀ x6 : Int, x6 = ((List.length x5 : Int)) →
∃ (I0 : List Cv → Prop) (mu0 : List Cv → Nat), Fits [.i (some ((0), (15))), .l, .l] [(.i (0 : Int)), (.l (([] : List Int))), (.l (([] : List Int)))] ∧ I0 [(.i (0 : Int)), (.l (([] : List Int))), (.l (([] : List Int)))] ∧ (
∀ x7 : Int, (0 : Int) ≤ x7 → x7 ≤ (15 : Int) → ∀ x8 : List Int, InI x8 → ∀ x9 : List Int, InI x9 → I0 [.i x7, .l x8, .l x9] →
((Cmp.den .lt x7 x6) = true → ∀ x10 : Int, x10 = (List.getD x5 (Int.toNat x7) 0) →
∀ x11 : Int, x11 = (Int.tmod x10 (511 : Int)) →
∀ x12 : Int, x12 = (x11 + (511 : Int)) →
∀ x13 : Int, x13 = (x12 % (511 : Int)) →
∀ x14 : Int, x14 = ((1 : Int) + x13) →
∃ (I1 : List Cv → Prop) (mu1 : List Cv → Nat), Fits [.i (some ((-4), (5))), .l] [(.i (-4 : Int)), (.l (([] : List Int)))] ∧ I1 [(.i (-4 : Int)), (.l (([] : List Int)))] ∧ (
∀ x15 : Int, (-4 : Int) ≤ x15 → x15 ≤ (5 : Int) → ∀ x16 : List Int, InI x16 → I1 [.i x15, .l x16] →
((Cmp.den .le x15 (4 : Int)) = true → (r13has_sem.pre [(.i x14), (.i x15)]) ∧ (
((Cv.bool (Env.get (r13has_sem.out [(.i x14), (.i x15)]) 0)) = true → ∀ x18 : Int, x18 = ((List.length x16 : Int)) →
((Cmp.den .le x18 (100000 : Int)) = true → ∀ x19 : List Int, x19 = (x16 ++ ([x15] : List Int)) →
∀ x20 : Int, x20 = (x15 + (1 : Int)) →
Fits [.i (some ((-4), (5))), .l] [(.i x20), (.l (x19))] ∧ I1 [(.i x20), (.l (x19))] ∧ mu1 [(.i x20), (.l (x19))] < mu1 [.i x15, .l x16]) ∧ ((Cmp.den .le x18 (100000 : Int)) = false → False)) ∧ ((Cv.bool (Env.get (r13has_sem.out [(.i x14), (.i x15)]) 0)) = false → ∀ x18 : Int, x18 = (x15 + (1 : Int)) →
Fits [.i (some ((-4), (5))), .l] [(.i x18), (.l (x16))] ∧ I1 [(.i x18), (.l (x16))] ∧ mu1 [(.i x18), (.l (x16))] < mu1 [.i x15, .l x16]))) ∧ ((Cmp.den .le x15 (4 : Int)) = false → ∀ x17 : Int, x17 = ((List.length x16 : Int)) →
((Cmp.den .lt (0 : Int) x17) = true → ∀ x18 : Int, x18 = (List.getD x16 (Int.toNat (0 : Int)) 0) →
((∀ x19 : Int, x19 = ((List.length x8 : Int)) →
((Cmp.den .le x19 (100000 : Int)) = true → ∀ x20 : List Int, x20 = (x8 ++ ([x14] : List Int)) →
∀ x21 : Int, x21 = ((List.length x9 : Int)) →
((Cmp.den .le x21 (100000 : Int)) = true → ∀ x22 : List Int, x22 = (x9 ++ ([x18] : List Int)) →
∀ x23 : Int, x23 = (x7 + (1 : Int)) →
Fits [.i (some ((0), (15))), .l, .l] [(.i x23), (.l (x20)), (.l (x22))] ∧ I0 [(.i x23), (.l (x20)), (.l (x22))] ∧ mu0 [(.i x23), (.l (x20)), (.l (x22))] < mu0 [.i x7, .l x8, .l x9]) ∧ ((Cmp.den .le x21 (100000 : Int)) = false → False)) ∧ ((Cmp.den .le x19 (100000 : Int)) = false → False)) ∧ (∀ x19 : Int, x19 = ((List.length x8 : Int)) →
((Cmp.den .le x19 (100000 : Int)) = true → ∀ x20 : List Int, x20 = (x8 ++ ([x14] : List Int)) →
∀ x21 : Int, x21 = ((List.length x9 : Int)) →
((Cmp.den .le x21 (100000 : Int)) = true → ∀ x22 : List Int, x22 = (x9 ++ ([x18] : List Int)) →
∀ x23 : Int, x23 = (x7 + (1 : Int)) →
Fits [.i (some ((0), (15))), .l, .l] [(.i x23), (.l (x20)), (.l (x22))] ∧ I0 [(.i x23), (.l (x20)), (.l (x22))] ∧ mu0 [(.i x23), (.l (x20)), (.l (x22))] < mu0 [.i x7, .l x8, .l x9]) ∧ ((Cmp.den .le x21 (100000 : Int)) = false → False)) ∧ ((Cmp.den .le x19 (100000 : Int)) = false → False))) ∧ (∀ x19 : Int, x19 = ((List.length x8 : Int)) →
((Cmp.den .le x19 (100000 : Int)) = true → ∀ x20 : List Int, x20 = (x8 ++ ([x14] : List Int)) →
∀ x21 : Int, x21 = ((List.length x9 : Int)) →
((Cmp.den .le x21 (100000 : Int)) = true → ∀ x22 : List Int, x22 = (x9 ++ ([x18] : List Int)) →
∀ x23 : Int, x23 = (x7 + (1 : Int)) →
Fits [.i (some ((0), (15))), .l, .l] [(.i x23), (.l (x20)), (.l (x22))] ∧ I0 [(.i x23), (.l (x20)), (.l (x22))] ∧ mu0 [(.i x23), (.l (x20)), (.l (x22))] < mu0 [.i x7, .l x8, .l x9]) ∧ ((Cmp.den .le x21 (100000 : Int)) = false → False)) ∧ ((Cmp.den .le x19 (100000 : Int)) = false → False))) ∧ ((Cmp.den .lt (0 : Int) x17) = false → False)))) ∧ ((Cmp.den .lt x7 x6) = false → ∀ x10 : Int, x10 = ((List.length x8 : Int)) →
((Cmp.den .eq x10 (0 : Int)) = true → (nal_sem.pre []) ∧ (
R (Value.bool (Cv.bool (Env.get (nal_sem.out []) 0))))) ∧ ((Cmp.den .eq x10 (0 : Int)) = false → ∀ x11 : Int, x11 = (Int.tmod x1 x10) →
∀ x12 : Int, x12 = (IntKind.i64.wrap (x11 + x10)) →
∀ x13 : Int, x13 = (Int.tmod x12 x10) →
((Cmp.den .le (0 : Int) x13) = true → ((Cmp.den .lt x13 x10) = true → ∀ x14 : Int, x14 = (List.getD x8 (Int.toNat x13) 0) →
∀ x15 : Int, x15 = (bitDen .and .i64 x14 x2) →
∀ x16 : Int, x16 = (List.getD x8 (Int.toNat x13) 0) →
∀ x17 : Int, x17 = (bitDen .andNot .i64 x16 x2) →
((Cmp.den .eq x15 (0 : Int)) = true → (nal_sem.pre []) ∧ (
R (Value.bool (Cv.bool (Env.get (nal_sem.out []) 0))))) ∧ ((Cmp.den .eq x15 (0 : Int)) = false → ((Cmp.den .eq x17 (0 : Int)) = true → (nal_sem.pre []) ∧ (
R (Value.bool (Cv.bool (Env.get (nal_sem.out []) 0))))) ∧ ((Cmp.den .eq x17 (0 : Int)) = false → ((Cmp.den .le x10 (100000 : Int)) = true → ∀ x18 : List Int, x18 = (x8) →
∀ x19 : List Int, x19 = (x8) →
∀ x20 : Int, x20 = ((List.length x18 : Int)) →
((Cmp.den .lt x13 x20) = true → ∀ x21 : List Int, x21 = (List.set x18 (Int.toNat x13) x15) →
∀ x22 : Int, x22 = ((List.length x19 : Int)) →
((Cmp.den .lt x13 x22) = true → ∀ x23 : List Int, x23 = (List.set x19 (Int.toNat x13) x17) →
(ntell_sem.pre [(.l (x8))]) ∧ (
∀ x24 : Int, x24 = (Cv.int (Env.get (ntell_sem.out [(.l (x8))]) 0)) → (0 : Int) ≤ x24 → x24 ≤ (2 : Int) →
∀ x25 : Int, x25 = (Cv.int (Env.get (ntell_sem.out [(.l (x8))]) 1)) → (0 : Int) ≤ x25 → x25 ≤ (2 : Int) →
∀ x26 : Int, x26 = (Cv.int (Env.get (ntell_sem.out [(.l (x8))]) 2)) → (0 : Int) ≤ x26 → x26 ≤ (2 : Int) →
∀ x27 : Int, x27 = (Cv.int (Env.get (ntell_sem.out [(.l (x8))]) 3)) → (0 : Int) ≤ x27 → x27 ≤ (2 : Int) →
∀ x28 : Int, x28 = (Cv.int (Env.get (ntell_sem.out [(.l (x8))]) 4)) → (0 : Int) ≤ x28 → x28 ≤ (2 : Int) →
∀ x29 : Int, x29 = (Cv.int (Env.get (ntell_sem.out [(.l (x8))]) 5)) → (0 : Int) ≤ x29 → x29 ≤ (2 : Int) →
∀ x30 : Int, x30 = (Cv.int (Env.get (ntell_sem.out [(.l (x8))]) 6)) → (0 : Int) ≤ x30 → x30 ≤ (2 : Int) →
∀ x31 : Int, x31 = (Cv.int (Env.get (ntell_sem.out [(.l (x8))]) 7)) → (0 : Int) ≤ x31 → x31 ≤ (2 : Int) →
∀ x32 : Int, x32 = (Cv.int (Env.get (ntell_sem.out [(.l (x8))]) 8)) → (0 : Int) ≤ x32 → x32 ≤ (1 : Int) →
(ntell_sem.pre [(.l (x21))]) ∧ (
∀ x33 : Int, x33 = (Cv.int (Env.get (ntell_sem.out [(.l (x21))]) 0)) → (0 : Int) ≤ x33 → x33 ≤ (2 : Int) →
∀ x34 : Int, x34 = (Cv.int (Env.get (ntell_sem.out [(.l (x21))]) 1)) → (0 : Int) ≤ x34 → x34 ≤ (2 : Int) →
∀ x35 : Int, x35 = (Cv.int (Env.get (ntell_sem.out [(.l (x21))]) 2)) → (0 : Int) ≤ x35 → x35 ≤ (2 : Int) →
∀ x36 : Int, x36 = (Cv.int (Env.get (ntell_sem.out [(.l (x21))]) 3)) → (0 : Int) ≤ x36 → x36 ≤ (2 : Int) →
∀ x37 : Int, x37 = (Cv.int (Env.get (ntell_sem.out [(.l (x21))]) 4)) → (0 : Int) ≤ x37 → x37 ≤ (2 : Int) →
∀ x38 : Int, x38 = (Cv.int (Env.get (ntell_sem.out [(.l (x21))]) 5)) → (0 : Int) ≤ x38 → x38 ≤ (2 : Int) →
∀ x39 : Int, x39 = (Cv.int (Env.get (ntell_sem.out [(.l (x21))]) 6)) → (0 : Int) ≤ x39 → x39 ≤ (2 : Int) →
∀ x40 : Int, x40 = (Cv.int (Env.get (ntell_sem.out [(.l (x21))]) 7)) → (0 : Int) ≤ x40 → x40 ≤ (2 : Int) →
∀ x41 : Int, x41 = (Cv.int (Env.get (ntell_sem.out [(.l (x21))]) 8)) → (0 : Int) ≤ x41 → x41 ≤ (1 : Int) →
(ntell_sem.pre [(.l (x23))]) ∧ (
∀ x42 : Int, x42 = (Cv.int (Env.get (ntell_sem.out [(.l (x23))]) 0)) → (0 : Int) ≤ x42 → x42 ≤ (2 : Int) →
∀ x43 : Int, x43 = (Cv.int (Env.get (ntell_sem.out [(.l (x23))]) 1)) → (0 : Int) ≤ x43 → x43 ≤ (2 : Int) →
∀ x44 : Int, x44 = (Cv.int (Env.get (ntell_sem.out [(.l (x23))]) 2)) → (0 : Int) ≤ x44 → x44 ≤ (2 : Int) →
∀ x45 : Int, x45 = (Cv.int (Env.get (ntell_sem.out [(.l (x23))]) 3)) → (0 : Int) ≤ x45 → x45 ≤ (2 : Int) →
∀ x46 : Int, x46 = (Cv.int (Env.get (ntell_sem.out [(.l (x23))]) 4)) → (0 : Int) ≤ x46 → x46 ≤ (2 : Int) →
∀ x47 : Int, x47 = (Cv.int (Env.get (ntell_sem.out [(.l (x23))]) 5)) → (0 : Int) ≤ x47 → x47 ≤ (2 : Int) →
∀ x48 : Int, x48 = (Cv.int (Env.get (ntell_sem.out [(.l (x23))]) 6)) → (0 : Int) ≤ x48 → x48 ≤ (2 : Int) →
∀ x49 : Int, x49 = (Cv.int (Env.get (ntell_sem.out [(.l (x23))]) 7)) → (0 : Int) ≤ x49 → x49 ≤ (2 : Int) →
∀ x50 : Int, x50 = (Cv.int (Env.get (ntell_sem.out [(.l (x23))]) 8)) → (0 : Int) ≤ x50 → x50 ≤ (1 : Int) →
((!(Cmp.den .eq x32 (0 : Int))) = true → R (Value.bool false)) ∧ ((!(Cmp.den .eq x32 (0 : Int))) = false → ((!(Cmp.den .eq x41 (0 : Int))) = true → R (Value.bool false)) ∧ ((!(Cmp.den .eq x41 (0 : Int))) = false → ((!(Cmp.den .eq x50 (0 : Int))) = true → R (Value.bool false)) ∧ ((!(Cmp.den .eq x50 (0 : Int))) = false → (nal_sem.pre []) ∧ (
((!(Cv.bool (Env.get (nal_sem.out []) 0))) = true → R (Value.bool false)) ∧ ((!(Cv.bool (Env.get (nal_sem.out []) 0))) = false → ∃ (I1 : List Cv → Prop) (mu1 : List Cv → Nat), Fits [.i (some ((0), (8)))] [(.i (0 : Int))] ∧ I1 [(.i (0 : Int))] ∧ (
∀ x52 : Int, (0 : Int) ≤ x52 → x52 ≤ (8 : Int) → I1 [.i x52] →
((Cmp.den .lt x52 (8 : Int)) = true → ((Cmp.den .le x52 (0 : Int)) = true → ∀ x53 : Int, x53 = (if (Cmp.den .eq x33 x42) = true then x33 else (1 : Int)) →
((!(Cmp.den .eq x24 x53)) = true → R (Value.bool false)) ∧ ((!(Cmp.den .eq x24 x53)) = false → Fits [.i (some ((0), (8)))] [(.i (1 : Int))] ∧ I1 [(.i (1 : Int))] ∧ mu1 [(.i (1 : Int))] < mu1 [.i x52])) ∧ ((Cmp.den .le x52 (0 : Int)) = false → ((Cmp.den .le x52 (1 : Int)) = true → ∀ x53 : Int, x53 = (if (Cmp.den .eq x34 x43) = true then x34 else (1 : Int)) →
((!(Cmp.den .eq x25 x53)) = true → R (Value.bool false)) ∧ ((!(Cmp.den .eq x25 x53)) = false → Fits [.i (some ((0), (8)))] [(.i (2 : Int))] ∧ I1 [(.i (2 : Int))] ∧ mu1 [(.i (2 : Int))] < mu1 [.i x52])) ∧ ((Cmp.den .le x52 (1 : Int)) = false → ((Cmp.den .le x52 (2 : Int)) = true → ∀ x53 : Int, x53 = (if (Cmp.den .eq x35 x44) = true then x35 else (1 : Int)) →
((!(Cmp.den .eq x26 x53)) = true → R (Value.bool false)) ∧ ((!(Cmp.den .eq x26 x53)) = false → Fits [.i (some ((0), (8)))] [(.i (3 : Int))] ∧ I1 [(.i (3 : Int))] ∧ mu1 [(.i (3 : Int))] < mu1 [.i x52])) ∧ ((Cmp.den .le x52 (2 : Int)) = false → ((Cmp.den .le x52 (3 : Int)) = true → ∀ x53 : Int, x53 = (if (Cmp.den .eq x36 x45) = true then x36 else (1 : Int)) →
((!(Cmp.den .eq x27 x53)) = true → R (Value.bool false)) ∧ ((!(Cmp.den .eq x27 x53)) = false → Fits [.i (some ((0), (8)))] [(.i (4 : Int))] ∧ I1 [(.i (4 : Int))] ∧ mu1 [(.i (4 : Int))] < mu1 [.i x52])) ∧ ((Cmp.den .le x52 (3 : Int)) = false → ((Cmp.den .le x52 (4 : Int)) = true → ∀ x53 : Int, x53 = (if (Cmp.den .eq x37 x46) = true then x37 else (1 : Int)) →
((!(Cmp.den .eq x28 x53)) = true → R (Value.bool false)) ∧ ((!(Cmp.den .eq x28 x53)) = false → Fits [.i (some ((0), (8)))] [(.i (5 : Int))] ∧ I1 [(.i (5 : Int))] ∧ mu1 [(.i (5 : Int))] < mu1 [.i x52])) ∧ ((Cmp.den .le x52 (4 : Int)) = false → ((Cmp.den .le x52 (5 : Int)) = true → ∀ x53 : Int, x53 = (if (Cmp.den .eq x38 x47) = true then x38 else (1 : Int)) →
((!(Cmp.den .eq x29 x53)) = true → R (Value.bool false)) ∧ ((!(Cmp.den .eq x29 x53)) = false → Fits [.i (some ((0), (8)))] [(.i (6 : Int))] ∧ I1 [(.i (6 : Int))] ∧ mu1 [(.i (6 : Int))] < mu1 [.i x52])) ∧ ((Cmp.den .le x52 (5 : Int)) = false → ((Cmp.den .le x52 (6 : Int)) = true → ∀ x53 : Int, x53 = (if (Cmp.den .eq x39 x48) = true then x39 else (1 : Int)) →
((!(Cmp.den .eq x30 x53)) = true → R (Value.bool false)) ∧ ((!(Cmp.den .eq x30 x53)) = false → Fits [.i (some ((0), (8)))] [(.i (7 : Int))] ∧ I1 [(.i (7 : Int))] ∧ mu1 [(.i (7 : Int))] < mu1 [.i x52])) ∧ ((Cmp.den .le x52 (6 : Int)) = false → ∀ x53 : Int, x53 = (if (Cmp.den .eq x40 x49) = true then x40 else (1 : Int)) →
((!(Cmp.den .eq x31 x53)) = true → R (Value.bool false)) ∧ ((!(Cmp.den .eq x31 x53)) = false → Fits [.i (some ((0), (8)))] [(.i (8 : Int))] ∧ I1 [(.i (8 : Int))] ∧ mu1 [(.i (8 : Int))] < mu1 [.i x52]))))))))) ∧ ((Cmp.den .lt x52 (8 : Int)) = false → R (Value.bool true)))))))))))) ∧ ((Cmp.den .lt x13 x22) = false → False)) ∧ ((Cmp.den .lt x13 x20) = false → False)) ∧ ((Cmp.den .le x10 (100000 : Int)) = false → False)))) ∧ ((Cmp.den .lt x13 x10) = false → False)) ∧ ((Cmp.den .le (0 : Int) x13) = false → False))))) ∧ ((Cmp.den .le x4 x3) = false → False)) := by kernel_rfl

def lnna_sem : SpecSem := { pre := fun cs => match cs with | [.l a, .i b, .i h] => InI a ∧ IsI b ∧ IsI h | _ => False, out := fun cs => match cs with | [.l a, .i b, .i h] => [.b true] | _ => [], g := tzG }
set_option maxRecDepth 10000 in
set_option maxHeartbeats 16000000 in
theorem lnna_ok : SpecOK Tryd.prog 5 lnna_sp lnna_sem := by
  refine spec_of_tree lnna_cxok Tryd.func5 (by kernel_rfl) (by kernel_rfl) lnna_walk rfl ?_
  intro cs hpre
  match cs, hpre with
  | [.l a, .i b, .i h], ⟨j_a, j_b, j_h⟩ =>
    have h_b := j_b
    unfold IsI at h_b
    have h_h := j_h
    unfold IsI at h_h
    refine ⟨rfl, IvsB.ok (by simp only [lnna_ivs, IvsB, Cv.int, and_true, j_a, true_and] <;> omega), ?_, ?_⟩
    · simp only [lnna_sem, lnna_sp, Fits]
    · rw [lnna_den]
      have hF : List.take ((if 15 < (a.length : Int) then (15 : Int) else (a.length : Int)).toNat - Int.toNat 0) (List.drop (Int.toNat 0) a) = a.take 15 := by
        rw [show Int.toNat 0 = 0 from rfl, List.drop_zero, Nat.sub_zero]
        split
        · rfl
        · rw [List.take_of_length_le (by omega), List.take_of_length_le (by omega)]
      have hI : InI (a.take 15) := fun y hy => j_a y (List.mem_of_mem_take hy)
      have hlen : (a.take 15).length ≤ 15 := by rw [List.length_take]; omega
      have b1 : ((if 15 < (a.length : Int) then (15 : Int) else (a.length : Int)) ≤ (a.length : Int)) = True := eq_true (by split <;> omega)
      have b2 : ((a.length : Int) < (if 15 < (a.length : Int) then (15 : Int) else (a.length : Int))) = False := eq_false (by split <;> omega)
      have hmk : ∀ x : Int, 1 + (Int.tmod x 511 + 511) % 511 = mkM x := fun _ => rfl
      have hMk : ∀ x : Int, IsM (mkM x) = True := fun x => eq_true (mkM_rng x)
      have hIk : ∀ x : Int, IsI (mkM x) = True := fun x => eq_true ⟨by have := (mkM_rng x).1; omega, by have := (mkM_rng x).2; omega⟩
      simp only [lnna_sem, lnna_sp, ntell_sem, nal_sem, r13has_sem, lnna_den, ntell_sem, nal_sem, r13has_sem, Tree.den, LE.den, Cv.list, placeA, List.getElem?_cons_zero, List.getElem?_cons_succ, IE.den, BE.den, At.den, CA.den, Env.get, Cv.int, Cv.bool, List.cons_append, List.nil_append, List.map_cons, List.map_nil, bindRes, bindEq, Fits, SV.den, denL, place, placeL, eq_t, eq_f, lt_t, lt_f, le_t, le_f, beq_iff_eq, beq_eq_false_iff_ne, ne_eq, reduceCtorEq, b_dec, decide_eq_true_eq, decide_eq_false_iff_not, Bool.not_eq_false', Bool.or_eq_true, Bool.or_eq_false_iff, Bool.and_eq_false_iff, true_iff, false_iff, Bool.false_eq_true, Bool.not_eq_true', Bool.and_eq_true, Bool.not_true, Bool.not_false, List.cons.injEq, Cv.i.injEq, Cv.b.injEq, and_true, true_and, agg_inj, tup_inj, Value.int.injEq, Value.bool.injEq, hF, b1, b2, hmk, hMk, hIk, Int.le_refl, Int.lt_irrefl, forall_eq, eq_self, if_true, if_false, true_and, and_true, false_and, and_false, true_or, or_true, false_or, or_false, true_iff, iff_true, false_iff, iff_false, not_true_eq_false, not_false_eq_true, true_implies, false_implies, implies_true, forall_const, decide_true, decide_false, reduceCtorEq]
      generalize a.take 15 = v at *
      refine ⟨someI (v.length : Int), someMu, ⟨by omega, inI_nil, inI_nil⟩, ⟨by omega, rfl, fun m h => (by cases h), row_nil.2 rfl⟩, ?_⟩
      intro i i0 i1 x hx y hy hS
      refine ⟨fun hlt => ?_, fun hge => ?_⟩
      · have hM := mkM_rng (v.getD i.toNat 0)
        generalize mkM (v.getD i.toNat 0) = m at *
        refine cls_loop (m := m) ?_
        have hp := cls_pos hM
        have t := some_tail (c := (clsA m 9).getD (Int.toNat 0) 0) (by omega) hS i0 hlt hM (clsA_has.1 (getD_mem (show Int.toNat 0 < (clsA m 9).length from hp))) hx hy
        exact ⟨fun _ => ⟨⟨t, t⟩, t⟩, fun q => by omega⟩
      · obtain ⟨h1, h2, h3, h4⟩ : i ≤ (v.length : Int) ∧ (x.length : Int) = i ∧ (∀ m ∈ x, IsM m) ∧ Row x y := hS
        have hxl : x.length ≤ 15 := by omega
        have hms : IsMs x := ⟨hxl, h3⟩
        intro hne
        obtain ⟨k1, k2, k3⟩ := pick_rng2 (y := b) (n := (x.length : Int)) (by omega) (by omega)
        rw [k1]
        generalize Int.tmod (Int.tmod b (x.length : Int) + (x.length : Int)) (x.length : Int) = p at *
        refine ⟨fun _ => ⟨fun _ ha0 hb0 => ⟨fun _ => ⟨fun _ => ⟨fun _ => ?_, fun q => by omega⟩, fun q => by omega⟩, fun q => by omega⟩, fun q => by omega⟩, fun q => by omega⟩
        have hpl : p.toNat < x.length := by omega
        have hm := h3 _ (getD_mem hpl)
        obtain ⟨sA, sB⟩ := split_rng (y := h) hm.m0
        have hab := fun c => has_split (y := h) (c := c) hm.m0
        have hA : IsM (bitDen .and .i64 (x.getD p.toNat 0) h) := ⟨by have := sA.1; omega, sA.2⟩
        have hB : IsM (bitDen .andNot .i64 (x.getD p.toNat 0) h) := ⟨by have := sB.1; omega, sB.2⟩
        generalize bitDen .and .i64 (x.getD p.toNat 0) h = A at *
        generalize bitDen .andNot .i64 (x.getD p.toNat 0) h = B at *
        have mA := set_ms (k := p.toNat) h3 hA
        have mB := set_ms (k := p.toNat) h3 hB
        have msA : IsMs (x.set p.toNat A) := ⟨by rw [List.length_set]; exact hxl, mA⟩
        have msB : IsMs (x.set p.toNat B) := ⟨by rw [List.length_set]; exact hxl, mB⟩
        have IA := inI_ms mA
        have IB := inI_ms mB
        have w1 := tell_split (G := G1) (n := 1) h3 hxl hpl hA hB hab
        have w2 := tell_split (G := G2) (n := 9) h3 hxl hpl hA hB hab
        have w3 := tell_split (G := G3) (n := 6) h3 hxl hpl hA hB hab
        have w4 := tell_split (G := G4) (n := 14) h3 hxl hpl hA hB hab
        have w5 := tell_split (G := G5) (n := 3) h3 hxl hpl hA hB hab
        have w6 := tell_split (G := G6) (n := 5) h3 hxl hpl hA hB hab
        have w7 := tell_split (G := G7) (n := 15) h3 hxl hpl hA hB hab
        have w8 := tell_split (G := G8) (n := 8) h3 hxl hpl hA hB hab
        simp only [hx, hms, msA, msB, IA, IB, if_true, if_false, true_and, and_true, false_and, and_false, true_or, or_true, false_or, or_false, true_iff, iff_true, false_iff, iff_false, not_true_eq_false, not_false_eq_true, true_implies, false_implies, implies_true, forall_const, decide_true, decide_false, reduceCtorEq]
        intros
        refine ⟨fun vs => match vs with | [.i k] => 0 ≤ k ∧ k ≤ 8 | _ => False, fun vs => match vs with | [.i k] => (8 - k).toNat | _ => 0, (by omega), (by omega), ?_⟩
        intro k k0 k1 _
        exact fun _ => ⟨fun _ => ⟨fun z => absurd w1 z, fun _ => ⟨by omega, ⟨by omega, by omega⟩, by show (8 - 1 : Int).toNat < (8 - k).toNat; omega⟩⟩, fun _ => ⟨fun _ => ⟨fun z => absurd w2 z, fun _ => ⟨by omega, ⟨by omega, by omega⟩, by show (8 - 2 : Int).toNat < (8 - k).toNat; omega⟩⟩, fun _ => ⟨fun _ => ⟨fun z => absurd w3 z, fun _ => ⟨by omega, ⟨by omega, by omega⟩, by show (8 - 3 : Int).toNat < (8 - k).toNat; omega⟩⟩, fun _ => ⟨fun _ => ⟨fun z => absurd w4 z, fun _ => ⟨by omega, ⟨by omega, by omega⟩, by show (8 - 4 : Int).toNat < (8 - k).toNat; omega⟩⟩, fun _ => ⟨fun _ => ⟨fun z => absurd w5 z, fun _ => ⟨by omega, ⟨by omega, by omega⟩, by show (8 - 5 : Int).toNat < (8 - k).toNat; omega⟩⟩, fun _ => ⟨fun _ => ⟨fun z => absurd w6 z, fun _ => ⟨by omega, ⟨by omega, by omega⟩, by show (8 - 6 : Int).toNat < (8 - k).toNat; omega⟩⟩, fun _ => ⟨fun _ => ⟨fun z => absurd w7 z, fun _ => ⟨by omega, ⟨by omega, by omega⟩, by show (8 - 7 : Int).toNat < (8 - k).toNat; omega⟩⟩, fun _ => ⟨fun z => absurd w8 z, fun _ => ⟨by omega, ⟨by omega, by omega⟩, by show (8 - 8 : Int).toNat < (8 - k).toNat; omega⟩⟩⟩⟩⟩⟩⟩⟩⟩
end Go.Proofs.YtmnpeneplobpdaaDoor.X
