/-
  NelsonSure holds of every input.
-/
import Derived.Test.YtmnpeneplobpdaaDoorSxNeM
namespace Go.Proofs.YtmnpeneplobpdaaDoor.X
open Go Go.SX Go.RowKit
set_option linter.unusedVariables false
set_option linter.unusedSimpArgs false










/-- a mask out of any number -/
def mkM (x : Int) : Int := 1 + (Int.tmod x 511 + 511) % 511
theorem mkM_rng (x : Int) : IsM (mkM x) := by unfold mkM; exact ⟨by omega, by omega⟩
theorem row_snoc {ms cs : List Int} {m c : Int} (h : Row ms cs) (hc : has m c) : Row (ms ++ [m]) (cs ++ [c]) := by
  obtain ⟨a, b⟩ := h
  refine ⟨by rw [List.length_append, List.length_append, a]; rfl, fun i hi => ?_⟩
  rw [List.length_append, List.length_singleton] at hi
  by_cases q : i < ms.length
  · rw [getD_app_l q, getD_app_l (by omega)]; exact b i q
  · rw [getD_app_r (by omega), getD_app_r (by omega)]; exact hc
theorem row_lst {ms cs : List Int} (n : Nat) (h : Row ms cs) : Row (lst n ms) (lst n cs) := by
  obtain ⟨a, b⟩ := h
  unfold lst
  rw [a]
  refine ⟨by rw [List.length_drop, List.length_drop, a], fun i hi => ?_⟩
  rw [List.length_drop] at hi
  have := b (ms.length - n + i) (by omega)
  simpa [List.getD, List.getElem?_drop] using this
theorem row_isCl {ms cs : List Int} (h : Row ms cs) : IsCl cs := row_rng' h
/-- what is told of masks, and of a row of them -/
theorem tell_row {G : List Int → Prop} {n : Nat} {ms cs : List Int} (hm : ∀ m ∈ ms, IsM m) (hl : ms.length ≤ 15) (h : Row ms cs) :
    (tellV G n ms = 2 → tellV G n (cs.map bitc) = 2) ∧ (tellV G n ms = 0 → ¬ tellV G n (cs.map bitc) = 2) ∧ (tellV G n (cs.map bitc) = 0 ∨ tellV G n (cs.map bitc) = 2) := by
  have hcl := row_isCl h
  have hlc : cs.length ≤ 15 := by rw [h.1]; exact hl
  have hx := tell_exact (G := G) (n := n) hcl hlc
  have e : tellV G n ms = ruleV G n ms := if_pos ⟨hl, hm⟩
  have hr := row_lst n h
  refine ⟨fun q => hx.2 ?_, fun q z => ?_, ?_⟩
  · rw [e] at q
    rcases Nat.lt_or_ge ms.length n with k | k
    · rw [ruleV_few k] at q; omega
    · rw [ruleV_of k] at q
      refine ⟨by rw [h.1]; exact k, ?_⟩
      unfold val3 at q
      by_cases a : ∀ row, Row (lst n ms) row → G row
      · exact a _ hr
      · rw [if_neg a] at q; split at q <;> omega
  · obtain ⟨k, g⟩ := hx.1 z
    rw [e, ruleV_of (by rw [← h.1]; exact k)] at q
    unfold val3 at q
    have x : ∃ row, Row (lst n ms) row ∧ G row := ⟨_, hr, g⟩
    by_cases a : ∀ row, Row (lst n ms) row → G row
    · rw [if_pos a] at q; omega
    · rw [if_neg a, if_pos x] at q; omega
  · have e2 : tellV G n (cs.map bitc) = ruleV G n (cs.map bitc) := if_pos ((isMs_map hcl).2 hlc)
    rcases Nat.lt_or_ge cs.length n with k | k
    · rw [e2, ruleV_few (by rw [List.length_map]; exact k)]; exact .inl rfl
    · rw [e2, ruleV_of (by rw [List.length_map]; exact k), lst_map]
      have r : ∀ row, Row ((lst n cs).map bitc) row ↔ row = lst n cs := fun row => row_exact (isCl_lst hcl)
      unfold val3
      by_cases g : G (lst n cs)
      · rw [if_pos fun row hr => (r row).1 hr ▸ g]; exact .inr rfl
      · rw [if_neg fun a => g (a _ ((r _).2 rfl)), if_neg fun ⟨row, hr, a⟩ => g ((r row).1 hr ▸ a)]; exact .inl rfl
def someI (n : Int) : List Cv → Prop := fun vs => match vs with
  | [.i i, .l x, .l y] => i ≤ n ∧ (x.length : Int) = i ∧ (∀ m ∈ x, IsM m) ∧ Row x y
  | _ => False
def someMu : List Cv → Nat := fun vs => match vs with
  | [.i i, .l _, .l _] => (100 - i).toNat
  | _ => 0
theorem some_tail {n i : Int} {x y : List Int} {m c : Int} (hn : n ≤ 15) (h : someI n [.i i, .l x, .l y]) (h0 : 0 ≤ i) (hlt : i < n) (hm : IsM m) (hc : has m c) (hx : InI x) (hy : InI y) :
    ((x.length : Int) ≤ 100000 → ((y.length : Int) ≤ 100000 → (0 ≤ i + 1 ∧ i + 1 ≤ 15 ∧ InI (x ++ [m]) ∧ InI (y ++ [c])) ∧ someI n [.i (i + 1), .l (x ++ [m]), .l (y ++ [c])] ∧ someMu [.i (i + 1), .l (x ++ [m]), .l (y ++ [c])] < someMu [.i i, .l x, .l y]) ∧ (100000 < (y.length : Int) → False)) ∧ (100000 < (x.length : Int) → False) := by
  obtain ⟨h1, h2, h3, h4⟩ := h
  have h5 := h4.1
  have hm1 := hm.1; have hm2 := hm.2; have hc1 := hc.1
  refine ⟨fun _ => ⟨fun _ => ⟨⟨by omega, by omega, fun z hz => ?_, fun z hz => ?_⟩, ⟨by omega, by rw [List.length_append, List.length_singleton]; omega, fun z hz => ?_, row_snoc h4 hc⟩, ?_⟩, fun q => by omega⟩, fun q => by omega⟩
  · rw [List.mem_append, List.mem_singleton] at hz
    rcases hz with hz | rfl
    · exact hx z hz
    · omega
  · rw [List.mem_append, List.mem_singleton] at hz
    rcases hz with hz | rfl
    · exact hy z hz
    · omega
  · rw [List.mem_append, List.mem_singleton] at hz
    rcases hz with hz | rfl
    · exact h3 z hz
    · exact hm
  · show (100 - (i + 1)).toNat < (100 - i).toNat
    omega
theorem cls_pos {m : Int} (h : IsM m) : 0 < (clsA m 9).length := List.length_pos_of_mem (clsA_has.2 (ends_of h).2.1)
theorem pick_rng {y n : Int} (h0 : 0 < n) (h1 : n ≤ 9) : IntKind.i64.wrap (Int.tmod y n + n) = Int.tmod y n + n ∧ 0 ≤ Int.tmod (Int.tmod y n + n) n ∧ Int.tmod (Int.tmod y n + n) n < n := by
  have a1 := Int.tmod_lt_of_pos y h0
  have a2 : -n < Int.tmod y n := by
    have := Int.tmod_lt_of_pos (-y) h0
    rw [Int.neg_tmod] at this
    omega
  refine ⟨w64 (by omega) (by omega), ?_, Int.tmod_lt_of_pos _ h0⟩
  exact Int.tmod_nonneg _ (by omega)
theorem fin_branch {T M : Int} {X : Prop} (h1 : M = 2 → T = 2) (h2 : M = 0 → ¬ T = 2) (h3 : T = 0 ∨ T = 2) (hX : X) :
    ((¬ T = if T = 2 then 2 else 0) → False) ∧ ((T = if T = 2 then 2 else 0) → (M = 2 → (¬ T = 2 → False) ∧ (T = 2 → X)) ∧ (¬ M = 2 → (M = 0 → (T = 2 → False) ∧ (¬ T = 2 → X)) ∧ (¬ M = 0 → X))) := by
  refine ⟨fun h => ?_, fun _ => ⟨fun h => ⟨fun q => q (h1 h), fun _ => hX⟩, fun _ => ⟨fun h => ⟨fun q => h2 h q, fun _ => hX⟩, fun _ => hX⟩⟩⟩
  rcases h3 with h3 | h3
  · rw [if_neg (by omega)] at h; exact h h3
  · rw [if_pos h3] at h; exact h h3
def lnsu_sp : SpecSh := { args := [(.lst 0), (.lst 0)], res := (.bool .f), sh := [.b] }
set_option maxRecDepth 100000 in
def lnsu_tree : Tree :=
.lett (.len 0) <|
.lett (.ite (.cmp .lt (.z 15) (.v 2)) (.z 15) (.v 2)) <|
.ite (.cmp .le (.v 3) (.v 2)) (.letl (.sub 0 (.z 0) (.v 3)) <|
.lett (.len 4) <|
.loop [.i (some (0, 15)), .l, .l] [.i (.z 0), .l (.nil), .l (.nil)] <|
.ite (.cmp .lt (.v 6) (.v 5)) (.lett (.nth 4 (.v 6)) <|
.lett (.rem (.v 9) (.z 511)) <|
.lett (.add (.v 10) (.z 511)) <|
.lett (.mod (.v 11) (.z 511)) <|
.lett (.add (.z 1) (.v 12)) <|
.loop [.i (some ((-4), 5)), .l] [.i (.z (-4)), .l (.nil)] <|
.ite (.cmp .le (.v 14) (.z 4)) (.call 22 [.b] [.i (.v 13), .i (.v 14)] <|
.ite (.v 16) (.lett (.len 15) <|
.ite (.cmp .le (.v 17) (.z 100000)) (.letl (.app 15 [.v 14]) <|
.lett (.add (.v 14) (.z 1)) <|
.again 1 [.i (.v 19), .l (.v 18)]) <|
.bad 113) <|
.lett (.add (.v 14) (.z 1)) <|
.again 1 [.i (.v 17), .l (.v 15)]) <|
.lett (.len 1) <|
.ite (.cmp .lt (.v 6) (.v 16)) (.lett (.nth 1 (.v 6)) <|
.lett (.len 15) <|
.ite (.cmp .eq (.v 18) (.z 0)) (.bad 29) <|
.lett (.rem (.v 17) (.v 18)) <|
.lett (.addw .i64 (.v 19) (.v 18)) <|
.lett (.rem (.v 20) (.v 18)) <|
.ite (.cmp .le (.z 0) (.v 21)) (.ite (.cmp .lt (.v 21) (.v 18)) (.lett (.nth 15 (.v 21)) <|
.all (.all (.lett (.len 7) <|
.ite (.cmp .le (.v 23) (.z 100000)) (.letl (.app 7 [.v 13]) <|
.lett (.len 8) <|
.ite (.cmp .le (.v 25) (.z 100000)) (.letl (.app 8 [.v 22]) <|
.lett (.add (.v 6) (.z 1)) <|
.again 0 [.i (.v 27), .l (.v 24), .l (.v 26)]) <|
.bad 113) <|
.bad 113) <|
.lett (.len 7) <|
.ite (.cmp .le (.v 23) (.z 100000)) (.letl (.app 7 [.v 13]) <|
.lett (.len 8) <|
.ite (.cmp .le (.v 25) (.z 100000)) (.letl (.app 8 [.v 22]) <|
.lett (.add (.v 6) (.z 1)) <|
.again 0 [.i (.v 27), .l (.v 24), .l (.v 26)]) <|
.bad 113) <|
.bad 113) <|
.lett (.len 7) <|
.ite (.cmp .le (.v 23) (.z 100000)) (.letl (.app 7 [.v 13]) <|
.lett (.len 8) <|
.ite (.cmp .le (.v 25) (.z 100000)) (.letl (.app 8 [.v 22]) <|
.lett (.add (.v 6) (.z 1)) <|
.again 0 [.i (.v 27), .l (.v 24), .l (.v 26)]) <|
.bad 113) <|
.bad 113) <|
.bad 35) <|
.bad 35) <|
.lett (.len 15) <|
.ite (.cmp .lt (.z 0) (.v 17)) (.lett (.nth 15 (.z 0)) <|
.all (.all (.lett (.len 7) <|
.ite (.cmp .le (.v 19) (.z 100000)) (.letl (.app 7 [.v 13]) <|
.lett (.len 8) <|
.ite (.cmp .le (.v 21) (.z 100000)) (.letl (.app 8 [.v 18]) <|
.lett (.add (.v 6) (.z 1)) <|
.again 0 [.i (.v 23), .l (.v 20), .l (.v 22)]) <|
.bad 113) <|
.bad 113) <|
.lett (.len 7) <|
.ite (.cmp .le (.v 19) (.z 100000)) (.letl (.app 7 [.v 13]) <|
.lett (.len 8) <|
.ite (.cmp .le (.v 21) (.z 100000)) (.letl (.app 8 [.v 18]) <|
.lett (.add (.v 6) (.z 1)) <|
.again 0 [.i (.v 23), .l (.v 20), .l (.v 22)]) <|
.bad 113) <|
.bad 113) <|
.lett (.len 7) <|
.ite (.cmp .le (.v 19) (.z 100000)) (.letl (.app 7 [.v 13]) <|
.lett (.len 8) <|
.ite (.cmp .le (.v 21) (.z 100000)) (.letl (.app 8 [.v 18]) <|
.lett (.add (.v 6) (.z 1)) <|
.again 0 [.i (.v 23), .l (.v 20), .l (.v 22)]) <|
.bad 113) <|
.bad 113) <|
.bad 35) <|
.call 14 [.i (some (0, 2)), .i (some (0, 2)), .i (some (0, 2)), .i (some (0, 2)), .i (some (0, 2)), .i (some (0, 2)), .i (some (0, 2)), .i (some (0, 2)), .i (some (0, 1))] [.l (.v 7)] <|
.call 9 [.b, .b, .b, .b, .b, .b, .b, .b, .i (some (0, 1))] [.l (.v 8)] <|
.lett (.len 8) <|
.loop [.i (some (0, 100000)), .l] [.i (.z 0), .l (.nil)] <|
.ite (.cmp .lt (.v 28) (.v 27)) (.lett (.nth 8 (.v 28)) <|
.lett (.addw .i64 (.v 30) (.z 4)) <|
.lett (.wrap .u64 (.v 31)) <|
.lett (.shl .i64 (.z 1) (.v 32)) <|
.lett (.len 29) <|
.ite (.cmp .le (.v 34) (.z 100000)) (.letl (.app 29 [.v 33]) <|
.lett (.add (.v 28) (.z 1)) <|
.again 1 [.i (.v 36), .l (.v 35)]) <|
.bad 113) <|
.call 14 [.i (some (0, 2)), .i (some (0, 2)), .i (some (0, 2)), .i (some (0, 2)), .i (some (0, 2)), .i (some (0, 2)), .i (some (0, 2)), .i (some (0, 2)), .i (some (0, 1))] [.l (.v 29)] <|
.ite (.not (.cmp .eq (.v 17) (.z 0))) (.ret (.bool .f)) <|
.ite (.not (.cmp .eq (.v 26) (.z 0))) (.ret (.bool .f)) <|
.ite (.not (.cmp .eq (.v 38) (.z 0))) (.ret (.bool .f)) <|
.call 11 [.b] [] <|
.ite (.not (.v 39)) (.ret (.bool .f)) <|
.loop [.i (some (0, 8))] [.i (.z 0)] <|
.ite (.cmp .lt (.v 40) (.z 8)) (.ite (.cmp .le (.v 40) (.z 0)) (.lett (.ite (.v 18) (.z 2) (.z 0)) <|
.ite (.not (.cmp .eq (.v 30) (.v 41))) (.ret (.bool .f)) <|
.ite (.cmp .eq (.v 9) (.z 2)) (.ite (.not (.v 18)) (.ret (.bool .f)) <|
.again 2 [.i (.z 1)]) <|
.ite (.cmp .eq (.v 9) (.z 0)) (.ite (.v 18) (.ret (.bool .f)) <|
.again 2 [.i (.z 1)]) <|
.again 2 [.i (.z 1)]) <|
.ite (.cmp .le (.v 40) (.z 1)) (.lett (.ite (.v 19) (.z 2) (.z 0)) <|
.ite (.not (.cmp .eq (.v 31) (.v 41))) (.ret (.bool .f)) <|
.ite (.cmp .eq (.v 10) (.z 2)) (.ite (.not (.v 19)) (.ret (.bool .f)) <|
.again 2 [.i (.z 2)]) <|
.ite (.cmp .eq (.v 10) (.z 0)) (.ite (.v 19) (.ret (.bool .f)) <|
.again 2 [.i (.z 2)]) <|
.again 2 [.i (.z 2)]) <|
.ite (.cmp .le (.v 40) (.z 2)) (.lett (.ite (.v 20) (.z 2) (.z 0)) <|
.ite (.not (.cmp .eq (.v 32) (.v 41))) (.ret (.bool .f)) <|
.ite (.cmp .eq (.v 11) (.z 2)) (.ite (.not (.v 20)) (.ret (.bool .f)) <|
.again 2 [.i (.z 3)]) <|
.ite (.cmp .eq (.v 11) (.z 0)) (.ite (.v 20) (.ret (.bool .f)) <|
.again 2 [.i (.z 3)]) <|
.again 2 [.i (.z 3)]) <|
.ite (.cmp .le (.v 40) (.z 3)) (.lett (.ite (.v 21) (.z 2) (.z 0)) <|
.ite (.not (.cmp .eq (.v 33) (.v 41))) (.ret (.bool .f)) <|
.ite (.cmp .eq (.v 12) (.z 2)) (.ite (.not (.v 21)) (.ret (.bool .f)) <|
.again 2 [.i (.z 4)]) <|
.ite (.cmp .eq (.v 12) (.z 0)) (.ite (.v 21) (.ret (.bool .f)) <|
.again 2 [.i (.z 4)]) <|
.again 2 [.i (.z 4)]) <|
.ite (.cmp .le (.v 40) (.z 4)) (.lett (.ite (.v 22) (.z 2) (.z 0)) <|
.ite (.not (.cmp .eq (.v 34) (.v 41))) (.ret (.bool .f)) <|
.ite (.cmp .eq (.v 13) (.z 2)) (.ite (.not (.v 22)) (.ret (.bool .f)) <|
.again 2 [.i (.z 5)]) <|
.ite (.cmp .eq (.v 13) (.z 0)) (.ite (.v 22) (.ret (.bool .f)) <|
.again 2 [.i (.z 5)]) <|
.again 2 [.i (.z 5)]) <|
.ite (.cmp .le (.v 40) (.z 5)) (.lett (.ite (.v 23) (.z 2) (.z 0)) <|
.ite (.not (.cmp .eq (.v 35) (.v 41))) (.ret (.bool .f)) <|
.ite (.cmp .eq (.v 14) (.z 2)) (.ite (.not (.v 23)) (.ret (.bool .f)) <|
.again 2 [.i (.z 6)]) <|
.ite (.cmp .eq (.v 14) (.z 0)) (.ite (.v 23) (.ret (.bool .f)) <|
.again 2 [.i (.z 6)]) <|
.again 2 [.i (.z 6)]) <|
.ite (.cmp .le (.v 40) (.z 6)) (.lett (.ite (.v 24) (.z 2) (.z 0)) <|
.ite (.not (.cmp .eq (.v 36) (.v 41))) (.ret (.bool .f)) <|
.ite (.cmp .eq (.v 15) (.z 2)) (.ite (.not (.v 24)) (.ret (.bool .f)) <|
.again 2 [.i (.z 7)]) <|
.ite (.cmp .eq (.v 15) (.z 0)) (.ite (.v 24) (.ret (.bool .f)) <|
.again 2 [.i (.z 7)]) <|
.again 2 [.i (.z 7)]) <|
.lett (.ite (.v 25) (.z 2) (.z 0)) <|
.ite (.not (.cmp .eq (.v 37) (.v 41))) (.ret (.bool .f)) <|
.ite (.cmp .eq (.v 16) (.z 2)) (.ite (.not (.v 25)) (.ret (.bool .f)) <|
.again 2 [.i (.z 8)]) <|
.ite (.cmp .eq (.v 16) (.z 0)) (.ite (.v 25) (.ret (.bool .f)) <|
.again 2 [.i (.z 8)]) <|
.again 2 [.i (.z 8)]) <|
.ret (.bool .t)) <|
.bad 120
noncomputable def lnsu_cx : Ctx := { tys := tys, fns := fns, mets := mets, sps := [(14, ntell_sp), (9, nexact_sp), (11, nal_sp), (22, r13has_sp)], anns := [((13, 3), { slots := [18], cells := [], ivs := [some (0, 15)], lsts := [6, 7], elem := 3 }), ((23, 3), { slots := [4], cells := [], ivs := [some ((-4), 5)], lsts := [3], elem := 3 }), ((15, 3), { slots := [9], cells := [], ivs := [some (0, 100000)], lsts := [3], elem := 3 }), ((4, 8), { slots := [53], cells := [], ivs := [some (0, 8)] })], trys := [] }
def lnsu_ivs : List (Option (Int × Int)) := [none, none]
set_option maxRecDepth 100000 in
theorem lnsu_walk : runFn lnsu_cx 3000 4 Tryd.f4 lnsu_sp.args lnsu_ivs = lnsu_tree := by kernel_rfl
noncomputable def lnsu_M : Nat → SpecSem
  | 14 => ntell_sem
  | 9 => nexact_sem
  | 11 => nal_sem
  | 22 => r13has_sem
  | _ => noSem
theorem lnsu_M14 : lnsu_M 14 = ntell_sem := rfl
theorem lnsu_M9 : lnsu_M 9 = nexact_sem := rfl
theorem lnsu_M11 : lnsu_M 11 = nal_sem := rfl
theorem lnsu_M22 : lnsu_M 22 = r13has_sem := rfl
theorem lnsu_cxok : CxOK Tryd.prog lnsu_cx lnsu_M tzG := ⟨tysOK, fnsOK, spCons ntell_ok <| spCons nexact_ok <| spCons nal_ok <| spCons r13has_ok <| fun _ _ h => spNil h, mixedOK, fun _ _ h => trNil h, fun _ _ h => atNil h, metsOK, fun _ _ h => efNil h, fun _ _ h => lsNil h⟩
set_option maxRecDepth 100000 in
set_option maxHeartbeats 8000000 in
theorem lnsu_den (R RP : Value → Prop) (F : Ex → St → Js → Env → Prop) (x0 : List Int) (x1 : List Int) : Tree.den lnsu_M R RP F lnsu_tree [] [(.l x0), (.l x1)] = (
  ∀ x2 : Int, x2 = ((List.length x0 : Int)) →
∀ x3 : Int, x3 = (if (Cmp.den .lt (15 : Int) x2) = true then (15 : Int) else x2) →
((Cmp.den .le x3 x2) = true → ∀ x4 : List Int, x4 = (List.take (Int.toNat x3 - Int.toNat (0 : Int)) (List.drop (Int.toNat (0 : Int)) x0)) →
∀ x5 : Int, x5 = ((List.length x4 : Int)) →
∃ (I0 : List Cv → Prop) (mu0 : List Cv → Nat), Fits [.i (some ((0), (15))), .l, .l] [(.i (0 : Int)), (.l (([] : List Int))), (.l (([] : List Int)))] ∧ I0 [(.i (0 : Int)), (.l (([] : List Int))), (.l (([] : List Int)))] ∧ (
∀ x6 : Int, (0 : Int) ≤ x6 → x6 ≤ (15 : Int) → ∀ x7 : List Int, InI x7 → ∀ x8 : List Int, InI x8 → I0 [.i x6, .l x7, .l x8] →
((Cmp.den .lt x6 x5) = true → ∀ x9 : Int, x9 = (List.getD x4 (Int.toNat x6) 0) →
∀ x10 : Int, x10 = (Int.tmod x9 (511 : Int)) →
∀ x11 : Int, x11 = (x10 + (511 : Int)) →
∀ x12 : Int, x12 = (x11 % (511 : Int)) →
∀ x13 : Int, x13 = ((1 : Int) + x12) →
∃ (I1 : List Cv → Prop) (mu1 : List Cv → Nat), Fits [.i (some ((-4), (5))), .l] [(.i (-4 : Int)), (.l (([] : List Int)))] ∧ I1 [(.i (-4 : Int)), (.l (([] : List Int)))] ∧ (
∀ x14 : Int, (-4 : Int) ≤ x14 → x14 ≤ (5 : Int) → ∀ x15 : List Int, InI x15 → I1 [.i x14, .l x15] →
((Cmp.den .le x14 (4 : Int)) = true → (r13has_sem.pre [(.i x13), (.i x14)]) ∧ (
((Cv.bool (Env.get (r13has_sem.out [(.i x13), (.i x14)]) 0)) = true → ∀ x17 : Int, x17 = ((List.length x15 : Int)) →
((Cmp.den .le x17 (100000 : Int)) = true → ∀ x18 : List Int, x18 = (x15 ++ ([x14] : List Int)) →
∀ x19 : Int, x19 = (x14 + (1 : Int)) →
Fits [.i (some ((-4), (5))), .l] [(.i x19), (.l (x18))] ∧ I1 [(.i x19), (.l (x18))] ∧ mu1 [(.i x19), (.l (x18))] < mu1 [.i x14, .l x15]) ∧ ((Cmp.den .le x17 (100000 : Int)) = false → False)) ∧ ((Cv.bool (Env.get (r13has_sem.out [(.i x13), (.i x14)]) 0)) = false → ∀ x17 : Int, x17 = (x14 + (1 : Int)) →
Fits [.i (some ((-4), (5))), .l] [(.i x17), (.l (x15))] ∧ I1 [(.i x17), (.l (x15))] ∧ mu1 [(.i x17), (.l (x15))] < mu1 [.i x14, .l x15]))) ∧ ((Cmp.den .le x14 (4 : Int)) = false → ∀ x16 : Int, x16 = ((List.length x1 : Int)) →
((Cmp.den .lt x6 x16) = true → ∀ x17 : Int, x17 = (List.getD x1 (Int.toNat x6) 0) →
∀ x18 : Int, x18 = ((List.length x15 : Int)) →
((Cmp.den .eq x18 (0 : Int)) = true → False) ∧ ((Cmp.den .eq x18 (0 : Int)) = false → ∀ x19 : Int, x19 = (Int.tmod x17 x18) →
∀ x20 : Int, x20 = (IntKind.i64.wrap (x19 + x18)) →
∀ x21 : Int, x21 = (Int.tmod x20 x18) →
((Cmp.den .le (0 : Int) x21) = true → ((Cmp.den .lt x21 x18) = true → ∀ x22 : Int, x22 = (List.getD x15 (Int.toNat x21) 0) →
((∀ x23 : Int, x23 = ((List.length x7 : Int)) →
((Cmp.den .le x23 (100000 : Int)) = true → ∀ x24 : List Int, x24 = (x7 ++ ([x13] : List Int)) →
∀ x25 : Int, x25 = ((List.length x8 : Int)) →
((Cmp.den .le x25 (100000 : Int)) = true → ∀ x26 : List Int, x26 = (x8 ++ ([x22] : List Int)) →
∀ x27 : Int, x27 = (x6 + (1 : Int)) →
Fits [.i (some ((0), (15))), .l, .l] [(.i x27), (.l (x24)), (.l (x26))] ∧ I0 [(.i x27), (.l (x24)), (.l (x26))] ∧ mu0 [(.i x27), (.l (x24)), (.l (x26))] < mu0 [.i x6, .l x7, .l x8]) ∧ ((Cmp.den .le x25 (100000 : Int)) = false → False)) ∧ ((Cmp.den .le x23 (100000 : Int)) = false → False)) ∧ (∀ x23 : Int, x23 = ((List.length x7 : Int)) →
((Cmp.den .le x23 (100000 : Int)) = true → ∀ x24 : List Int, x24 = (x7 ++ ([x13] : List Int)) →
∀ x25 : Int, x25 = ((List.length x8 : Int)) →
((Cmp.den .le x25 (100000 : Int)) = true → ∀ x26 : List Int, x26 = (x8 ++ ([x22] : List Int)) →
∀ x27 : Int, x27 = (x6 + (1 : Int)) →
Fits [.i (some ((0), (15))), .l, .l] [(.i x27), (.l (x24)), (.l (x26))] ∧ I0 [(.i x27), (.l (x24)), (.l (x26))] ∧ mu0 [(.i x27), (.l (x24)), (.l (x26))] < mu0 [.i x6, .l x7, .l x8]) ∧ ((Cmp.den .le x25 (100000 : Int)) = false → False)) ∧ ((Cmp.den .le x23 (100000 : Int)) = false → False))) ∧ (∀ x23 : Int, x23 = ((List.length x7 : Int)) →
((Cmp.den .le x23 (100000 : Int)) = true → ∀ x24 : List Int, x24 = (x7 ++ ([x13] : List Int)) →
∀ x25 : Int, x25 = ((List.length x8 : Int)) →
((Cmp.den .le x25 (100000 : Int)) = true → ∀ x26 : List Int, x26 = (x8 ++ ([x22] : List Int)) →
∀ x27 : Int, x27 = (x6 + (1 : Int)) →
Fits [.i (some ((0), (15))), .l, .l] [(.i x27), (.l (x24)), (.l (x26))] ∧ I0 [(.i x27), (.l (x24)), (.l (x26))] ∧ mu0 [(.i x27), (.l (x24)), (.l (x26))] < mu0 [.i x6, .l x7, .l x8]) ∧ ((Cmp.den .le x25 (100000 : Int)) = false → False)) ∧ ((Cmp.den .le x23 (100000 : Int)) = false → False))) ∧ ((Cmp.den .lt x21 x18) = false → False)) ∧ ((Cmp.den .le (0 : Int) x21) = false → False))) ∧ ((Cmp.den .lt x6 x16) = false → ∀ x17 : Int, x17 = ((List.length x15 : Int)) →
((Cmp.den .lt (0 : Int) x17) = true → ∀ x18 : Int, x18 = (List.getD x15 (Int.toNat (0 : Int)) 0) →
((∀ x19 : Int, x19 = ((List.length x7 : Int)) →
((Cmp.den .le x19 (100000 : Int)) = true → ∀ x20 : List Int, x20 = (x7 ++ ([x13] : List Int)) →
∀ x21 : Int, x21 = ((List.length x8 : Int)) →
((Cmp.den .le x21 (100000 : Int)) = true → ∀ x22 : List Int, x22 = (x8 ++ ([x18] : List Int)) →
∀ x23 : Int, x23 = (x6 + (1 : Int)) →
Fits [.i (some ((0), (15))), .l, .l] [(.i x23), (.l (x20)), (.l (x22))] ∧ I0 [(.i x23), (.l (x20)), (.l (x22))] ∧ mu0 [(.i x23), (.l (x20)), (.l (x22))] < mu0 [.i x6, .l x7, .l x8]) ∧ ((Cmp.den .le x21 (100000 : Int)) = false → False)) ∧ ((Cmp.den .le x19 (100000 : Int)) = false → False)) ∧ (∀ x19 : Int, x19 = ((List.length x7 : Int)) →
((Cmp.den .le x19 (100000 : Int)) = true → ∀ x20 : List Int, x20 = (x7 ++ ([x13] : List Int)) →
∀ x21 : Int, x21 = ((List.length x8 : Int)) →
((Cmp.den .le x21 (100000 : Int)) = true → ∀ x22 : List Int, x22 = (x8 ++ ([x18] : List Int)) →
∀ x23 : Int, x23 = (x6 + (1 : Int)) →
Fits [.i (some ((0), (15))), .l, .l] [(.i x23), (.l (x20)), (.l (x22))] ∧ I0 [(.i x23), (.l (x20)), (.l (x22))] ∧ mu0 [(.i x23), (.l (x20)), (.l (x22))] < mu0 [.i x6, .l x7, .l x8]) ∧ ((Cmp.den .le x21 (100000 : Int)) = false → False)) ∧ ((Cmp.den .le x19 (100000 : Int)) = false → False))) ∧ (∀ x19 : Int, x19 = ((List.length x7 : Int)) →
((Cmp.den .le x19 (100000 : Int)) = true → ∀ x20 : List Int, x20 = (x7 ++ ([x13] : List Int)) →
∀ x21 : Int, x21 = ((List.length x8 : Int)) →
((Cmp.den .le x21 (100000 : Int)) = true → ∀ x22 : List Int, x22 = (x8 ++ ([x18] : List Int)) →
∀ x23 : Int, x23 = (x6 + (1 : Int)) →
Fits [.i (some ((0), (15))), .l, .l] [(.i x23), (.l (x20)), (.l (x22))] ∧ I0 [(.i x23), (.l (x20)), (.l (x22))] ∧ mu0 [(.i x23), (.l (x20)), (.l (x22))] < mu0 [.i x6, .l x7, .l x8]) ∧ ((Cmp.den .le x21 (100000 : Int)) = false → False)) ∧ ((Cmp.den .le x19 (100000 : Int)) = false → False))) ∧ ((Cmp.den .lt (0 : Int) x17) = false → False))))) ∧ ((Cmp.den .lt x6 x5) = false → (ntell_sem.pre [(.l (x7))]) ∧ (
∀ x9 : Int, x9 = (Cv.int (Env.get (ntell_sem.out [(.l (x7))]) 0)) → (0 : Int) ≤ x9 → x9 ≤ (2 : Int) →
∀ x10 : Int, x10 = (Cv.int (Env.get (ntell_sem.out [(.l (x7))]) 1)) → (0 : Int) ≤ x10 → x10 ≤ (2 : Int) →
∀ x11 : Int, x11 = (Cv.int (Env.get (ntell_sem.out [(.l (x7))]) 2)) → (0 : Int) ≤ x11 → x11 ≤ (2 : Int) →
∀ x12 : Int, x12 = (Cv.int (Env.get (ntell_sem.out [(.l (x7))]) 3)) → (0 : Int) ≤ x12 → x12 ≤ (2 : Int) →
∀ x13 : Int, x13 = (Cv.int (Env.get (ntell_sem.out [(.l (x7))]) 4)) → (0 : Int) ≤ x13 → x13 ≤ (2 : Int) →
∀ x14 : Int, x14 = (Cv.int (Env.get (ntell_sem.out [(.l (x7))]) 5)) → (0 : Int) ≤ x14 → x14 ≤ (2 : Int) →
∀ x15 : Int, x15 = (Cv.int (Env.get (ntell_sem.out [(.l (x7))]) 6)) → (0 : Int) ≤ x15 → x15 ≤ (2 : Int) →
∀ x16 : Int, x16 = (Cv.int (Env.get (ntell_sem.out [(.l (x7))]) 7)) → (0 : Int) ≤ x16 → x16 ≤ (2 : Int) →
∀ x17 : Int, x17 = (Cv.int (Env.get (ntell_sem.out [(.l (x7))]) 8)) → (0 : Int) ≤ x17 → x17 ≤ (1 : Int) →
(nexact_sem.pre [(.l (x8))]) ∧ (
∀ x26 : Int, x26 = (Cv.int (Env.get (nexact_sem.out [(.l (x8))]) 8)) → (0 : Int) ≤ x26 → x26 ≤ (1 : Int) →
∀ x27 : Int, x27 = ((List.length x8 : Int)) →
∃ (I1 : List Cv → Prop) (mu1 : List Cv → Nat), Fits [.i (some ((0), (100000))), .l] [(.i (0 : Int)), (.l (([] : List Int)))] ∧ I1 [(.i (0 : Int)), (.l (([] : List Int)))] ∧ (
∀ x28 : Int, (0 : Int) ≤ x28 → x28 ≤ (100000 : Int) → ∀ x29 : List Int, InI x29 → I1 [.i x28, .l x29] →
((Cmp.den .lt x28 x27) = true → ∀ x30 : Int, x30 = (List.getD x8 (Int.toNat x28) 0) →
∀ x31 : Int, x31 = (IntKind.i64.wrap (x30 + (4 : Int))) →
∀ x32 : Int, x32 = (IntKind.u64.wrap x31) →
∀ x33 : Int, x33 = (IntKind.i64.wrap ((1 : Int) * 2 ^ (min (Int.toNat x32) (IntKind.i64).bits))) →
∀ x34 : Int, x34 = ((List.length x29 : Int)) →
((Cmp.den .le x34 (100000 : Int)) = true → ∀ x35 : List Int, x35 = (x29 ++ ([x33] : List Int)) →
∀ x36 : Int, x36 = (x28 + (1 : Int)) →
Fits [.i (some ((0), (100000))), .l] [(.i x36), (.l (x35))] ∧ I1 [(.i x36), (.l (x35))] ∧ mu1 [(.i x36), (.l (x35))] < mu1 [.i x28, .l x29]) ∧ ((Cmp.den .le x34 (100000 : Int)) = false → False)) ∧ ((Cmp.den .lt x28 x27) = false → (ntell_sem.pre [(.l (x29))]) ∧ (
∀ x30 : Int, x30 = (Cv.int (Env.get (ntell_sem.out [(.l (x29))]) 0)) → (0 : Int) ≤ x30 → x30 ≤ (2 : Int) →
∀ x31 : Int, x31 = (Cv.int (Env.get (ntell_sem.out [(.l (x29))]) 1)) → (0 : Int) ≤ x31 → x31 ≤ (2 : Int) →
∀ x32 : Int, x32 = (Cv.int (Env.get (ntell_sem.out [(.l (x29))]) 2)) → (0 : Int) ≤ x32 → x32 ≤ (2 : Int) →
∀ x33 : Int, x33 = (Cv.int (Env.get (ntell_sem.out [(.l (x29))]) 3)) → (0 : Int) ≤ x33 → x33 ≤ (2 : Int) →
∀ x34 : Int, x34 = (Cv.int (Env.get (ntell_sem.out [(.l (x29))]) 4)) → (0 : Int) ≤ x34 → x34 ≤ (2 : Int) →
∀ x35 : Int, x35 = (Cv.int (Env.get (ntell_sem.out [(.l (x29))]) 5)) → (0 : Int) ≤ x35 → x35 ≤ (2 : Int) →
∀ x36 : Int, x36 = (Cv.int (Env.get (ntell_sem.out [(.l (x29))]) 6)) → (0 : Int) ≤ x36 → x36 ≤ (2 : Int) →
∀ x37 : Int, x37 = (Cv.int (Env.get (ntell_sem.out [(.l (x29))]) 7)) → (0 : Int) ≤ x37 → x37 ≤ (2 : Int) →
∀ x38 : Int, x38 = (Cv.int (Env.get (ntell_sem.out [(.l (x29))]) 8)) → (0 : Int) ≤ x38 → x38 ≤ (1 : Int) →
((!(Cmp.den .eq x17 (0 : Int))) = true → R (Value.bool false)) ∧ ((!(Cmp.den .eq x17 (0 : Int))) = false → ((!(Cmp.den .eq x26 (0 : Int))) = true → R (Value.bool false)) ∧ ((!(Cmp.den .eq x26 (0 : Int))) = false → ((!(Cmp.den .eq x38 (0 : Int))) = true → R (Value.bool false)) ∧ ((!(Cmp.den .eq x38 (0 : Int))) = false → (nal_sem.pre []) ∧ (
((!(Cv.bool (Env.get (nal_sem.out []) 0))) = true → R (Value.bool false)) ∧ ((!(Cv.bool (Env.get (nal_sem.out []) 0))) = false → ∃ (I2 : List Cv → Prop) (mu2 : List Cv → Nat), Fits [.i (some ((0), (8)))] [(.i (0 : Int))] ∧ I2 [(.i (0 : Int))] ∧ (
∀ x40 : Int, (0 : Int) ≤ x40 → x40 ≤ (8 : Int) → I2 [.i x40] →
((Cmp.den .lt x40 (8 : Int)) = true → ((Cmp.den .le x40 (0 : Int)) = true → ∀ x41 : Int, x41 = (if (Cv.bool (Env.get (nexact_sem.out [(.l (x8))]) 0)) = true then (2 : Int) else (0 : Int)) →
((!(Cmp.den .eq x30 x41)) = true → R (Value.bool false)) ∧ ((!(Cmp.den .eq x30 x41)) = false → ((Cmp.den .eq x9 (2 : Int)) = true → ((!(Cv.bool (Env.get (nexact_sem.out [(.l (x8))]) 0))) = true → R (Value.bool false)) ∧ ((!(Cv.bool (Env.get (nexact_sem.out [(.l (x8))]) 0))) = false → Fits [.i (some ((0), (8)))] [(.i (1 : Int))] ∧ I2 [(.i (1 : Int))] ∧ mu2 [(.i (1 : Int))] < mu2 [.i x40])) ∧ ((Cmp.den .eq x9 (2 : Int)) = false → ((Cmp.den .eq x9 (0 : Int)) = true → ((Cv.bool (Env.get (nexact_sem.out [(.l (x8))]) 0)) = true → R (Value.bool false)) ∧ ((Cv.bool (Env.get (nexact_sem.out [(.l (x8))]) 0)) = false → Fits [.i (some ((0), (8)))] [(.i (1 : Int))] ∧ I2 [(.i (1 : Int))] ∧ mu2 [(.i (1 : Int))] < mu2 [.i x40])) ∧ ((Cmp.den .eq x9 (0 : Int)) = false → Fits [.i (some ((0), (8)))] [(.i (1 : Int))] ∧ I2 [(.i (1 : Int))] ∧ mu2 [(.i (1 : Int))] < mu2 [.i x40])))) ∧ ((Cmp.den .le x40 (0 : Int)) = false → ((Cmp.den .le x40 (1 : Int)) = true → ∀ x41 : Int, x41 = (if (Cv.bool (Env.get (nexact_sem.out [(.l (x8))]) 1)) = true then (2 : Int) else (0 : Int)) →
((!(Cmp.den .eq x31 x41)) = true → R (Value.bool false)) ∧ ((!(Cmp.den .eq x31 x41)) = false → ((Cmp.den .eq x10 (2 : Int)) = true → ((!(Cv.bool (Env.get (nexact_sem.out [(.l (x8))]) 1))) = true → R (Value.bool false)) ∧ ((!(Cv.bool (Env.get (nexact_sem.out [(.l (x8))]) 1))) = false → Fits [.i (some ((0), (8)))] [(.i (2 : Int))] ∧ I2 [(.i (2 : Int))] ∧ mu2 [(.i (2 : Int))] < mu2 [.i x40])) ∧ ((Cmp.den .eq x10 (2 : Int)) = false → ((Cmp.den .eq x10 (0 : Int)) = true → ((Cv.bool (Env.get (nexact_sem.out [(.l (x8))]) 1)) = true → R (Value.bool false)) ∧ ((Cv.bool (Env.get (nexact_sem.out [(.l (x8))]) 1)) = false → Fits [.i (some ((0), (8)))] [(.i (2 : Int))] ∧ I2 [(.i (2 : Int))] ∧ mu2 [(.i (2 : Int))] < mu2 [.i x40])) ∧ ((Cmp.den .eq x10 (0 : Int)) = false → Fits [.i (some ((0), (8)))] [(.i (2 : Int))] ∧ I2 [(.i (2 : Int))] ∧ mu2 [(.i (2 : Int))] < mu2 [.i x40])))) ∧ ((Cmp.den .le x40 (1 : Int)) = false → ((Cmp.den .le x40 (2 : Int)) = true → ∀ x41 : Int, x41 = (if (Cv.bool (Env.get (nexact_sem.out [(.l (x8))]) 2)) = true then (2 : Int) else (0 : Int)) →
((!(Cmp.den .eq x32 x41)) = true → R (Value.bool false)) ∧ ((!(Cmp.den .eq x32 x41)) = false → ((Cmp.den .eq x11 (2 : Int)) = true → ((!(Cv.bool (Env.get (nexact_sem.out [(.l (x8))]) 2))) = true → R (Value.bool false)) ∧ ((!(Cv.bool (Env.get (nexact_sem.out [(.l (x8))]) 2))) = false → Fits [.i (some ((0), (8)))] [(.i (3 : Int))] ∧ I2 [(.i (3 : Int))] ∧ mu2 [(.i (3 : Int))] < mu2 [.i x40])) ∧ ((Cmp.den .eq x11 (2 : Int)) = false → ((Cmp.den .eq x11 (0 : Int)) = true → ((Cv.bool (Env.get (nexact_sem.out [(.l (x8))]) 2)) = true → R (Value.bool false)) ∧ ((Cv.bool (Env.get (nexact_sem.out [(.l (x8))]) 2)) = false → Fits [.i (some ((0), (8)))] [(.i (3 : Int))] ∧ I2 [(.i (3 : Int))] ∧ mu2 [(.i (3 : Int))] < mu2 [.i x40])) ∧ ((Cmp.den .eq x11 (0 : Int)) = false → Fits [.i (some ((0), (8)))] [(.i (3 : Int))] ∧ I2 [(.i (3 : Int))] ∧ mu2 [(.i (3 : Int))] < mu2 [.i x40])))) ∧ ((Cmp.den .le x40 (2 : Int)) = false → ((Cmp.den .le x40 (3 : Int)) = true → ∀ x41 : Int, x41 = (if (Cv.bool (Env.get (nexact_sem.out [(.l (x8))]) 3)) = true then (2 : Int) else (0 : Int)) →
((!(Cmp.den .eq x33 x41)) = true → R (Value.bool false)) ∧ ((!(Cmp.den .eq x33 x41)) = false → ((Cmp.den .eq x12 (2 : Int)) = true → ((!(Cv.bool (Env.get (nexact_sem.out [(.l (x8))]) 3))) = true → R (Value.bool false)) ∧ ((!(Cv.bool (Env.get (nexact_sem.out [(.l (x8))]) 3))) = false → Fits [.i (some ((0), (8)))] [(.i (4 : Int))] ∧ I2 [(.i (4 : Int))] ∧ mu2 [(.i (4 : Int))] < mu2 [.i x40])) ∧ ((Cmp.den .eq x12 (2 : Int)) = false → ((Cmp.den .eq x12 (0 : Int)) = true → ((Cv.bool (Env.get (nexact_sem.out [(.l (x8))]) 3)) = true → R (Value.bool false)) ∧ ((Cv.bool (Env.get (nexact_sem.out [(.l (x8))]) 3)) = false → Fits [.i (some ((0), (8)))] [(.i (4 : Int))] ∧ I2 [(.i (4 : Int))] ∧ mu2 [(.i (4 : Int))] < mu2 [.i x40])) ∧ ((Cmp.den .eq x12 (0 : Int)) = false → Fits [.i (some ((0), (8)))] [(.i (4 : Int))] ∧ I2 [(.i (4 : Int))] ∧ mu2 [(.i (4 : Int))] < mu2 [.i x40])))) ∧ ((Cmp.den .le x40 (3 : Int)) = false → ((Cmp.den .le x40 (4 : Int)) = true → ∀ x41 : Int, x41 = (if (Cv.bool (Env.get (nexact_sem.out [(.l (x8))]) 4)) = true then (2 : Int) else (0 : Int)) →
((!(Cmp.den .eq x34 x41)) = true → R (Value.bool false)) ∧ ((!(Cmp.den .eq x34 x41)) = false → ((Cmp.den .eq x13 (2 : Int)) = true → ((!(Cv.bool (Env.get (nexact_sem.out [(.l (x8))]) 4))) = true → R (Value.bool false)) ∧ ((!(Cv.bool (Env.get (nexact_sem.out [(.l (x8))]) 4))) = false → Fits [.i (some ((0), (8)))] [(.i (5 : Int))] ∧ I2 [(.i (5 : Int))] ∧ mu2 [(.i (5 : Int))] < mu2 [.i x40])) ∧ ((Cmp.den .eq x13 (2 : Int)) = false → ((Cmp.den .eq x13 (0 : Int)) = true → ((Cv.bool (Env.get (nexact_sem.out [(.l (x8))]) 4)) = true → R (Value.bool false)) ∧ ((Cv.bool (Env.get (nexact_sem.out [(.l (x8))]) 4)) = false → Fits [.i (some ((0), (8)))] [(.i (5 : Int))] ∧ I2 [(.i (5 : Int))] ∧ mu2 [(.i (5 : Int))] < mu2 [.i x40])) ∧ ((Cmp.den .eq x13 (0 : Int)) = false → Fits [.i (some ((0), (8)))] [(.i (5 : Int))] ∧ I2 [(.i (5 : Int))] ∧ mu2 [(.i (5 : Int))] < mu2 [.i x40])))) ∧ ((Cmp.den .le x40 (4 : Int)) = false → ((Cmp.den .le x40 (5 : Int)) = true → ∀ x41 : Int, x41 = (if (Cv.bool (Env.get (nexact_sem.out [(.l (x8))]) 5)) = true then (2 : Int) else (0 : Int)) →
((!(Cmp.den .eq x35 x41)) = true → R (Value.bool false)) ∧ ((!(Cmp.den .eq x35 x41)) = false → ((Cmp.den .eq x14 (2 : Int)) = true → ((!(Cv.bool (Env.get (nexact_sem.out [(.l (x8))]) 5))) = true → R (Value.bool false)) ∧ ((!(Cv.bool (Env.get (nexact_sem.out [(.l (x8))]) 5))) = false → Fits [.i (some ((0), (8)))] [(.i (6 : Int))] ∧ I2 [(.i (6 : Int))] ∧ mu2 [(.i (6 : Int))] < mu2 [.i x40])) ∧ ((Cmp.den .eq x14 (2 : Int)) = false → ((Cmp.den .eq x14 (0 : Int)) = true → ((Cv.bool (Env.get (nexact_sem.out [(.l (x8))]) 5)) = true → R (Value.bool false)) ∧ ((Cv.bool (Env.get (nexact_sem.out [(.l (x8))]) 5)) = false → Fits [.i (some ((0), (8)))] [(.i (6 : Int))] ∧ I2 [(.i (6 : Int))] ∧ mu2 [(.i (6 : Int))] < mu2 [.i x40])) ∧ ((Cmp.den .eq x14 (0 : Int)) = false → Fits [.i (some ((0), (8)))] [(.i (6 : Int))] ∧ I2 [(.i (6 : Int))] ∧ mu2 [(.i (6 : Int))] < mu2 [.i x40])))) ∧ ((Cmp.den .le x40 (5 : Int)) = false → ((Cmp.den .le x40 (6 : Int)) = true → ∀ x41 : Int, x41 = (if (Cv.bool (Env.get (nexact_sem.out [(.l (x8))]) 6)) = true then (2 : Int) else (0 : Int)) →
((!(Cmp.den .eq x36 x41)) = true → R (Value.bool false)) ∧ ((!(Cmp.den .eq x36 x41)) = false → ((Cmp.den .eq x15 (2 : Int)) = true → ((!(Cv.bool (Env.get (nexact_sem.out [(.l (x8))]) 6))) = true → R (Value.bool false)) ∧ ((!(Cv.bool (Env.get (nexact_sem.out [(.l (x8))]) 6))) = false → Fits [.i (some ((0), (8)))] [(.i (7 : Int))] ∧ I2 [(.i (7 : Int))] ∧ mu2 [(.i (7 : Int))] < mu2 [.i x40])) ∧ ((Cmp.den .eq x15 (2 : Int)) = false → ((Cmp.den .eq x15 (0 : Int)) = true → ((Cv.bool (Env.get (nexact_sem.out [(.l (x8))]) 6)) = true → R (Value.bool false)) ∧ ((Cv.bool (Env.get (nexact_sem.out [(.l (x8))]) 6)) = false → Fits [.i (some ((0), (8)))] [(.i (7 : Int))] ∧ I2 [(.i (7 : Int))] ∧ mu2 [(.i (7 : Int))] < mu2 [.i x40])) ∧ ((Cmp.den .eq x15 (0 : Int)) = false → Fits [.i (some ((0), (8)))] [(.i (7 : Int))] ∧ I2 [(.i (7 : Int))] ∧ mu2 [(.i (7 : Int))] < mu2 [.i x40])))) ∧ ((Cmp.den .le x40 (6 : Int)) = false → ∀ x41 : Int, x41 = (if (Cv.bool (Env.get (nexact_sem.out [(.l (x8))]) 7)) = true then (2 : Int) else (0 : Int)) →
((!(Cmp.den .eq x37 x41)) = true → R (Value.bool false)) ∧ ((!(Cmp.den .eq x37 x41)) = false → ((Cmp.den .eq x16 (2 : Int)) = true → ((!(Cv.bool (Env.get (nexact_sem.out [(.l (x8))]) 7))) = true → R (Value.bool false)) ∧ ((!(Cv.bool (Env.get (nexact_sem.out [(.l (x8))]) 7))) = false → Fits [.i (some ((0), (8)))] [(.i (8 : Int))] ∧ I2 [(.i (8 : Int))] ∧ mu2 [(.i (8 : Int))] < mu2 [.i x40])) ∧ ((Cmp.den .eq x16 (2 : Int)) = false → ((Cmp.den .eq x16 (0 : Int)) = true → ((Cv.bool (Env.get (nexact_sem.out [(.l (x8))]) 7)) = true → R (Value.bool false)) ∧ ((Cv.bool (Env.get (nexact_sem.out [(.l (x8))]) 7)) = false → Fits [.i (some ((0), (8)))] [(.i (8 : Int))] ∧ I2 [(.i (8 : Int))] ∧ mu2 [(.i (8 : Int))] < mu2 [.i x40])) ∧ ((Cmp.den .eq x16 (0 : Int)) = false → Fits [.i (some ((0), (8)))] [(.i (8 : Int))] ∧ I2 [(.i (8 : Int))] ∧ mu2 [(.i (8 : Int))] < mu2 [.i x40]))))))))))) ∧ ((Cmp.den .lt x40 (8 : Int)) = false → R (Value.bool true)))))))))))))))) ∧ ((Cmp.den .le x3 x2) = false → False)) := by kernel_rfl

def lnsu_sem : SpecSem := { pre := fun cs => match cs with | [.l a, .l b] => InI a ∧ InI b | _ => False, out := fun cs => match cs with | [.l a, .l b] => [.b true] | _ => [], g := tzG }
set_option maxRecDepth 10000 in
set_option maxHeartbeats 16000000 in
theorem lnsu_ok : SpecOK Tryd.prog 4 lnsu_sp lnsu_sem := by
  refine spec_of_tree lnsu_cxok Tryd.func4 (by kernel_rfl) (by kernel_rfl) lnsu_walk rfl ?_
  intro cs hpre
  match cs, hpre with
  | [.l a, .l b], ⟨j_a, j_b⟩ =>
    refine ⟨rfl, IvsB.ok (by simp only [lnsu_ivs, IvsB, Cv.int, and_true, j_a, j_b, true_and] <;> omega), ?_, ?_⟩
    · simp only [lnsu_sem, lnsu_sp, Fits]
    · rw [lnsu_den]
      have hF : List.take ((if 15 < (a.length : Int) then (15 : Int) else (a.length : Int)).toNat - Int.toNat 0) (List.drop (Int.toNat 0) a) = a.take 15 := by
        rw [show Int.toNat 0 = 0 from rfl, List.drop_zero, Nat.sub_zero]
        split
        · rfl
        · rw [List.take_of_length_le (by omega), List.take_of_length_le (by omega)]
      have hI : InI (a.take 15) := fun y hy => j_a y (List.mem_of_mem_take hy)
      have hlen : (a.take 15).length ≤ 15 := by rw [List.length_take]; omega
      have b1 : ((if 15 < (a.length : Int) then (15 : Int) else (a.length : Int)) ≤ (a.length : Int)) = True := eq_true (by split <;> omega)
      have b2 : ((a.length : Int) < (if 15 < (a.length : Int) then (15 : Int) else (a.length : Int))) = False := eq_false (by split <;> omega)
      have hmk : ∀ x : Int, 1 + (Int.tmod x 511 + 511) % 511 = mkM x := fun _ => rfl
      have hMk : ∀ x : Int, IsM (mkM x) = True := fun x => eq_true (mkM_rng x)
      have hIk : ∀ x : Int, IsI (mkM x) = True := fun x => eq_true ⟨by have := (mkM_rng x).1; omega, by have := (mkM_rng x).2; omega⟩
      simp only [lnsu_sem, lnsu_sp, ntell_sem, nexact_sem, nal_sem, r13has_sem, lnsu_den, ntell_sem, nexact_sem, nal_sem, r13has_sem, Tree.den, LE.den, Cv.list, placeA, List.getElem?_cons_zero, List.getElem?_cons_succ, IE.den, BE.den, At.den, CA.den, Env.get, Cv.int, Cv.bool, List.cons_append, List.nil_append, List.map_cons, List.map_nil, bindRes, bindEq, Fits, SV.den, denL, place, placeL, eq_t, eq_f, lt_t, lt_f, le_t, le_f, beq_iff_eq, beq_eq_false_iff_ne, ne_eq, reduceCtorEq, b_dec, decide_eq_true_eq, decide_eq_false_iff_not, Bool.not_eq_false', Bool.or_eq_true, Bool.or_eq_false_iff, Bool.and_eq_false_iff, true_iff, false_iff, Bool.false_eq_true, Bool.not_eq_true', Bool.and_eq_true, Bool.not_true, Bool.not_false, List.cons.injEq, Cv.i.injEq, Cv.b.injEq, and_true, true_and, agg_inj, tup_inj, Value.int.injEq, Value.bool.injEq, hF, b1, b2, hmk, hMk, hIk, Int.le_refl, Int.lt_irrefl, forall_eq, eq_self, if_true, if_false, true_and, and_true, false_and, and_false, true_or, or_true, false_or, or_false, true_iff, iff_true, false_iff, iff_false, not_true_eq_false, not_false_eq_true, true_implies, false_implies, implies_true, forall_const, decide_true, decide_false, reduceCtorEq]
      generalize a.take 15 = v at *
      refine ⟨someI (v.length : Int), someMu, ⟨by omega, inI_nil, inI_nil⟩, ⟨by omega, rfl, fun m h => (by cases h), row_nil.2 rfl⟩, ?_⟩
      intro i i0 i1 x hx y hy hS
      refine ⟨fun hlt => ?_, fun hge => ?_⟩
      · have hM := mkM_rng (v.getD i.toNat 0)
        generalize mkM (v.getD i.toNat 0) = m at *
        refine cls_loop (m := m) ?_
        have hp := cls_pos hM
        have hc9 := clsA_len m 9
        have tail := fun c hc => some_tail (c := c) (by omega) hS i0 hlt hM hc hx hy
        refine ⟨fun hb => ⟨fun q => by omega, fun _ => ?_⟩, fun hb => ⟨fun _ => ?_, fun q => by omega⟩⟩
        · obtain ⟨k1, k2, k3⟩ := pick_rng (y := b.getD i.toNat 0) (n := ((clsA m 9).length : Int)) (by omega) (by omega)
          rw [k1]
          generalize Int.tmod (Int.tmod (b.getD i.toNat 0) ((clsA m 9).length : Int) + ((clsA m 9).length : Int)) ((clsA m 9).length : Int) = p at *
          have t := tail _ (clsA_has.1 (getD_mem (show p.toNat < (clsA m 9).length by omega)))
          exact ⟨fun _ => ⟨fun _ => ⟨⟨t, t⟩, t⟩, fun q => by omega⟩, fun q => by omega⟩
        · have t := tail _ (clsA_has.1 (getD_mem (show Int.toNat 0 < (clsA m 9).length from hp)))
          exact ⟨⟨t, t⟩, t⟩
      · obtain ⟨h1, h2, h3, h4⟩ : i ≤ (v.length : Int) ∧ (x.length : Int) = i ∧ (∀ m ∈ x, IsM m) ∧ Row x y := hS
        have hxl : x.length ≤ 15 := by omega
        have hyl : y.length ≤ 15 := by rw [h4.1]; exact hxl
        have hcl := row_isCl h4
        have hms : IsMs x := ⟨hxl, h3⟩
        have e1 : y.length ≤ 1000 := by omega
        have e2 : (if IsCl y ∧ y.length ≤ 15 then (0 : Int) else 1) = 0 := if_pos ⟨hcl, hyl⟩
        have g1 : ((0 : Int) = 1) = False := by simp
        have e3 : (if y.length ≤ 15 then (0 : Int) else 1) = 0 := if_pos hyl
        simp only [hx, hy, hms, hcl, e1, e2, e3, g1, if_true, if_false, true_and, and_true, false_and, and_false, true_or, or_true, false_or, or_false, true_iff, iff_true, false_iff, iff_false, not_true_eq_false, not_false_eq_true, true_implies, false_implies, implies_true, forall_const, decide_true, decide_false, reduceCtorEq]
        intros
        refine ⟨fun vs => match vs with | [.i i, .l ys] => i ≤ (y.length : Int) ∧ ys = (y.take i.toNat).map bitc | _ => False, fun vs => match vs with | [.i i, .l _] => (100001 - i).toNat | _ => 0, ⟨by omega, inI_nil⟩, ⟨by omega, rfl⟩, ?_⟩
        intro j j0 j1 z hz hJ
        obtain ⟨hjn, rfl⟩ : j ≤ (y.length : Int) ∧ z = (y.take j.toNat).map bitc := hJ
        refine ⟨fun hjlt => ?_, fun hjge => ?_⟩
        · have hc := hcl _ (getD_mem (show j.toNat < y.length by omega))
          have hc' := hc
          unfold InC at hc'
          have hw := bitc_wrap hc
          have hT : (y.take j.toNat).map bitc ++ [bitc (y.getD j.toNat 0)] = (y.take (j + 1).toNat).map bitc := by
            rw [show (j + 1).toNat = j.toNat + 1 by omega, take_snoc (by omega), List.map_append]; rfl
          have hcl2 : IsCl (y.take (j + 1).toNat) := fun c hcm => hcl c (List.mem_of_mem_take hcm)
          have w1 : IntKind.i64.wrap (y.getD j.toNat 0 + 4) = y.getD j.toNat 0 + 4 := w64 (by omega) (by omega)
          have w2 : IntKind.u64.wrap (y.getD j.toNat 0 + 4) = y.getD j.toNat 0 + 4 := wrap_id (by show (0 : Int) ≤ _; omega) (by show _ ≤ (18446744073709551615 : Int); omega)
          simp only [w1, w2, hw, hT, if_true, if_false, true_and, and_true, false_and, and_false, true_or, or_true, false_or, or_false, true_iff, iff_true, false_iff, iff_false, not_true_eq_false, not_false_eq_true, true_implies, false_implies, implies_true, forall_const, decide_true, decide_false, reduceCtorEq]
          refine ⟨fun _ => ⟨⟨by omega, by omega, inI_map hcl2⟩, by omega, by omega⟩, fun q => ?_⟩
          rw [List.length_map, List.length_take] at q; omega
        · have et : y.take j.toNat = y := List.take_of_length_le (by omega)
          rw [et] at hz ⊢
          have hms2 := (isMs_map hcl).2 hyl
          simp only [hz, hms2, if_true, if_false, true_and, and_true, false_and, and_false, true_or, or_true, false_or, or_false, true_iff, iff_true, false_iff, iff_false, not_true_eq_false, not_false_eq_true, true_implies, false_implies, implies_true, forall_const, decide_true, decide_false, reduceCtorEq]
          intros
          obtain ⟨p1, p2, p3⟩ := tell_row (G := G1) (n := 1) h3 hxl h4
          obtain ⟨q1, q2, q3⟩ := tell_row (G := G2) (n := 9) h3 hxl h4
          obtain ⟨r1, r2, r3⟩ := tell_row (G := G3) (n := 6) h3 hxl h4
          obtain ⟨s1, s2, s3⟩ := tell_row (G := G4) (n := 14) h3 hxl h4
          obtain ⟨t1, t2, t3⟩ := tell_row (G := G5) (n := 3) h3 hxl h4
          obtain ⟨u1, u2, u3⟩ := tell_row (G := G6) (n := 5) h3 hxl h4
          obtain ⟨v1, v2, v3⟩ := tell_row (G := G7) (n := 15) h3 hxl h4
          obtain ⟨w1, w2, w3⟩ := tell_row (G := G8) (n := 8) h3 hxl h4
          refine ⟨fun vs => match vs with | [.i k] => 0 ≤ k ∧ k ≤ 8 | _ => False, fun vs => match vs with | [.i k] => (8 - k).toNat | _ => 0, (by omega), (by omega), ?_⟩
          intro k k0 k1 _
          exact fun _ => ⟨fun _ => fin_branch p1 p2 p3 ⟨by omega, ⟨by omega, by omega⟩, by show (8 - 1 : Int).toNat < (8 - k).toNat; omega⟩, fun _ => ⟨fun _ => fin_branch q1 q2 q3 ⟨by omega, ⟨by omega, by omega⟩, by show (8 - 2 : Int).toNat < (8 - k).toNat; omega⟩, fun _ => ⟨fun _ => fin_branch r1 r2 r3 ⟨by omega, ⟨by omega, by omega⟩, by show (8 - 3 : Int).toNat < (8 - k).toNat; omega⟩, fun _ => ⟨fun _ => fin_branch s1 s2 s3 ⟨by omega, ⟨by omega, by omega⟩, by show (8 - 4 : Int).toNat < (8 - k).toNat; omega⟩, fun _ => ⟨fun _ => fin_branch t1 t2 t3 ⟨by omega, ⟨by omega, by omega⟩, by show (8 - 5 : Int).toNat < (8 - k).toNat; omega⟩, fun _ => ⟨fun _ => fin_branch u1 u2 u3 ⟨by omega, ⟨by omega, by omega⟩, by show (8 - 6 : Int).toNat < (8 - k).toNat; omega⟩, fun _ => ⟨fun _ => fin_branch v1 v2 v3 ⟨by omega, ⟨by omega, by omega⟩, by show (8 - 7 : Int).toNat < (8 - k).toNat; omega⟩, fun _ => fin_branch w1 w2 w3 ⟨by omega, ⟨by omega, by omega⟩, by show (8 - 8 : Int).toNat < (8 - k).toNat; omega⟩⟩⟩⟩⟩⟩⟩⟩
end Go.Proofs.YtmnpeneplobpdaaDoor.X
