/-
  base: Take, by contract.
-/
import Derived.Test.YtjbokdekofiihaaSxBsTk
namespace Go.Proofs.Ytjbokdekofiihaa.X
open Go Go.SX
set_option linter.unusedVariables false
set_option linter.unusedSimpArgs false



def tkE (z m s r a : Int) (xs : List Int) : Int := if BsOK z m s r a ∧ (xs.length : Int) = z ∧ inS xs then if m = 25 then 11 else 0 else 1
def tkR (z m a : Int) (xs : List Int) : Int := if z = 1 then (if m = 0 then 0 else apart (xs.getD 0 0) a) else maxS xs - minS xs

instance (l : List Int) : Decidable (inS l) := by unfold inS; infer_instance
def lastS (xs : List Int) : Int := xs.getD (xs.length - 1) 0
theorem apart_rng {x a : Int} (hx : -1000000 ≤ x ∧ x ≤ 1000000) (ha : -1000000 ≤ a ∧ a ≤ 1000000) : 0 ≤ apart x a ∧ apart x a ≤ 2000000 := by unfold apart; split <;> omega
theorem tkE_rng (z m s r a : Int) (xs : List Int) : 0 ≤ tkE z m s r a xs ∧ tkE z m s r a xs ≤ 11 := by unfold tkE; (repeat' split) <;> omega
theorem tkR_rng {z m a : Int} {xs : List Int} (h : inS xs) (h1 : 1 ≤ (xs.length : Int)) (h2 : (xs.length : Int) ≤ 100000) (ha : -1000000 ≤ a ∧ a ≤ 1000000) : 0 ≤ tkR z m a xs ∧ tkR z m a xs ≤ 2000000 := by
  have rg := sts_rng h h2
  have h0 := h _ (getD_mem (i := 0) (by omega) (by omega))
  rw [show Int.toNat 0 = 0 from rfl] at h0
  have ap := apart_rng h0 ha
  have hm := minS_le (maxS_mem (l := xs) (fun e => by rw [e] at h1; simp at h1))
  unfold tkR
  (repeat' split) <;> omega
theorem tk_loop {xs : List Int} (hin : inS xs) (h1 : 1 ≤ (xs.length : Int)) (h2 : (xs.length : Int) ≤ 10) {s a : Int} (hs : -250000000 ≤ s ∧ s ≤ 250000000) (ha : -1000000 ≤ a ∧ a ≤ 1000000) {Q : Int → Int → Prop} (hQ : Q (s + sumL xs) (lastS xs)) :
    ∃ (I1 : List Cv → Prop) (mu1 : List Cv → Nat), ((0 : Int) ≤ 0 ∧ (0 : Int) ≤ 100000 ∧ -1000000000 ≤ s ∧ s ≤ 1000000000 ∧ -1000000 ≤ a ∧ a ≤ 1000000) ∧ I1 [Cv.i 0, Cv.i s, Cv.i a] ∧ ∀ (x11 : Int), 0 ≤ x11 → x11 ≤ 100000 → ∀ (x12 : Int), -1000000000 ≤ x12 → x12 ≤ 1000000000 → ∀ (x13 : Int), -1000000 ≤ x13 → x13 ≤ 1000000 → I1 [Cv.i x11, Cv.i x12, Cv.i x13] →
      (x11 < (xs.length : Int) → (0 ≤ x11 + 1 ∧ x11 + 1 ≤ 100000 ∧ -1000000000 ≤ IntKind.i64.wrap (x12 + xs.getD x11.toNat 0) ∧ IntKind.i64.wrap (x12 + xs.getD x11.toNat 0) ≤ 1000000000 ∧ -1000000 ≤ xs.getD x11.toNat 0 ∧ xs.getD x11.toNat 0 ≤ 1000000) ∧ I1 [Cv.i (x11 + 1), Cv.i (IntKind.i64.wrap (x12 + xs.getD x11.toNat 0)), Cv.i (xs.getD x11.toNat 0)] ∧ mu1 [Cv.i (x11 + 1), Cv.i (IntKind.i64.wrap (x12 + xs.getD x11.toNat 0)), Cv.i (xs.getD x11.toNat 0)] < mu1 [Cv.i x11, Cv.i x12, Cv.i x13]) ∧ ((xs.length : Int) ≤ x11 → Q x12 x13) := by
  refine ⟨fun vs => match vs with | [.i i, .i u, .i v] => u = s + sumL (xs.take i.toNat) ∧ v = (if i = 0 then a else xs.getD (i - 1).toNat 0) ∧ i ≤ (xs.length : Int) | _ => False, fun vs => match vs with | .i i :: _ => ((xs.length : Int) - i).toNat | _ => 0, by omega, ⟨by simp [sumL], rfl, by omega⟩, ?_⟩
  intro i i0 i1 u u0 u1 v v0 v1 hI
  obtain ⟨e1, e2, e3⟩ : u = s + sumL (xs.take i.toNat) ∧ v = (if i = 0 then a else xs.getD (i - 1).toNat 0) ∧ i ≤ (xs.length : Int) := hI
  refine ⟨fun hlt => ?_, fun hge => ?_⟩
  · have hx := hin _ (getD_mem i0 hlt)
    have hn := (sts_next (xs := xs) (i := i) i0 hlt rfl).1
    have hr := sum_rng (K := 1000000) (xs.take (i + 1).toNat) (inS_take _ hin)
    have hl : ((xs.take (i + 1).toNat).length : Int) ≤ 10 := by
      have := List.length_take (i := (i + 1).toNat) (l := xs)
      omega
    have w : IntKind.i64.wrap (u + xs.getD i.toNat 0) = u + xs.getD i.toNat 0 := w64 (by omega) (by omega)
    rw [w]
    refine ⟨by omega, ⟨by rw [hn, e1]; omega, ?_, by omega⟩, ?_⟩
    · rw [if_neg (by omega), show i + 1 - 1 = i by omega]
    · show (((xs.length : Int) - (i + 1)).toNat < ((xs.length : Int) - i).toNat)
      omega
  · have hi : i = (xs.length : Int) := by omega
    have ht : xs.take i.toNat = xs := List.take_of_length_le (by omega)
    rw [ht] at e1
    rw [if_neg (by omega), show (i - 1).toNat = xs.length - 1 by omega] at e2
    rw [e1, e2]
    exact hQ
theorem in_loop (xs : List Int) (hl : (xs.length : Int) ≤ 100000) {A B : Prop} (hA : ¬ inS xs → A) (hB : inS xs → B) :
    ∃ (I0 : List Cv → Prop) (mu0 : List Cv → Nat), ((0 : Int) ≤ 0 ∧ (0 : Int) ≤ 100000) ∧ I0 [Cv.i 0] ∧ ∀ (x8 : Int), 0 ≤ x8 → x8 ≤ 100000 → I0 [Cv.i x8] →
      (x8 < (xs.length : Int) → (-1000000 ≤ xs.getD x8.toNat 0 → (1000000 < xs.getD x8.toNat 0 → A) ∧ (xs.getD x8.toNat 0 ≤ 1000000 → (0 ≤ x8 + 1 ∧ x8 + 1 ≤ 100000) ∧ I0 [Cv.i (x8 + 1)] ∧ mu0 [Cv.i (x8 + 1)] < mu0 [Cv.i x8])) ∧ (xs.getD x8.toNat 0 < -1000000 → A)) ∧ ((xs.length : Int) ≤ x8 → B) := by
  refine ⟨fun vs => match vs with | [.i i] => inS (xs.take i.toNat) ∧ i ≤ (xs.length : Int) | _ => False, fun vs => match vs with | .i i :: _ => ((xs.length : Int) - i).toNat | _ => 0, by omega, ⟨inS_nil, by omega⟩, ?_⟩
  intro i i0 i1 hI
  obtain ⟨h1, h2⟩ : inS (xs.take i.toNat) ∧ i ≤ (xs.length : Int) := hI
  refine ⟨fun hlt => ?_, fun hge => ?_⟩
  · have hm := getD_mem i0 hlt
    refine ⟨fun k => ⟨fun k2 => hA fun h => ?_, fun k2 => ?_⟩, fun k => hA fun h => ?_⟩
    · have := h _ hm; omega
    · refine ⟨by omega, ⟨by rw [take_snoc i0 hlt]; exact inS_snoc h1 ⟨k, k2⟩, by omega⟩, ?_⟩
      show (((xs.length : Int) - (i + 1)).toNat < ((xs.length : Int) - i).toNat)
      omega
    · have := h _ hm; omega
  · have ht : xs.take i.toNat = xs := List.take_of_length_le (by omega)
    rw [ht] at h1
    exact hB h1
def btake_sp : SpecSh := { args := [(.agg [(.int .i64 (.z 0)), (.int .i64 (.z 0)), (.int .i64 (.z 0)), (.int .i64 (.z 0)), (.int .i64 (.z 0))]), (.lst 0)], res := (.tup [(.agg [(.int .i64 (.z 0)), (.int .i64 (.z 0)), (.int .i64 (.z 0)), (.int .i64 (.z 0)), (.int .i64 (.z 0))]), (.int .i64 (.z 0))]), sh := [.i (some ((-9223372036854775808), 9223372036854775807)), .i (some ((-9223372036854775808), 9223372036854775807)), .i (some ((-9223372036854775808), 9223372036854775807)), .i (some ((-9223372036854775808), 9223372036854775807)), .i (some ((-9223372036854775808), 9223372036854775807)), .i (some ((-9223372036854775808), 9223372036854775807))] }
set_option maxRecDepth 100000 in
def btake_tree : Tree :=
.call 13 [.b] [.i (.v 0), .i (.v 1), .i (.v 2), .i (.v 3), .i (.v 4)] <|
.ite (.not (.v 6)) (.ret (.tup [(.agg [(.int .i64 (.z 0)), (.int .i64 (.z 0)), (.int .i64 (.z 0)), (.int .i64 (.z 0)), (.int .i64 (.z 0))]), (.int .i64 (.z 1))])) <|
.lett (.len 5) <|
.ite (.not (.cmp .eq (.v 7) (.v 0))) (.ret (.tup [(.agg [(.int .i64 (.z 0)), (.int .i64 (.z 0)), (.int .i64 (.z 0)), (.int .i64 (.z 0)), (.int .i64 (.z 0))]), (.int .i64 (.z 1))])) <|
.loop [.i (some (0, 100000))] [.i (.z 0)] <|
.ite (.cmp .lt (.v 8) (.v 7)) (.lett (.nth 5 (.v 8)) <|
.ite (.cmp .le (.z (-1000000)) (.v 9)) (.ite (.not (.cmp .le (.v 9) (.z 1000000))) (.ite (.not (.cmp .eq (.v 7) (.v 0))) (.ret (.tup [(.agg [(.int .i64 (.z 0)), (.int .i64 (.z 0)), (.int .i64 (.z 0)), (.int .i64 (.z 0)), (.int .i64 (.z 0))]), (.int .i64 (.z 1))])) <|
.ret (.tup [(.agg [(.int .i64 (.z 0)), (.int .i64 (.z 0)), (.int .i64 (.z 0)), (.int .i64 (.z 0)), (.int .i64 (.z 0))]), (.int .i64 (.z 1))])) <|
.lett (.add (.v 8) (.z 1)) <|
.again 0 [.i (.v 10)]) <|
.ite (.not (.cmp .eq (.v 7) (.v 0))) (.ret (.tup [(.agg [(.int .i64 (.z 0)), (.int .i64 (.z 0)), (.int .i64 (.z 0)), (.int .i64 (.z 0)), (.int .i64 (.z 0))]), (.int .i64 (.z 1))])) <|
.ret (.tup [(.agg [(.int .i64 (.z 0)), (.int .i64 (.z 0)), (.int .i64 (.z 0)), (.int .i64 (.z 0)), (.int .i64 (.z 0))]), (.int .i64 (.z 1))])) <|
.ite (.not (.cmp .eq (.v 7) (.v 0))) (.ret (.tup [(.agg [(.int .i64 (.z 0)), (.int .i64 (.z 0)), (.int .i64 (.z 0)), (.int .i64 (.z 0)), (.int .i64 (.z 0))]), (.int .i64 (.z 1))])) <|
.ite (.cmp .eq (.v 1) (.z 25)) (.ret (.tup [(.agg [(.int .i64 (.z 0)), (.int .i64 (.z 0)), (.int .i64 (.z 0)), (.int .i64 (.z 0)), (.int .i64 (.z 0))]), (.int .i64 (.z 11))])) <|
.ite (.cmp .eq (.v 0) (.z 1)) (.call 68 [.i (some ((-9223372036854775808), 9223372036854775807))] [.i (.v 0), .i (.v 1), .i (.v 2), .i (.v 3), .i (.v 4), .l (.v 5)] <|
.lett (.addw .i64 (.v 3) (.v 9)) <|
.loop [.i (some (0, 100000)), .i (some ((-1000000000), 1000000000)), .i (some ((-1000000), 1000000))] [.i (.z 0), .i (.v 2), .i (.v 4)] <|
.ite (.cmp .lt (.v 11) (.v 7)) (.lett (.nth 5 (.v 11)) <|
.lett (.addw .i64 (.v 12) (.v 14)) <|
.lett (.add (.v 11) (.z 1)) <|
.again 1 [.i (.v 16), .i (.v 15), .i (.v 14)]) <|
.lett (.addw .i64 (.v 1) (.z 1)) <|
.ret (.tup [(.agg [(.int .i64 (.v 0)), (.int .i64 (.v 14)), (.int .i64 (.v 12)), (.int .i64 (.v 10)), (.int .i64 (.v 13))]), (.int .i64 (.z 0))])) <|
.call 72 [.i (some ((-9223372036854775808), 9223372036854775807))] [.i (.v 0), .i (.v 1), .i (.v 2), .i (.v 3), .i (.v 4), .l (.v 5)] <|
.lett (.addw .i64 (.v 3) (.v 9)) <|
.loop [.i (some (0, 100000)), .i (some ((-1000000000), 1000000000)), .i (some ((-1000000), 1000000))] [.i (.z 0), .i (.v 2), .i (.v 4)] <|
.ite (.cmp .lt (.v 11) (.v 7)) (.lett (.nth 5 (.v 11)) <|
.lett (.addw .i64 (.v 12) (.v 14)) <|
.lett (.add (.v 11) (.z 1)) <|
.again 1 [.i (.v 16), .i (.v 15), .i (.v 14)]) <|
.lett (.addw .i64 (.v 1) (.z 1)) <|
.ret (.tup [(.agg [(.int .i64 (.v 0)), (.int .i64 (.v 14)), (.int .i64 (.v 12)), (.int .i64 (.v 10)), (.int .i64 (.v 13))]), (.int .i64 (.z 0))])
noncomputable def btake_cx : Ctx := { tys := tys, fns := fns, mets := mets, sps := [(13, bright_sp), (72, rreach_sp), (68, sreach_sp)], anns := [((24, 2), { slots := [8], cells := [], ivs := [some (0, 100000)] }), ((12, 7), { slots := [39], cells := [], ivs := [some (0, 100000), some ((-1000000000), 1000000000), some ((-1000000), 1000000)], pc := [(2, 2), (2, 4)] })], trys := [] }
def btake_ivs : List (Option (Int × Int)) := [some ((-9223372036854775808), 9223372036854775807), some ((-9223372036854775808), 9223372036854775807), some ((-9223372036854775808), 9223372036854775807), some ((-9223372036854775808), 9223372036854775807), some ((-9223372036854775808), 9223372036854775807), none]
set_option maxRecDepth 100000 in
theorem btake_walk : runFn btake_cx 3000 12 Try.f12 btake_sp.args btake_ivs = btake_tree := by kernel_rfl
noncomputable def btake_M : Nat → SpecSem
  | 13 => bright_sem
  | 72 => rreach_sem
  | 68 => sreach_sem
  | _ => noSem
theorem btake_M13 : btake_M 13 = bright_sem := rfl
theorem btake_M72 : btake_M 72 = rreach_sem := rfl
theorem btake_M68 : btake_M 68 = sreach_sem := rfl
theorem btake_cxok : CxOK Try.prog btake_cx btake_M := ⟨tysOK, fnsOK, spCons bright_ok <| spCons rreach_ok <| spCons sreach_ok <| fun _ _ h => spNil h, mixedOK, fun _ _ h => trNil h, fun _ _ h => atNil h, metsOK⟩
set_option maxRecDepth 100000 in
set_option maxHeartbeats 8000000 in
theorem btake_den (R RP : Value → Prop) (F : Ex → St → Js → Env → Prop) (x0 : Int) (x1 : Int) (x2 : Int) (x3 : Int) (x4 : Int) (x5 : List Int) : Tree.den btake_M R RP F btake_tree [] [(.i x0), (.i x1), (.i x2), (.i x3), (.i x4), (.l x5)] = (
  (bright_sem.pre [(.i x0), (.i x1), (.i x2), (.i x3), (.i x4)]) ∧ (
((!(Cv.bool (Env.get (bright_sem.out [(.i x0), (.i x1), (.i x2), (.i x3), (.i x4)]) 0))) = true → R (Value.tuple [(Value.agg [(Value.int .i64 (0 : Int)), (Value.int .i64 (0 : Int)), (Value.int .i64 (0 : Int)), (Value.int .i64 (0 : Int)), (Value.int .i64 (0 : Int))].toArray), (Value.int .i64 (1 : Int))].toArray)) ∧ ((!(Cv.bool (Env.get (bright_sem.out [(.i x0), (.i x1), (.i x2), (.i x3), (.i x4)]) 0))) = false → ∀ x7 : Int, x7 = ((List.length x5 : Int)) →
((!(Cmp.den .eq x7 x0)) = true → R (Value.tuple [(Value.agg [(Value.int .i64 (0 : Int)), (Value.int .i64 (0 : Int)), (Value.int .i64 (0 : Int)), (Value.int .i64 (0 : Int)), (Value.int .i64 (0 : Int))].toArray), (Value.int .i64 (1 : Int))].toArray)) ∧ ((!(Cmp.den .eq x7 x0)) = false → ∃ (I0 : List Cv → Prop) (mu0 : List Cv → Nat), Fits [.i (some ((0), (100000)))] [(.i (0 : Int))] ∧ I0 [(.i (0 : Int))] ∧ (
∀ x8 : Int, (0 : Int) ≤ x8 → x8 ≤ (100000 : Int) → I0 [.i x8] →
((Cmp.den .lt x8 x7) = true → ∀ x9 : Int, x9 = (List.getD x5 (Int.toNat x8) 0) →
((Cmp.den .le (-1000000 : Int) x9) = true → ((!(Cmp.den .le x9 (1000000 : Int))) = true → ((!(Cmp.den .eq x7 x0)) = true → R (Value.tuple [(Value.agg [(Value.int .i64 (0 : Int)), (Value.int .i64 (0 : Int)), (Value.int .i64 (0 : Int)), (Value.int .i64 (0 : Int)), (Value.int .i64 (0 : Int))].toArray), (Value.int .i64 (1 : Int))].toArray)) ∧ ((!(Cmp.den .eq x7 x0)) = false → R (Value.tuple [(Value.agg [(Value.int .i64 (0 : Int)), (Value.int .i64 (0 : Int)), (Value.int .i64 (0 : Int)), (Value.int .i64 (0 : Int)), (Value.int .i64 (0 : Int))].toArray), (Value.int .i64 (1 : Int))].toArray))) ∧ ((!(Cmp.den .le x9 (1000000 : Int))) = false → ∀ x10 : Int, x10 = (x8 + (1 : Int)) →
Fits [.i (some ((0), (100000)))] [(.i x10)] ∧ I0 [(.i x10)] ∧ mu0 [(.i x10)] < mu0 [.i x8])) ∧ ((Cmp.den .le (-1000000 : Int) x9) = false → ((!(Cmp.den .eq x7 x0)) = true → R (Value.tuple [(Value.agg [(Value.int .i64 (0 : Int)), (Value.int .i64 (0 : Int)), (Value.int .i64 (0 : Int)), (Value.int .i64 (0 : Int)), (Value.int .i64 (0 : Int))].toArray), (Value.int .i64 (1 : Int))].toArray)) ∧ ((!(Cmp.den .eq x7 x0)) = false → R (Value.tuple [(Value.agg [(Value.int .i64 (0 : Int)), (Value.int .i64 (0 : Int)), (Value.int .i64 (0 : Int)), (Value.int .i64 (0 : Int)), (Value.int .i64 (0 : Int))].toArray), (Value.int .i64 (1 : Int))].toArray)))) ∧ ((Cmp.den .lt x8 x7) = false → ((!(Cmp.den .eq x7 x0)) = true → R (Value.tuple [(Value.agg [(Value.int .i64 (0 : Int)), (Value.int .i64 (0 : Int)), (Value.int .i64 (0 : Int)), (Value.int .i64 (0 : Int)), (Value.int .i64 (0 : Int))].toArray), (Value.int .i64 (1 : Int))].toArray)) ∧ ((!(Cmp.den .eq x7 x0)) = false → ((Cmp.den .eq x1 (25 : Int)) = true → R (Value.tuple [(Value.agg [(Value.int .i64 (0 : Int)), (Value.int .i64 (0 : Int)), (Value.int .i64 (0 : Int)), (Value.int .i64 (0 : Int)), (Value.int .i64 (0 : Int))].toArray), (Value.int .i64 (11 : Int))].toArray)) ∧ ((Cmp.den .eq x1 (25 : Int)) = false → ((Cmp.den .eq x0 (1 : Int)) = true → (sreach_sem.pre [(.i x0), (.i x1), (.i x2), (.i x3), (.i x4), (.l (x5))]) ∧ (
∀ x9 : Int, x9 = (Cv.int (Env.get (sreach_sem.out [(.i x0), (.i x1), (.i x2), (.i x3), (.i x4), (.l (x5))]) 0)) → (-9223372036854775808 : Int) ≤ x9 → x9 ≤ (9223372036854775807 : Int) →
∀ x10 : Int, x10 = (IntKind.i64.wrap (x3 + x9)) →
∃ (I1 : List Cv → Prop) (mu1 : List Cv → Nat), Fits [.i (some ((0), (100000))), .i (some ((-1000000000), (1000000000))), .i (some ((-1000000), (1000000)))] [(.i (0 : Int)), (.i x2), (.i x4)] ∧ I1 [(.i (0 : Int)), (.i x2), (.i x4)] ∧ (
∀ x11 : Int, (0 : Int) ≤ x11 → x11 ≤ (100000 : Int) → ∀ x12 : Int, (-1000000000 : Int) ≤ x12 → x12 ≤ (1000000000 : Int) → ∀ x13 : Int, (-1000000 : Int) ≤ x13 → x13 ≤ (1000000 : Int) → I1 [.i x11, .i x12, .i x13] →
((Cmp.den .lt x11 x7) = true → ∀ x14 : Int, x14 = (List.getD x5 (Int.toNat x11) 0) →
∀ x15 : Int, x15 = (IntKind.i64.wrap (x12 + x14)) →
∀ x16 : Int, x16 = (x11 + (1 : Int)) →
Fits [.i (some ((0), (100000))), .i (some ((-1000000000), (1000000000))), .i (some ((-1000000), (1000000)))] [(.i x16), (.i x15), (.i x14)] ∧ I1 [(.i x16), (.i x15), (.i x14)] ∧ mu1 [(.i x16), (.i x15), (.i x14)] < mu1 [.i x11, .i x12, .i x13]) ∧ ((Cmp.den .lt x11 x7) = false → ∀ x14 : Int, x14 = (IntKind.i64.wrap (x1 + (1 : Int))) →
R (Value.tuple [(Value.agg [(Value.int .i64 x0), (Value.int .i64 x14), (Value.int .i64 x12), (Value.int .i64 x10), (Value.int .i64 x13)].toArray), (Value.int .i64 (0 : Int))].toArray))))) ∧ ((Cmp.den .eq x0 (1 : Int)) = false → (rreach_sem.pre [(.i x0), (.i x1), (.i x2), (.i x3), (.i x4), (.l (x5))]) ∧ (
∀ x9 : Int, x9 = (Cv.int (Env.get (rreach_sem.out [(.i x0), (.i x1), (.i x2), (.i x3), (.i x4), (.l (x5))]) 0)) → (-9223372036854775808 : Int) ≤ x9 → x9 ≤ (9223372036854775807 : Int) →
∀ x10 : Int, x10 = (IntKind.i64.wrap (x3 + x9)) →
∃ (I1 : List Cv → Prop) (mu1 : List Cv → Nat), Fits [.i (some ((0), (100000))), .i (some ((-1000000000), (1000000000))), .i (some ((-1000000), (1000000)))] [(.i (0 : Int)), (.i x2), (.i x4)] ∧ I1 [(.i (0 : Int)), (.i x2), (.i x4)] ∧ (
∀ x11 : Int, (0 : Int) ≤ x11 → x11 ≤ (100000 : Int) → ∀ x12 : Int, (-1000000000 : Int) ≤ x12 → x12 ≤ (1000000000 : Int) → ∀ x13 : Int, (-1000000 : Int) ≤ x13 → x13 ≤ (1000000 : Int) → I1 [.i x11, .i x12, .i x13] →
((Cmp.den .lt x11 x7) = true → ∀ x14 : Int, x14 = (List.getD x5 (Int.toNat x11) 0) →
∀ x15 : Int, x15 = (IntKind.i64.wrap (x12 + x14)) →
∀ x16 : Int, x16 = (x11 + (1 : Int)) →
Fits [.i (some ((0), (100000))), .i (some ((-1000000000), (1000000000))), .i (some ((-1000000), (1000000)))] [(.i x16), (.i x15), (.i x14)] ∧ I1 [(.i x16), (.i x15), (.i x14)] ∧ mu1 [(.i x16), (.i x15), (.i x14)] < mu1 [.i x11, .i x12, .i x13]) ∧ ((Cmp.den .lt x11 x7) = false → ∀ x14 : Int, x14 = (IntKind.i64.wrap (x1 + (1 : Int))) →
R (Value.tuple [(Value.agg [(Value.int .i64 x0), (Value.int .i64 x14), (Value.int .i64 x12), (Value.int .i64 x10), (Value.int .i64 x13)].toArray), (Value.int .i64 (0 : Int))].toArray))))))))))))) := by kernel_rfl

def btake_sem : SpecSem := { pre := fun cs => match cs with | [.i z, .i m, .i s, .i r, .i a, .l xs] => IsI z ∧ IsI m ∧ IsI s ∧ IsI r ∧ IsI a ∧ InI xs ∧ ((xs.length : Int) ≤ 100000) | _ => False, out := fun cs => match cs with | [.i z, .i m, .i s, .i r, .i a, .l xs] => [.i (if tkE z m s r a xs = 0 then z else 0), .i (if tkE z m s r a xs = 0 then m + 1 else 0), .i (if tkE z m s r a xs = 0 then s + sumL xs else 0), .i (if tkE z m s r a xs = 0 then r + tkR z m a xs else 0), .i (if tkE z m s r a xs = 0 then lastS xs else 0), .i (tkE z m s r a xs)] | _ => [] }
set_option maxRecDepth 10000 in
set_option maxHeartbeats 16000000 in
theorem btake_ok : SpecOK Try.prog 12 btake_sp btake_sem := by
  refine spec_of_tree btake_cxok Try.func12 (by kernel_rfl) (by kernel_rfl) btake_walk rfl ?_
  intro cs hpre
  match cs, hpre with
  | [.i z, .i m, .i s, .i r, .i a, .l xs], ⟨j_z, j_m, j_s, j_r, j_a, j_xs, hx⟩ =>
    have h_z := j_z
    unfold IsI at h_z
    have h_m := j_m
    unfold IsI at h_m
    have h_s := j_s
    unfold IsI at h_s
    have h_r := j_r
    unfold IsI at h_r
    have h_a := j_a
    unfold IsI at h_a
    refine ⟨rfl, IvsB.ok (by simp only [btake_ivs, IvsB, Cv.int, and_true, j_xs, true_and] <;> omega), ?_, ?_⟩
    · simp only [btake_sem, btake_sp, Fits, and_true]
      have he := tkE_rng z m s r a xs
      by_cases h : tkE z m s r a xs = 0
      · have hc : BsOK z m s r a ∧ (xs.length : Int) = z ∧ inS xs := by
          by_cases g : BsOK z m s r a ∧ (xs.length : Int) = z ∧ inS xs
          · exact g
          · unfold tkE at h; rw [if_neg g] at h; omega
        obtain ⟨c1, c2, c3⟩ := hc
        have hb := bs_bd c1
        obtain ⟨q1, q2, q3, q4, q5, q6⟩ := c1
        have hr := tkR_rng (z := z) (m := m) c3 (by omega) hx q3
        have hs := (sts_rng c3 hx).1
        have hl := c3 _ (getD_mem (i := (xs.length : Int) - 1) (by omega) (by omega))
        rw [show ((xs.length : Int) - 1).toNat = xs.length - 1 by omega] at hl
        change -1000000 ≤ lastS xs ∧ lastS xs ≤ 1000000 at hl
        simp only [if_pos h]
        omega
      · simp only [if_neg h]; omega
    · rw [btake_den]
      have g1 : ((1 : Int) = 0) = False := by simp
      have g11 : ((11 : Int) = 0) = False := by simp
      by_cases c1 : BsOK z m s r a
      · by_cases c2 : (xs.length : Int) = z
        · have hb := bs_bd c1
          have hq := c1
          obtain ⟨q1, q2, q3, q4, q5, q6⟩ := hq
          have e1 : ¬ inS xs → tkE z m s r a xs = 1 := fun h => by unfold tkE; rw [if_neg (fun g => h g.2.2)]
          subst c2
          simp only [btake_sem, btake_sp, bright_sem, rreach_sem, sreach_sem, btake_den, bright_sem, rreach_sem, sreach_sem, Tree.den, LE.den, Cv.list, placeA, List.getElem?_cons_zero, List.getElem?_cons_succ, IE.den, BE.den, At.den, CA.den, Env.get, Cv.int, Cv.bool, List.cons_append, List.nil_append, List.map_cons, List.map_nil, bindRes, bindEq, Fits, SV.den, denL, place, placeL, eq_t, eq_f, lt_t, lt_f, le_t, le_f, beq_iff_eq, beq_eq_false_iff_ne, ne_eq, reduceCtorEq, b_dec, decide_eq_true_eq, decide_eq_false_iff_not, Bool.not_eq_false', Bool.or_eq_true, Bool.or_eq_false_iff, Bool.and_eq_false_iff, true_iff, false_iff, Bool.false_eq_true, Bool.not_eq_true', Bool.and_eq_true, Bool.not_true, Bool.not_false, List.cons.injEq, Cv.i.injEq, Cv.b.injEq, and_true, true_and, agg_inj, tup_inj, Value.int.injEq, Value.bool.injEq, j_z, j_m, j_s, j_r, j_a, c1, forall_eq, eq_self, if_true, if_false, true_and, and_true, false_and, and_false, true_or, or_true, false_or, or_false, true_iff, iff_true, false_iff, iff_false, not_true_eq_false, not_false_eq_true, true_implies, false_implies, implies_true, forall_const, decide_true, decide_false, reduceCtorEq]
          refine in_loop xs hx (fun h => ?_) (fun hin => ⟨fun hm => ?_, fun hm => ⟨fun hz => ?_, fun hz => ?_⟩⟩)
          · have he := e1 h
            simp only [he, g1, eq_self, if_true, if_false, true_and, and_true, false_and, and_false, true_or, or_true, false_or, or_false, true_iff, iff_true, false_iff, iff_false, not_true_eq_false, not_false_eq_true, true_implies, false_implies, implies_true, forall_const, decide_true, decide_false, reduceCtorEq]
          · have he : tkE (xs.length : Int) m s r a xs = 11 := by unfold tkE; rw [if_pos ⟨c1, rfl, hin⟩, if_pos hm]
            simp only [he, g11, eq_self, if_true, if_false, true_and, and_true, false_and, and_false, true_or, or_true, false_or, or_false, true_iff, iff_true, false_iff, iff_false, not_true_eq_false, not_false_eq_true, true_implies, false_implies, implies_true, forall_const, decide_true, decide_false, reduceCtorEq]
          · have he : tkE (xs.length : Int) m s r a xs = 0 := by unfold tkE; rw [if_pos ⟨c1, rfl, hin⟩, if_neg hm]
            have hr := tkR_rng (z := (xs.length : Int)) (m := m) hin (by omega) hx q3
            have ht : tkR (xs.length : Int) m a xs = if m = 0 then 0 else apart (xs.getD 0 0) a := by unfold tkR; rw [if_pos hz]
            have w1 : IntKind.i64.wrap (m + 1) = m + 1 := w64 (by omega) (by omega)
            have w2 : IntKind.i64.wrap (r + tkR (xs.length : Int) m a xs) = r + tkR (xs.length : Int) m a xs := w64 (by omega) (by omega)
            refine ⟨⟨j_xs, ⟨by omega, by omega, hin⟩, q3⟩, fun _ _ => tk_loop hin (by omega) (by omega) hb.1 q3 ?_⟩
            rw [← ht, w1, w2]
            simp only [he, eq_self, if_true, if_false, true_and, and_true, false_and, and_false, true_or, or_true, false_or, or_false, true_iff, iff_true, false_iff, iff_false, not_true_eq_false, not_false_eq_true, true_implies, false_implies, implies_true, forall_const, decide_true, decide_false, reduceCtorEq]
          · have he : tkE (xs.length : Int) m s r a xs = 0 := by unfold tkE; rw [if_pos ⟨c1, rfl, hin⟩, if_neg hm]
            have hr := tkR_rng (z := (xs.length : Int)) (m := m) hin (by omega) hx q3
            have ht : tkR (xs.length : Int) m a xs = maxS xs - minS xs := by unfold tkR; rw [if_neg hz]
            have w1 : IntKind.i64.wrap (m + 1) = m + 1 := w64 (by omega) (by omega)
            have w2 : IntKind.i64.wrap (r + tkR (xs.length : Int) m a xs) = r + tkR (xs.length : Int) m a xs := w64 (by omega) (by omega)
            refine ⟨⟨j_xs, by omega, by omega, hin⟩, fun _ _ => tk_loop hin (by omega) (by omega) hb.1 q3 ?_⟩
            rw [← ht, w1, w2]
            simp only [he, eq_self, if_true, if_false, true_and, and_true, false_and, and_false, true_or, or_true, false_or, or_false, true_iff, iff_true, false_iff, iff_false, not_true_eq_false, not_false_eq_true, true_implies, false_implies, implies_true, forall_const, decide_true, decide_false, reduceCtorEq]
        · have he : tkE z m s r a xs = 1 := by unfold tkE; rw [if_neg (fun h => c2 h.2.1)]
          simp only [btake_sem, btake_sp, bright_sem, rreach_sem, sreach_sem, btake_den, bright_sem, rreach_sem, sreach_sem, Tree.den, LE.den, Cv.list, placeA, List.getElem?_cons_zero, List.getElem?_cons_succ, IE.den, BE.den, At.den, CA.den, Env.get, Cv.int, Cv.bool, List.cons_append, List.nil_append, List.map_cons, List.map_nil, bindRes, bindEq, Fits, SV.den, denL, place, placeL, eq_t, eq_f, lt_t, lt_f, le_t, le_f, beq_iff_eq, beq_eq_false_iff_ne, ne_eq, reduceCtorEq, b_dec, decide_eq_true_eq, decide_eq_false_iff_not, Bool.not_eq_false', Bool.or_eq_true, Bool.or_eq_false_iff, Bool.and_eq_false_iff, true_iff, false_iff, Bool.false_eq_true, Bool.not_eq_true', Bool.and_eq_true, Bool.not_true, Bool.not_false, List.cons.injEq, Cv.i.injEq, Cv.b.injEq, and_true, true_and, agg_inj, tup_inj, Value.int.injEq, Value.bool.injEq, j_z, j_m, j_s, j_r, j_a, c1, c2, he, g1, forall_eq, eq_self, if_true, if_false, true_and, and_true, false_and, and_false, true_or, or_true, false_or, or_false, true_iff, iff_true, false_iff, iff_false, not_true_eq_false, not_false_eq_true, true_implies, false_implies, implies_true, forall_const, decide_true, decide_false, reduceCtorEq]
      · have he : tkE z m s r a xs = 1 := by unfold tkE; rw [if_neg (fun h => c1 h.1)]
        simp only [btake_sem, btake_sp, bright_sem, rreach_sem, sreach_sem, btake_den, bright_sem, rreach_sem, sreach_sem, Tree.den, LE.den, Cv.list, placeA, List.getElem?_cons_zero, List.getElem?_cons_succ, IE.den, BE.den, At.den, CA.den, Env.get, Cv.int, Cv.bool, List.cons_append, List.nil_append, List.map_cons, List.map_nil, bindRes, bindEq, Fits, SV.den, denL, place, placeL, eq_t, eq_f, lt_t, lt_f, le_t, le_f, beq_iff_eq, beq_eq_false_iff_ne, ne_eq, reduceCtorEq, b_dec, decide_eq_true_eq, decide_eq_false_iff_not, Bool.not_eq_false', Bool.or_eq_true, Bool.or_eq_false_iff, Bool.and_eq_false_iff, true_iff, false_iff, Bool.false_eq_true, Bool.not_eq_true', Bool.and_eq_true, Bool.not_true, Bool.not_false, List.cons.injEq, Cv.i.injEq, Cv.b.injEq, and_true, true_and, agg_inj, tup_inj, Value.int.injEq, Value.bool.injEq, j_z, j_m, j_s, j_r, j_a, c1, he, g1, forall_eq, eq_self, if_true, if_false, true_and, and_true, false_and, and_false, true_or, or_true, false_or, or_false, true_iff, iff_true, false_iff, iff_false, not_true_eq_false, not_false_eq_true, true_implies, false_implies, implies_true, forall_const, decide_true, decide_false, reduceCtorEq]
end Go.Proofs.Ytjbokdekofiihaa.X
