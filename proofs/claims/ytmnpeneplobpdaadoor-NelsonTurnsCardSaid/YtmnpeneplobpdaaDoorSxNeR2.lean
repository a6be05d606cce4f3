/-
  What the reference's states tell of a row.
-/
import Derived.Test.YtmnpeneplobpdaaDoorSxNeR1
import Derived.Test.YtmnpeneplobpdaaDoorSxNeStep
namespace Go.Proofs.YtmnpeneplobpdaaDoor.X
open Go Go.SX Go.RowKit
set_option linter.unusedVariables false
set_option linter.unusedSimpArgs false
def nx (k : Int) (s : St4) (c : Int) : St4 := (s.1 + 1, nxA k s.1 s.2.1 s.2.2.2 c, nxB k s.1 s.2.2.1 s.2.2.2 c, nxL k c)
def st (k : Int) (row : List Int) : St4 := row.foldl (nx k) (0, 0, 0, 0)
theorem st_snoc {k c : Int} {row : List Int} : st k (row ++ [c]) = nx k (st k row) c := by unfold st; rw [List.foldl_append]; rfl
def StR (s : St4) : Prop := 0 ≤ s.1 ∧ (0 ≤ s.2.1 ∧ s.2.1 ≤ s.1) ∧ (0 ≤ s.2.2.1 ∧ s.2.2.1 ≤ s.1) ∧ -4 ≤ s.2.2.2 ∧ s.2.2.2 ≤ 4
theorem nx_rng {k c : Int} {s : St4} (h : StR s) (hc : -4 ≤ c ∧ c ≤ 4) : StR (nx k s c) := by
  obtain ⟨n, a, b, l⟩ := s
  unfold StR at *
  simp only [nx] at *
  unfold nxA nxB nxL
  (repeat' (refine And.intro ?_ ?_)) <;> (repeat' split) <;> omega
theorem fold_rng {k : Int} : ∀ (row : List Int) (s : St4), StR s → (∀ c ∈ row, -4 ≤ c ∧ c ≤ 4) → StR (row.foldl (nx k) s) ∧ (row.foldl (nx k) s).1 = s.1 + (row.length : Int)
  | [], s, h, _ => ⟨h, by simp⟩
  | c :: r, s, h, hc => by
    obtain ⟨h1, h2⟩ := fold_rng r (nx k s c) (nx_rng h (hc c (by simp))) (fun x hx => hc x (by simp [hx]))
    refine ⟨h1, ?_⟩
    rw [List.foldl_cons, h2]
    simp only [nx, List.length_cons]; omega
theorem st_rng {k : Int} {row : List Int} (hc : ∀ c ∈ row, -4 ≤ c ∧ c ≤ 4) : StR (st k row) ∧ (st k row).1 = (row.length : Int) := by
  obtain ⟨h1, h2⟩ := fold_rng (k := k) row (0, 0, 0, 0) (by unfold StR; simp) hc
  refine ⟨h1, h2.trans ?_⟩
  simp
def hold (k : Int) (s : St4) : Prop := needZ k ≤ s.2.1 ∨ needZ k ≤ s.2.2.1
instance (k : Int) (s : St4) : Decidable (hold k s) := by unfold hold; infer_instance
theorem cnt_all {p : Int → Bool} : ∀ {row : List Int}, ((row.filter p).length = row.length ↔ ∀ c ∈ row, p c = true)
  | [] => by simp
  | c :: r => by
    have ih := cnt_all (p := p) (row := r)
    have hle := List.length_filter_le p r
    rw [List.filter_cons]
    by_cases h : p c = true
    · rw [if_pos h]
      simp only [List.length_cons]
      constructor
      · intro q x hx
        rcases List.mem_cons.1 hx with rfl | hx
        · exact h
        · exact ih.1 (by omega) x hx
      · intro q
        have := ih.2 fun x hx => q x (by simp [hx])
        omega
    · rw [if_neg h]
      simp only [List.length_cons]
      constructor
      · intro q; omega
      · intro q; exact absurd (q c (by simp)) h
theorem cnt_le {p : Int → Bool} (row : List Int) : (row.filter p).length ≤ row.length := List.length_filter_le p row
/-- the sums of a rule that counts -/
theorem fold_cnt {k : Int} {pa pb : Int → Bool} (ha : ∀ n a l c, nxA k n a l c = a + (if pa c = true then 1 else 0)) (hb : ∀ n b l c, nxB k n b l c = b + (if pb c = true then 1 else 0)) :
    ∀ (row : List Int) (s : St4), (row.foldl (nx k) s).2.1 = s.2.1 + ((row.filter pa).length : Int) ∧ (row.foldl (nx k) s).2.2.1 = s.2.2.1 + ((row.filter pb).length : Int)
  | [], s => by simp
  | c :: r, s => by
    obtain ⟨h1, h2⟩ := fold_cnt ha hb r (nx k s c)
    rw [List.foldl_cons, h1, h2, List.filter_cons, List.filter_cons]
    simp only [nx, ha, hb]
    constructor
    · split <;> simp <;> omega
    · split <;> simp <;> omega
theorem st_cnt {k : Int} {pa pb : Int → Bool} (ha : ∀ n a l c, nxA k n a l c = a + (if pa c = true then 1 else 0)) (hb : ∀ n b l c, nxB k n b l c = b + (if pb c = true then 1 else 0)) (row : List Int) :
    hold k (st k row) ↔ (needZ k ≤ ((row.filter pa).length : Int) ∨ needZ k ≤ ((row.filter pb).length : Int)) := by
  obtain ⟨h1, h2⟩ := fold_cnt ha hb row (0, 0, 0, 0)
  unfold hold st
  rw [h1, h2]
  simp only [Int.zero_add]
def pge (t : Int) (c : Int) : Bool := decide (t ≤ c)
def ple (t : Int) (c : Int) : Bool := decide (c ≤ -t)
theorem st_ge {k t : Int} (h3 : k ≠ 3) (h4 : k ≠ 4) (h7 : k ≠ 7) (h8 : k ≠ 8) (ht : limZ k = t) (row : List Int) : hold k (st k row) ↔ (needZ k ≤ (nge t row : Int) ∨ needZ k ≤ (nle t row : Int)) := by
  refine st_cnt (pa := pge t) (pb := ple t) (fun n a l c => ?_) (fun n b l c => ?_) row
  · simp only [nxA, h3, h4, h7, h8, or_self, if_false, ht, pge, decide_eq_true_eq]
  · simp only [nxB, h3, h4, h7, h8, or_self, if_false, ht, ple, decide_eq_true_eq]
theorem hold1 {row : List Int} (h : row.length = 1) : hold 1 (st 1 row) ↔ G1 row := by
  rw [st_ge (t := 4) (by decide) (by decide) (by decide) (by decide) rfl]
  match row, h with
  | [c], _ =>
    unfold G1 nge nle needZ
    simp only [List.filter_cons, List.filter_nil, List.mem_singleton, forall_eq]
    by_cases a : 4 ≤ c <;> by_cases b : c ≤ -4 <;> simp [a, b]
theorem hold2 {row : List Int} (h : row.length = 9) : hold 2 (st 2 row) ↔ G2 row := by
  rw [st_ge (t := 1) (by decide) (by decide) (by decide) (by decide) rfl]
  unfold G2 nge nle
  have a := cnt_all (p := fun c => decide ((1 : Int) ≤ c)) (row := row)
  have b := cnt_all (p := fun c => decide (c ≤ -(1 : Int))) (row := row)
  have a' := cnt_le (p := fun c => decide ((1 : Int) ≤ c)) row
  have b' := cnt_le (p := fun c => decide (c ≤ -(1 : Int))) row
  simp only [decide_eq_true_eq] at a b
  rw [← a, show (∀ c ∈ row, c ≤ -1) ↔ _ from b.symm, show needZ 2 = 9 from rfl]
  omega
theorem hold5 {row : List Int} : hold 5 (st 5 row) ↔ G5 row := by
  rw [st_ge (t := 3) (by decide) (by decide) (by decide) (by decide) rfl, show needZ 5 = 2 from rfl]
  unfold G5; omega
theorem hold6 {row : List Int} : hold 6 (st 6 row) ↔ G6 row := by
  rw [st_ge (t := 2) (by decide) (by decide) (by decide) (by decide) rfl, show needZ 6 = 4 from rfl]
  unfold G6; omega
theorem hold7 {row : List Int} (h : row.length = 15) : hold 7 (st 7 row) ↔ G7 row := by
  rw [st_cnt (k := 7) (pa := fun c => decide (-1 ≤ c ∧ c ≤ 1)) (pb := fun _ => false) (fun n a l c => by simp [nxA]) (fun n b l c => by simp [nxB])]
  have a := cnt_all (p := fun c => decide (-1 ≤ c ∧ c ≤ (1 : Int))) (row := row)
  have a' := cnt_le (p := fun c => decide (-1 ≤ c ∧ c ≤ (1 : Int))) row
  simp only [decide_eq_true_eq] at a
  unfold G7
  have e : row.filter (fun _ => false) = [] := by simp
  rw [← a, show needZ 7 = 15 from rfl, e]
  simp only [List.length_nil]
  omega
theorem hold8 {row : List Int} (h : row.length = 8) : hold 8 (st 8 row) ↔ G8 row := by
  rw [st_cnt (k := 8) (pa := fun c => decide (2 ≤ c ∨ c ≤ -2)) (pb := fun _ => false) (fun n a l c => by simp [nxA]) (fun n b l c => by simp [nxB])]
  have a := cnt_all (p := fun c => decide (2 ≤ c ∨ c ≤ -(2 : Int))) (row := row)
  have a' := cnt_le (p := fun c => decide (2 ≤ c ∨ c ≤ -(2 : Int))) row
  simp only [decide_eq_true_eq] at a
  unfold G8
  have e : row.filter (fun _ => false) = [] := by simp
  rw [show (∀ c ∈ row, 2 ≤ c ∨ c ≤ -2) ↔ _ from a.symm, show needZ 8 = 8 from rfl, e]
  simp only [List.length_nil]
  omega
def MonoTo (u : Nat → Bool) (row : List Int) (n : Nat) : Prop := ∀ i : Nat, 1 ≤ i → i < n → if u i = true then row.getD (i - 1) 0 < row.getD i 0 else row.getD i 0 < row.getD (i - 1) 0
theorem monoTo_step {u : Nat → Bool} {row : List Int} {n : Nat} (h : 1 ≤ n) : MonoTo u row (n + 1) ↔ MonoTo u row n ∧ if u n = true then row.getD (n - 1) 0 < row.getD n 0 else row.getD n 0 < row.getD (n - 1) 0 := by
  constructor
  · intro q; exact ⟨fun i a b => q i a (by omega), q n h (by omega)⟩
  · rintro ⟨q1, q2⟩ i a b
    by_cases e : i < n
    · exact q1 i a e
    · have : i = n := by omega
      subst this; exact q2
theorem take_snoc {row : List Int} {i : Nat} (h : i < row.length) : row.take (i + 1) = row.take i ++ [row.getD i 0] := by
  rw [← List.take_append_getElem h]; simp [List.getD, h]
theorem st_mono {k : Int} {ua ub : Nat → Bool} (hk : k = 3 ∨ k = 4) (hu : ∀ i, (ua i = true ↔ (k = 3 ∨ i % 2 = 1)) ∧ (ub i = true ↔ (k = 4 ∧ i % 2 = 0))) {row : List Int} :
    ∀ i : Nat, i < row.length → (st k (row.take (i + 1))).1 = (i : Int) + 1 ∧ (((st k (row.take (i + 1))).2.1 = 0 ∨ (st k (row.take (i + 1))).2.1 = 1) ∧ ((st k (row.take (i + 1))).2.1 = 1 ↔ MonoTo ua row (i + 1))) ∧
      (((st k (row.take (i + 1))).2.2.1 = 0 ∨ (st k (row.take (i + 1))).2.2.1 = 1) ∧ ((st k (row.take (i + 1))).2.2.1 = 1 ↔ MonoTo ub row (i + 1))) ∧ (st k (row.take (i + 1))).2.2.2 = row.getD i 0
  | 0, h => by
    have e : row.take (0 + 1) = [] ++ [row.getD 0 0] := by rw [take_snoc h]; rfl
    have m : ∀ u, MonoTo u row (0 + 1) := fun u i a b => by omega
    rw [e, st_snoc]
    have hst : st k [] = (0, 0, 0, 0) := rfl
    simp only [nx, hst, nxA, nxB, nxL, hk, if_true, m, true_or, and_self]
    simp
  | i + 1, h => by
    obtain ⟨h1, ⟨h2, h3⟩, ⟨h4, h5⟩, h6⟩ := st_mono (row := row) hk hu i (by omega)
    obtain ⟨u1, u2⟩ := hu (i + 1)
    rw [take_snoc h, st_snoc, monoTo_step (n := i + 1) (by omega), monoTo_step (n := i + 1) (by omega), ← h3, ← h5]
    simp only [nx, h1, h6, show i + 1 - 1 = i from rfl]
    generalize (st k (row.take (i + 1))).2.1 = a at *
    generalize (st k (row.take (i + 1))).2.2.1 = b at *
    generalize row.getD i 0 = x at *
    generalize row.getD (i + 1) 0 = y at *
    clear h3 h5
    refine ⟨by omega, ⟨?_, ?_⟩, ⟨?_, ?_⟩, ?_⟩
    · unfold nxA; rw [if_pos hk]; split <;> omega
    · unfold nxA; rw [if_pos hk]
      by_cases q : ua (i + 1) = true
      · rw [if_pos q]; have := u1.1 q; split <;> omega
      · rw [if_neg q]; have : ¬ (k = 3 ∨ (i + 1) % 2 = 1) := fun z => q (u1.2 z); split <;> omega
    · unfold nxB; rw [if_pos hk]; split <;> omega
    · unfold nxB; rw [if_pos hk]
      by_cases q : ub (i + 1) = true
      · rw [if_pos q]; have := u2.1 q; split <;> omega
      · rw [if_neg q]; have : ¬ (k = 4 ∧ (i + 1) % 2 = 0) := fun z => q (u2.2 z); split <;> omega
    · unfold nxL; rw [if_pos hk]
theorem hold34 {k : Int} {ua ub : Nat → Bool} (hk : k = 3 ∨ k = 4) (hu : ∀ i, (ua i = true ↔ (k = 3 ∨ i % 2 = 1)) ∧ (ub i = true ↔ (k = 4 ∧ i % 2 = 0))) {row : List Int} (h : 0 < row.length) : hold k (st k row) ↔ (Mono ua row ∨ Mono ub row) := by
  obtain ⟨h1, ⟨h2, h3⟩, ⟨h4, h5⟩, h6⟩ := st_mono hk hu (row := row) (row.length - 1) (by omega)
  rw [show row.length - 1 + 1 = row.length by omega, List.take_length] at *
  have e1 : Mono ua row ↔ MonoTo ua row row.length := Iff.rfl
  have e2 : Mono ub row ↔ MonoTo ub row row.length := Iff.rfl
  have hn : needZ k = 1 := by rcases hk with rfl | rfl <;> rfl
  rw [e1, e2, ← h3, ← h5]
  unfold hold
  rw [hn]
  omega
theorem hold3 {row : List Int} (h : row.length = 6) : hold 3 (st 3 row) ↔ G3 row := hold34 (.inl rfl) (fun i => by simp) (by omega)
theorem hold4 {row : List Int} (h : row.length = 14) : hold 4 (st 4 row) ↔ G4 row := by
  rw [hold34 (ua := fun i => i % 2 == 1) (ub := fun i => i % 2 == 0) (.inr rfl) (fun i => by simp) (by omega)]
  unfold G4
  exact or_comm
/-- what the reference tells of the last masks -/
noncomputable def refV (k : Int) (l : List Int) : Int := ruleV (fun row => hold k (st k row)) (longZ k).toNat l
theorem ruleV_congr {G G' : List Int → Prop} {n : Nat} {l : List Int} (h : ∀ row : List Int, row.length = n → (G row ↔ G' row)) : ruleV G n l = ruleV G' n l := by
  rcases Nat.lt_or_ge l.length n with q | q
  · rw [ruleV_few q, ruleV_few q]
  · rw [ruleV_of q, ruleV_of q]
    have e : ∀ row, Row (lst n l) row → (G row ↔ G' row) := fun row hr => h row (by rw [hr.1, lst_len q])
    exact val3_congr ⟨fun a row hr => (e row hr).1 (a row hr), fun a row hr => (e row hr).2 (a row hr)⟩ ⟨fun ⟨row, hr, a⟩ => ⟨row, hr, (e row hr).1 a⟩, fun ⟨row, hr, a⟩ => ⟨row, hr, (e row hr).2 a⟩⟩
theorem ref_all (l : List Int) : refV 1 l = ruleV G1 1 l ∧ refV 2 l = ruleV G2 9 l ∧ refV 3 l = ruleV G3 6 l ∧ refV 4 l = ruleV G4 14 l ∧ refV 5 l = ruleV G5 3 l ∧ refV 6 l = ruleV G6 5 l ∧ refV 7 l = ruleV G7 15 l ∧ refV 8 l = ruleV G8 8 l :=
  ⟨ruleV_congr fun _ h => hold1 h, ruleV_congr fun _ h => hold2 h, ruleV_congr fun _ h => hold3 h, ruleV_congr fun _ h => hold4 h, ruleV_congr fun _ _ => hold5, ruleV_congr fun _ _ => hold6, ruleV_congr fun _ h => hold7 h, ruleV_congr fun _ h => hold8 h⟩
end Go.Proofs.YtmnpeneplobpdaaDoor.X
