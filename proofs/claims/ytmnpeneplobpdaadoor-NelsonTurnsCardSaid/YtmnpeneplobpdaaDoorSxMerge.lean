/-
  The symbolic executor: two branches that set a few places alone, laid together.
-/
import Derived.Test.YtmnpeneplobpdaaDoorSxDraw
namespace Go.SX
open Go Go.RowKit
set_option linter.unusedVariables false
set_option linter.unusedSimpArgs false

theorem mergeV_sound {S : St} {e : BE} {j : Option Nat} {nv : Nat} {a b v : SV} {o : Option (IE × Option (Int × Int))} {ρ ρ' : Env} {h h' : Hid} (hm : mergeV S e j nv a b = some (v, o))
    (ag : Agree S.nv S.nb S.nj ρ h ρ' h') (he : e.scoped S.nv = true) (hsa : a.scoped S.nv S.nb S.nj = true) (hsb : b.scoped S.nv S.nb S.nj = true)
    (ho : ∀ p, o = some p → Env.get ρ' nv = .i (p.1.den ρ)) (hj : ∀ n, j = some n → h'.γ n = (if e.den ρ then a else b).den ρ h) :
    v.den ρ' h' = (if e.den ρ then a else b).den ρ h := by
  have ea := SV.den_agree ag a hsa
  have eb := SV.den_agree ag b hsb
  unfold mergeV at hm
  split at hm
  · rename_i hab
    injection hm with hm; injection hm with h1 h2; subst h1; subst h2
    have := SV.beq_eq hab; subst this
    rw [ea]; split <;> rfl
  · split at hm
    · rename_i x y _
      injection hm with hm; injection hm with h1 h2; subst h1; subst h2
      simp only [SV.scoped] at hsa hsb
      simp only [SV.den, bite_den, BE.den_agree ag.env he, BE.den_agree ag.env hsa, BE.den_agree ag.env hsb]
      split <;> rfl
    · rename_i k x k' y _
      split at hm
      · rename_i hk
        rw [keq_iff] at hk; subst hk
        injection hm with hm; injection hm with h1 h2; subst h1
        have := ho _ h2.symm
        simp only [SV.den, At.den, this, Cv.int, IE.den]
        split <;> rfl
      · split at hm
        · rename_i n
          injection hm with hm; injection hm with h1 h2; subst h1
          simp only [SV.den]; exact hj n rfl
        · cases hm
    · injection hm with hm; injection hm with h1 h2; subst h1
      simp only [SV.den]; exact hj _ rfl
    · cases hm

theorem mergeL_sound {S : St} {e : BE} {jk : Bool} {ρ ρ' : Env} {h h' : Hid} (ag : Agree S.nv S.nb S.nj ρ h ρ' h') (he : e.scoped S.nv = true) : ∀ {xs ys : List SV} {i nv : Nat} {l : List SV} {es : Lets}, mergeL S e jk i nv xs ys = some (l, es) →
    scopedL S.nv S.nb S.nj xs = true → scopedL S.nv S.nb S.nj ys = true → (∀ (k : Nat) (p : IE × Option (Int × Int)), es[k]? = some p → Env.get ρ' (nv + k) = .i (p.1.den ρ)) →
    (jk = true → ∀ k x, (if e.den ρ then xs else ys)[k]? = some x → h'.γ (S.nj + (i + k)) = x.den ρ h) → denL ρ' h' l = denL ρ h (if e.den ρ then xs else ys)
  | [], [], i, nv, l, es, hm, _, _, _, _ => by
    simp only [mergeL, Option.some.injEq, Prod.mk.injEq] at hm
    rw [← hm.1]; split <;> rfl
  | [], _ :: _, i, nv, l, es, hm, _, _, _, _ => by simp [mergeL] at hm
  | _ :: _, [], i, nv, l, es, hm, _, _, _, _ => by simp [mergeL] at hm
  | a :: r, b :: s, i, nv, l, es, hm, hsx, hsy, hes, hj => by
    simp only [scopedL, Bool.and_eq_true] at hsx hsy
    have hjv : ∀ n, (if jk then some (S.nj + i) else none) = some n → h'.γ n = (if e.den ρ then a else b).den ρ h := fun n hn => by
      cases jk with
      | false => cases hn
      | true =>
        injection hn with hn; subst hn
        have := hj rfl 0 (if e.den ρ then a else b) (by split <;> rfl)
        simpa using this
    have hj' : jk = true → ∀ k x, (if e.den ρ then r else s)[k]? = some x → h'.γ (S.nj + (i + 1 + k)) = x.den ρ h := fun hk k x hx => by
      have := hj hk (k + 1) x (by cases he2 : e.den ρ <;> simp_all)
      rw [← this]; congr 1; omega
    have fin : ∀ {v : SV} {l' : List SV}, v.den ρ' h' = (if e.den ρ then a else b).den ρ h → denL ρ' h' l' = denL ρ h (if e.den ρ then r else s) → denL ρ' h' (v :: l') = denL ρ h (if e.den ρ then a :: r else b :: s) := fun h1 h2 => by
      simp only [denL, h1, h2]; split <;> rfl
    simp only [mergeL] at hm
    split at hm
    · rename_i v hv
      split at hm
      · rename_i l' es' hl
        injection hm with hm; injection hm with h1 h2; subst h1; subst h2
        exact fin (mergeV_sound hv ag he hsx.1 hsy.1 (fun p hp => by cases hp) hjv) (mergeL_sound ag he hl hsx.2 hsy.2 hes hj')
      · cases hm
    · rename_i v p hv
      split at hm
      · rename_i l' es' hl
        injection hm with hm; injection hm with h1 h2; subst h1; subst h2
        refine fin (mergeV_sound hv ag he hsx.1 hsy.1 (fun q hq => by injection hq with hq; subst hq; exact hes 0 p rfl) hjv) (mergeL_sound ag he hl hsx.2 hsy.2 (fun k q hq => ?_) hj')
        have := hes (k + 1) q (by simpa using hq)
        rw [← this]; congr 1; omega
      · cases hm
    · cases hm

theorem mergeL_length {S : St} {e : BE} {jk : Bool} : ∀ {xs ys : List SV} {i nv : Nat} {l : List SV} {es : Lets}, mergeL S e jk i nv xs ys = some (l, es) → l.length = xs.length ∧ xs.length = ys.length
  | [], [], i, nv, l, es, hm => by simp only [mergeL, Option.some.injEq, Prod.mk.injEq] at hm; rw [← hm.1]; exact ⟨rfl, rfl⟩
  | [], _ :: _, i, nv, l, es, hm => by simp [mergeL] at hm
  | _ :: _, [], i, nv, l, es, hm => by simp [mergeL] at hm
  | a :: r, b :: s, i, nv, l, es, hm => by
    simp only [mergeL] at hm
    split at hm
    · split at hm
      · rename_i l' es' hl
        injection hm with hm; injection hm with h1 h2; subst h1
        have := mergeL_length hl
        simp only [List.length_cons, this.1, this.2, and_self]
      · cases hm
    · split at hm
      · rename_i l' es' hl
        injection hm with hm; injection hm with h1 h2; subst h1
        have := mergeL_length hl
        simp only [List.length_cons, this.1, this.2, and_self]
      · cases hm
    · cases hm

theorem mergeL_ivs {S : St} {e : BE} {jk : Bool} {ρ : Env} (F : FOK S ρ) : ∀ {xs ys : List SV} {i nv : Nat} {l : List SV} {es : Lets}, mergeL S e jk i nv xs ys = some (l, es) → ∀ (k : Nat) (p : IE × Option (Int × Int)) (lo hi : Int), es[k]? = some p → p.2 = some (lo, hi) → lo ≤ p.1.den ρ ∧ p.1.den ρ ≤ hi
  | [], [], i, nv, l, es, hm, k, p, lo, hi, hp, _ => by simp only [mergeL, Option.some.injEq, Prod.mk.injEq] at hm; rw [← hm.2] at hp; simp at hp
  | [], _ :: _, i, nv, l, es, hm, k, p, lo, hi, hp, _ => by simp [mergeL] at hm
  | _ :: _, [], i, nv, l, es, hm, k, p, lo, hi, hp, _ => by simp [mergeL] at hm
  | a :: r, b :: s, i, nv, l, es, hm, k, p, lo, hi, hp, hpi => by
    simp only [mergeL] at hm
    split at hm
    · split at hm
      · rename_i l' es' hl
        injection hm with hm; injection hm with h1 h2; subst h2
        exact mergeL_ivs F hl k p lo hi hp hpi
      · cases hm
    · rename_i v q hv
      split at hm
      · rename_i l' es' hl
        injection hm with hm; injection hm with h1 h2; subst h2
        cases k with
        | zero =>
          simp only [List.getElem?_cons_zero, Option.some.injEq] at hp
          subst hp
          unfold mergeV at hv
          split at hv
          · injection hv with hv; injection hv with _ hv; cases hv
          · split at hv
            · injection hv with hv; injection hv with _ hv; cases hv
            · split at hv
              · injection hv with hv; injection hv with _ hv; injection hv with hv
                subst hv
                simp only [IE.den]
                have := hull2_sound F hpi
                split
                · exact this.1
                · exact this.2
              · split at hv
                · injection hv with hv; injection hv with _ hv; cases hv
                · cases hv
            · injection hv with hv; injection hv with _ hv; cases hv
            · cases hv
        | succ k => exact mergeL_ivs F hl k p lo hi (by simpa using hp) hpi
      · cases hm
    · cases hm

theorem mergeB_ivs {S : St} {e : BE} {ρ : Env} (F : FOK S ρ) {nv : Nat} {x y c : Blk} {es : Lets} (hm : mergeB S e nv x y = some (c, es)) : ∀ (k : Nat) (p : IE × Option (Int × Int)) (lo hi : Int), es[k]? = some p → p.2 = some (lo, hi) → lo ≤ p.1.den ρ ∧ p.1.den ρ ≤ hi := by
  intro k p lo hi hp hpi
  unfold mergeB at hm
  split at hm
  · split at hm
    · split at hm
      · rename_i l es' hl
        injection hm with hm; injection hm with h1 h2; subst h2
        exact mergeL_ivs F hl k p lo hi hp hpi
      · cases hm
    · cases hm
  · split at hm
    · split at hm
      · rename_i l es' hl
        injection hm with hm; injection hm with h1 h2; subst h2
        exact mergeL_ivs F hl k p lo hi hp hpi
      · cases hm
    · cases hm
  · split at hm
    · injection hm with hm; injection hm with h1 h2; subst h2; simp at hp
    · cases hm
  · injection hm with hm; injection hm with h1 h2; subst h2; simp at hp
  · split at hm
    · injection hm with hm; injection hm with h1 h2; subst h2; simp at hp
    · cases hm
  · split at hm
    · injection hm with hm; injection hm with h1 h2; subst h2; simp at hp
    · cases hm
  · cases hm
theorem mergeH_ivs {S : St} {e : BE} {ρ : Env} (F : FOK S ρ) : ∀ {xs ys : List Blk} {nv : Nat} {l : List Blk} {es : Lets}, mergeH S e nv xs ys = some (l, es) → ∀ (k : Nat) (p : IE × Option (Int × Int)) (lo hi : Int), es[k]? = some p → p.2 = some (lo, hi) → lo ≤ p.1.den ρ ∧ p.1.den ρ ≤ hi
  | [], [], nv, l, es, hm, k, p, lo, hi, hp, _ => by simp only [mergeH, Option.some.injEq, Prod.mk.injEq] at hm; rw [← hm.2] at hp; simp at hp
  | [], _ :: _, nv, l, es, hm, k, p, lo, hi, hp, _ => by simp [mergeH] at hm
  | _ :: _, [], nv, l, es, hm, k, p, lo, hi, hp, _ => by simp [mergeH] at hm
  | a :: r, b :: s, nv, l, es, hm, k, p, lo, hi, hp, hpi => by
    simp only [mergeH] at hm
    split at hm
    · rename_i c es1 hc
      split at hm
      · rename_i l' fs hl
        injection hm with hm; injection hm with h1 h2; subst h2
        rw [List.getElem?_append] at hp
        split at hp
        · exact mergeB_ivs F hc k p lo hi hp hpi
        · exact mergeH_ivs F hl _ p lo hi hp hpi
      · cases hm
    · cases hm

/-- one block -/
theorem mergeB_sound {S : St} {e : BE} {ρ ρ' : Env} {h h' : Hid} {w : World} (ag : Agree S.nv S.nb S.nj ρ h ρ' h') (he : e.scoped S.nv = true) {nv i : Nat} {x y c : Blk} {es : Lets} (hm : mergeB S e nv x y = some (c, es)) (hi : i < S.nb)
    (hsx : x.scoped S.nv S.nb S.nj = true) (hsy : y.scoped S.nv S.nb S.nj = true) (hes : ∀ k p, es[k]? = some p → Env.get ρ' (nv + k) = .i (p.1.den ρ)) (hb : BlkOK ρ h w i (if e.den ρ then x else y)) :
    BlkOK ρ' h' w i c ∧ c.live = (if e.den ρ then x else y).live := by
  unfold mergeB at hm
  split at hm
  · rename_i cs T ds U
    split at hm
    · rename_i hT
      rw [nbeq_iff] at hT; subst hT
      split at hm
      · rename_i l es' hl
        injection hm with hm; injection hm with h1 h2; subst h1; subst h2
        simp only [Blk.scoped] at hsx hsy
        have hd := mergeL_sound (jk := false) ag he hl hsx hsy hes (fun h => by cases h)
        refine ⟨?_, by split <;> rfl⟩
        simp only [BlkOK, ag.β i hi, hd]
        cases hev : e.den ρ <;> simp only [hev, BlkOK, if_true, if_false, Bool.false_eq_true] at hb ⊢ <;> exact hb
      · cases hm
    · cases hm
  · rename_i cs T n ds U m
    split at hm
    · rename_i hT
      simp only [Bool.and_eq_true, nbeq_iff] at hT
      obtain ⟨rfl, rfl⟩ := hT
      split at hm
      · rename_i l es' hl
        injection hm with hm; injection hm with h1 h2; subst h1; subst h2
        simp only [Blk.scoped] at hsx hsy
        have hd := mergeL_sound (jk := false) ag he hl hsx hsy hes (fun h => by cases h)
        have hln := mergeL_length hl
        refine ⟨?_, by split <;> rfl⟩
        simp only [BlkOK, ag.β i hi, ag.κ i hi, hd, hln.1]
        cases hev : e.den ρ <;> simp only [hev, BlkOK, if_true, if_false, Bool.false_eq_true] at hb ⊢
        · rw [hln.2]; exact hb
        · exact hb
      · cases hm
    · cases hm
  · rename_i es1 fs
    split at hm
    · rename_i hef
      injection hm with hm; injection hm with h1 h2; subst h1
      have := esBeq_eq hef; subst this
      have hb' : BlkOK ρ h w i (.map es1) := by split at hb <;> exact hb
      exact ⟨hb'.agree ag hi hsx, by split <;> rfl⟩
    · cases hm
  · injection hm with hm; injection hm with h1 h2; subst h1
    exact ⟨trivial, by split <;> rfl⟩
  · split at hm
    · injection hm with hm; injection hm with h1 h2; subst h1
      exact ⟨trivial, by split <;> rfl⟩
    · cases hm
  · split at hm
    · injection hm with hm; injection hm with h1 h2; subst h1
      exact ⟨trivial, by split <;> rfl⟩
    · cases hm
  · cases hm
theorem mergeB_lst {S : St} {e : BE} {nv : Nat} {x y c : Blk} {es : Lets} (hm : mergeB S e nv x y = some (c, es)) (hc : c.isLst = true) : x = c ∧ y = c := by
  unfold mergeB at hm
  split at hm
  · split at hm
    · split at hm
      · injection hm with hm; injection hm with h1 h2; subst h1; cases hc
      · cases hm
    · cases hm
  · split at hm
    · split at hm
      · injection hm with hm; injection hm with h1 h2; subst h1; cases hc
      · cases hm
    · cases hm
  · split at hm
    · injection hm with hm; injection hm with h1 h2; subst h1; cases hc
    · cases hm
  · injection hm with hm; injection hm with h1 h2; subst h1; cases hc
  · split at hm
    · rename_i hh
      simp only [Bool.and_eq_true, nbeq_iff] at hh
      obtain ⟨rfl, rfl⟩ := hh
      injection hm with hm; injection hm with h1 h2; subst h1; exact ⟨rfl, rfl⟩
    · cases hm
  · split at hm
    · rename_i hh
      simp only [Bool.and_eq_true, nbeq_iff] at hh
      obtain ⟨rfl, rfl⟩ := hh
      injection hm with hm; injection hm with h1 h2; subst h1; exact ⟨rfl, rfl⟩
    · cases hm
  · cases hm
theorem mergeH_lst {S : St} {e : BE} : ∀ {xs ys : List Blk} {nv : Nat} {l : List Blk} {es : Lets}, mergeH S e nv xs ys = some (l, es) → ∀ (i : Nat) (c : Blk), l[i]? = some c → c.isLst = true → xs[i]? = some c ∧ ys[i]? = some c
  | [], [], nv, l, es, hm, i, c, hc, hl => by
    simp only [mergeH, Option.some.injEq, Prod.mk.injEq] at hm
    rw [← hm.1] at hc; simp at hc
  | [], _ :: _, nv, l, es, hm, i, c, hc, hl => by simp [mergeH] at hm
  | _ :: _, [], nv, l, es, hm, i, c, hc, hl => by simp [mergeH] at hm
  | a :: r, b :: s, nv, l, es, hm, i, c, hc, hl => by
    simp only [mergeH] at hm
    split at hm
    · rename_i c1 es1 hb
      split at hm
      · rename_i l' fs hr
        injection hm with hm; injection hm with h1 h2; subst h1
        cases i with
        | zero =>
          simp only [List.getElem?_cons_zero, Option.some.injEq] at hc ⊢
          subst hc
          exact mergeB_lst hb hl
        | succ i => exact mergeH_lst hr i c (by simpa using hc) hl
      · cases hm
    · cases hm

theorem mergeH_sound {S : St} {e : BE} {ρ ρ' : Env} {h h' : Hid} {w : World} (ag : Agree S.nv S.nb S.nj ρ h ρ' h') (he : e.scoped S.nv = true) : ∀ {xs ys : List Blk} {nv i0 : Nat} {l : List Blk} {es : Lets}, mergeH S e nv xs ys = some (l, es) → i0 + xs.length ≤ S.nb →
    heapScoped S.nv S.nb S.nj xs = true → heapScoped S.nv S.nb S.nj ys = true → (∀ (k : Nat) (p : IE × Option (Int × Int)), es[k]? = some p → Env.get ρ' (nv + k) = .i (p.1.den ρ)) →
    (∀ i b, (if e.den ρ then xs else ys)[i]? = some b → BlkOK ρ h w (i0 + i) b) →
    l.length = xs.length ∧ ∀ i c, l[i]? = some c → BlkOK ρ' h' w (i0 + i) c ∧ ∃ b, (if e.den ρ then xs else ys)[i]? = some b ∧ c.live = b.live
  | [], [], nv, i0, l, es, hm, _, _, _, _, _ => by
    simp only [mergeH, Option.some.injEq, Prod.mk.injEq] at hm
    rw [← hm.1]; exact ⟨rfl, fun i c hc => by simp at hc⟩
  | [], _ :: _, nv, i0, l, es, hm, _, _, _, _, _ => by simp [mergeH] at hm
  | _ :: _, [], nv, i0, l, es, hm, _, _, _, _, _ => by simp [mergeH] at hm
  | a :: r, b :: s, nv, i0, l, es, hm, hle, hsx, hsy, hes, hb => by
    simp only [heapScoped, Bool.and_eq_true] at hsx hsy
    simp only [List.length_cons] at hle
    simp only [mergeH] at hm
    split at hm
    · rename_i c es1 hc
      split at hm
      · rename_i l' fs hl
        injection hm with hm; injection hm with h1 h2; subst h1; subst h2
        have h0 := mergeB_sound (w := w) (i := i0) ag he hc (by omega) hsx.1 hsy.1 (fun k p hp => hes k p (by rw [List.getElem?_append_left (List.getElem?_eq_some_iff.1 hp).1]; exact hp)) (by
          have := hb 0 (if e.den ρ then a else b) (by split <;> rfl)
          simpa using this)
        have ⟨g1, g2⟩ := mergeH_sound (w := w) (i0 := i0 + 1) ag he hl (by omega) hsx.2 hsy.2 (fun k p hp => by
            have := hes (es1.length + k) p (by rw [List.getElem?_append_right (by omega), Nat.add_sub_cancel_left]; exact hp)
            rw [← this]; congr 1; omega) (fun i d hd => by
            have := hb (i + 1) d (by cases hev : e.den ρ <;> simp_all)
            rw [Nat.add_assoc, Nat.add_comm 1 i]; exact this)
        refine ⟨by simp only [List.length_cons, g1], fun i d hd => ?_⟩
        cases i with
        | zero =>
          simp only [List.getElem?_cons_zero, Option.some.injEq] at hd; subst hd
          exact ⟨h0.1, _, by cases hev : e.den ρ <;> simp, h0.2⟩
        | succ i =>
          obtain ⟨k1, d', k2, k3⟩ := g2 i d (by simpa using hd)
          refine ⟨by rw [Nat.add_assoc, Nat.add_comm 1 i] at k1; exact k1, d', by cases hev : e.den ρ <;> simp_all, k3⟩
      · cases hm
    · cases hm

theorem letsScoped_get : ∀ {es : Lets} {nv : Nat}, letsScoped nv es = true → ∀ (k : Nat) (p : IE × Option (Int × Int)), es[k]? = some p → p.1.scoped nv = true
  | [], nv, _, k, p, hp => by simp at hp
  | (e, i) :: r, nv, h, k, p, hp => by
    simp only [letsScoped, Bool.and_eq_true] at h
    cases k with
    | zero => simp only [List.getElem?_cons_zero, Option.some.injEq] at hp; subst hp; exact h.1
    | succ k => exact letsScoped_get h.2 k p (by simpa using hp)

section
variable {M : Nat → SpecSem} {R RP : Value → Prop} {F : Ex → St → Js → Env → Prop} {w0 : World}
theorem letsK_den {k : Tree} {J : Js} {ρ0 : Env} {nv : Nat} : ∀ {es : Lets} {ρ : Env}, letsScoped nv es = true → (∀ i, i < nv → ρ.get i = ρ0.get i) → nv ≤ ρ.length → (letsK es k).den M R RP F J ρ → k.den M R RP F J (ρ ++ es.map fun p => Cv.i (p.1.den ρ0))
  | [], ρ, _, _, _, hd => by simpa [letsK] using hd
  | (e, iv) :: r, ρ, hs, hag, hle, hd => by
    simp only [letsScoped, Bool.and_eq_true] at hs
    have h1 := hd _ rfl
    rw [IE.den_agree hag hs.1] at h1
    have := letsK_den (ρ0 := ρ0) (es := r) (ρ := ρ ++ [.i (e.den ρ0)]) hs.2 (fun i hi => by rw [Env.get_append_left (by omega)]; exact hag i hi) (by simp; omega) h1
    simpa using this

/-- the state of both -/
theorem mergeSt_sound {S X Y S' : St} {e : BE} {es : Lets} {ρ h J a w T h' a' w'} (r : Rep w0 S ρ h J a w) (hm : mergeSt S e X Y = some (S', es)) (hT : T = if e.den ρ then X else Y) (hl : Later S T ρ h J ρ h' J) (rT : Rep w0 T ρ h' J a' w') :
    letsScoped S.nv es = true ∧ ∃ h2, Rep w0 S' (ρ ++ es.map fun p => Cv.i (p.1.den ρ)) h2 J a' w' ∧ Later S S' ρ h J (ρ ++ es.map fun p => Cv.i (p.1.den ρ)) h2 J := by
  unfold mergeSt at hm
  split at hm
  case isFalse => cases hm
  rename_i hc
  simp only [Bool.and_eq_true, nbeq_iff] at hc
  obtain ⟨⟨⟨⟨⟨⟨⟨⟨⟨⟨⟨⟨⟨c1, c2⟩, c3⟩, c4⟩, c5⟩, c6⟩, c7⟩, c8⟩, c9⟩, c10⟩, c11⟩, c12⟩, c13⟩, c14⟩ := hc
  split at hm
  case h_2 => cases hm
  rename_i sl es1 hsl
  split at hm
  case h_2 => cases hm
  rename_i hp es2 hhp
  simp only [] at hm
  split at hm
  case isFalse => cases hm
  rename_i hls
  simp only [Bool.and_eq_true] at hls
  injection hm with hm; injection hm with m1 m2
  subst m1; subst m2
  refine ⟨hls.1, ?_⟩
  obtain ⟨x1, x2, x3, x4⟩ := scoped_parts c13
  obtain ⟨y1, y2, y3, y4⟩ := scoped_parts c14
  rw [c1, c9, c3] at x1 x2
  rw [c2, c10, c4] at y1 y2
  have tnv : T.nv = S.nv := by rw [hT]; split; exact c1; exact c2
  have tnb : T.nb = S.nb := by rw [hT]; split; exact c9; exact c10
  have tnj : T.nj = S.nj := by rw [hT]; split; exact c3; exact c4
  have tsl : T.slots = if e.den ρ then X.slots else Y.slots := by rw [hT]; split <;> rfl
  have thp : T.heap = if e.den ρ then X.heap else Y.heap := by rw [hT]; split <;> rfl
  have hsle := mergeL_length hsl
  let h2 : Hid := { h' with γ := fun j => if j < S.nj then h'.γ j else (T.slots[j - S.nj]?.map (SV.den ρ h')).getD undef }
  let ρ2 : Env := ρ ++ (es1 ++ es2).map fun p => Cv.i (p.1.den ρ)
  have ag : Agree S.nv S.nb S.nj ρ h' ρ2 h2 := ⟨fun i hi => Env.get_append_left (by rw [← r.nv]; exact hi), fun _ _ => rfl, fun _ _ => rfl, fun j hj => by simp only [h2]; rw [if_pos hj], fun _ _ => rfl⟩
  have hget : ∀ k p, (es1 ++ es2)[k]? = some p → Env.get ρ2 (S.nv + k) = .i (p.1.den ρ) := fun k p hp => by
    have hk := (List.getElem?_eq_some_iff.1 hp).1
    simp only [ρ2]
    rw [r.nv, Env.get_append_right]
    have : ∀ (l : Lets) (k : Nat) (p : IE × Option (Int × Int)), l[k]? = some p → Env.get (l.map fun p => Cv.i (p.1.den ρ)) k = .i (p.1.den ρ) := by
      intro l
      induction l with
      | nil => intro k p h; simp at h
      | cons q l ih =>
        intro k p h
        cases k with
        | zero => simp only [List.getElem?_cons_zero, Option.some.injEq] at h; subst h; rfl
        | succ k => exact ih k p (by simpa using h)
    exact this _ _ _ hp
  have hden := mergeL_sound (ρ := ρ) (ρ' := ρ2) (h := h') (h' := h2) ag c12 hsl x1 y1 (fun k p hp => hget k p (by rw [List.getElem?_append_left (List.getElem?_eq_some_iff.1 hp).1]; exact hp)) (fun _ k x hx => by
    simp only [h2]
    rw [if_neg (by omega), Nat.zero_add, Nat.add_sub_cancel_left, tsl, hx]
    rfl)
  rw [← tsl] at hden
  have hheap := mergeH_sound (ρ := ρ) (ρ' := ρ2) (h := h') (h' := h2) (w := w') (i0 := 0) ag c12 hhp (by rw [Nat.zero_add]; exact Nat.le_of_eq c9) x2 y2 (fun k p hp => by
      have := hget (es1.length + k) p (by rw [List.getElem?_append_right (by omega), Nat.add_sub_cancel_left]; exact hp)
      rw [← this]; congr 1; omega) (fun i b hb => by rw [Nat.zero_add]; rw [← thp] at hb; exact rT.heap.blk i b hb)
  rw [← thp] at hheap
  obtain ⟨g1, g2⟩ := hheap
  have hnb : hp.length = S.nb := g1.trans c9
  have lt : ∀ {i : Nat} {b : Blk}, hp[i]? = some b → i < S.nb := fun hb => hnb ▸ (List.getElem?_eq_some_iff.1 hb).1
  obtain ⟨s1, s2, s3, s4⟩ := scoped_parts c11
  have agS : Agree S.nv S.nb S.nj ρ h ρ2 h2 := hl.ag.trans ag (Nat.le_refl _) (Nat.le_refl _) (Nat.le_refl _)
  obtain ⟨k1, k2, k3, k4, k5⟩ := r.grow c11 agS
  refine ⟨h2, ⟨?_, r.lv, ?_, ⟨fun i lo hi hi' => ?_, k3, k4, fun i y hy => ?_⟩, ?_, rT.defers, ⟨fun i b hb => ?_, fun i b hb hlv => ?_, fun i j b c hb hc hl1 hl2 hbe => ?_, ?_⟩, rT.below⟩, ⟨agS, Nat.le_add_right _ _, Nat.le_of_eq hnb.symm, Nat.le_add_right _ _, rfl, [], by simp⟩⟩
  · simp only [List.length_append, List.length_map]; rw [r.nv]
  · simp only [List.length_append, List.length_map]; rw [r.ivl]
  · simp only [] at hi'
    rw [List.getElem?_append] at hi'
    split at hi'
    · exact k5 i lo hi hi'
    · rename_i hge
      rw [List.getElem?_map] at hi'
      cases hp' : (es1 ++ es2)[i - S.ivs.length]? with
      | none => rw [hp'] at hi'; cases hi'
      | some p =>
        rw [hp'] at hi'
        simp only [Option.map_some, Option.some.injEq] at hi'
        have hgi := hget _ p hp'
        have : S.nv + (i - S.ivs.length) = i := by rw [r.ivl] at *; omega
        rw [this] at hgi
        simp only [ρ2] at hgi
        rw [hgi]
        simp only [Cv.int]
        rw [List.getElem?_append] at hp'
        split at hp'
        · exact mergeL_ivs r.fok hsl _ p lo hi hp' hi'
        · exact mergeH_ivs r.fok hhp _ p lo hi hp' hi'
  · rcases lst_append hy with h1 | ⟨j, h1⟩
    · exact r.fok.lst i y h1
    · have none : ∀ (l : Lets) (k : Nat), (Env.get (l.map fun p => Cv.i (p.1.den ρ)) k).list = [] := by
        intro l
        induction l with
        | nil => intro k; rfl
        | cons q l ih => intro k; cases k with | zero => rfl | succ k => exact ih k
      rw [none] at h1; cases h1
  · rw [rT.slots]; exact hden.symm
  · have := (g2 i b hb).1; rw [Nat.zero_add] at this; exact this
  · obtain ⟨_, c, hc, hlc⟩ := g2 i b hb
    exact rT.heap.own i c hc (hlc ▸ hlv)
  · obtain ⟨_, b1, hb1, hlb⟩ := g2 i b hb
    obtain ⟨_, c1, hc1, hlc⟩ := g2 j c hc
    exact rT.heap.inj i j b1 c1 hb1 hc1 (hlb ▸ hl1) (hlc ▸ hl2) hbe
  · have same : ∀ (i : Nat) (c : Blk), hp[i]? = some c → c.isLst = true → T.heap[i]? = some c ∧ c.scoped S.nv S.nb S.nj = true := fun i c hc hl => by
      obtain ⟨m1, m2⟩ := mergeH_lst hhp i c hc hl
      refine ⟨by rw [thp]; split; exact m1; exact m2, heapScoped_get x2 i c m1⟩
    refine rT.heap.lists.map id (fun i n e hi => ?_) (fun i n k hi => ?_) (fun j b hj hb => ?_) (fun i j n e m e' _ _ h => h) (fun _ _ => rfl)
    · obtain ⟨q1, q2⟩ := same i _ hi rfl
      simp only [Blk.scoped, blt_iff] at q2
      exact ⟨n, q1, by rw [Env.get_append_left (by rw [← r.nv]; exact q2)], rfl⟩
    · obtain ⟨q1, q2⟩ := same i _ hi rfl
      simp only [Blk.scoped, blt_iff] at q2
      exact ⟨⟨n, q1, by rw [Env.get_append_left (by rw [← r.nv]; exact q2)]⟩, rfl⟩
    · obtain ⟨_, c, hc, hlc⟩ := g2 j b hj
      exact ⟨c, hc, by rw [← hlc]; exact hb, rfl⟩
end
end Go.SX
