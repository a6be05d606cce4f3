/-
  Arguments opened to their cells, whatever structs of numbers they are.
-/
import Derived.ChangeOld
import Derived.WideShapes
import Derived.RowKit
namespace Go.Proofs.YtmnpeneplobpdaaDoor.X
section
variable {P : Program} {w : World} {r : Reach} {base : Nat}
theorem cell_int {u : TypeId} {v : Value} {k : IntKind} (ht : P.underlying u = some (.int k)) (h : Cell.okWide P w r base u v) : ∃ n, v = .int k n ∧ (Lit.int k n).wf = true := by
  simp only [Cell.okWide, ht] at h
  cases v with
  | int k' n =>
    simp only [Cell.ok, ht] at h
    obtain ⟨rfl, h⟩ := h
    exact ⟨n, rfl, by simp only [Lit.wf, Bool.and_eq_true, decide_eq_true_eq]; exact h⟩
  | _ => simp [Cell.ok, ht] at h
theorem cell_bool {u : TypeId} {v : Value} (ht : P.underlying u = some .bool) (h : Cell.okWide P w r base u v) : ∃ b, v = .bool b := by
  simp only [Cell.okWide, ht] at h
  cases v <;> simp_all [Cell.ok]
theorem agg_open {t : TypeId} {v : Value} {ts : List TypeId} (hs : (∃ fs, P.underlying t = some (.struct fs)) ∨ (∃ n e, P.underlying t = some (.array n e))) (hts : P.cellTypes P.depth t = some ts) (hC : P.cellsOf t = ts.length)
    (h : Value.okWide P w r base t v) : ∃ cs : Array Value, v = .agg cs ∧ cs.size = ts.length ∧ ∀ i (hi : i < ts.length), ∃ u, cs[i]? = some u ∧ Cell.okWide P w r base ts[i] u := by
  have h' : ∃ cs, v = .agg cs ∧ cs.size = P.cellsOf t ∧ Row.okWide P w r base t cs := by
    rcases hs with ⟨fs, hs⟩ | ⟨n, e, hs⟩ <;> simpa only [Value.okWide, hs] using h
  obtain ⟨cs, rfl, hsz, ts', hts', _, hall⟩ := h'
  rw [hts] at hts'
  injection hts' with e
  subst e
  refine ⟨cs, rfl, by omega, fun i hi => ?_⟩
  have hic : i < cs.size := by omega
  obtain ⟨u, hu, hc⟩ := hall i cs[i] (Array.getElem?_eq_getElem hic)
  rw [Nat.mod_eq_of_lt hi, List.getElem?_eq_getElem hi] at hu
  injection hu with hu
  subst hu
  exact ⟨_, Array.getElem?_eq_getElem hic, hc⟩
theorem arr_of {cs : Array Value} {l : List Value} (hs : cs.size = l.length) (h : ∀ i, i < l.length → cs[i]? = l[i]?) : cs = l.toArray := by
  apply Array.ext_getElem?
  intro i
  by_cases hi : i < l.length
  · rw [h i hi]; simp
  · rw [Array.getElem?_eq_none (by omega), List.getElem?_toArray, List.getElem?_eq_none (by omega)]
end
end Go.Proofs.YtmnpeneplobpdaaDoor.X
