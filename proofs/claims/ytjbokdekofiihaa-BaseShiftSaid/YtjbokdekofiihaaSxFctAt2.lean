/-
  factor: the table that the first call makes: the filling, the slow road, 'at'.
-/
import Derived.Test.YtjbokdekofiihaaSxFctAt
import Derived.Laws.Tables
namespace Go.Proofs.Ytjbokdekofiihaa.X
open Go Go.SX Go.RowKit
set_option linter.unusedVariables false
set_option linter.unusedSimpArgs false
def ftabV : List Value := ftabL.map (Value.int .i64)
theorem eSz (a : Act) (d : Option Tmp) (v : Value) : (a.put d v).tmps.size = a.tmps.size := by cases d <;> simp [Act.put]
theorem eDef (a : Act) (d : Option Tmp) (v : Value) : (a.put d v).defers = a.defers := by cases d <;> simp [Act.put]
theorem eSame (a : Act) (d : Nat) (v : Value) (h : d < a.tmps.size) : (a.put (some d) v).eval (.tmp d) = v := by simp [Act.put, Act.eval, Array.getD, h]
theorem eNe (a : Act) (d j : Nat) (v : Value) (h : d ≠ j) : (a.put (some d) v).eval (.tmp j) = a.eval (.tmp j) := by
  simp only [Act.put, Act.eval, Array.getD_eq_getD_getElem?]
  rw [Array.getElem?_setIfInBounds_ne h]
theorem wp_store_agg {P : Program} {o : Oper} {a : Act} {w : World} {next : Act → World → Prop} {Q : Exit → Act → World → Prop} {T : TypeId} {ty : Ty} (C : TyOK P T ty) {x y : Operand} (ho : o.op = .store T x y) {b off : Nat} {vs l : List Value} {E : TypeId}
    (hx : a.eval x = .pointer (some ⟨b, off, none⟩)) (hy : a.eval y = .agg vs.toArray) (hb : w.heap[b]? = some (.cells l.toArray E (0, 0))) (hs : vs.length = ty.size) (hle : off + vs.length ≤ l.length) (h1 : ∀ v ∈ vs, oneV v = true)
    (h : ∀ w', Stored w w' b → w'.heap[b]? = some (.cells (putV l off vs).toArray E (0, 0)) → next (a.put o.dst undef) w') : o.wp P a w next Q := by
  obtain ⟨w', g1, g2, g3⟩ := run_storeCells' P (off := off) vs 0 l w hb hle h1
  refine Oper.wp_skip (w' := w') ?_ (h w' g3 g2)
  have hne : ¬ vs.toArray.size ≠ ty.size := by simp only [List.size_toArray, hs]; exact fun h => h rfl
  obtain ⟨dst, op, type, pos, after, guard⟩ := o
  subst ho
  have hc : (Value.agg vs.toArray).cells = vs.toArray := rfl
  simp only [execOp, Instr.storeAt, hx, hy, Instr.sureAddr, Sem.run_bind, pure, Sem.run, Result.andThen_ok, storeVar, run_sizeOf' C, hc, hne, if_false, g1]
theorem run_fAddr {P : Program} {o : Oper} {a : Act} {w : World} {T t : TypeId} {fs : List (Nat × Nat)} {s0 : Nat} {z0} {b0 q0} {ty : Ty} (C : TyOK P T ⟨.struct fs, s0, z0, b0, q0⟩) {x : Operand} {f off : Nat} (ho : o.op = .fieldAddr T x f) (hf : fs[f]? = some (t, off)) (C2 : TyOK P t ty) (hz : ¬ ty.size = 0) {b k : Nat}
    (hx : a.eval x = .pointer (some ⟨b, k, none⟩)) : (execOp a.eval o).run P w = .ok (.value (.pointer (some ⟨b, k + off, none⟩))) w := by
  obtain ⟨d, hu, hd⟩ := C.under
  obtain ⟨FS, FF, rfl, hF, ht, ho'⟩ := struct_field hd hf
  have hsz := run_sizeOf' (P := P) (w := w) C2
  obtain ⟨dst, op, type, pos, after, guard⟩ := o
  subst ho
  simp only [execOp, Instr.fieldAt, Sem.run_bind, run_under hu, Result.andThen_ok, hF, hx, Instr.sureAddr, pure, Sem.run, fieldPlace, ht, hsz, hz, if_false, ho', addr_add]
theorem run_nilC {P : Program} {o : Oper} {a : Act} {w : World} {x : Operand} (ho : o.op = .nilCheck x) {p : Addr} (hx : a.eval x = .pointer (some p)) : (execOp a.eval o).run P w = .ok (.value (.pointer (some p))) w := by
  obtain ⟨dst, op, type, pos, after, guard⟩ := o
  subst ho
  simp only [execOp, hx]; rfl
theorem wpList_any {P : Program} {ops : Array Oper} {rest : List Oper} {a : Act} {w : World} {Q : Exit → Act → World → Prop} (h : ∀ A : Act, A = a → wpList P ops Q rest A w) : wpList P ops Q rest a w := h a rfl
def frow (i : Nat) : List Value := (ftabV.drop (9 * i)).take 9
set_option maxRecDepth 100000 in
set_option maxHeartbeats 400000 in
theorem ffill (b : Nat) (l : List Value) (w : World) (h : RowAt w b l) (hl : l.length = 66) :
    Calls Try.prog 26 #[.pointer (some ⟨b, 0, none⟩)] w fun e w' => e = .returned (.tuple #[]) ∧ Stored w w' b ∧ RowAt w' b (putV l 3 ftabV) := by
  go_enter Try.func26, Try.ntmps26
  apply wp_region_lit
  refine wpList_plain rfl fun K hK => Oper.wp_value (v := .pointer (some ⟨b, 0, none⟩)) (w' := w) (by kernel_rfl) (hK _ _ ?_)
  clear hK K
  refine wpList_plain rfl fun K hK => Oper.wp_value (v := .agg (frow 0).toArray) (w' := w) (by kernel_rfl) (hK _ _ ?_)
  clear hK K
  refine wpList_plain rfl fun K hK => Oper.wp_value (v := .agg (frow 1).toArray) (w' := w) (by kernel_rfl) (hK _ _ ?_)
  clear hK K
  refine wpList_plain rfl fun K hK => Oper.wp_value (v := .agg (frow 2).toArray) (w' := w) (by kernel_rfl) (hK _ _ ?_)
  clear hK K
  refine wpList_plain rfl fun K hK => Oper.wp_value (v := .agg (frow 3).toArray) (w' := w) (by kernel_rfl) (hK _ _ ?_)
  clear hK K
  refine wpList_plain rfl fun K hK => Oper.wp_value (v := .agg (frow 4).toArray) (w' := w) (by kernel_rfl) (hK _ _ ?_)
  clear hK K
  refine wpList_plain rfl fun K hK => Oper.wp_value (v := .agg (frow 5).toArray) (w' := w) (by kernel_rfl) (hK _ _ ?_)
  clear hK K
  refine wpList_plain rfl fun K hK => Oper.wp_value (v := .agg (frow 6).toArray) (w' := w) (by kernel_rfl) (hK _ _ ?_)
  clear hK K
  refine wpList_plain rfl fun K hK => Oper.wp_value (v := .agg ftabV.toArray) (w' := w) (by kernel_rfl) (hK _ _ ?_)
  clear hK K
  refine wpList_any fun A hA => ?_
  have h2 : A.eval (.tmp 2) = .pointer (some ⟨b, 0, none⟩) := by rw [hA]; exact (eNe _ _ _ _ (by decide)).trans ((eNe _ _ _ _ (by decide)).trans ((eNe _ _ _ _ (by decide)).trans ((eNe _ _ _ _ (by decide)).trans ((eNe _ _ _ _ (by decide)).trans ((eNe _ _ _ _ (by decide)).trans ((eNe _ _ _ _ (by decide)).trans ((eNe _ _ _ _ (by decide)).trans (eSame _ 2 _ (by simp only [eSz]; show 2 < 13; decide)))))))))
  have h10 : A.eval (.tmp 10) = .agg ftabV.toArray := by rw [hA]; exact eSame _ 10 _ (by simp only [eSz]; show 10 < 13; decide)
  have hs : A.tmps.size = 13 := by rw [hA]; simp only [eSz]; rfl
  have hd : A.defers = [] := by rw [hA]; simp only [eDef]
  clear hA
  refine wpList_plain rfl fun K hK => Oper.wp_value (v := .pointer (some ⟨b, 0, none⟩)) (w' := w) (run_nilC rfl h2) (hK _ _ ?_)
  clear hK K
  refine wpList_plain rfl fun K hK => Oper.wp_value (v := .pointer (some ⟨b, 0 + 3, none⟩)) (w' := w) (run_fAddr ty81 rfl rfl ty79 (by decide) (eSame _ 11 _ (by simp only [hs]; decide))) (hK _ _ ?_)
  clear hK K
  refine wpList_plain rfl fun K hK => wp_store_agg (b := b) (off := 3) (vs := ftabV) ty79 rfl (eSame _ 12 _ (by simp only [eSz, hs]; decide)) ((eNe _ _ _ _ (by decide)).trans ((eNe _ _ _ _ (by decide)).trans h10)) h (by kernel_rfl) (by rw [hl]; decide) (by decide) fun w' g1 g2 => hK _ _ ?_
  clear hK K
  apply wpList_nil
  exact bodyPost_end (results_none rfl _ _ _) (by simp only [eDef, hd]) ⟨rfl, g1, g2⟩
end Go.Proofs.Ytjbokdekofiihaa.X
