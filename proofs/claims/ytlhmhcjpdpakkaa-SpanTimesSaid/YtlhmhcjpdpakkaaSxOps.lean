/-
  The symbolic executor: one operation, and a region in order, are walked right.
-/
import Derived.Test.YtlhmhcjpdpakkaaSxRows
namespace Go.SX
open Go Go.RowKit
set_option linter.unusedVariables false
set_option linter.unusedSimpArgs false

def panicOf (v : Value) : List PanicEntry := [{ v := v, recovered := false }]

/-- a function that calls another one, and takes what that panics with for a code -/
def TryOK (P : Program) (f : Nat) (t : TrySh) : Prop :=
  ∀ (n : FuncId) (first cap : List Value) (w w1 : World) (N : Value → World → Prop), w1 = (w.alloc (.cells (denL [] hid0 t.cells0).toArray t.t1)).alloc (.cells #[.int t.k 0] t.t2) →
    ((callFunc n (first ++ cap).toArray).run P w1 = .ok (.enter n (first ++ cap).toArray) w1 ∧
      Calls P n (first ++ cap).toArray w1 fun e w2 =>
        (w2.heap[w.heap.size]? = some (.cells (denL [] hid0 t.cells0).toArray t.t1 (0, 0)) ∧ w2.heap[w.heap.size + 1]? = some (.cells #[.int t.k 0] t.t2 (0, 0))) ∧
        match e with
        | .returned v => (∃ cs, v = (place t.res 0).1.den cs hid0) ∧ ∀ w3, Below w.heap.size w2 w3 → N (.tuple #[v, .int t.k 0]) w3
        | .panicked c => ∃ x, c = panicOf (.iface t.tid x) ∧ match t.bad with
          | some b => x = .agg #[] ∧ ∀ w3, Below w.heap.size w2 w3 → N (.tuple #[t.zero.den [] hid0, .int t.k b]) w3
          | none => ∃ z, x = .agg #[.int t.k z] ∧ ∀ w3, Below w.heap.size w2 w3 → N (.tuple #[t.zero.den [] hid0, .int t.k z]) w3
        | .outgrown => False) →
    (callFunc f #[.func (.func n) first.toArray cap.toArray]).run P w = .ok (.enter f #[.func (.func n) first.toArray cap.toArray]) w ∧
      Calls P f #[.func (.func n) first.toArray cap.toArray] w fun e w' => match e with | .returned v => N v w' | _ => False

structure CxOK (P : Program) (cx : Ctx) (M : Nat → SpecSem) : Prop where
  ty : ∀ t ty, find t cx.tys = some ty → TyOK P t ty
  fn : ∀ f fn, find f cx.fns = some fn → P.funcs[f]? = some fn ∧ (fn.name == "runtime.NumGoroutine") = false
  sp : ∀ f sp, find f cx.sps = some sp → SpecOK P f sp (M f)
  mixed : P.follows .mixedOrders = true
  tr : ∀ f t, find f cx.trys = some t → TryOK P f t
theorem CxOK.cty {P cx M} (C : CxOK P cx M) : CxTy P cx := ⟨C.ty⟩


section
variable (P : Program) (cx : Ctx) (M : Nat → SpecSem) (R RP : Value → Prop) (F : Ex → St → Js → Env → Prop) (w0 : World)

/-- what may be done behind one operation -/
def OpPost (next : Act → World → Prop) (Q : Exit → Act → World → Prop) (dst : Option Tmp) (a : Act) (ρ : Env) (h : Hid) (w : World) : OR → Prop
  | .val v => next (a.put dst (v.den ρ h)) w
  | .skip => next (a.put dst undef) w
  | .pan v => Q (.panic (panicOf (v.den ρ h))) a w

def KRok (S : St) (ρ : Env) (h : Hid) (J : Js) (a : Act) (K : OR → St → Tree) (post : Env → Hid → World → OR → Prop) : Prop :=
  ∀ r S' ρ' h' J' w', Later S S' ρ h J ρ' h' J' → Rep w0 S' ρ' h' J' a w' → S'.slots = S.slots → (K r S').den M R RP F J' ρ' → post ρ' h' w' r

/-- a callee that is walked in place -/
def CallhOK (callh : Nat → List SV → St → (OR → St → Tree) → Tree) : Prop :=
  ∀ f args S ρ h J a w K (N : Value → World → Prop) (PN : Value → World → Prop), Rep w0 S ρ h J a w → (callh f args S K).den M R RP F J ρ →
    KRok M R RP F w0 S ρ h J a K (fun ρ' h' w' r => match r with | .val v => N (v.den ρ' h') w' | .pan v => PN (v.den ρ' h') w' | .skip => True) →
    (callFunc f (denL ρ h args).toArray).run P w = .ok (.enter f (denL ρ h args).toArray) w ∧
      Calls P f (denL ρ h args).toArray w fun e w' => match e with | .returned v => N v w' | .panicked c => ∃ v, c = panicOf v ∧ PN v w' | .outgrown => False
end

section
variable {P : Program} {cx : Ctx} {M : Nat → SpecSem} {R RP : Value → Prop} {F : Ex → St → Js → Env → Prop} {w0 : World}
variable {callh : Nat → List SV → St → (OR → St → Tree) → Tree}

theorem Oper.wp_value {o : Oper} {a : Act} {w w' : World} {next Q} {v : Value} (h : (execOp a.eval o).run P w = .ok (.value v) w') (hn : next (a.put o.dst v) w') : o.wp P a w next Q := by
  unfold Go.Oper.wp; rw [h]; exact hn
theorem Oper.wp_skip {o : Oper} {a : Act} {w w' : World} {next Q} (h : (execOp a.eval o).run P w = .ok .skip w') (hn : next (a.put o.dst undef) w') : o.wp P a w next Q := by
  unfold Go.Oper.wp; rw [h]; exact hn
theorem Oper.wp_panic {o : Oper} {a : Act} {w w' : World} {next Q} {v : Value} (h : (execOp a.eval o).run P w = .halt (.panic v) w') (hn : Q (.panic (panicOf v)) a w') : o.wp P a w next Q := by
  unfold Go.Oper.wp; rw [h]; exact hn
theorem Oper.wp_enter {o : Oper} {a : Act} {w w' : World} {next Q} {f : FuncId} {args : Array Value} (h : (execOp a.eval o).run P w = .ok (.enter f args) w')
    (hn : Calls P f args w' fun e w'' => match e with | .returned v => next (a.put o.dst v) w'' | .panicked c => ∃ v, c = panicOf v ∧ Q (.panic (panicOf v)) a w'' | .outgrown => False) : o.wp P a w next Q := by
  unfold Go.Oper.wp; rw [h]
  refine Calls.mono hn fun e w'' he => ?_
  cases e with
  | returned v => exact he
  | panicked c => obtain ⟨v, rfl, hq⟩ := he; exact hq
  | outgrown => exact he.elim

theorem putV_append : ∀ {vs l rest : List Value} {i : Nat}, i + vs.length ≤ l.length → putV (l ++ rest) i vs = putV l i vs ++ rest
  | [], _, _, _, _ => rfl
  | x :: r, l, rest, i, h => by
    simp only [List.length_cons] at h
    simp only [putV]
    rw [List.set_append_left _ _ (by omega), putV_append (by rw [List.length_set]; omega)]
theorem findNow_none {ρ h} {k0 kk : IntKind} {n : Int} : ∀ {es : List (SV × SV)} {E : List MapEntry} (i : Nat), E.map (fun e => (e.key, e.val)) = es.map (fun p => (p.1.den ρ h, p.2.den ρ h)) →
    (es.all (fun p => match p.1 with | .int kj (.z m) => keq kj kk && !ieq m n | _ => false)) = true → Instr.findNow (.int k0) (.int kk n) E i = some none
  | [], E, i, hE, _ => by
    cases E with
    | nil => rfl
    | cons e r => simp at hE
  | (x, v) :: rest, E, i, hE, ha => by
    cases E with
    | nil => simp at hE
    | cons e r =>
      simp only [List.map_cons, List.cons.injEq, Prod.mk.injEq] at hE
      obtain ⟨⟨h1, h2⟩, h3⟩ := hE
      simp only [List.all_cons, Bool.and_eq_true] at ha
      obtain ⟨ha1, ha2⟩ := ha
      have ih := findNow_none (k0 := k0) (i + 1) h3 ha2
      split at ha1
      · rename_i kj m
        simp only [Bool.and_eq_true, keq_iff, Bool.not_eq_true'] at ha1
        obtain ⟨rfl, hne⟩ := ha1
        have hne' : ¬ n = m := fun e => by rw [← e] at hne; have := (ieq_iff (a := n) (b := n)).2 rfl; rw [this] at hne; cases hne
        have hb : (n == m) = false := by simpa using hne'
        simp only [Instr.findNow, h1, SV.den, At.den, Instr.sameNow, if_true, hb]
        exact ih
      · cases ha1

set_option maxHeartbeats 1000000 in
theorem stepW_sound (C : CxOK P cx M) (CH : CallhOK P M R RP F w0 callh) {o : Oper} {S : St} {ρ h J a w} {K : OR → St → Tree} {next : Act → World → Prop} {Q : Exit → Act → World → Prop}
    (r : Rep w0 S ρ h J a w) (hd : (stepW cx callh o S K).den M R RP F J ρ) (hK : KRok M R RP F w0 S ρ h J a K (fun ρ' h' w' r => OpPost next Q o.dst a ρ' h' w' r)) : o.wp P a w next Q := by
  have hs := r.slots
  obtain ⟨dst, op, type, pos, after, guard⟩ := o
  cases op
  case alloc T =>
    simp only [stepW] at hd
    split at hd
    · rename_i d0 s0 z b0 q0 hty
      split at hd
      · rename_i cs hcs
        split at hd
        · rename_i hsc
          simp only [Bool.and_eq_true] at hsc
          have hz := run_zeroValue' (P := P) (w := w) (C.ty _ _ hty) rfl ρ h
          obtain ⟨r', l'⟩ := r.newBlk hsc.1 (b := .cells cs T) (o := .cells (denL ρ h cs).toArray T) (fun w' hw' => by
            simp only [BlkOK, add_at]
            rw [denL_agree (add_agree (nv := S.nv) (nj := S.nj) (b := w.heap.size)) cs hsc.2]
            exact hw')
          have := hK _ _ _ _ _ _ l' r' rfl hd
          refine Oper.wp_value ?_ this
          simp only [execOp, Instr.alloc, Sem.run_bind, hz, Result.andThen_ok, newVar, newRow, newObj, cells_sound hcs, Sem.run, pure, SV.den, add_at]
          rfl
        · exact hd.elim
      · exact hd.elim
    · exact hd.elim
  case box T x =>
    simp only [stepW] at hd
    split at hd
    · rename_i v hv
      split at hd
      · rename_i cs hcs
        split at hd
        · rename_i hsc
          simp only [Bool.and_eq_true] at hsc
          obtain ⟨r', l'⟩ := r.newBlk hsc.1 (b := .cells cs T) (o := .cells (denL ρ h cs).toArray T) (fun w' hw' => by
            simp only [BlkOK, add_at]
            rw [denL_agree (add_agree (nv := S.nv) (nj := S.nj) (b := w.heap.size)) cs hsc.2]
            exact hw')
          have := hK _ _ _ _ _ _ l' r' rfl hd
          refine Oper.wp_value ?_ this
          simp only [execOp, Instr.box, opd_sound hs hv, Sem.run_bind, Result.andThen_ok, newVar, newRow, newObj, cells_sound hcs, Sem.run, pure, SV.den, add_at]
          rfl
        · exact hd.elim
      · exact hd.elim
    · exact hd.elim
  case store T x y =>
    simp only [stepW] at hd
    split at hd
    · rename_i id off v ty hx hy hty
      split at hd
      · rename_i cs E hb
        split at hd
        · rename_i vs hvs
          split at hd
          · rename_i hc
            simp only [Bool.and_eq_true, nbeq_iff, nble_iff] at hc
            obtain ⟨⟨hc1, hc2⟩, hc3⟩ := hc
            have hblk : w.heap[h.β id]? = some (.cells (denL ρ h cs).toArray E (0, 0)) := r.heap.blk _ _ hb
            obtain ⟨w', g1, g2, g3⟩ := run_storeCells' P (off := off) (denL ρ h vs) 0 _ _ hblk (by rw [denL_length, denL_length]; omega) (oneCells_sound hc3)
            obtain ⟨r', l'⟩ := r.setBlk (c := .cells (putAll cs off vs) E) hb rfl rfl g3 (by simp only [BlkOK, denL_putAll]; exact g2)
            have := hK _ _ _ _ _ _ l' r' rfl hd
            refine Oper.wp_skip ?_ this
            have hne : ¬ (denL ρ h vs).toArray.size ≠ ty.size := by simp only [List.size_toArray, denL_length, hc1]; exact fun h => h rfl
            simp only [execOp, Instr.storeAt, opd_sound hs hx, opd_sound hs hy, SV.den, Instr.sureAddr, Sem.run_bind, pure, Sem.run, Result.andThen_ok, storeVar, cells_sound hvs, run_sizeOf' (C.ty _ _ hty), hne, if_false, g1]
          · exact hd.elim
        · exact hd.elim
      · rename_i cs E sz hb
        split at hd
        · rename_i vs hvs
          split at hd
          · rename_i hc
            simp only [Bool.and_eq_true, nbeq_iff, nble_iff] at hc
            obtain ⟨⟨hc1, hc2⟩, hc3⟩ := hc
            obtain ⟨rest, hblk, hk1, hk2⟩ := r.heap.blk _ _ hb
            obtain ⟨w', g1, g2, g3⟩ := run_storeCells' P (off := off) (denL ρ h vs) 0 _ _ hblk (by rw [List.length_append, denL_length, denL_length]; omega) (oneCells_sound hc3)
            obtain ⟨r', l'⟩ := r.setBlk (c := .row (putAll cs off vs) E sz) hb rfl rfl g3 (by
              refine ⟨rest, ?_, by rw [putAll_length]; exact hk1, hk2⟩
              rw [denL_putAll, ← putV_append (by rw [denL_length, denL_length]; omega)]; exact g2)
            have := hK _ _ _ _ _ _ l' r' rfl hd
            refine Oper.wp_skip ?_ this
            have hne : ¬ (denL ρ h vs).toArray.size ≠ ty.size := by simp only [List.size_toArray, denL_length, hc1]; exact fun h => h rfl
            simp only [execOp, Instr.storeAt, opd_sound hs hx, opd_sound hs hy, SV.den, Instr.sureAddr, Sem.run_bind, pure, Sem.run, Result.andThen_ok, storeVar, cells_sound hvs, run_sizeOf' (C.ty _ _ hty), hne, if_false, g1]
          · exact hd.elim
        · exact hd.elim
      · exact hd.elim
    · exact hd.elim
  case buildSlice T len ps =>
    simp only [stepW] at hd
    split at hd
    · rename_i e s0 z0 b0 q0 l hty hl
      split at hd
      · rename_i te hte
        split at hd
        · rename_i zc hzc
          split at hd
          · rename_i cs hcs
            split at hd
            · rename_i hc
              simp only [Bool.and_eq_true, Bool.or_eq_true, nbeq_iff, nble_iff, blt_iff] at hc
              obtain ⟨⟨⟨⟨⟨c1, c2⟩, c3⟩, c4⟩, c5⟩, c6⟩ := hc
              obtain ⟨d, hu, hdd⟩ := (C.ty _ _ hty).under
              have := td_slice hdd; subst this
              have hparts : (ps.map fun x => match x with | (i, x) => (i, a.eval x)).toList = l.map (fun p => (p.1, p.2.den ρ h)) := by
                rw [← pairUp_sound hs hl, Array.toList_map]
              have hrun := run_buildSlice (P := P) (ρ := ρ) (h := h) (w := w) hu (C.ty _ _ hte) hzc hcs c3 c6 hparts
              obtain ⟨r', l'⟩ := r.growRow (w' := w.alloc (.cells (denL ρ h cs).toArray e)) c1 (H := S.heap) (cs := cs) (e := e) (sz := te.size) (g := w.heap.size) (k := len) (rest := []) rfl
                (fun i b hb hlv => ⟨hb, heap_alloc_old _ _ (r.heap.own i b hb hlv).2, by have := (r.heap.own i b hb hlv).2; omega⟩)
                (Below.refl _ _ |>.alloc r.below.size _) c2 (by rw [List.append_nil]; exact heap_alloc_new w _) (by rw [List.length_nil]; omega) (by simp only [maxLen]; omega) r.below.size
              have := hK _ _ _ _ _ _ l' r' rfl hd
              refine Oper.wp_value (v := .slice (some ⟨w.heap.size, 0, none⟩) len len) ?_ ?_ (w' := w.alloc (.cells (denL ρ h cs).toArray e))
              · simp only [execOp, Sem.run_bind, hrun, Result.andThen_ok]
                rfl
              · simp only [OpPost, SV.den, Nat.zero_mul, Nat.sub_zero] at this
                rw [addR_at, addR_cap] at this
                exact this
            · exact hd.elim
          · exact hd.elim
        · exact hd.elim
      · exact hd.elim
    · exact hd.elim
  case makeMap T hint =>
    cases hint with
    | some x => exact hd.elim
    | none =>
      simp only [stepW] at hd
      split at hd
      · rename_i hsc
        obtain ⟨r', l'⟩ := r.newBlk hsc (b := .map []) (o := .map #[] 0) (fun w' hw' => by
          simp only [BlkOK, add_at]
          exact ⟨#[], 0, hw', rfl⟩)
        have := hK _ _ _ _ _ _ l' r' rfl hd
        refine Oper.wp_value ?_ this
        simp only [execOp, Instr.makeMap, Option.map_none, Sem.run_bind, Result.andThen_ok, newObj, Sem.run, pure, SV.den, add_at]
        rfl
      · exact hd.elim
  case insert T m k x =>
    simp only [stepW] at hd
    split at hd
    · rename_i id kk n v kt e0 s0 z0 b0 q0 hm hk hx hty
      split at hd
      · rename_i es k0 s1 z1 b1 q1 hb hkt
        split at hd
        · rename_i hall
          obtain ⟨d, hu, hdd⟩ := (C.ty _ _ hty).under
          have := td_map hdd; subst this
          obtain ⟨dk, huk, hdk⟩ := (C.ty _ _ hkt).under
          have := td_int hdk; subst this
          obtain ⟨E, c, hE, hEs⟩ := r.heap.blk _ _ hb
          have hnone := findNow_none (k0 := k0) (kk := kk) (n := n) 0 hEs hall
          have hown := (r.heap.own _ _ hb rfl).2
          let w' : World := { w with heap := w.heap.setIfInBounds (h.β id) (.map (E.push { key := .int kk n, val := v.den ρ h, born := c }) (c + 1)) }
          have hst : Stored w w' (h.β id) := ⟨rfl, rfl, rfl, by simp [w'], fun j hj => by simp only [w']; rw [Array.getElem?_setIfInBounds_ne (fun e => hj e.symm)]⟩
          obtain ⟨r', l'⟩ := r.setBlk (c := .map (es ++ [(.int kk (.z n), v)])) hb rfl rfl hst (by
            refine ⟨E.push { key := .int kk n, val := v.den ρ h, born := c }, c + 1, ?_, ?_⟩
            · simp only [w']; rw [Array.getElem?_setIfInBounds_self_of_lt hown]
            · simp only [Array.toList_push, List.map_append, hEs, List.map_cons, List.map_nil, SV.den, At.den])
          have := hK _ _ _ _ _ _ l' r' rfl hd
          refine Oper.wp_skip ?_ this
          have e1 : a.eval m = .map (some (h.β id)) := opd_sound hs hm
          have e2 : a.eval k = .int kk n := opd_sound hs hk
          have hobj : (getObj (h.β id)).run P w = .ok (.map E c) w := by simp only [getObj, Sem.run, hE]
          have hset : ∀ o, (setObj (h.β id) o).run P w = .ok () { w with heap := w.heap.setIfInBounds (h.β id) o } := fun o => by simp only [setObj, Sem.run, hE]
          simp only [execOp, Instr.mapUpdate, e1, e2, opd_sound hs hx, Sem.run_bind, run_under hu, Result.andThen_ok, hobj, checkKey_int huk, Instr.findKey, run_under huk, hnone, pure, Sem.run, hset, w']
        · exact hd.elim
      · exact hd.elim
    · exact hd.elim
  case call c =>
    obtain ⟨callee, args, argTypes⟩ := c
    cases callee with
    | invoke x m => exact hd.elim
    | builtin b =>
      cases b
      case panic =>
        simp only [stepW] at hd
        split at hd
        · rename_i t v hv
          have := hK _ _ _ _ _ _ .refl r rfl hd
          refine Oper.wp_panic ?_ this
          have hargs := opdsA_sound hs hv
          simp only [execOp, resolve, Sem.run_bind, pure, Sem.run, Result.andThen_ok, invoke, builtin, hargs, denL, SV.den, Array.getD_eq_getD_getElem?, List.getElem?_toArray, List.getElem?_cons_zero, Option.getD_some, Instr.panic, goPanic, Result.andThen_halt]
        · exact hd.elim
      case append =>
        simp only [stepW] at hd
        split at hd
        · rename_i s id2 d2 m sz2 T T' hv hts
          split at hd
          · rename_i e s0 z0 b0 q0 cs2 e2 sz2' hty hb2
            split at hd
            · rename_i te hte
              split at hd
              · rename_i z hz
                split at hd
                · rename_i zc hzc
                  split at hd
                  · rename_i hc
                    simp only [Bool.and_eq_true, nbeq_iff, nble_iff, blt_iff] at hc
                    obtain ⟨⟨⟨⟨⟨⟨⟨⟨⟨⟨⟨c1, c2⟩, c3⟩, c4⟩, c5⟩, c6⟩, c7⟩, c8⟩, c9⟩, c10⟩, c11⟩, c12⟩ := hc
                    subst c1; subst c3
                    obtain ⟨d, hu, hdd⟩ := (C.ty _ _ hty).under
                    have := td_slice hdd; subst this
                    have hargs := opdsA_sound hs hv
                    have hats : argTypes = #[T, T] := by rw [← Array.toList_inj, hts]
                    split at hd
                    · obtain ⟨g, k, w', rest, hr, h1, h2, h3, h4, h5, h6⟩ := run_append_row r (ty := type) hu (C.ty _ _ hte) hz hzc hb2 c2 c4 c5 c6 c7 c8 c9 c10 (v := .slice none 0 0) (n := 0) (xs := []) (by omega) (.inl ⟨rfl, rfl, rfl⟩)
                      have hge : w.heap.size ≤ g := by rcases h6 with h6 | h6; cases h6; exact h6
                      obtain ⟨r', l'⟩ := r.growRow (w' := w') c11 (H := S.heap) (cs := (cs2.drop (d2 * sz2)).take (m * sz2)) (e := e) (sz := sz2) (g := g) (k := k) (rest := rest) rfl
                        (fun i b hb hlv => by have := (r.heap.own i b hb hlv).2; exact ⟨hb, h5.block _ this (by simp [Value.ownBlock]), by omega⟩)
                        ((Below.refl _ w).grown h5 r.below.size (fun k hk => by simp [Value.ownBlock] at hk)) c12 (by simpa using h1) (by simpa using h2) h3 h4
                      have := hK _ _ _ _ _ _ l' r' rfl hd
                      refine Oper.wp_value (v := .slice (some ⟨g, 0, none⟩) m k) (w' := w') ?_ ?_
                      · simp only [Nat.zero_add] at hr
                        simp only [execOp, resolve, Sem.run_bind, pure, Sem.run, Result.andThen_ok, invoke, builtin, hargs, denL, SV.den, hats, hr]
                      · simp only [OpPost, SV.den, Nat.zero_mul, Nat.sub_zero] at this
                        rw [addR_at, addR_cap] at this
                        exact this
                    · rename_i id dd n sz
                      split at hd
                      · rename_i cs E sz' hb
                        split at hd
                        · rename_i hc
                          simp only [Bool.and_eq_true, nbeq_iff, nble_iff, Bool.not_eq_true'] at hc
                          obtain ⟨⟨⟨⟨⟨⟨⟨k1, k2⟩, k3⟩, k4⟩, k5⟩, k6⟩, k7⟩, k8⟩ := hc
                          subst k1; subst k2; subst k4; subst k3
                          have hown := row_owns r hb k5 c5
                          obtain ⟨g, k, w', rest, hr, h1, h2, h3, h4, h5, h6⟩ := run_append_row r (ty := type) hu (C.ty _ _ hte) hz hzc hb2 c2 c4 c5 c6 c7 c8 c9 c10 (n := n) k6 (.inr ⟨_, _, rfl, hown⟩)
                          have hlt := (r.heap.own _ _ hb rfl)
                          have part : ∀ {i : Nat} {c : Blk}, (S.heap.set id .dead)[i]? = some c → c.live = true → i ≠ id ∧ S.heap[i]? = some c := by
                            intro i c hci hlv
                            rw [List.getElem?_set] at hci
                            split at hci
                            · split at hci
                              · injection hci with hci; subst hci; cases hlv
                              · cases hci
                            · rename_i hne; exact ⟨fun e => hne e.symm, hci⟩
                          obtain ⟨r', l'⟩ := r.growRow (w' := w') c11 (H := S.heap.set id .dead) (cs := cs.take (n * sz') ++ (cs2.drop (d2 * sz')).take (m * sz')) (e := E) (sz := sz') (g := g) (k := k) (rest := rest) (List.length_set ..)
                            (fun i b hbi hlv => by
                              obtain ⟨hne, hb1⟩ := part hbi hlv
                              have hl := (r.heap.own i b hb1 hlv).2
                              have hn : h.β i ≠ h.β id := fun he => hne (r.heap.inj i id b _ hb1 hb hlv rfl he)
                              refine ⟨hb1, h5.block _ hl (by simp only [Value.ownBlock, ne_eq, Option.some.injEq]; exact hn), fun he => ?_⟩
                              rcases h6 with h6 | h6
                              · simp only [Value.ownBlock, Option.some.injEq] at h6; exact hn (he.trans h6)
                              · omega)
                            ((Below.refl _ w).grown h5 r.below.size (fun k hk => by simp only [Value.ownBlock, Option.some.injEq] at hk; rw [← hk]; exact hlt.1)) (scopedL_append (scopedL_take k8) c12)
                            (by rw [denL_append, denL_take]; exact h1) (by rw [List.length_append, ← denL_length (ρ := ρ) (h := h) (l := cs.take (n * sz')), denL_take]; exact h2) h3 h4
                          have := hK _ _ _ _ _ _ l' r' rfl hd
                          refine Oper.wp_value (v := .slice (some ⟨g, 0, none⟩) (n + m) k) (w' := w') ?_ ?_
                          · simp only [execOp, resolve, Sem.run_bind, pure, Sem.run, Result.andThen_ok, invoke, builtin, hargs, denL, SV.den, hats, Nat.zero_mul, Nat.sub_zero, hr]
                          · simp only [OpPost, SV.den, Nat.zero_mul, Nat.sub_zero] at this
                            rw [addR_at, addR_cap] at this
                            exact this
                        · exact hd.elim
                      · exact hd.elim
                    · exact hd.elim
                  · exact hd.elim
                · exact hd.elim
              · exact hd.elim
            · exact hd.elim
          · exact hd.elim
        · exact hd.elim
      all_goals exact hd.elim
    | value f =>
      simp only [stepW] at hd
      split at hd
      · rename_i n first cap l hf hl
        have e1 : a.eval f = .func (.func n) (denL ρ h first).toArray (denL ρ h cap).toArray := opd_sound hs hf
        have hargs := opdsA_sound hs hl
        have hden : (denL ρ h first).toArray ++ (denL ρ h l).toArray ++ (denL ρ h cap).toArray = (denL ρ h (first ++ l ++ cap)).toArray := by
          simp only [denL_append, List.append_toArray]
        have hrun : (execOp a.eval ⟨dst, .call ⟨.value f, args, argTypes⟩, type, pos, after, guard⟩).run P w = (callFunc n (denL ρ h (first ++ l ++ cap)).toArray).run P w := by
          simp only [execOp, resolve, Sem.run_bind, pure, Sem.run, Result.andThen_ok, e1, Deferred.ofValue, hargs, invoke, hden]
        split at hd
        · rename_i sp hsp
          split at hd
          · rename_i cas hcas
            split at hd
            · rename_i hsc
              split at hd
              · rename_i hn
                rw [nbeq_iff] at hn
                obtain ⟨hpre, hbind⟩ := hd
                obtain ⟨hfit, happ⟩ := C.sp _ _ hsp _ hpre
                have hk := bindEq_apply hbind hfit
                have hcol := (collectL_sound (ρ := ρ) (h := h) (cs := cas.map (CA.den ρ)) 0 hcas (fun i c hi => by rw [Nat.zero_add]; exact get_map_CA hi)).1
                have happ := happ w
                rw [← hcol] at happ
                obtain ⟨r', l'⟩ := r.bindL hsc hfit
                have hpl := (place_shift (ρ := ρ) (rs := (M n).out (cas.map (CA.den ρ))) (h := h) sp.res 0).1
                rw [Nat.add_zero, ← r.nv] at hpl
                rw [hn] at hk
                have fin : ∀ v w', v = (place sp.res 0).1.den ((M n).out (cas.map (CA.den ρ))) hid0 → Below w.heap.size w w' → next (a.put dst v) w' := fun v w' hv hb => by
                  have := hK _ _ _ _ _ _ l' (r'.world hb) rfl hk
                  simp only [OpPost] at this
                  rw [hv, ← hpl]
                  exact this
                rcases happ with ⟨v, w', h1, h2, h3⟩ | ⟨h1, h2⟩
                · exact Oper.wp_value (hrun.trans h1) (fin v w' h2 h3)
                · refine Oper.wp_enter (hrun.trans h1) (Calls.mono h2 ?_)
                  rintro e w' ⟨v, rfl, h3, h4⟩
                  exact fin v w' h3 h4
              · exact hd.elim
            · exact hd.elim
          · exact hd.elim
        · rename_i hsp
          obtain ⟨h1, h2⟩ := CH n (first ++ l ++ cap) S ρ h J a w K (fun v w' => next (a.put dst v) w') (fun v w' => Q (.panic (panicOf v)) a w') r hd (fun rr S' ρ' h' J' w' hl' hr' hsl hk => by
            have := hK rr S' ρ' h' J' w' hl' hr' hsl hk
            cases rr with
            | val v => exact this
            | skip => trivial
            | pan v => exact this)
          exact Oper.wp_enter (hrun.trans h1) h2
      · exact hd.elim
  case panic x =>
    simp only [stepW] at hd
    split at hd
    · rename_i t v hv
      have := hK _ _ _ _ _ _ .refl r rfl hd
      refine Oper.wp_panic ?_ this
      simp only [execOp, opd_sound hs hv, SV.den, Instr.panic, goPanic, Sem.run_bind, Sem.run, Result.andThen_halt]
    · exact hd.elim
  all_goals exact hd.elim

theorem stepOp_sound (C : CxOK P cx M) (CH : CallhOK P M R RP F w0 callh) {o : Oper} {next : Act → World → Prop} {Q : Exit → Act → World → Prop} :
    ∀ (n : Nat) {S : St} {ρ h J a w} {K : OR → St → Tree}, Rep w0 S ρ h J a w → (stepOp cx callh o n S K).den M R RP F J ρ → KRok M R RP F w0 S ρ h J a K (fun ρ' h' w' r => OpPost next Q o.dst a ρ' h' w' r) → o.wp P a w next Q
  | 0, S, ρ, h, J, a, w, K, r, hd, hK => hd.elim
  | n + 1, S, ρ, h, J, a, w, K, r, hd, hK => by
    simp only [stepOp] at hd
    have hev := evalV_sound (P := P) C.cty r.heap r.fok r.slots o
    cases hv : evalV cx S S.heap o with
    | val v =>
      rw [hv] at hd hev
      exact Oper.wp_value hev (hK _ _ _ _ _ _ .refl r rfl hd)
    | bind e iv k =>
      rw [hv] at hd hev
      simp only [] at hd
      split at hd
      · rename_i m hm
        have hdm := defOf_sound r.fok.defs hm
        refine Oper.wp_value hev.1 ?_
        have := hK _ _ _ _ _ _ .refl r rfl hd
        simp only [OpPost, SV.den, At.den, hdm] at this
        exact this
      · split at hd
        · rename_i hsc
          simp only [Bool.and_eq_true] at hsc
          have hk := hd _ rfl
          obtain ⟨r', l'⟩ := r.bindI hsc.1 hsc.2 (iv := iv) rfl hev.2
          have := hK _ _ _ _ _ _ l' r' rfl hk
          refine Oper.wp_value hev.1 ?_
          have hg : (Env.get (ρ ++ [Cv.i (e.den ρ)]) S.nv) = .i (e.den ρ) := by rw [r.nv]; exact Env.get_append_self
          simp only [OpPost, SV.den, At.den, hg, Cv.int] at this
          exact this
        · exact hd.elim
    | split c =>
      rw [hv] at hd
      obtain ⟨S1, hc, r1, hd1⟩ := splitBE_sound r hd
      refine stepOp_sound C CH n r1 hd1 fun rr S' ρ' h' J' w' hl hr hsl hk => hK rr S' ρ' h' J' w' (hc.later.trans hl) hr (hsl.trans hc.slots) hk
    | no why =>
      rw [hv] at hd
      exact stepW_sound C CH r hd hK

theorem wanted_none {o : Oper} (hg : o.guard = none) (y : Nat → Option Bool) : Region.wanted o y = true := by unfold Region.wanted; rw [hg]
theorem guardOp_sound {all : Array Oper} {o : Oper} {S : St} {ρ h J a w} {k : Bool → St → Tree} (r : Rep w0 S ρ h J a w) (hd : (guardOp all.toList o S k).den M R RP F J ρ) :
    ∃ S1, Core S S1 ∧ Rep w0 S1 ρ h J a w ∧ (k (Region.wanted o (yielded all a.tmps)) S1).den M R RP F J ρ := by
  unfold guardOp at hd
  split at hd
  · rename_i hg
    rw [wanted_none hg]
    exact ⟨S, .refl, r, hd⟩
  · rename_i j want hg
    split at hd
    · rename_i d op ty pos af gu hj
      rw [Array.getElem?_toList] at hj
      have hsl := slot_sound r.slots d
      split at hd
      · rename_i e he
        obtain ⟨S1, hc, r1, hd1⟩ := splitBE_sound r hd
        refine ⟨S1, hc, r1, ?_⟩
        have : Region.wanted o (yielded all a.tmps) = (e.den ρ == want) := by
          unfold Region.wanted
          rw [hg]
          simp only [yielded, hj, Option.bind_some, hsl, he, Option.map_some, SV.den]
          cases e.den ρ <;> cases want <;> rfl
        rw [this]
        exact hd1
      · rename_i he
        refine ⟨S, .refl, r, ?_⟩
        have : Region.wanted o (yielded all a.tmps) = false := by
          unfold Region.wanted
          rw [hg]
          simp only [yielded, hj, Option.bind_some, hsl, he, Option.map_some, SV.den]
          rfl
        rw [this]
        exact hd
      · exact hd.elim
    · exact hd.elim

def KOK (M : Nat → SpecSem) (R RP : Value → Prop) (F : Ex → St → Js → Env → Prop) (w0 : World) (Q : Exit → Act → World → Prop) (S : St) (ρ : Env) (h : Hid) (J : Js) (K : Ex → St → Tree) : Prop :=
  ∀ e S' ρ' h' J' a' w', Later S S' ρ h J ρ' h' J' → Rep w0 S' ρ' h' J' a' w' → (K e S').den M R RP F J' ρ' →
    Q (match e with | .normal => .normal | .exit id => .exit id | .goto l => .goto l | .ret => .ret | .panic v => .panic (panicOf (v.den ρ' h'))) a' w'

theorem execOps_sound (C : CxOK P cx M) (CH : CallhOK P M R RP F w0 callh) {all : Array Oper} {Q : Exit → Act → World → Prop} :
    ∀ (rest : List Oper) (i : Nat) {S : St} {ρ h J a w} {K : Ex → St → Tree}, all.toList.drop i = rest → Rep w0 S ρ h J a w → (execOps cx callh all.toList rest S K).den M R RP F J ρ → KOK M R RP F w0 Q S ρ h J K →
      wpOps P all Q (List.range' i rest.length) a w
  | [], i, S, ρ, h, J, a, w, K, hr, r, hd, hK => by
    simp only [List.length_nil, List.range'_zero, wpOps]
    exact hK .normal S ρ h J a w .refl r hd
  | o :: rest, i, S, ρ, h, J, a, w, K, hr, r, hd, hK => by
    have ho : all[i]? = some o := by
      rw [← Array.getElem?_toList, ← Nat.add_zero i, ← List.getElem?_drop, hr]; rfl
    have hrest : all.toList.drop (i + 1) = rest := by
      rw [← List.drop_drop, hr]; rfl
    simp only [execOps] at hd
    obtain ⟨S1, hc, r1, hd1⟩ := guardOp_sound r hd
    simp only [List.length_cons, List.range'_succ, wpOps, ho]
    have KLater : ∀ {S2 ρ2 h2 J2}, Later S S2 ρ h J ρ2 h2 J2 → KOK M R RP F w0 Q S2 ρ2 h2 J2 K := fun hl e S' ρ' h' J' a' w' hl' => hK e S' ρ' h' J' a' w' (hl.trans hl')
    cases hw : Region.wanted o (yielded all a.tmps) with
    | true =>
      rw [hw] at hd1
      simp only [if_true] at hd1 ⊢
      refine .inl (stepOp_sound C CH 200 r1 hd1 fun rr S2 ρ2 h2 J2 w2 hl2 hr2 hsl hk => ?_)
      cases rr with
      | val v =>
        have hl3 := ((hc.later (ρ := ρ) (h := h) (J := J)).trans hl2).trans (put_later (d := o.dst) (v := v))
        exact execOps_sound C CH rest (i + 1) hrest (hr2.put o.dst v) hk (KLater hl3)
      | skip =>
        have hl3 := ((hc.later (ρ := ρ) (h := h) (J := J)).trans hl2).trans (put_later (d := o.dst) (v := .tup []))
        have := hr2.put o.dst (.tup [])
        exact execOps_sound C CH rest (i + 1) hrest this hk (KLater hl3)
      | pan v => exact hK (.panic v) S2 ρ2 h2 J2 a w2 ((hc.later (ρ := ρ) (h := h) (J := J)).trans hl2) hr2 hk
    | false =>
      rw [hw] at hd1
      simp only [Bool.false_eq_true, if_false] at hd1 ⊢
      have hl3 := (hc.later (ρ := ρ) (h := h) (J := J)).trans (put_later (d := o.dst) (v := .tup []))
      exact execOps_sound C CH rest (i + 1) hrest (r1.put o.dst (.tup [])) hd1 (KLater hl3)
end
end Go.SX
