/- A part of the proof of a statement on sets of records: what some functions of the program do, walked step by step. -/
import Derived.Test.YtmemlckaklckpaaXBits
import Derived.Laws.ResultCell
import Derived.Laws.Tables
set_option linter.unusedVariables false
set_option linter.unusedSimpArgs false
namespace Go.Proofs.X
open Go.RowKit
/-! ### structs and arrays that are built -/
def arrTy (P : Program) (t n : TypeId) : Bool := match P.underlying t with | some (.array m e) => m == n && plainTy P e && (match P.info? e with | some i => i.size == 1 | none => false) | _ => false
theorem arrTy_spec {P : Program} {t n : Nat} (h : arrTy P t n = true) : ∃ e i, P.underlying t = some (.array n e) ∧ plainTy P e = true ∧ P.info? e = some i ∧ i.size = 1 := by
  unfold arrTy at h
  split at h
  · rename_i m e he
    simp only [Bool.and_eq_true] at h
    obtain ⟨⟨h1, h2⟩, h3⟩ := h
    have : m = n := by simpa using h1
    subst this
    split at h3
    · rename_i i hi
      exact ⟨e, i, he, h2, hi, by simpa using h3⟩
    · cases h3
  · cases h
section
variable {P : Program} {ops : Array Oper} {Q : Exit → Act → World → Prop} {w : World} {rest : List Oper} {a : Act} {ts : List Value} {df : List Deferred} {d : Option Nat} {ty : TypeId} {ps : String} {af : Array Edge} {g : Option (Nat × Bool)} {tys : Array TypeId}
theorem Runs.build {t : TypeId} {parts : List (Nat × Operand)} {vals : List (Nat × Value)} {cells : Array Value} (hx : parts.map (fun p => (p.1, (Act.mk ts.toArray df).eval p.2)) = vals) (h : P.built t vals = some cells) :
    Runs P (Oper.mk d (.build t parts.toArray) ty ps af g) (Act.mk ts.toArray df) w (.agg cells) := by
  have hr := run_build (P := P) w t vals.toArray cells (by simpa using h)
  constructor
  simp only [execOp, List.map_toArray, hx, Sem.run_bind, hr, Result.andThen_ok, Sem.run_pure]
theorem Runs.idxA {t n : TypeId} {m i : Nat} {x : Nat} {cs : Array Value} {v : Value} (hx : ts.getD x undef = .agg cs) (hi : ts.getD m undef = .int .i64 (i : Nat)) (hv : cs[i]? = some v) (hn : i < n) (ht : arrTy P t n = true) :
    Runs P (Oper.mk d (.index t (.tmp x) (.tmp m)) ty ps af g) (Act.mk ts.toArray df) w v := by
  obtain ⟨e, ie, hu, hp, hie, hsz⟩ := arrTy_spec ht
  obtain ⟨u, hu2, hn2⟩ := plainTy_spec hp
  have e1 : (Act.mk ts.toArray df).eval (.tmp x) = .agg cs := by rw [evalT]; exact hx
  have e2 : (Act.mk ts.toArray df).eval (.tmp m) = .int .i64 (i : Nat) := by rw [evalT]; exact hi
  constructor
  simp only [execOp, e1, e2, Instr.index, asIntOf, Sem.run_bind, Sem.run_pure, Result.andThen_ok, run_underlying hu]
  rw [if_pos (by omega)]
  simp [sizeOf, typeInfo, hie, hsz, part, isAgg_no hu2 hn2, Sem.run_bind, hv]
/-- a closure is called -/
theorem wpl_callT {f : FuncId} {m d : Nat} {caps : Array Value} {xs : List Operand} {vs : List Value} {R : Ending → World → Prop} (he : Enters P f) (hw : Region.wanted (Oper.mk (some d) (.call ⟨.value (.tmp m), xs.toArray, tys⟩) ty ps af g) (yielded ops ts.toArray) = true)
    (hm : ts.getD m undef = .func (.func f) #[] caps) (hxs : xs.map (Act.mk ts.toArray df).eval = vs) (hc : Calls P f (vs.toArray ++ caps) w R) (h : ∀ e w', R e w' → ∃ v, e = .returned v ∧ wpList P ops Q rest (Act.mk (ts.set d v).toArray df) w') :
    wpList P ops Q (Oper.mk (some d) (.call ⟨.value (.tmp m), xs.toArray, tys⟩) ty ps af g :: rest) (Act.mk ts.toArray df) w := by
  subst hxs
  unfold wpList
  rw [if_pos hw]
  refine .inl ?_
  unfold Oper.wp
  have e1 : (Act.mk ts.toArray df).eval (.tmp m) = .func (.func f) #[] caps := by rw [evalT]; exact hm
  have hr : (execOp (Act.mk ts.toArray df).eval (Oper.mk (some d) (.call ⟨.value (.tmp m), xs.toArray, tys⟩) ty ps af g)).run P w = .ok (.enter f ((xs.map (Act.mk ts.toArray df).eval).toArray ++ caps)) w := by
    have h1 := he ((xs.map (Act.mk ts.toArray df).eval).toArray ++ caps) w
    simpa [execOp, resolve, e1, Deferred.ofValue, invoke] using h1
  rw [hr]
  refine hc.mono fun e w' h' => ?_
  obtain ⟨v, rfl, hk⟩ := h e w' h'
  simpa [Act.put] using hk
theorem results_cellT {fn : Func} {p q : Tmp} {t : TypeId} (h : fn.results = #[.cell p t, .tmp q]) {b : Nat} {cs : List Value} {ty0 : TypeId} {fr : Nat × Nat} (hp : ts.getD p undef = .pointer (some ⟨b, 0, none⟩)) (hb : w.heap[b]? = some (.cells cs.toArray ty0 fr)) (ht : aggTy P t cs.length = true) :
    (results fn ts.toArray).run P w = .ok (.tuple #[.agg cs.toArray, ts.getD q undef]) w := by
  obtain ⟨u, ie, hu, hn, hie, hz⟩ := aggTy_spec ht
  have hl := run_loadCells_list (P := P) w ⟨b, 0, none⟩ cs (fun j v hv => by rw [add_none, Nat.zero_add, cell_of_row w b j _ _ _ hb]; simpa using hv)
  have hp' : ts[p]?.getD undef = .pointer (some ⟨b, 0, none⟩) := by simpa using hp
  rw [results_cell_tmp h]
  simp [hp', asAddr, loadVar, Sem.run_bind, isAgg_yes hu hn, sizeOf, typeInfo, hie, hz, hl, Result.andThen]
theorem results_cell1 {fn : Func} {p : Tmp} {t : TypeId} (h : fn.results = #[.cell p t]) {b : Nat} {cs : List Value} {ty0 : TypeId} {fr : Nat × Nat} (hp : ts.getD p undef = .pointer (some ⟨b, 0, none⟩)) (hb : w.heap[b]? = some (.cells cs.toArray ty0 fr)) (ht : aggTy P t cs.length = true) :
    (results fn ts.toArray).run P w = .ok (.agg cs.toArray) w := by
  obtain ⟨u, ie, hu, hn, hie, hz⟩ := aggTy_spec ht
  have hl := run_loadCells_list (P := P) w ⟨b, 0, none⟩ cs (fun j v hv => by rw [add_none, Nat.zero_add, cell_of_row w b j _ _ _ hb]; simpa using hv)
  have hp' : ts[p]?.getD undef = .pointer (some ⟨b, 0, none⟩) := by simpa using hp
  simp [results, h, hp', asAddr, loadVar, Sem.run_bind, isAgg_yes hu hn, sizeOf, typeInfo, hie, hz, hl, Result.andThen]
end
end Go.Proofs.X
