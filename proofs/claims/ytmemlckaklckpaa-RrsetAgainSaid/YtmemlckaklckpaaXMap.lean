/- A part of the proof of a statement on sets of records: what some functions of the program do, walked step by step. -/
import Derived.Test.YtmemlckaklckpaaXOrd
import Derived.DeepKeys4
set_option linter.unusedVariables false
set_option linter.unusedSimpArgs false
namespace Go.Proofs.X
open Go.RowKit
/-! ### maps of the call's own -/
structure MapAt (P : Program) (kt : TypeId) (w : World) (m : Nat) (ents : List (Value × Value)) : Prop where
  out : ∃ es clock, w.heap[m]? = some (.map es clock) ∧ es.toList.map (fun e => (e.key, e.val)) = ents ∧ ∀ e ∈ es.toList, ∃ l, keyOf P kt e.key = some l
theorem MapAt.at {P : Program} {kt : TypeId} {w w' : World} {m : Nat} {ents : List (Value × Value)} (h : MapAt P kt w m ents) (hm : ∀ o, w.heap[m]? = some o → w'.heap[m]? = some o) : MapAt P kt w' m ents := by
  obtain ⟨es, c, h1, h2, h3⟩ := h
  exact ⟨es, c, hm _ h1, h2, h3⟩
theorem MapAt.lt {P : Program} {kt : TypeId} {w : World} {m : Nat} {ents : List (Value × Value)} (h : MapAt P kt w m ents) : m < w.heap.size := by
  obtain ⟨es, c, h1, _⟩ := h
  exact (Array.getElem?_eq_some_iff.1 h1).1
def mapTy (P : Program) (t kt et : TypeId) : Bool := match P.underlying t with | some (.map k e) => k == kt && e == et | _ => false
theorem mapTy_spec {P : Program} {t kt et : Nat} (h : mapTy P t kt et = true) : P.underlying t = some (.map kt et) := by
  unfold mapTy at h
  split at h
  · rename_i k e he
    simp only [Bool.and_eq_true, beq_iff_eq] at h
    rw [he, h.1, h.2]
  · cases h
section
variable {P : Program} {ops : Array Oper} {Q : Exit → Act → World → Prop} {w : World} {rest : List Oper} {ts : List Value} {df : List Deferred} {ty : TypeId} {ps : String} {af : Array Edge} {g : Option (Nat × Bool)} {d : Nat} {kt et t : TypeId} {m : Nat} {ents : List (Value × Value)}
theorem find_map (law : WideMaps.KeyLaw P kt) {es : Array MapEntry} {x : Value} {lx : Lit} (hx : keyOf P kt x = some lx) (h2 : es.toList.map (fun e => (e.key, e.val)) = ents) (h3 : ∀ e ∈ es.toList, ∃ l, keyOf P kt e.key = some l) :
    (∃ (i : Nat) (v : Value), ents[i]? = some (x, v) ∧ (Instr.findKey kt x es.toList).run P w = .ok (some (i, v)) w) ∨ ((∀ (i : Nat) (e : Value × Value), ents[i]? = some e → e.1 ≠ x) ∧ (Instr.findKey kt x es.toList).run P w = .ok none w) := by
  rcases law.find w hx es.toList h3 with ⟨h4, h5⟩ | ⟨j, e, h4, h5, h6⟩
  · refine .inr ⟨fun i e hi => ?_, h4⟩
    subst h2
    rw [List.getElem?_map] at hi
    cases he : es.toList[i]? with
    | none => rw [he] at hi; cases hi
    | some e' =>
      rw [he] at hi
      cases hi
      exact h5 e' (List.mem_of_getElem? he)
  · refine .inl ⟨j, e.val, ?_, h4⟩
    subst h2
    rw [List.getElem?_map, h5, Option.map_some, h6]
/-- v, ok := m[k] -/
theorem run_lookup_own (law : WideMaps.KeyLaw P kt) (ht : mapTy P t kt et = true) {z : Value} (hz : ∀ w, (zeroValue et).run P w = .ok z w) (hm : MapAt P kt w m ents) {x : Value} {lx : Lit} (hx : keyOf P kt x = some lx) (ok : Bool) :
    ∃ v b, (Instr.lookup t (.map (some m)) x ok).run P w = .ok (if ok then .tuple #[v, .bool b] else v) w ∧ ((∃ i : Nat, ents[i]? = some (x, v) ∧ b = true) ∨ ((∀ (i : Nat) (e : Value × Value), ents[i]? = some e → e.1 ≠ x) ∧ v = z ∧ b = false)) := by
  obtain ⟨es, c, h1, h2, h3⟩ := hm
  have hc := law.check w es.isEmpty hx
  have hu := mapTy_spec ht
  have hgo : (getObj m).run P w = .ok (.map es c) w := by simp [getObj, Sem.run, h1]
  rcases find_map (w := w) law hx h2 h3 with ⟨i, v, hi, hf⟩ | ⟨hn, hf⟩
  · refine ⟨v, true, ?_, .inl ⟨i, hi, rfl⟩⟩
    simp only [Instr.lookup, Sem.run_bind, run_underlying hu, Result.andThen_ok, hgo, Sem.run_pure, hc, hf]
  · refine ⟨z, false, ?_, .inr ⟨hn, rfl, rfl⟩⟩
    simp only [Instr.lookup, Sem.run_bind, run_underlying hu, Result.andThen_ok, hgo, Sem.run_pure, hc, hf, hz w]
theorem Runs.lookup {o : Option Nat} {a x : Operand} {v r : Value} {ok : Bool} (ha : (Act.mk ts.toArray df).eval a = .map (some m)) (hx : (Act.mk ts.toArray df).eval x = v) (h : (Instr.lookup t (.map (some m)) v ok).run P w = .ok r w) :
    Runs P (Oper.mk o (.lookup t a x ok) ty ps af g) (Act.mk ts.toArray df) w r := by
  constructor
  simp [execOp, ha, hx, h]
/-- m[k] = v at a new key -/
theorem run_update_new (law : WideMaps.KeyLaw P kt) (ht : mapTy P t kt et = true) (hm : MapAt P kt w m ents) {x v : Value} {lx : Lit} (hx : keyOf P kt x = some lx) (hn : ∀ (i : Nat) (e : Value × Value), ents[i]? = some e → e.1 ≠ x) :
    ∃ w' o, (Instr.mapUpdate t (.map (some m)) x v).run P w = .ok () w' ∧ Put w w' m o ∧ MapAt P kt w' m (ents ++ [(x, v)]) := by
  obtain ⟨es, c, h1, h2, h3⟩ := hm
  have hc := law.check w false hx
  have hu := mapTy_spec ht
  have hgo : (getObj m).run P w = .ok (.map es c) w := by simp [getObj, Sem.run, h1]
  have hlt := (Array.getElem?_eq_some_iff.1 h1).1
  rcases find_map (w := w) law hx h2 h3 with ⟨i, v', hi, hf⟩ | ⟨_, hf⟩
  · exact absurd rfl (hn i _ hi)
  · have hso : (setObj m (.map (es.push { key := x, val := v, born := c }) (c + 1))).run P w = .ok () (w.putObj m (.map (es.push { key := x, val := v, born := c }) (c + 1))) := by
      simp [setObj, Sem.run, h1, World.putObj]
    have hp := put_putObj (o' := .map (es.push { key := x, val := v, born := c }) (c + 1)) h1
    refine ⟨_, _, ?_, hp, ⟨_, _, hp.this, by simp [h2], ?_⟩⟩
    · simp only [Instr.mapUpdate, Sem.run_bind, run_underlying hu, Result.andThen_ok, hgo, hc, hf, hso]
    · intro e he
      simp only [Array.toList_push, List.mem_append, List.mem_singleton] at he
      rcases he with he | rfl
      · exact h3 e he
      · exact ⟨lx, hx⟩
theorem wpl_mapUpdate {a x y : Operand} {ty2 : TypeId} {v u : Value} {w' : World} (hw : Region.wanted (Oper.mk none (.mapUpdate t a x y) ty2 ps af g) (yielded ops ts.toArray) = true)
    (ha : (Act.mk ts.toArray df).eval a = .map (some m)) (hx : (Act.mk ts.toArray df).eval x = v) (hy : (Act.mk ts.toArray df).eval y = u) (hr : (Instr.mapUpdate t (.map (some m)) v u).run P w = .ok () w')
    (h : wpList P ops Q rest (Act.mk ts.toArray df) w') : wpList P ops Q (Oper.mk none (.mapUpdate t a x y) ty2 ps af g :: rest) (Act.mk ts.toArray df) w := by
  refine wpl_skipper hw (w' := w') ?_ h
  simp [execOp, ha, hx, hy, hr]
/-- a map is made -/
theorem wpl_makeMap (hw : Region.wanted (Oper.mk (some d) (.makeMap t none) ty ps af g) (yielded ops ts.toArray) = true)
    (h : ∀ w', Ext w w' → w'.heap.size = w.heap.size + 1 → MapAt P kt w' w.heap.size [] → wpList P ops Q rest (Act.mk (ts.set d (.map (some w.heap.size))).toArray df) w') :
    wpList P ops Q (Oper.mk (some d) (.makeMap t none) ty ps af g :: rest) (Act.mk ts.toArray df) w := by
  refine wpl_val hw (v := .map (some w.heap.size)) (w' := w.alloc (.map #[] 0)) ?_ (h _ (Ext.alloc _ _) (by simp) ⟨#[], 0, heap_alloc_new w _, rfl, by simp⟩)
  simp [execOp, Instr.makeMap, newObj, Sem.run]
end
end Go.Proofs.X
