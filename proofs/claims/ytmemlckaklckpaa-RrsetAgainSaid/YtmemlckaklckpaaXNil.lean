/- A part of the proof of a statement on sets of records: what some functions of the program do, walked step by step. -/
import Derived.Test.YtmemlckaklckpaaXHeld
import Derived.Laws.Cover3
set_option linter.unusedVariables false
set_option linter.unusedSimpArgs false
namespace Go.Proofs.X
open Go.RowKit
section
variable {P : Program} {w : World} {ts : List Value} {df : List Deferred} {d : Option Nat} {ty : TypeId} {ps : String} {af : Array Edge} {g : Option (Nat × Bool)}
def isNil : Value → Bool | .slice a _ _ => a.isNone | _ => false
/-- a slice against nil -/
theorem Runs.nilS {x : Nat} {t u : TypeId} {k : Nat} {es : List (List Value)} (h : Sl k w (ts.getD x undef) es) (ht : sliceOf P t k = true) :
    Runs P (Oper.mk d (.binOp .eql t (.tmp x) (.const (.slice none 0 0)) u) ty ps af g) (Act.mk ts.toArray df) w (.bool (isNil (ts.getD x undef))) := by
  obtain ⟨a, cap, h1, _⟩ := h
  obtain ⟨e, i, ht, _⟩ := sliceOf_spec ht
  constructor
  have e1 : (Act.mk ts.toArray df).eval (.tmp x) = .slice a es.length cap := by rw [evalT]; exact h1
  have e2 : (Act.mk ts.toArray df).eval (.const (.slice none 0 0)) = .slice none 0 0 := rfl
  simp only [execOp, e1, e2, eqGuard, h1, isNil]
  have := run_equal_slice_nil (P := P) (w := w) t e a es.length cap ht
  simp [binOp, this]
end
theorem Sl.isNil {k : Nat} {w : World} {v : Value} {es : List (List Value)} (h : Sl k w v es) (hn : X.isNil v = true) : es = [] := by
  obtain ⟨a, cap, rfl, h2, h3, h4, h5, _⟩ := h
  cases a with
  | none => exact List.eq_nil_of_length_eq_zero (by have := h5 rfl; omega)
  | some a => simp [X.isNil] at hn
theorem wpl_slice0 {P : Program} {ops : Array Oper} {Q : Exit → Act → World → Prop} {w : World} {rest : List Oper} {ts : List Value} {df : List Deferred} {ty : TypeId} {ps : String} {af : Array Edge} {g : Option (Nat × Bool)} {t e k d bytes : Nat} (ht : appTy P t e k bytes = true)
    (hw : Region.wanted (Oper.mk (some d) (.buildSlice t 0 #[]) ty ps af g) (yielded ops ts.toArray) = true)
    (h : ∀ v' w', Ext w w' → w'.heap.size = w.heap.size + 1 → Own w.heap.size k e w' v' [] → wpList P ops Q rest (Act.mk (ts.set d v').toArray df) w') :
    wpList P ops Q (Oper.mk (some d) (.buildSlice t 0 #[]) ty ps af g :: rest) (Act.mk ts.toArray df) w :=
  wpl_slice (k := k) (e := e) (bytes := bytes) (xs := []) (parts := []) hw rfl rfl (by simp) ht (by simp) fun v' w' x s _ o => h v' w' x s o
theorem Sl.one {k : Nat} {w : World} {v : Value} {es : List (List Value)} (h : Sl k w v es) : v.oneCell' = true := by
  obtain ⟨a, cap, rfl, _⟩ := h
  rfl
theorem all4 {a b c d : Value} (h1 : a.oneCell' = true) (h2 : b.oneCell' = true) (h3 : c.oneCell' = true) (h4 : d.oneCell' = true) : (Value.agg #[a, b, c, d]).cells.all (·.oneCell') = true := by simp [Value.cells, h1, h2, h3, h4]
theorem Sl.nil (k : Nat) (w : World) : Sl k w (.slice none 0 0) [] := ⟨none, 0, rfl, Nat.le_refl _, by omega, by simp, fun _ => rfl, fun h => absurd rfl h⟩
end Go.Proofs.X
