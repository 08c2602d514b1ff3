/- Laws on worlds, memory and single steps of a walk, used by the proof of the statement. -/
import Derived.WalkKit
import Derived.WalkSpells
import Derived.WalkLawsBesides
import Derived.Deep.Quiet
import Derived.Shelf.Abstract
set_option linter.unusedVariables false
set_option linter.unusedSimpArgs false
namespace Go.Proofs.X
open Go.RowKit

/-! ### worlds -/
structure Ext (w w' : World) : Prop where
  os : w'.os = w.os
  tape : w'.tape = w.tape
  output : w'.output = w.output
  size : w.heap.size ≤ w'.heap.size
  block : ∀ k, k < w.heap.size → w'.heap[k]? = w.heap[k]?
  drawn : w.drawn ≤ w'.drawn
theorem Ext.refl (w : World) : Ext w w := ⟨rfl, rfl, rfl, Nat.le_refl _, fun _ _ => rfl, Nat.le_refl _⟩
theorem Ext.trans {a b c : World} (h : Ext a b) (k : Ext b c) : Ext a c :=
  ⟨k.os.trans h.os, k.tape.trans h.tape, k.output.trans h.output, Nat.le_trans h.size k.size,
   fun i hi => (k.block i (Nat.lt_of_lt_of_le hi h.size)).trans (h.block i hi), Nat.le_trans h.drawn k.drawn⟩
theorem Ext.alloc (w : World) (o : Obj) : Ext w (w.alloc o) :=
  ⟨rfl, rfl, rfl, by simp, fun k hk => Below.heap_alloc _ _ _ hk, Nat.le_refl _⟩
theorem Ext.drew (w : World) : Ext w w.drew := ⟨rfl, rfl, rfl, Nat.le_refl _, fun _ _ => rfl, Nat.le_succ _⟩
theorem Ext.drewN (w : World) (n : Nat) : Ext w (w.drewN n) := ⟨rfl, rfl, rfl, Nat.le_refl _, fun _ _ => rfl, Nat.le_add_right _ _⟩
theorem Ext.below' {a b c : World} (h : Ext a b) (k : Below a.heap.size b c) (hd : b.drawn ≤ c.drawn) : Ext a c :=
  ⟨k.os.trans h.os, k.tape.trans h.tape, k.output.trans h.output, Nat.le_trans h.size k.size, fun i hi => (k.block i hi).trans (h.block i hi), Nat.le_trans h.drawn hd⟩
theorem Ext.below {w w' : World} (h : Ext w w') : Below w.heap.size w w' := ⟨h.os, h.tape, h.output, h.size, h.block⟩
theorem Ext.cell {w w' : World} (h : Ext w w') {a : Addr} {v : Value} (hc : w.cell? a = some v) : w'.cell? a = some v :=
  (World.cell?_of_block (h.block a.block (World.block_lt_of_cell? w a hc))).trans hc

/-! ### data -/
/-- a text -/
def str (l : List UInt8) : Value := .string ⟨l.toArray⟩
/-- a slice that is read -/
structure Sl (k : Nat) (w : World) (v : Value) (es : List (List Value)) : Prop where
  out : ∃ a cap, v = .slice a es.length cap ∧ es.length ≤ cap ∧ cap ≤ 9223372036854775807 ∧ (∀ e ∈ es, e.length = k) ∧ (a = none → cap = 0) ∧
   (es ≠ [] → ∃ b o, a = some ⟨b, o, none⟩ ∧ ∀ i e j x, es[i]? = some e → e[j]? = some x → w.cell? ⟨b, o + i * k + j, none⟩ = some x)
/-- a place that holds values -/
structure Pts (w : World) (p : Value) (vs : List Value) : Prop where
  out : ∃ b o, p = .pointer (some ⟨b, o, none⟩) ∧ ∀ j x, vs[j]? = some x → w.cell? ⟨b, o + j, none⟩ = some x
theorem Sl.ext {k : Nat} {w w' : World} {v : Value} {es : List (List Value)} (h : Sl k w v es) (hx : Ext w w') : Sl k w' v es := by
  obtain ⟨a, cap, h1, h2, h3, h4, h5, h6⟩ := h
  exact ⟨a, cap, h1, h2, h3, h4, h5, fun hn => let ⟨b, o, e, hc⟩ := h6 hn; ⟨b, o, e, fun i e j x h1 h2 => hx.cell (hc i e j x h1 h2)⟩⟩
theorem Pts.ext {w w' : World} {p : Value} {vs : List Value} (h : Pts w p vs) (hx : Ext w w') : Pts w' p vs := by
  obtain ⟨b, o, e, hc⟩ := h
  exact ⟨b, o, e, fun j x h1 => hx.cell (hc j x h1)⟩
theorem Sl.le {k : Nat} {w : World} {v : Value} {es : List (List Value)} (h : Sl k w v es) : es.length ≤ 9223372036854775807 := by
  obtain ⟨a, cap, h1, h2, h3, _⟩ := h; omega
/-- where element i of a slice lies -/
def elemPtr (v : Value) (n : Nat) : Value := match v with | .slice (some a) _ _ => .pointer (some (a.add n)) | _ => undef
/-- where a part of what lies at p lies -/
def partPtr (p : Value) (n : Nat) : Value := match p with | .pointer (some a) => .pointer (some (a.add n)) | _ => undef
theorem add_none (b o n : Nat) : (⟨b, o, none⟩ : Addr).add n = ⟨b, o + n, none⟩ := by unfold Addr.add; split <;> simp_all
theorem Sl.elem {k : Nat} {w : World} {v : Value} {es : List (List Value)} (h : Sl k w v es) {i : Nat} {e : List Value} (he : es[i]? = some e) : Pts w (elemPtr v (i * k)) e := by
  obtain ⟨a, cap, rfl, h2, h3, h4, h5, h6⟩ := h
  have hne : es ≠ [] := by rintro rfl; simp at he
  obtain ⟨b, o, rfl, hc⟩ := h6 hne
  exact ⟨b, o + i * k, by simp [elemPtr, add_none], fun j x hx => hc i e j x he hx⟩
theorem Pts.part {w : World} {p : Value} {vs : List Value} (h : Pts w p vs) (n : Nat) : Pts w (partPtr p n) (vs.drop n) := by
  obtain ⟨b, o, rfl, hc⟩ := h
  exact ⟨b, o + n, by simp [partPtr, add_none], fun j x hx => by rw [Nat.add_assoc]; exact hc _ _ (by simpa using hx)⟩

/-! ### closed facts on types -/
def aggDesc : TypeDesc → Bool | .struct _ => true | .array _ _ => true | _ => false
def sliceOf (P : Program) (t : TypeId) (k : Nat) : Bool := match P.underlying t with | some (.slice e) => (match P.info? e with | some i => i.size == k | none => false) | _ => false
def strTy (P : Program) (t : TypeId) : Bool := match P.underlying t with | some .string => true | _ => false
def fieldIs (P : Program) (s n off : Nat) : Bool := match P.underlying s with | some (.struct fs) => (match fs[n]? with | some f => f.offset == off && (match P.info? f.type with | some i => i.size != 0 | none => false) | none => false) | _ => false
def plainTy (P : Program) (t : TypeId) : Bool := match P.underlying t with | some (.struct _) => false | some (.array _ _) => false | some _ => true | none => false
def aggTy (P : Program) (t : TypeId) (n : Nat) : Bool := (match P.underlying t with | some (.struct _) => true | some (.array _ _) => true | _ => false) && (match P.info? t with | some i => i.size == n | none => false)
def sizeTy (P : Program) (t : TypeId) (n : Nat) : Bool := match P.info? t with | some i => i.size == n | none => false
def _root_.Go.Value.simple : Value → Value → Bool
  | .bool a, .bool b => a == b
  | .int k a, .int k' b => k == k' && a == b
  | .string a, .string b => a.data == b.data
  | .pointer none, .pointer none => true
  | .slice none a b, .slice none c d => a == c && b == d
  | .map none, .map none => true
  | .nilFunc, .nilFunc => true
  | _, _ => false
def sameVals : List Value → List Value → Bool
  | [], [] => true
  | a :: l, b :: m => a.simple b && sameVals l m
  | _, _ => false
theorem simple_eq {a b : Value} (h : a.simple b = true) : a = b := by
  cases a <;> cases b <;> simp_all [Value.simple]
  all_goals first
    | (rename_i x y; cases x; cases y; simp_all; done)
    | (rename_i x y; cases x <;> cases y <;> simp_all; done)
    | (rename_i x a b y c d; cases x <;> cases y <;> simp_all; done)
theorem sameVals_eq : ∀ {l m : List Value}, sameVals l m = true → l = m
  | [], [], _ => rfl
  | a :: l, b :: m, h => by simp only [sameVals, Bool.and_eq_true] at h; rw [simple_eq h.1, sameVals_eq h.2]
  | [], _ :: _, h => by simp [sameVals] at h
  | _ :: _, [], h => by simp [sameVals] at h
/-- the zero value of a type -/
def zeroTy (P : Program) (t : TypeId) (z : List Value) : Bool := match P.info? t with | some i => (match i.zero with | some v => sameVals v.cells.toList z | none => false) | none => false
theorem zeroTy_spec {P : Program} {t : TypeId} {z : List Value} (h : zeroTy P t z = true) : ∃ i v, P.info? t = some i ∧ i.zero = some v ∧ v.cells = z.toArray := by
  unfold zeroTy at h
  split at h
  · rename_i i hi
    split at h
    · rename_i v hv; exact ⟨i, v, hi, hv, by rw [← sameVals_eq h]⟩
    · cases h
  · cases h
def intTy (P : Program) (t : TypeId) (k : IntKind) : Bool := match P.underlying t with | some (.int k') => k' == k | _ => false
section
variable {P : Program}
theorem sliceOf_spec {t k : Nat} (h : sliceOf P t k = true) : ∃ e i, P.underlying t = some (.slice e) ∧ P.info? e = some i ∧ i.size = k := by
  unfold sliceOf at h
  split at h
  · rename_i e he
    split at h
    · rename_i i hi; exact ⟨e, i, he, hi, by simpa using h⟩
    · cases h
  · cases h
theorem strTy_spec {t : Nat} (h : strTy P t = true) : P.underlying t = some .string := by
  unfold strTy at h; split at h
  · assumption
  · cases h
theorem fieldIs_spec {s n off : Nat} (h : fieldIs P s n off = true) : ∃ fs f i, P.underlying s = some (.struct fs) ∧ fs[n]? = some f ∧ f.offset = off ∧ P.info? f.type = some i ∧ i.size ≠ 0 := by
  unfold fieldIs at h
  split at h
  · rename_i fs hfs
    split at h
    · rename_i f hf
      simp only [Bool.and_eq_true, beq_iff_eq] at h
      obtain ⟨h1, h2⟩ := h
      split at h2
      · rename_i i hi; exact ⟨fs, f, i, hfs, hf, h1, hi, by simpa using h2⟩
      · cases h2
    · cases h
  · cases h
theorem plainTy_spec {t : Nat} (h : plainTy P t = true) : ∃ u, P.underlying t = some u ∧ aggDesc u = false := by
  unfold plainTy at h; split at h
  · cases h
  · cases h
  · rename_i u h1 h2 h3; refine ⟨u, h3, ?_⟩; cases u <;> simp_all [aggDesc]
  · cases h
theorem aggTy_spec {t n : Nat} (h : aggTy P t n = true) : ∃ u i, P.underlying t = some u ∧ aggDesc u = true ∧ P.info? t = some i ∧ i.size = n := by
  unfold aggTy at h
  simp only [Bool.and_eq_true] at h
  obtain ⟨h1, h2⟩ := h
  split at h2
  · rename_i i hi
    split at h1
    · rename_i fs hfs; exact ⟨_, i, hfs, rfl, hi, by simpa using h2⟩
    · rename_i fs hfs hfs2; exact ⟨_, i, hfs2, rfl, hi, by simpa using h2⟩
    · cases h1
  · cases h2
theorem sizeTy_spec {t n : Nat} (h : sizeTy P t n = true) : (P.info? t).map (·.size) = some n := by
  unfold sizeTy at h; split at h
  · rename_i i hi; simpa [hi] using h
  · cases h
theorem intTy_spec {t : Nat} {k : IntKind} (h : intTy P t k = true) : P.underlying t = some (.int k) := by
  unfold intTy at h; split at h
  · rename_i k' hk; rw [hk]; simpa using h
  · cases h
end

/-! ### operations that leave the world alone -/
structure Runs (P : Program) (o : Oper) (a : Act) (w : World) (v : Value) : Prop where
  run : (execOp a.eval o).run P w = .ok (.value v) w
section
variable {P : Program} {ops : Array Oper} {Q : Exit → Act → World → Prop} {w : World} {rest : List Oper}
theorem wpl_run {ts : List Value} {df : List Deferred} {d : Nat} {v : Value} {op : Op} {ty : TypeId} {ps : String} {af : Array Edge} {g : Option (Nat × Bool)}
    (hw : Region.wanted (Oper.mk (some d) op ty ps af g) (yielded ops ts.toArray) = true) (hr : Runs P (Oper.mk (some d) op ty ps af g) (Act.mk ts.toArray df) w v)
    (h : wpList P ops Q rest (Act.mk (ts.set d v).toArray df) w) : wpList P ops Q (Oper.mk (some d) op ty ps af g :: rest) (Act.mk ts.toArray df) w := by
  unfold wpList
  rw [if_pos hw]
  refine .inl ?_
  unfold Oper.wp
  rw [hr.run]
  simpa [Oper.upon, Act.put] using h
theorem wpl_skip {ts : List Value} {df : List Deferred} {d : Nat} {op : Op} {ty : TypeId} {ps : String} {af : Array Edge} {g : Option (Nat × Bool)}
    (hw : Region.wanted (Oper.mk (some d) op ty ps af g) (yielded ops ts.toArray) = false)
    (h : wpList P ops Q rest (Act.mk (ts.set d undef).toArray df) w) : wpList P ops Q (Oper.mk (some d) op ty ps af g :: rest) (Act.mk ts.toArray df) w := by
  unfold wpList
  rw [if_neg (by simp [hw])]
  simpa [Act.put] using h

/-- a guard that is not decided: both ways -/
theorem wpl_guard {ts : List Value} {df : List Deferred} {d : Option Nat} {op : Op} {ty : TypeId} {ps : String} {af : Array Edge} {j : Nat} {want c : Bool} (hy : yielded ops ts.toArray j = some c)
    (h1 : c = want → wpList P ops Q (Oper.mk d op ty ps af none :: rest) (Act.mk ts.toArray df) w) (h2 : c = !want → wpList P ops Q rest ((Act.mk ts.toArray df).put d undef) w) :
    wpList P ops Q (Oper.mk d op ty ps af (some (j, want)) :: rest) (Act.mk ts.toArray df) w := by
  by_cases hc : c = want
  · have h := h1 hc
    unfold wpList at h ⊢
    rw [if_pos (by simp [Region.wanted])] at h
    rw [if_pos (by simp [Region.wanted, hy, hc])]
    exact h
  · have h := h2 (by cases c <;> cases want <;> simp_all)
    unfold wpList
    rw [if_neg (by simp [Region.wanted, hy, hc])]
    exact h

variable {a : Act} {d : Option Nat} {ty : TypeId} {ps : String} {af : Array Edge} {g : Option (Nat × Bool)}
theorem Runs.moveT {ts : List Value} {df : List Deferred} (n : Nat) : Runs P (Oper.mk d (.move (.tmp n)) ty ps af g) (Act.mk ts.toArray df) w (ts.getD n undef) := by
  constructor; simp [execOp, Act.eval]
theorem Runs.assignT {ts : List Value} {df : List Deferred} (n : Nat) : Runs P (Oper.mk d (.assign (.tmp n)) ty ps af g) (Act.mk ts.toArray df) w (ts.getD n undef) := by
  constructor; simp [execOp, Act.eval]
theorem Runs.moveC (v : Value) : Runs P (Oper.mk d (.move (.const v)) ty ps af g) a w v := ⟨rfl⟩
theorem Runs.assignC (v : Value) : Runs P (Oper.mk d (.assign (.const v)) ty ps af g) a w v := ⟨rfl⟩
theorem Runs.move (x : Operand) : Runs P (Oper.mk d (.move x) ty ps af g) a w (a.eval x) := ⟨rfl⟩
theorem Runs.assign (x : Operand) : Runs P (Oper.mk d (.assign x) ty ps af g) a w (a.eval x) := ⟨rfl⟩
theorem Runs.pick {c x y : Operand} {b : Bool} (h : a.eval c = .bool b) : Runs P (Oper.mk d (.pick c x y) ty ps af g) a w (if b then a.eval x else a.eval y) := by
  constructor; cases b <;> simp [execOp, h, asBool]
theorem Runs.len {x : Operand} {t k : Nat} {es : List (List Value)} (h : Sl k w (a.eval x) es) (ht : sliceOf P t k = true) :
    Runs P (Oper.mk d (.call ⟨.builtin .len, #[x], #[t]⟩) ty ps af g) a w (.int .i64 es.length) := by
  obtain ⟨ad, cap, h1, _⟩ := h
  obtain ⟨e, i, ht, _⟩ := sliceOf_spec ht
  constructor
  simp [execOp, resolve, invoke, builtin, h1, Builtin.len_, run_underlying ht, goInt]
theorem size_mk (l : List UInt8) : (ByteArray.mk l.toArray).size = l.length := by simp [ByteArray.size]
theorem Runs.lenS {x : Operand} {t : TypeId} {l : List UInt8} (h : a.eval x = str l) (ht : strTy P t = true) :
    Runs P (Oper.mk d (.call ⟨.builtin .len, #[x], #[t]⟩) ty ps af g) a w (.int .i64 l.length) := by
  constructor
  simp [execOp, resolve, invoke, builtin, h, str, run_len_string w t _ _ (strTy_spec ht)]
  simp [goInt, size_mk, -ByteArray.size_data]
theorem Runs.idx {t : TypeId} {x i : Operand} {k n : Nat} {es : List (List Value)} (hi : a.eval i = .int .i64 (n : Nat)) (h : Sl k w (a.eval x) es) (hn : n < es.length) (ht : sliceOf P t k = true) :
    Runs P (Oper.mk d (.indexAddr t x i) ty ps af g) a w (elemPtr (a.eval x) (n * k)) := by
  obtain ⟨ad, cap, h1, h2, h3, h4, h5, h6⟩ := h
  obtain ⟨b, o, rfl, hc⟩ := h6 (by rintro rfl; simp at hn)
  obtain ⟨e, ie, ht, hie, hz⟩ := sliceOf_spec ht
  constructor
  simp [execOp, h1, hi, Instr.indexAt, asIntOf, run_underlying ht, sizeOf, typeInfo, hie, hz, elemPtr, hn]
theorem Runs.field {s : TypeId} {x : Operand} {n off : Nat} {vs : List Value} (h : Pts w (a.eval x) vs) (hf : fieldIs P s n off = true) :
    Runs P (Oper.mk d (.fieldAddr s x n) ty ps af g) a w (partPtr (a.eval x) off) := by
  obtain ⟨b, o, h1, hc⟩ := h
  obtain ⟨fs, f, i, ht, hf, ho, hie, hz⟩ := fieldIs_spec hf
  constructor
  simp [execOp, h1, Instr.fieldAt, Instr.sureAddr, run_underlying ht, hf, fieldPlace, sizeOf, typeInfo, hie, hz, partPtr, ho]
theorem isAgg_no {t : TypeId} {u : TypeDesc} (hu : P.underlying t = some u) (hn : aggDesc u = false) : (isAgg t).run P w = .ok false w := by
  unfold isAgg
  rw [Sem.run_bind, run_underlying hu w]
  cases u <;> simp_all [aggDesc]
theorem isAgg_yes {t : TypeId} {u : TypeDesc} (hu : P.underlying t = some u) (hn : aggDesc u = true) : (isAgg t).run P w = .ok true w := by
  unfold isAgg
  rw [Sem.run_bind, run_underlying hu w]
  cases u <;> simp_all [aggDesc]
/-- a value of one cell is read -/
theorem Runs.load {t : TypeId} {x : Operand} {v : Value} {vs : List Value} (h : Pts w (a.eval x) (v :: vs)) (hu : plainTy P t = true) : Runs P (Oper.mk d (.load t x) ty ps af g) a w v := by
  obtain ⟨b, o, h1, hc⟩ := h
  obtain ⟨u, hu, hn⟩ := plainTy_spec hu
  have h0 : w.cell? ⟨b, o, none⟩ = some v := hc 0 v rfl
  constructor
  simp [execOp, h1, Instr.loadAt, Instr.sureAddr, loadVar, Sem.run_bind, isAgg_no hu hn, run_load, h0]
/-- a struct is read -/
theorem Runs.loadN {t : TypeId} {x : Operand} {vs : List Value} {n : Nat} (h : Pts w (a.eval x) vs) (hl : n = vs.length) (hu : aggTy P t n = true) : Runs P (Oper.mk d (.load t x) ty ps af g) a w (.agg vs.toArray) := by
  obtain ⟨b, o, h1, hc⟩ := h
  obtain ⟨u, ie, hu, hn, hie, hz⟩ := aggTy_spec hu
  have hl' := run_loadCells_list (P := P) w ⟨b, o, none⟩ vs (fun j v hv => by
    rw [add_none]
    exact hc j v hv)
  rw [← hl] at hl'
  constructor
  simp [execOp, h1, Instr.loadAt, Instr.sureAddr, loadVar, Sem.run_bind, isAgg_yes hu hn, sizeOf, typeInfo, hie, hz, hl']
theorem Runs.extract {x : Operand} {n : Nat} {vs : Array Value} {v : Value} (h : a.eval x = .tuple vs) (hv : vs[n]? = some v) : Runs P (Oper.mk d (.extract x n) ty ps af g) a w v := by
  constructor
  simp [execOp, h, Instr.extract, hv]
theorem Runs.not {t : TypeId} {x : Operand} {b : Bool} (h : a.eval x = .bool b) : Runs P (Oper.mk d (.unOp .not t x) ty ps af g) a w (.bool (!b)) := by
  constructor
  simp [execOp, h, Op.unary]

/-! numbers -/
theorem Runs.lss {t u : TypeId} {x y : Operand} {k : IntKind} {m n : Int} (hx : a.eval x = .int k m) (hy : a.eval y = .int k n) : Runs P (Oper.mk d (.binOp .lss t x y u) ty ps af g) a w (.bool (decide (m < n))) := by
  constructor; simp [execOp, hx, hy, eqGuard, binOp, Op.intCmp]
theorem Runs.leq {t u : TypeId} {x y : Operand} {k : IntKind} {m n : Int} (hx : a.eval x = .int k m) (hy : a.eval y = .int k n) : Runs P (Oper.mk d (.binOp .leq t x y u) ty ps af g) a w (.bool (decide (m ≤ n))) := by
  constructor; simp [execOp, hx, hy, eqGuard, binOp, Op.intCmp]
theorem Runs.gtr {t u : TypeId} {x y : Operand} {k : IntKind} {m n : Int} (hx : a.eval x = .int k m) (hy : a.eval y = .int k n) : Runs P (Oper.mk d (.binOp .gtr t x y u) ty ps af g) a w (.bool (decide (n < m))) := by
  constructor; simp [execOp, hx, hy, eqGuard, binOp, Op.intCmp]
theorem Runs.geq {t u : TypeId} {x y : Operand} {k : IntKind} {m n : Int} (hx : a.eval x = .int k m) (hy : a.eval y = .int k n) : Runs P (Oper.mk d (.binOp .geq t x y u) ty ps af g) a w (.bool (decide (n ≤ m))) := by
  constructor; simp [execOp, hx, hy, eqGuard, binOp, Op.intCmp]
theorem Runs.eql {t u : TypeId} {x y : Operand} {k : IntKind} {m n : Int} (hx : a.eval x = .int k m) (hy : a.eval y = .int k n) : Runs P (Oper.mk d (.binOp .eql t x y u) ty ps af g) a w (.bool (decide (m = n))) := by
  constructor; simp [execOp, hx, hy, eqGuard, binOp, Op.intCmp]
  rw [Bool.eq_iff_iff]; simp
theorem Runs.neq {t u : TypeId} {x y : Operand} {k : IntKind} {m n : Int} (hx : a.eval x = .int k m) (hy : a.eval y = .int k n) : Runs P (Oper.mk d (.binOp .neq t x y u) ty ps af g) a w (.bool (!decide (m = n))) := by
  constructor; simp [execOp, hx, hy, eqGuard, binOp, Op.intCmp]
  rw [Bool.eq_iff_iff]; simp
theorem Runs.add {t u : TypeId} {x y : Operand} {m n : Int} (hx : a.eval x = .int .i64 m) (hy : a.eval y = .int .i64 n) (h : -9223372036854775808 ≤ m + n ∧ m + n ≤ 9223372036854775807) :
    Runs P (Oper.mk d (.binOp .add t x y u) ty ps af g) a w (.int .i64 (m + n)) := by
  constructor; simp [execOp, hx, hy, eqGuard, binOp, Op.intArith, IntWalk.i64_in _ h]
theorem Runs.sub {t u : TypeId} {x y : Operand} {m n : Int} (hx : a.eval x = .int .i64 m) (hy : a.eval y = .int .i64 n) (h : -9223372036854775808 ≤ m - n ∧ m - n ≤ 9223372036854775807) :
    Runs P (Oper.mk d (.binOp .sub t x y u) ty ps af g) a w (.int .i64 (m - n)) := by
  constructor; simp [execOp, hx, hy, eqGuard, binOp, Op.intArith, IntWalk.i64_in _ h]
theorem Runs.mul {t u : TypeId} {x y : Operand} {m n : Int} (hx : a.eval x = .int .i64 m) (hy : a.eval y = .int .i64 n) (h : -9223372036854775808 ≤ m * n ∧ m * n ≤ 9223372036854775807) :
    Runs P (Oper.mk d (.binOp .mul t x y u) ty ps af g) a w (.int .i64 (m * n)) := by
  constructor; simp [execOp, hx, hy, eqGuard, binOp, Op.intArith, IntWalk.i64_in _ h]
theorem Runs.addU {t u : TypeId} {x y : Operand} {m n : Int} (hx : a.eval x = .int .u8 m) (hy : a.eval y = .int .u8 n) :
    Runs P (Oper.mk d (.binOp .add t x y u) ty ps af g) a w (.int .u8 (IntKind.wrap .u8 (m + n))) := by
  constructor; simp [execOp, hx, hy, eqGuard, binOp, Op.intArith]
theorem Runs.subU {t u : TypeId} {x y : Operand} {m n : Int} (hx : a.eval x = .int .u8 m) (hy : a.eval y = .int .u8 n) :
    Runs P (Oper.mk d (.binOp .sub t x y u) ty ps af g) a w (.int .u8 (IntKind.wrap .u8 (m - n))) := by
  constructor; simp [execOp, hx, hy, eqGuard, binOp, Op.intArith]
/-- counting on: the counter is a number of a list's elements -/
theorem Runs.inc {t u : TypeId} {x y : Operand} {n : Nat} (hx : a.eval x = .int .i64 (n : Nat)) (hy : a.eval y = .int .i64 1) (h : n < 9223372036854775807) :
    Runs P (Oper.mk d (.binOp .add t x y u) ty ps af g) a w (.int .i64 ((n + 1 : Nat) : Int)) := by
  constructor; simp [execOp, hx, hy, eqGuard, binOp, Op.intArith, IntWalk.i64_in ((n : Int) + 1) (by omega)]
/-- a small number as an int -/
theorem Runs.convI {s t : TypeId} {x : Operand} {k k' : IntKind} {n : Int} (hx : a.eval x = .int k n) (hu : intTy P s k = true) (ht : intTy P t k' = true) (h : k'.wrap n = n) :
    Runs P (Oper.mk d (.convert s t x) ty ps af g) a w (.int k' n) := by
  constructor; simp [execOp, hx, convert, run_underlying (intTy_spec hu), run_underlying (intTy_spec ht), Conv.intToInt, h]

/-! texts -/
theorem Runs.convU {s t : TypeId} {x : Operand} {n : Int} (hx : a.eval x = .int .i64 n) (hu : intTy P s .i64 = true) (ht : intTy P t .u8 = true) :
    Runs P (Oper.mk d (.convert s t x) ty ps af g) a w (.int .u8 (IntKind.wrap .u8 n)) := by
  have h1 := intTy_spec hu
  have h2 := intTy_spec ht
  constructor; simp [execOp, hx, convert, run_underlying h1, run_underlying h2, Conv.intToInt]
theorem Runs.convS {s t : TypeId} {x : Operand} {l : List UInt8} {u : TypeDesc} (hx : a.eval x = str l) (hu : strTy P s = true) (ht : strTy P t = true) :
    Runs P (Oper.mk d (.convert s t x) ty ps af g) a w (str l) := by
  constructor; simp [execOp, hx, str, convert, run_underlying (strTy_spec hu), run_underlying (strTy_spec ht)]
theorem getElem_mk (l : List UInt8) (n : Nat) (h : n < (ByteArray.mk l.toArray).size) : (ByteArray.mk l.toArray)[n] = l.getD n 0 := by
  have h' : n < l.length := by simpa [size_mk, -ByteArray.size_data] using h
  show (ByteArray.mk l.toArray).data[n] = _
  simp [h']
theorem Runs.idxS {t : TypeId} {x i : Operand} {l : List UInt8} {n : Nat} (hx : a.eval x = str l) (hi : a.eval i = .int .i64 (n : Nat)) (hn : n < l.length) (ht : strTy P t = true) :
    Runs P (Oper.mk d (.index t x i) ty ps af g) a w (.int .u8 ((l.getD n 0).toNat : Nat)) := by
  constructor
  simp only [execOp, hx, hi, str, Sem.run_bind, run_index_string w t _ _ _ (strTy_spec ht)]
  rw [dif_pos (by rw [size_mk]; omega)]
  simp [getElem_mk]
theorem Runs.eqlS {t u : TypeId} {x y : Operand} {l m : List UInt8} (hx : a.eval x = str l) (hy : a.eval y = str m) : Runs P (Oper.mk d (.binOp .eql t x y u) ty ps af g) a w (.bool (decide (l = m))) := by
  constructor; simp [execOp, hx, hy, str, eqGuard, binOp_string_eql, ByteArray.toList_mk]
  rw [Bool.eq_iff_iff]; simp
theorem Runs.neqS {t u : TypeId} {x y : Operand} {l m : List UInt8} (hx : a.eval x = str l) (hy : a.eval y = str m) : Runs P (Oper.mk d (.binOp .neq t x y u) ty ps af g) a w (.bool (!decide (l = m))) := by
  constructor; simp [execOp, hx, hy, str, eqGuard, binOp_string_neq, ByteArray.toList_mk]
  rw [Bool.eq_iff_iff]; simp
theorem Runs.lssS {t u : TypeId} {x y : Operand} {l m : List UInt8} (hx : a.eval x = str l) (hy : a.eval y = str m) : Runs P (Oper.mk d (.binOp .lss t x y u) ty ps af g) a w (.bool (Op.bytesLess l m)) := by
  constructor; simp [execOp, hx, hy, str, eqGuard, binOp, Op.stringOp, ByteArray.toList_mk]
theorem Runs.gtrS {t u : TypeId} {x y : Operand} {l m : List UInt8} (hx : a.eval x = str l) (hy : a.eval y = str m) : Runs P (Oper.mk d (.binOp .gtr t x y u) ty ps af g) a w (.bool (!(Op.bytesLess l m || l == m))) := by
  constructor; simp [execOp, hx, hy, str, eqGuard, binOp, Op.stringOp, ByteArray.toList_mk]
theorem Runs.geqS {t u : TypeId} {x y : Operand} {l m : List UInt8} (hx : a.eval x = str l) (hy : a.eval y = str m) : Runs P (Oper.mk d (.binOp .geq t x y u) ty ps af g) a w (.bool (!Op.bytesLess l m)) := by
  constructor; simp [execOp, hx, hy, str, eqGuard, binOp, Op.stringOp, ByteArray.toList_mk]
theorem Runs.addS {t u : TypeId} {x y : Operand} {l m : List UInt8} (hx : a.eval x = str l) (hy : a.eval y = str m) (hl : l.length + m.length ≤ 9223372036854775807) : Runs P (Oper.mk d (.binOp .add t x y u) ty ps af g) a w (str (l ++ m)) := by
  constructor
  have h1 : ¬ (((ByteArray.mk l.toArray).size + (ByteArray.mk m.toArray).size : Nat) : Int) > IntKind.i64.max := by
    rw [size_mk, size_mk]; simp [IntKind.max, IntKind.signed, IntKind.bits]; omega
  have h2 : ByteArray.mk l.toArray ++ ByteArray.mk m.toArray = ByteArray.mk (l ++ m).toArray := by
    simp [ByteArray.ext_iff]
  simp only [execOp, hx, hy, str, eqGuard, binOp, Op.stringOp, if_neg h1, h2]
  rfl

/-! cuts of texts -/
theorem extract_mk (l : List UInt8) (i j : Nat) : (ByteArray.mk l.toArray).extract i j = ByteArray.mk ((l.take j).drop i).toArray := by
  simp [ByteArray.ext_iff, List.drop_take]
theorem Runs.cutS {t : TypeId} {x lo hi : Operand} {l : List UInt8} {m n : Nat} (hx : a.eval x = str l) (h1 : a.eval lo = .int .i64 (m : Nat)) (h2 : a.eval hi = .int .i64 (n : Nat)) (hmn : m ≤ n) (hn : n ≤ l.length) (ht : strTy P t = true) :
    Runs P (Oper.mk d (.slice t x (some lo) (some hi) none) ty ps af g) a w (str ((l.take n).drop m)) := by
  constructor
  simp [execOp, hx, h1, h2, str, Instr.sliceAt, Instr.slice, run_underlying (strTy_spec ht), Instr.sliceBounds, Instr.sliceBound, asIntOf, size_mk, -ByteArray.size_data, hn, hmn, extract_mk]
theorem Runs.dropS {t : TypeId} {x lo : Operand} {l : List UInt8} {m : Nat} (hx : a.eval x = str l) (h1 : a.eval lo = .int .i64 (m : Nat)) (hm : m ≤ l.length) (ht : strTy P t = true) :
    Runs P (Oper.mk d (.slice t x (some lo) none none) ty ps af g) a w (str (l.drop m)) := by
  constructor
  simp [execOp, hx, h1, str, Instr.sliceAt, Instr.slice, run_underlying (strTy_spec ht), Instr.sliceBounds, Instr.sliceBound, asIntOf, size_mk, -ByteArray.size_data, hm, extract_mk]
theorem Runs.takeS {t : TypeId} {x hi : Operand} {l : List UInt8} {n : Nat} (hx : a.eval x = str l) (h2 : a.eval hi = .int .i64 (n : Nat)) (hn : n ≤ l.length) (ht : strTy P t = true) :
    Runs P (Oper.mk d (.slice t x none (some hi) none) ty ps af g) a w (str (l.take n)) := by
  constructor
  simp [execOp, hx, h2, str, Instr.sliceAt, Instr.slice, run_underlying (strTy_spec ht), Instr.sliceBounds, Instr.sliceBound, asIntOf, size_mk, -ByteArray.size_data, hn, extract_mk]
/-! cuts of slices -/
def cutSl (v : Value) (k m n : Nat) : Value := match v with | .slice a _ cap => .slice (if cap = m then a else a.map (·.add (m * k))) (n - m) (cap - m) | v => v
theorem Runs.cut {t : TypeId} {x lo hi : Operand} {k m n : Nat} {es : List (List Value)} (h1 : a.eval lo = .int .i64 (m : Nat)) (h2 : a.eval hi = .int .i64 (n : Nat)) (h : Sl k w (a.eval x) es) (hmn : m ≤ n) (hn : n ≤ es.length) (ht : sliceOf P t k = true) :
    Runs P (Oper.mk d (.slice t x (some lo) (some hi) none) ty ps af g) a w (cutSl (a.eval x) k m n) := by
  obtain ⟨ad, cap, h3, h4, _⟩ := h
  obtain ⟨e, ie, ht, hie, hz⟩ := sliceOf_spec ht
  constructor
  simp [execOp, h3, h1, h2, Instr.sliceAt, Instr.slice, run_underlying ht, Instr.sliceBounds, Instr.sliceBound, asIntOf, sizeOf, typeInfo, hie, hz, hmn, show n ≤ cap by omega, cutSl]
theorem Runs.drop {t : TypeId} {x lo : Operand} {k m : Nat} {es : List (List Value)} (h1 : a.eval lo = .int .i64 (m : Nat)) (h : Sl k w (a.eval x) es) (hm : m ≤ es.length) (ht : sliceOf P t k = true) :
    Runs P (Oper.mk d (.slice t x (some lo) none none) ty ps af g) a w (cutSl (a.eval x) k m es.length) := by
  obtain ⟨ad, cap, h3, h4, _⟩ := h
  obtain ⟨e, ie, ht, hie, hz⟩ := sliceOf_spec ht
  constructor
  simp [execOp, h3, h1, Instr.sliceAt, Instr.slice, run_underlying ht, Instr.sliceBounds, Instr.sliceBound, asIntOf, sizeOf, typeInfo, hie, hz, hm, cutSl]
theorem Runs.take {t : TypeId} {x hi : Operand} {k n : Nat} {es : List (List Value)} (h2 : a.eval hi = .int .i64 (n : Nat)) (h : Sl k w (a.eval x) es) (hn : n ≤ es.length) (ht : sliceOf P t k = true) :
    Runs P (Oper.mk d (.slice t x none (some hi) none) ty ps af g) a w (cutSl (a.eval x) k 0 n) := by
  obtain ⟨ad, cap, h3, h4, _⟩ := h
  obtain ⟨e, ie, ht, hie, hz⟩ := sliceOf_spec ht
  constructor
  simp [execOp, h3, h2, Instr.sliceAt, Instr.slice, run_underlying ht, Instr.sliceBounds, Instr.sliceBound, asIntOf, sizeOf, typeInfo, hie, hz, show n ≤ cap by omega, cutSl]
theorem Sl.cut {k : Nat} {w : World} {v : Value} {es : List (List Value)} (h : Sl k w v es) {m n : Nat} (hmn : m ≤ n) (hn : n ≤ es.length) : Sl k w (cutSl v k m n) ((es.take n).drop m) := by
  obtain ⟨ad, cap, rfl, h4, h5, h6, h7, h8⟩ := h
  have hlen : ((es.take n).drop m).length = n - m := by simp; omega
  refine ⟨_, cap - m, by rw [hlen]; rfl, by omega, by omega, fun e he => h6 e (List.mem_of_mem_take (List.mem_of_mem_drop he)), ?_, ?_⟩
  · intro hnone
    split at hnone
    · omega
    · have := h7 (by simpa using hnone); omega
  · intro hne
    have : m < n := by
      rcases Nat.lt_or_ge m n with h | h
      · exact h
      · exact absurd (List.eq_nil_of_length_eq_zero (by omega)) hne
    obtain ⟨b, o, rfl, hc⟩ := h8 (by rintro rfl; simp at hn; omega)
    refine ⟨b, o + m * k, ?_, fun i e j x hi hj => ?_⟩
    · rw [if_neg (by omega)]; simp [add_none]
    · have hi' : es[m + i]? = some e := by
        rw [List.getElem?_drop, List.getElem?_take] at hi
        split at hi
        · exact hi
        · cases hi
      have := hc (m + i) e j x hi' hj
      rw [Nat.add_mul, ← Nat.add_assoc] at this
      exact this

theorem evalT {ts : List Value} {df : List Deferred} (n : Nat) : (Act.mk ts.toArray df).eval (.tmp n) = ts.getD n undef := by simp [Act.eval]
section
variable {ts : List Value} {df : List Deferred}
theorem Runs.idxT {t : TypeId} {m : Nat} {i : Operand} {k n : Nat} {es : List (List Value)} (hi : (Act.mk ts.toArray df).eval i = .int .i64 (n : Nat)) (h : Sl k w (ts.getD m undef) es) (hn : n < es.length) (ht : sliceOf P t k = true) :
    Runs P (Oper.mk d (.indexAddr t (.tmp m) i) ty ps af g) (Act.mk ts.toArray df) w (elemPtr (ts.getD m undef) (n * k)) := by
  rw [← evalT (df := df)] at h ⊢
  exact Runs.idx hi h hn ht
theorem Runs.fieldT {s : TypeId} {m : Nat} {n off : Nat} {vs : List Value} (h : Pts w (ts.getD m undef) vs) (hf : fieldIs P s n off = true) :
    Runs P (Oper.mk d (.fieldAddr s (.tmp m) n) ty ps af g) (Act.mk ts.toArray df) w (partPtr (ts.getD m undef) off) := by
  rw [← evalT (df := df)] at h ⊢
  exact Runs.field h hf
theorem Runs.fieldTn {s : TypeId} {m : Nat} {n : Nat} {vs : List Value} (h : Pts w (ts.getD m undef) vs) (hf : fieldIs P s n n = true) :
    Runs P (Oper.mk d (.fieldAddr s (.tmp m) n) ty ps af g) (Act.mk ts.toArray df) w (partPtr (ts.getD m undef) n) := Runs.fieldT h hf
theorem Runs.cutT {t : TypeId} {x : Nat} {lo hi : Operand} {k m n : Nat} {es : List (List Value)} (h1 : (Act.mk ts.toArray df).eval lo = .int .i64 (m : Nat)) (h2 : (Act.mk ts.toArray df).eval hi = .int .i64 (n : Nat)) (h : Sl k w (ts.getD x undef) es) (hmn : m ≤ n) (hn : n ≤ es.length) (ht : sliceOf P t k = true) :
    Runs P (Oper.mk d (.slice t (.tmp x) (some lo) (some hi) none) ty ps af g) (Act.mk ts.toArray df) w (cutSl (ts.getD x undef) k m n) := by
  rw [← evalT (df := df)] at h ⊢
  exact Runs.cut h1 h2 h hmn hn ht
theorem Runs.dropT {t : TypeId} {x : Nat} {lo : Operand} {k m : Nat} {es : List (List Value)} (h1 : (Act.mk ts.toArray df).eval lo = .int .i64 (m : Nat)) (h : Sl k w (ts.getD x undef) es) (hm : m ≤ es.length) (ht : sliceOf P t k = true) :
    Runs P (Oper.mk d (.slice t (.tmp x) (some lo) none none) ty ps af g) (Act.mk ts.toArray df) w (cutSl (ts.getD x undef) k m es.length) := by
  rw [← evalT (df := df)] at h ⊢
  exact Runs.drop h1 h hm ht
theorem Runs.takeT {t : TypeId} {x : Nat} {hi : Operand} {k n : Nat} {es : List (List Value)} (h2 : (Act.mk ts.toArray df).eval hi = .int .i64 (n : Nat)) (h : Sl k w (ts.getD x undef) es) (hn : n ≤ es.length) (ht : sliceOf P t k = true) :
    Runs P (Oper.mk d (.slice t (.tmp x) none (some hi) none) ty ps af g) (Act.mk ts.toArray df) w (cutSl (ts.getD x undef) k 0 n) := by
  rw [← evalT (df := df)] at h ⊢
  exact Runs.take h2 h hn ht
theorem Runs.loadP {t : TypeId} {m n : Nat} {p v : Value} {vs : List Value} (hx : ts.getD m undef = partPtr p n) (h : Pts w p vs) (hv : vs[n]? = some v) (hu : plainTy P t = true) :
    Runs P (Oper.mk d (.load t (.tmp m)) ty ps af g) (Act.mk ts.toArray df) w v := by
  have h1 := h.part n
  have h2 : vs.drop n = v :: vs.drop (n + 1) := by
    obtain ⟨hlt, he⟩ := List.getElem?_eq_some_iff.1 hv
    rw [List.drop_eq_getElem_cons hlt, he]
  rw [h2, ← hx, ← evalT (df := df)] at h1
  exact Runs.load h1 hu
theorem Runs.idxTI {t : TypeId} {m : Nat} {i : Operand} {k : Nat} {n : Int} {es : List (List Value)} (hi : (Act.mk ts.toArray df).eval i = .int .i64 n) (h : Sl k w (ts.getD m undef) es) (h0 : 0 ≤ n) (hn : n.toNat < es.length) (ht : sliceOf P t k = true) :
    Runs P (Oper.mk d (.indexAddr t (.tmp m) i) ty ps af g) (Act.mk ts.toArray df) w (elemPtr (ts.getD m undef) (n.toNat * k)) := by
  obtain ⟨j, rfl⟩ := Int.eq_ofNat_of_zero_le h0
  exact Runs.idxT hi h (by simpa using hn) ht
theorem Runs.idxSI {t : TypeId} {x i : Operand} {l : List UInt8} {n : Int} (hx : (Act.mk ts.toArray df).eval x = str l) (hi : (Act.mk ts.toArray df).eval i = .int .i64 n) (h0 : 0 ≤ n) (hn : n.toNat < l.length) (ht : strTy P t = true) :
    Runs P (Oper.mk d (.index t x i) ty ps af g) (Act.mk ts.toArray df) w (.int .u8 ((l.getD n.toNat 0).toNat : Nat)) := by
  obtain ⟨j, rfl⟩ := Int.eq_ofNat_of_zero_le h0
  exact Runs.idxS hx hi (by simpa using hn) ht
theorem Runs.cutSI {t : TypeId} {x lo hi : Operand} {l : List UInt8} {m n : Int} (hx : (Act.mk ts.toArray df).eval x = str l) (h1 : (Act.mk ts.toArray df).eval lo = .int .i64 m) (h2 : (Act.mk ts.toArray df).eval hi = .int .i64 n) (h0 : 0 ≤ m) (hmn : m ≤ n) (hn : n ≤ l.length) (ht : strTy P t = true) :
    Runs P (Oper.mk d (.slice t x (some lo) (some hi) none) ty ps af g) (Act.mk ts.toArray df) w (str ((l.take n.toNat).drop m.toNat)) := by
  obtain ⟨i, rfl⟩ := Int.eq_ofNat_of_zero_le h0
  obtain ⟨j, rfl⟩ := Int.eq_ofNat_of_zero_le (Int.le_trans h0 hmn)
  exact Runs.cutS hx h1 h2 (by omega) (by omega) ht
theorem Runs.dropSI {t : TypeId} {x lo : Operand} {l : List UInt8} {m : Int} (hx : (Act.mk ts.toArray df).eval x = str l) (h1 : (Act.mk ts.toArray df).eval lo = .int .i64 m) (h0 : 0 ≤ m) (hm : m ≤ l.length) (ht : strTy P t = true) :
    Runs P (Oper.mk d (.slice t x (some lo) none none) ty ps af g) (Act.mk ts.toArray df) w (str (l.drop m.toNat)) := by
  obtain ⟨i, rfl⟩ := Int.eq_ofNat_of_zero_le h0
  exact Runs.dropS hx h1 (by omega) ht
theorem Runs.takeSI {t : TypeId} {x hi : Operand} {l : List UInt8} {n : Int} (hx : (Act.mk ts.toArray df).eval x = str l) (h2 : (Act.mk ts.toArray df).eval hi = .int .i64 n) (h0 : 0 ≤ n) (hn : n ≤ l.length) (ht : strTy P t = true) :
    Runs P (Oper.mk d (.slice t x none (some hi) none) ty ps af g) (Act.mk ts.toArray df) w (str (l.take n.toNat)) := by
  obtain ⟨i, rfl⟩ := Int.eq_ofNat_of_zero_le h0
  exact Runs.takeS hx h2 (by omega) ht
theorem Runs.cutTI {t : TypeId} {x : Nat} {lo hi : Operand} {k : Nat} {m n : Int} {es : List (List Value)} (h1 : (Act.mk ts.toArray df).eval lo = .int .i64 m) (h2 : (Act.mk ts.toArray df).eval hi = .int .i64 n) (h : Sl k w (ts.getD x undef) es) (h0 : 0 ≤ m) (hmn : m ≤ n) (hn : n ≤ es.length) (ht : sliceOf P t k = true) :
    Runs P (Oper.mk d (.slice t (.tmp x) (some lo) (some hi) none) ty ps af g) (Act.mk ts.toArray df) w (cutSl (ts.getD x undef) k m.toNat n.toNat) := by
  obtain ⟨i, rfl⟩ := Int.eq_ofNat_of_zero_le h0
  obtain ⟨j, rfl⟩ := Int.eq_ofNat_of_zero_le (Int.le_trans h0 hmn)
  exact Runs.cutT h1 h2 h (by omega) (by omega) ht
theorem Runs.dropTI {t : TypeId} {x : Nat} {lo : Operand} {k : Nat} {m : Int} {es : List (List Value)} (h1 : (Act.mk ts.toArray df).eval lo = .int .i64 m) (h : Sl k w (ts.getD x undef) es) (h0 : 0 ≤ m) (hm : m ≤ es.length) (ht : sliceOf P t k = true) :
    Runs P (Oper.mk d (.slice t (.tmp x) (some lo) none none) ty ps af g) (Act.mk ts.toArray df) w (cutSl (ts.getD x undef) k m.toNat es.length) := by
  obtain ⟨i, rfl⟩ := Int.eq_ofNat_of_zero_le h0
  exact Runs.dropT h1 h (by omega) ht
theorem Runs.takeTI {t : TypeId} {x : Nat} {hi : Operand} {k : Nat} {n : Int} {es : List (List Value)} (h2 : (Act.mk ts.toArray df).eval hi = .int .i64 n) (h : Sl k w (ts.getD x undef) es) (h0 : 0 ≤ n) (hn : n ≤ es.length) (ht : sliceOf P t k = true) :
    Runs P (Oper.mk d (.slice t (.tmp x) none (some hi) none) ty ps af g) (Act.mk ts.toArray df) w (cutSl (ts.getD x undef) k 0 n.toNat) := by
  obtain ⟨i, rfl⟩ := Int.eq_ofNat_of_zero_le h0
  exact Runs.takeT h2 h (by omega) ht
/-- a byte as an int -/
theorem Runs.convB {s t : TypeId} {x : Operand} {c : UInt8} (hx : (Act.mk ts.toArray df).eval x = .int .u8 (c.toNat : Nat)) (hu : intTy P s .u8 = true) (ht : intTy P t .i64 = true) :
    Runs P (Oper.mk d (.convert s t x) ty ps af g) (Act.mk ts.toArray df) w (.int .i64 (c.toNat : Nat)) :=
  Runs.convI hx hu ht (IntWalk.i64_in _ (by have := c.toNat_lt; omega))
theorem Runs.pickT {c x y : Nat} {b : Bool} (h : ts.getD c undef = .bool b) : Runs P (Oper.mk d (.pick (.tmp c) (.tmp x) (.tmp y)) ty ps af g) (Act.mk ts.toArray df) w (if b then ts.getD x undef else ts.getD y undef) := by
  rw [← evalT (df := df), ← evalT (df := df) y]
  exact Runs.pick (by rw [evalT]; exact h)
theorem Runs.pickTC {c x : Nat} {u : Value} {b : Bool} (h : ts.getD c undef = .bool b) : Runs P (Oper.mk d (.pick (.tmp c) (.tmp x) (.const u)) ty ps af g) (Act.mk ts.toArray df) w (if b then ts.getD x undef else u) := by
  rw [← evalT (df := df)]
  exact Runs.pick (y := .const u) (by rw [evalT]; exact h)
theorem Runs.pickCT {c y : Nat} {u : Value} {b : Bool} (h : ts.getD c undef = .bool b) : Runs P (Oper.mk d (.pick (.tmp c) (.const u) (.tmp y)) ty ps af g) (Act.mk ts.toArray df) w (if b then u else ts.getD y undef) := by
  rw [← evalT (df := df)]
  exact Runs.pick (x := .const u) (by rw [evalT]; exact h)
end
end

/-- (a guard for a walk: the goal is an operation) -/
theorem wpl_is {P : Program} {ops : Array Oper} {Q : Exit → Act → World → Prop} {w : World} {rest : List Oper} {o : Oper} {a : Act} (h : wpList P ops Q (o :: rest) a w) : wpList P ops Q (o :: rest) a w := h

/-! ### calls -/
def strLen : Value → Nat | .string b => b.size | _ => 0
theorem strLen_str (l : List UInt8) : strLen (str l) = l.length := by simp [strLen, str, size_mk, -ByteArray.size_data]
/-- it returns a value that is so; what was there stands -/
def Ret (w : World) (R : Value → World → Prop) (e : Ending) (w' : World) : Prop := ∃ v, e = .returned v ∧ Ext w w' ∧ R v w'
/-- it returns just this value; what was there stands -/
def RetV (w : World) (v : Value) (e : Ending) (w' : World) : Prop := e = .returned v ∧ Ext w w'
section
variable {P : Program} {ops : Array Oper} {Q : Exit → Act → World → Prop} {w : World} {rest : List Oper} {ts : List Value} {df : List Deferred} {d : Nat} {ty : TypeId} {ps : String} {af : Array Edge} {g : Option (Nat × Bool)} {tys : Array TypeId}

theorem wpl_callG {f : FuncId} {xs : List Operand} {vs : List Value} {R : Ending → World → Prop} (he : Enters P f) (hw : Region.wanted (Oper.mk (some d) (.call ⟨.value (.func f), xs.toArray, tys⟩) ty ps af g) (yielded ops ts.toArray) = true)
    (hxs : xs.map (Act.mk ts.toArray df).eval = vs) (hc : Calls P f vs.toArray w R) (h : ∀ e w', R e w' → ∃ v, e = .returned v ∧ wpList P ops Q rest (Act.mk (ts.set d v).toArray df) w') :
    wpList P ops Q (Oper.mk (some d) (.call ⟨.value (.func f), xs.toArray, tys⟩) ty ps af g :: rest) (Act.mk ts.toArray df) w := by
  subst hxs
  unfold wpList
  rw [if_pos hw]
  refine .inl ?_
  unfold Oper.wp
  have hr : (execOp (Act.mk ts.toArray df).eval (Oper.mk (some d) (.call ⟨.value (.func f), xs.toArray, tys⟩) ty ps af g)).run P w = .ok (.enter f (xs.map (Act.mk ts.toArray df).eval).toArray) w := by
    have h1 := he (xs.map (Act.mk ts.toArray df).eval).toArray w
    simpa [execOp, resolve, Act.eval, Deferred.ofValue, invoke] using h1
  rw [hr]
  refine hc.mono fun e w' h' => ?_
  obtain ⟨v, rfl, hk⟩ := h e w' h'
  simpa [Act.put] using hk
theorem wpl_callV {f : FuncId} {xs : List Operand} {vs : List Value} {v : Value} (he : Enters P f) (hw : Region.wanted (Oper.mk (some d) (.call ⟨.value (.func f), xs.toArray, tys⟩) ty ps af g) (yielded ops ts.toArray) = true)
    (hxs : xs.map (Act.mk ts.toArray df).eval = vs) (hc : Calls P f vs.toArray w (RetV w v)) (h : ∀ w', Ext w w' → wpList P ops Q rest (Act.mk (ts.set d v).toArray df) w') :
    wpList P ops Q (Oper.mk (some d) (.call ⟨.value (.func f), xs.toArray, tys⟩) ty ps af g :: rest) (Act.mk ts.toArray df) w :=
  wpl_callG he hw hxs hc fun e w' ⟨h1, h2⟩ => ⟨v, h1, h w' h2⟩
theorem wpl_callR {f : FuncId} {xs : List Operand} {vs : List Value} {R : Value → World → Prop} (he : Enters P f) (hw : Region.wanted (Oper.mk (some d) (.call ⟨.value (.func f), xs.toArray, tys⟩) ty ps af g) (yielded ops ts.toArray) = true)
    (hxs : xs.map (Act.mk ts.toArray df).eval = vs) (hc : Calls P f vs.toArray w (Ret w R)) (h : ∀ v w', Ext w w' → R v w' → wpList P ops Q rest (Act.mk (ts.set d v).toArray df) w') :
    wpList P ops Q (Oper.mk (some d) (.call ⟨.value (.func f), xs.toArray, tys⟩) ty ps af g :: rest) (Act.mk ts.toArray df) w :=
  wpl_callG he hw hxs hc fun e w' ⟨v, h1, h2, h3⟩ => ⟨v, h1, h v w' h2 h3⟩

/-! ### memory that is made -/
theorem info_of {t : TypeId} {k : Nat} (hs : (P.info? t).map (·.size) = some k) : ∃ i, P.info? t = some i ∧ i.size = k := Option.map_eq_some_iff.1 hs
/-- a value laid in a block of its own -/
theorem wpl_box {t : TypeId} {x : Operand} {vs : List Value} (hw : Region.wanted (Oper.mk (some d) (.box t x) ty ps af g) (yielded ops ts.toArray) = true) (hx : ((Act.mk ts.toArray df).eval x).cells = vs.toArray)
    (h : ∀ p w', Ext w w' → Pts w' p vs → wpList P ops Q rest (Act.mk (ts.set d p).toArray df) w') : wpList P ops Q (Oper.mk (some d) (.box t x) ty ps af g :: rest) (Act.mk ts.toArray df) w := by
  unfold wpList
  rw [if_pos hw]
  refine .inl ?_
  unfold Oper.wp
  have hr : (execOp (Act.mk ts.toArray df).eval (Oper.mk (some d) (.box t x) ty ps af g)).run P w = .ok (.value (.pointer (some ⟨w.heap.size, 0, none⟩))) (w.alloc (.cells vs.toArray t)) := by
    simp [execOp, Instr.box, newVar, newRow, hx]
  rw [hr]
  have := h (.pointer (some ⟨w.heap.size, 0, none⟩)) (w.alloc (.cells vs.toArray t)) (Ext.alloc _ _) ⟨_, _, rfl, fun j x hj => by rw [Nat.zero_add, World.cell?_alloc_new]; simpa using hj⟩
  simpa [Oper.upon, Act.put] using this

theorem wpl_boxB {t : TypeId} {x : Operand} {vs : List Value} (hw : Region.wanted (Oper.mk (some d) (.box t x) ty ps af g) (yielded ops ts.toArray) = true) (hx : ((Act.mk ts.toArray df).eval x).cells = vs.toArray)
    (h : ∀ w', Ext w w' → w'.heap.size = w.heap.size + 1 → w'.heap[w.heap.size]? = some (.cells vs.toArray t (0, 0)) → wpList P ops Q rest (Act.mk (ts.set d (.pointer (some ⟨w.heap.size, 0, none⟩))).toArray df) w') : wpList P ops Q (Oper.mk (some d) (.box t x) ty ps af g :: rest) (Act.mk ts.toArray df) w := by
  unfold wpList
  rw [if_pos hw]
  refine .inl ?_
  unfold Oper.wp
  have hr : (execOp (Act.mk ts.toArray df).eval (Oper.mk (some d) (.box t x) ty ps af g)).run P w = .ok (.value (.pointer (some ⟨w.heap.size, 0, none⟩))) (w.alloc (.cells vs.toArray t)) := by
    simp [execOp, Instr.box, newVar, newRow, hx]
  rw [hr]
  have := h (w.alloc (.cells vs.toArray t)) (Ext.alloc _ _) (by simp) (heap_alloc_new w _)
  simpa [Oper.upon, Act.put] using this
theorem Runs.func1 {fn : Fn} {m : Nat} {df : List Deferred} {ts : List Value} {d : Option Nat} : Runs P (Oper.mk d (.makeFunc fn #[] #[.tmp m]) ty ps af g) (Act.mk ts.toArray df) w (.func fn #[] #[ts.getD m undef]) :=
  ⟨by simp [execOp, Instr.makeFunc, Act.eval]⟩
theorem Runs.func0 {fn : Fn} {df : List Deferred} {ts : List Value} {d : Option Nat} : Runs P (Oper.mk d (.makeFunc fn #[] #[]) ty ps af g) (Act.mk ts.toArray df) w (.func fn #[] #[]) :=
  ⟨by simp [execOp, Instr.makeFunc]⟩
theorem setRow_alloc_last (w : World) (old cs : Array Value) (t : TypeId) : (w.alloc (.cells old t)).setRow w.heap.size cs = w.alloc (.cells cs t) := by
  unfold World.setRow World.alloc
  congr 1
  apply Array.ext_getElem?
  intro k
  rw [Array.getElem?_modify]
  by_cases hk : w.heap.size = k
  · subst hk; simp
  · have hk' : k ≠ w.heap.size := fun e => hk e.symm
    simp [hk, hk', Array.getElem?_push]
theorem run_storeVar_cells {w : World} {g : Nat} {t ty : TypeId} {old : Array Value} {v : Value} (hg : w.heap[g]? = some (.cells old t (0, 0))) (hi : (P.info? ty).map (·.size) = some v.cells.size)
    (ho : old.size = v.cells.size) (h1 : v.cells.all (·.oneCell') = true) : (storeVar ty ⟨g, 0, none⟩ v).run P w = .ok () (w.setRow g v.cells) := by
  have := run_storeCells_from (P := P) g t v.cells.toList 0 old w hg (by simp; omega) (fun u hu => (Array.all_eq_true_iff_forall_mem.1 h1) u (by simpa using hu))
  obtain ⟨i, hq, hs⟩ := info_of hi
  simp [storeVar, sizeOf, typeInfo, hq, hs, this]
/-- a variable is made and given its value -/
theorem wpl_var {t : TypeId} {y : Operand} {vs : List Value} {z : Value} {ty2 : TypeId} {ps2 : String} {af2 : Array Edge} {n : Nat} (hw : Region.wanted (Oper.mk (some d) (.alloc t) ty ps af g) (yielded ops ts.toArray) = true)
    (hy : ((Act.mk ts.toArray df).eval y).cells = vs.toArray) (hne : y ≠ .tmp d) (hd : d < ts.length)
    (hz : (P.info? t).bind (·.zero) = some z) (hs : (P.info? t).map (·.size) = some n) (hn : n = vs.length) (hzn : z.cells.size = n) (h1 : vs.all (·.oneCell') = true)
    (h : ∀ p w', Ext w w' → Pts w' p vs → wpList P ops Q rest (Act.mk (ts.set d p).toArray df) w') :
    wpList P ops Q (Oper.mk (some d) (.alloc t) ty ps af g :: Oper.mk none (.store t (.tmp d) y) ty2 ps2 af2 none :: rest) (Act.mk ts.toArray df) w := by
  obtain ⟨i, hq, hsz⟩ := info_of hs
  have hzi : i.zero = some z := by simpa [hq] using hz
  unfold wpList
  rw [if_pos hw]
  refine .inl ?_
  unfold Oper.wp
  have hr : (execOp (Act.mk ts.toArray df).eval (Oper.mk (some d) (.alloc t) ty ps af g)).run P w = .ok (.value (.pointer (some ⟨w.heap.size, 0, none⟩))) (w.alloc (.cells z.cells t)) := by
    simp [execOp, Instr.alloc, zeroValue, typeInfo, hq, hzi, newVar, newRow]
  rw [hr]
  simp only [Oper.upon, Act.put]
  have hy' : ((Act.mk (ts.set d (.pointer (some ⟨w.heap.size, 0, none⟩))).toArray df).eval y).cells = vs.toArray := by
    rw [← hy]
    cases y with
    | tmp k =>
      have hk : d ≠ k := by rintro rfl; exact hne rfl
      simp [Act.eval, List.getElem?_set_ne hk]
    | _ => rfl
  have hr2 : (execOp (Act.mk (ts.set d (.pointer (some ⟨w.heap.size, 0, none⟩))).toArray df).eval (Oper.mk none (.store t (.tmp d) y) ty2 ps2 af2 none)).run P (w.alloc (.cells z.cells t)) = .ok .skip (w.alloc (.cells vs.toArray t)) := by
    have hst := run_storeVar_cells (P := P) (w := w.alloc (.cells z.cells t)) (g := w.heap.size) (t := t) (ty := t) (old := z.cells) (v := (Act.mk (ts.set d (.pointer (some ⟨w.heap.size, 0, none⟩))).toArray df).eval y)
      (heap_alloc_new w _) (by rw [hy', hs]; simpa using hn) (by rw [hy', hzn, hn]; simp) (by rw [hy']; simpa using h1)
    rw [hy', setRow_alloc_last] at hst
    have hp : (Act.mk (ts.set d (.pointer (some ⟨w.heap.size, 0, none⟩))).toArray df).eval (.tmp d) = .pointer (some ⟨w.heap.size, 0, none⟩) := by
      simp [Act.eval, hd]
    simp [execOp, Instr.storeAt, hp, Instr.sureAddr, hst]
  have hgoal : wpList P ops Q (Oper.mk none (.store t (.tmp d) y) ty2 ps2 af2 none :: rest) (Act.mk (ts.set d (.pointer (some ⟨w.heap.size, 0, none⟩))).toArray df) (w.alloc (.cells z.cells t)) := by
    unfold wpList
    rw [if_pos (by rfl)]
    refine .inl ?_
    unfold Oper.wp
    rw [hr2]
    simp only [Oper.upon, Act.put]
    exact h (.pointer (some ⟨w.heap.size, 0, none⟩)) (w.alloc (.cells vs.toArray t)) (Ext.alloc _ _) ⟨_, _, rfl, fun j x hj => by rw [Nat.zero_add, World.cell?_alloc_new]; simpa using hj⟩
  simpa using hgoal

/-! ### regions that draw their order: what is read and called yields one value in whatever order -/
theorem wpq_run {C : World → Prop} {QQ : Act → Prop} {v : Value} {op : Op} (hw : Region.wanted (Oper.mk (some d) op ty ps af g) (yielded ops ts.toArray) = true) (hr : ∀ w, C w → Runs P (Oper.mk (some d) op ty ps af g) (Act.mk ts.toArray df) w v)
    (h : wpQuiet P ops C QQ rest (Act.mk (ts.set d v).toArray df)) : wpQuiet P ops C QQ (Oper.mk (some d) op ty ps af g :: rest) (Act.mk ts.toArray df) := by
  unfold wpQuiet
  rw [if_pos hw]
  refine ⟨v, fun w hc => ?_, by simpa [Act.put] using h⟩
  unfold Oper.quietAt
  rw [(hr w hc).run]
  exact ⟨rfl, rfl⟩
theorem wpq_skip {C : World → Prop} {QQ : Act → Prop} {op : Op} (hw : Region.wanted (Oper.mk (some d) op ty ps af g) (yielded ops ts.toArray) = false)
    (h : wpQuiet P ops C QQ rest (Act.mk (ts.set d undef).toArray df)) : wpQuiet P ops C QQ (Oper.mk (some d) op ty ps af g :: rest) (Act.mk ts.toArray df) := by
  unfold wpQuiet
  rw [if_neg (by simp [hw])]
  simpa [Act.put] using h
theorem wpq_call {w0 : World} {QQ : Act → Prop} {f : FuncId} {xs : List Operand} {vs : List Value} {v : Value} (he : Enters P f) (hw : Region.wanted (Oper.mk (some d) (.call ⟨.value (.func f), xs.toArray, tys⟩) ty ps af g) (yielded ops ts.toArray) = true)
    (hxs : xs.map (Act.mk ts.toArray df).eval = vs) (hc : ∀ w, Ext w0 w → Calls P f vs.toArray w (RetV w v)) (h : wpQuiet P ops (Ext w0) QQ rest (Act.mk (ts.set d v).toArray df)) :
    wpQuiet P ops (Ext w0) QQ (Oper.mk (some d) (.call ⟨.value (.func f), xs.toArray, tys⟩) ty ps af g :: rest) (Act.mk ts.toArray df) := by
  subst hxs
  unfold wpQuiet
  rw [if_pos hw]
  refine ⟨v, fun w hx => ?_, by simpa [Act.put] using h⟩
  have hr : (execOp (Act.mk ts.toArray df).eval (Oper.mk (some d) (.call ⟨.value (.func f), xs.toArray, tys⟩) ty ps af g)).run P w = .ok (.enter f (xs.map (Act.mk ts.toArray df).eval).toArray) w := by
    have h1 := he (xs.map (Act.mk ts.toArray df).eval).toArray w
    simpa [execOp, resolve, Act.eval, Deferred.ofValue, invoke] using h1
  unfold Oper.quietAt
  rw [hr]
  exact ⟨rfl, (hc w hx).mono fun e w' ⟨h1, h2⟩ => ⟨h1, hx.trans h2⟩⟩
theorem wpq_nil {C : World → Prop} {QQ : Act → Prop} {a : Act} (h : QQ a) : wpQuiet P ops C QQ [] a := h
theorem wpq_region {id : Nat} {Q : Exit → Act → World → Prop} {a : Act} {w : World} {l : List Oper} (hm : P.follows .mixedOrders = true) (hB : Region.lexB .any l.toArray = true)
    (h : wpQuiet P l.toArray (Ext w) (fun a' => ∀ w', Ext w w' → Q .normal a' w') l a) : (Code.region id l.toArray true).wp P Q a w :=
  wp_region_quiet (C := Ext w) hm hB (Ext.drew w) (by simpa using h)
end
end Go.Proofs.X
