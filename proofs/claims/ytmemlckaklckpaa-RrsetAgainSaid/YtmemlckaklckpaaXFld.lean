/- A part of the proof of a statement on sets of records: what some functions of the program do, walked step by step. -/
import Derived.Test.YtmemlckaklckpaaXNil
set_option linter.unusedVariables false
set_option linter.unusedSimpArgs false
namespace Go.Proofs.X
open Go.RowKit
theorem set_eq_seg {α : Type} (cs : List α) (n : Nat) (v : α) (h : n < cs.length) : cs.set n v = cs.take n ++ [v] ++ cs.drop (n + 1) := by
  rw [List.set_eq_take_append_cons_drop, if_pos h]; simp
section
variable {P : Program} {ops : Array Oper} {Q : Exit → Act → World → Prop} {w : World} {rest : List Oper} {ts : List Value} {df : List Deferred} {ty : TypeId} {ps : String} {af : Array Edge} {g : Option (Nat × Bool)}
/-- one cell of a block of one's own is written -/
theorem run_store_cell {t ty : TypeId} {b n : Nat} {cs : List Value} {v : Value} (hb : w.heap[b]? = some (.cells cs.toArray t (0, 0))) (hn : n < cs.length) (hs : sizeTy P ty 1 = true) (h1 : v.oneCell' = true) :
    ∃ w', (storeVar ty ⟨b, n, none⟩ v).run P w = .ok () w' ∧ Put w w' b (.cells (cs.set n v).toArray t (0, 0)) := by
  have hc : v.cells = #[v] := by cases v <;> first | rfl | cases h1
  obtain ⟨i, hq, hsz⟩ := info_of (sizeTy_spec hs)
  have hr := run_storeCells_G P b n t (0, 0) [v] 0 cs.toArray w hb (.inl (Nat.le_refl _)) (by simp; omega) (by simpa using h1)
  simp only [Nat.add_zero, List.length_cons, List.length_nil, Nat.zero_add] at hr
  rw [← set_eq_seg cs n v hn] at hr
  refine ⟨w.setRow b (cs.set n v).toArray, ?_, rfl, rfl, rfl, by simp, setRow_heap w b _ _ t _ hb, fun k hk => setRow_other w b k _ hk, rfl⟩
  simp [storeVar, sizeOf, typeInfo, hq, hsz, hc, hr]
theorem wpl_storeF {t ty : TypeId} {x y : Operand} {b n : Nat} {cs : List Value} {v : Value} {ty2 : TypeId} (hb : w.heap[b]? = some (.cells cs.toArray t (0, 0))) (hw : Region.wanted (Oper.mk none (.store ty x y) ty2 ps af g) (yielded ops ts.toArray) = true)
    (hx : (Act.mk ts.toArray df).eval x = partPtr (.pointer (some ⟨b, 0, none⟩)) n) (hy : (Act.mk ts.toArray df).eval y = v) (hn : n < cs.length) (hs : sizeTy P ty 1 = true) (h1 : v.oneCell' = true)
    (h : ∀ w', Put w w' b (.cells (cs.set n v).toArray t (0, 0)) → wpList P ops Q rest (Act.mk ts.toArray df) w') : wpList P ops Q (Oper.mk none (.store ty x y) ty2 ps af g :: rest) (Act.mk ts.toArray df) w := by
  obtain ⟨w', hr, hp⟩ := run_store_cell (P := P) hb hn hs h1
  refine wpl_skipper hw (w' := w') ?_ (h w' hp)
  have e : partPtr (.pointer (some ⟨b, 0, none⟩)) n = .pointer (some ⟨b, n, none⟩) := by simp [partPtr, add_none]
  simp [execOp, hx, hy, e, Instr.storeAt, Instr.sureAddr, hr]
/-- a struct of no parts -/
theorem Runs.build0 {t : TypeId} {d : Option Nat} {cells : Array Value} (h : P.built t [] = some cells) :
    Runs P (Oper.mk d (.build t #[]) ty ps af g) (Act.mk ts.toArray df) w (.agg cells) := Runs.build (parts := []) (vals := []) rfl h
end
end Go.Proofs.X
