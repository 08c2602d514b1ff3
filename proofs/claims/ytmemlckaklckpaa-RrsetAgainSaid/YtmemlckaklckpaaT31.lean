/- A part of the proof of a statement on sets of records: what some functions of the program do, walked step by step. -/
import Derived.Test.YtmemlckaklckpaaProg
import Derived.Test.YtmemlckaklckpaaT30
set_option linter.unusedSimpArgs false
set_option linter.unusedVariables false
namespace Go.Proofs.X
open Go.RowKit
set_option maxRecDepth 100000
theorem pw_set {α : Type} {R : α → α → Prop} {l : List α} {i : Nat} {c : α} (h : l.Pairwise R) (hi : i < l.length) (h1 : ∀ j (hj : j < i), R l[j] c) (h2 : ∀ j (hj : i < j) (hl : j < l.length), R c l[j]) : (l.set i c).Pairwise R := by
  rw [List.pairwise_iff_getElem] at *
  intro p q hp hq hpq
  simp only [List.length_set] at hp hq
  simp only [List.getElem_set]
  by_cases e1 : i = p
  · subst e1
    rw [if_pos rfl, if_neg (by omega)]
    exact h2 q hpq hq
  · by_cases e2 : i = q
    · subst e2
      rw [if_neg e1, if_pos rfl]
      exact h1 p hpq
    · rw [if_neg e1, if_neg e2]
      exact h p q hp hq hpq
theorem GS.split {w : World} {B : Nat} {gcs : List GC} (h : GS w B gcs) {i j : Nat} {c c' : GC} (hi : gcs[i]? = some c) (hj : gcs[j]? = some c') (hij : i ≠ j) : c.b ≠ c'.b ∧ (c.v.ownBlock = none ∨ c'.v.ownBlock = none ∨ c.v.ownBlock ≠ c'.v.ownBlock) := by
  have := List.pairwise_iff_getElem.1 h.apart
  obtain ⟨hi2, e1⟩ := List.getElem?_eq_some_iff.1 hi
  obtain ⟨hj2, e2⟩ := List.getElem?_eq_some_iff.1 hj
  subst e1 e2
  rcases Nat.lt_or_ge i j with h1 | h1
  · exact this i j hi2 hj2 h1
  · obtain ⟨a, b⟩ := this j i hj2 hi2 (by omega)
    exact ⟨fun e => a e.symm, by rcases b with b | b | b; exact .inr (.inl b); exact .inl b; exact .inr (.inr fun e => b e.symm)⟩
theorem mem_set_at {α : Type} {l : List α} {i : Nat} {c x : α} (h : x ∈ l.set i c) : x = c ∨ ∃ j, j ≠ i ∧ l[j]? = some x := by
  obtain ⟨j, hj⟩ := List.mem_iff_getElem?.1 h
  by_cases e : j = i
  · subst e
    have hl : j < l.length := by simpa using (List.getElem?_eq_some_iff.1 hj).1
    rw [List.getElem?_set_self hl] at hj
    exact .inl (Option.some.inj hj).symm
  · rw [List.getElem?_set_ne (Ne.symm e)] at hj
    exact .inr ⟨j, e, hj⟩
/-- one set is another one: its data's row may be another one, or turned -/
theorem GS.turn {w w1 w2 : World} {B : Nat} {gcs : List GC} {i : Nat} {c c' : GC} (h : GS w B gcs) (hi : gcs[i]? = some c) (hb : c'.b = c.b) (m : Mv c.v.ownBlock w w1) (o : Own B 1 9 w1 c'.v (tcells c'.s.data))
    (kin : c'.v.ownBlock = c.v.ownBlock ∨ c'.v.ownBlock = some w.heap.size) (hp : Put w1 w2 c.b (.cells c'.cells.toArray 37 (0, 0))) : GS w2 B (gcs.set i c') := by
  have hc := h.each c (List.mem_of_getElem? hi)
  have hil := (List.getElem?_eq_some_iff.1 hi).1
  have hcb : c.v.ownBlock ≠ some c.b := hc.own.neBlock hc.blk (by omega)
  have ho : Own B 1 9 w2 c'.v (tcells c'.s.data) := o.mv hp.mv (.inr (o.neBlock (cs := c.cells.toArray) (fz := (0, 0)) (m.at hc.blk (fun e => hcb e.symm)) (by omega)))
  have hother : ∀ j x, j ≠ i → gcs[j]? = some x → GOK w2 B x ∧ x.b ≠ c.b ∧ (x.v.ownBlock = none ∨ x.v.ownBlock ≠ c'.v.ownBlock) := by
    intro j x hj hx
    have hxo := h.each x (List.mem_of_getElem? hx)
    obtain ⟨s1, s2⟩ := h.split hx hi hj
    have n1 : some x.b ≠ c.v.ownBlock := fun e => (hc.own.neBlock hxo.blk (by omega)) e.symm
    have n2 : x.v.ownBlock = none ∨ x.v.ownBlock ≠ c.v.ownBlock := by
      rcases s2 with s2 | s2 | s2
      · exact .inl s2
      · cases hv : x.v.ownBlock with
        | none => exact .inl rfl
        | some r => rw [s2]; exact .inr (by simp)
      · exact .inr s2
    have g1 := hxo.mv m n1 n2
    refine ⟨g1.mv hp.mv (fun e => s1 (Option.some.inj e)) (.inr (hxo.own.neBlock hc.blk (by omega))), s1, ?_⟩
    rcases kin with k | k
    · rw [k]; exact n2
    · rw [k]
      cases hv : x.v.ownBlock with
      | none => exact .inl rfl
      | some r => exact .inr fun e => by have := (hxo.own.block r hv).2; have := Option.some.inj e; omega
  refine ⟨fun x hx => ?_, pw_set h.apart hil (fun j hj => ?_) (fun j hj hl => ?_)⟩
  · rcases mem_set_at hx with rfl | ⟨j, hj, hx⟩
    · exact ⟨by rw [hb]; exact hp.this, by rw [hb]; exact hc.ge, ho⟩
    · exact (hother j x hj hx).1
  · obtain ⟨_, a, b⟩ := hother j gcs[j] (by omega) (List.getElem?_eq_getElem (by omega))
    exact ⟨by rw [hb]; exact a, by rcases b with b | b; exact .inl b; exact .inr (.inr b)⟩
  · obtain ⟨_, a, b⟩ := hother j gcs[j] (by omega) (List.getElem?_eq_getElem hl)
    exact ⟨by rw [hb]; exact fun e => a e.symm, by rcases b with b | b; exact .inr (.inl b); exact .inr (.inr fun e => b e.symm)⟩
/-- a set is put to them -/
theorem GS.push {w : World} {B : Nat} {gcs : List GC} {c : GC} (h : GS w B gcs) (hc : GOK w B c) (hn : ∀ x ∈ gcs, x.b ≠ c.b) (hv : c.v.ownBlock = none) : GS w B (gcs ++ [c]) := by
  refine ⟨fun x hx => ?_, ?_⟩
  · rcases List.mem_append.1 hx with hx | hx
    · exact h.each x hx
    · rw [List.mem_singleton.1 hx]; exact hc
  · rw [List.pairwise_append]
    refine ⟨h.apart, by simp, fun x hx y hy => ?_⟩
    rw [List.mem_singleton.1 hy]
    exact ⟨hn x hx, .inr (.inl hv)⟩
/-- what leaves all of them alone -/
theorem GS.mv {w w' : World} {B : Nat} {gcs : List GC} {row : Option Nat} (h : GS w B gcs) (hm : Mv row w w') (h1 : ∀ c ∈ gcs, some c.b ≠ row ∧ (c.v.ownBlock = none ∨ c.v.ownBlock ≠ row)) : GS w' B gcs :=
  ⟨fun c hc => (h.each c hc).mv hm (h1 c hc).1 (h1 c hc).2, h.apart⟩
theorem kt48 : Try.prog.keyTypeAt 2 48 = true := by kernel_rfl
theorem ktiled48 : Try.prog.tiled 2 48 = true := by kernel_rfl
theorem law48 : WideMaps.KeyLaw Try.prog 48 := deep_law (m := 2) (by omega) kt48 ktiled48 (by kernel_rfl)
theorem keyOf48 (n : List UInt8) (k : Int) (hn : n.length ≤ 1000000) (hk : 0 ≤ k ∧ k ≤ 65535) : ∃ l, keyOf Try.prog 48 (.agg #[str n, .int .i64 k]) = some l := by
  unfold keyOf
  rw [Try.underlying48]
  have kt2 : Try.prog.keyType 48 = true := by kernel_rfl
  simp only [kt2]
  rw [show Try.prog.types.size = 155 from by kernel_rfl]
  have c48 : Try.prog.cellsOf 48 = 2 := by kernel_rfl
  have c30 : Try.prog.cellsOf 30 = 1 := by kernel_rfl
  have c3 : Try.prog.cellsOf 3 = 1 := by kernel_rfl
  have f : Value.formed Try.prog 48 (Value.agg #[str n, Value.int IntKind.i64 k]) = true := by simp [Value.formed, Try.underlying48, c48]
  have hs : (ByteArray.mk n.toArray).size ≤ maxLen := by rw [size_mk]; unfold maxLen; omega
  have hw : (Lit.int .i64 k).wf = true := by simp [Lit.wf, IntKind.min, IntKind.max, IntKind.bits, IntKind.signed]; omega
  have l30 : Try.prog.keyLits 155 30 [str n] = some [.string n] := by simp [Program.keyLits, Try.underlying30, str, -ByteArray.size_data, hs]
  have l3 : Try.prog.keyLits 155 3 [Value.int .i64 k] = some [.int .i64 k] := by simp [Program.keyLits, Try.underlying3, hw]
  rw [f]
  simp only [Bool.and_self, if_true]
  unfold Program.keyLits
  simp [Try.underlying48, c48, c30, c3, Value.cells, l30, l3]
/-- what Group holds while it gathers -/
structure L1 (w0 w : World) (kv : Value) (gcs : List GC) : Prop where
  ext : Ext w0 w
  map : MapAt Try.prog 48 w w0.heap.size (gcs.map GC.key)
  keys : Own (w0.heap.size + 1) 2 48 w kv (gcs.map GC.kcells)
  sets : GS w (w0.heap.size + 1) gcs
theorem L1.grow {w0 w w' : World} {kv : Value} {gcs : List GC} (h : L1 w0 w kv gcs) (hx : Ext w w') : L1 w0 w' kv gcs :=
  ⟨h.ext.trans hx, h.map.at (fun o ho => hx.at ho), h.keys.ext hx, h.sets.ext hx⟩

end Go.Proofs.X
