/- A part of the proof of a statement on sets of records: what some functions of the program do, walked step by step. -/
import Derived.Test.YtmemlckaklckpaaXIn
import Derived.Laws.IdiomStrings
import Derived.Laws.BytesArg
set_option linter.unusedVariables false
set_option linter.unusedSimpArgs false
namespace Go.Proofs.X
open Go.RowKit
/-! ### elements that are written; bytes -/
theorem flatten_set {k : Nat} {c : List Value} (hc : c.length = k) : ∀ (es : List (List Value)) (i : Nat), (∀ x ∈ es, x.length = k) → i < es.length → (es.set i c).flatten = es.flatten.take (i * k) ++ c ++ es.flatten.drop (i * k + k)
  | [], i, _, hi => by simp at hi
  | x :: es, 0, hall, hi => by
    have hx := hall x (by simp)
    simp only [List.set_cons_zero, List.flatten_cons, Nat.zero_mul, List.take_zero, List.nil_append, Nat.zero_add]
    rw [← hx, List.drop_left]
  | x :: es, i + 1, hall, hi => by
    have hx := hall x (by simp)
    simp only [List.set_cons_succ, List.flatten_cons]
    rw [flatten_set hc es i (fun y hy => hall y (by simp [hy])) (by simpa using hi)]
    rw [show (i + 1) * k = x.length + i * k by rw [hx, Nat.add_mul]; omega, List.take_length_add_append, Nat.add_assoc, List.drop_length_add_append]
    simp
def bcells (l : List UInt8) : List (List Value) := l.map fun b => [.int .u8 (b.toNat : Nat)]
theorem bcells_flat : ∀ l : List UInt8, (bcells l).flatten = l.map (fun b => Value.int .u8 (b.toNat : Nat))
  | [] => rfl
  | b :: l => by
    have := bcells_flat l
    simp only [bcells] at this ⊢
    simp [this]
theorem Own.store {P : Program} {B k e : Nat} {w : World} {v : Value} {es : List (List Value)} {t : TypeId} {i : Nat} {c : Value} (h : Own B k e w v es) (hi : i < es.length) (hc : c.cells.size = k) (hs : sizeTy P t k = true) (h1 : c.cells.all (·.oneCell') = true) :
    ∃ w' b o, elemPtr v (i * k) = .pointer (some ⟨b, o, none⟩) ∧ (storeVar t ⟨b, o, none⟩ c).run P w = .ok () w' ∧ Own B k e w' v (es.set i c.cells.toList) ∧ Mv v.ownBlock w w' := by
  rcases h.row.2 with ⟨rfl, h0⟩ | ⟨g, cap, cur, fz, rfl, hb, hg, hfz, hnc, hcm, hcs, htake⟩
  · omega
  · have hl := length_flatten_of h.each
    have hik : i * k + k ≤ es.length * k := by
      have : (i + 1) * k ≤ es.length * k := Nat.mul_le_mul_right k hi
      rwa [Nat.add_mul, Nat.one_mul] at this
    have hck : es.length * k ≤ cap * k := Nat.mul_le_mul_right k hnc
    have hst := run_storeCells_G P g (i * k) e fz c.cells.toList 0 cur w hg hfz (by simp [hc]; omega) (fun u hu => (Array.all_eq_true_iff_forall_mem.1 h1) u (by simpa using hu))
    simp only [Nat.add_zero] at hst
    obtain ⟨ti, hq, hsz⟩ := info_of (sizeTy_spec hs)
    have hall : ∀ x ∈ es.set i c.cells.toList, x.length = k := by
      intro x hx
      rcases List.mem_or_eq_of_mem_set hx with hx | rfl
      · exact h.each x hx
      · simpa using hc
    refine ⟨w.setRow g (cur.toList.take (i * k) ++ c.cells.toList ++ cur.toList.drop (i * k + c.cells.toList.length)).toArray, g, i * k, by simp [elemPtr, add_none], ?_, ⟨⟨?_, .inr ⟨g, cap, (cur.toList.take (i * k) ++ c.cells.toList ++ cur.toList.drop (i * k + c.cells.toList.length)).toArray, fz, ?_, hb, setRow_heap w g cur _ e _ hg, ?_, ?_, hcm, ?_, ?_⟩⟩, hall⟩, ⟨rfl, rfl, rfl, by simp, fun k _ hk => setRow_other w g k _ (fun e => hk (by simp [Value.ownBlock, e])), Nat.le_refl _⟩⟩
    · simpa [storeVar, sizeOf, typeInfo, hq, hsz, hc] using hst
    · rw [length_flatten_of hall]
    · simp
    · simp only [List.size_toArray, List.length_append, List.length_take, List.length_drop, Array.length_toList, hc]; omega
    · simpa using hnc
    · simp only [List.size_toArray, List.length_append, List.length_take, List.length_drop, Array.length_toList, hc]; omega
    · rw [flatten_set (by simpa using hc) es i h.each hi, ← htake]
      apply List.ext_getElem?
      intro j
      have hlc : c.cells.toList.length = k := by simpa using hc
      have hA : (cur.toList.take (i * k)).length = i * k := by simp; omega
      have hA2 : (List.take (i * k) (List.take (es.length * k) cur.toList)).length = i * k := by simp; omega
      rw [List.getElem?_take]
      simp only [List.length_set]
      simp only [List.append_assoc]
      simp only [List.getElem?_append, hA, hA2, hlc]
      by_cases h1 : j < i * k
      · rw [if_pos (by omega), if_pos h1, if_pos h1]
        simp only [List.getElem?_take]
        rw [if_pos h1, if_pos h1, if_pos (by omega)]
      · by_cases h2 : j - i * k < k
        · rw [if_neg h1, if_neg h1, if_pos h2, if_pos h2, if_pos (by omega)]
        · rw [if_neg h1, if_neg h1, if_neg h2, if_neg h2]
          simp only [List.getElem?_drop, List.getElem?_take]
          rw [show i * k + k + (j - i * k - k) = j by omega]
section
variable {P : Program} {ops : Array Oper} {Q : Exit → Act → World → Prop} {w : World} {rest : List Oper} {ts : List Value} {df : List Deferred} {ty : TypeId} {ps : String} {af : Array Edge} {g : Option (Nat × Bool)}
/-- an element is written -/
theorem wpl_storeE {B k e : Nat} {v c : Value} {es : List (List Value)} {t ty2 : TypeId} {x y : Operand} {i : Nat} (hw : Region.wanted (Oper.mk none (.store t x y) ty2 ps af g) (yielded ops ts.toArray) = true)
    (hx : (Act.mk ts.toArray df).eval x = elemPtr v (i * k)) (hy : (Act.mk ts.toArray df).eval y = c) (h : Own B k e w v es) (hi : i < es.length) (hc : c.cells.size = k) (hs : sizeTy P t k = true) (h1 : c.cells.all (·.oneCell') = true)
    (hk : ∀ w', Own B k e w' v (es.set i c.cells.toList) → Mv v.ownBlock w w' → wpList P ops Q rest (Act.mk ts.toArray df) w') : wpList P ops Q (Oper.mk none (.store t x y) ty2 ps af g :: rest) (Act.mk ts.toArray df) w := by
  obtain ⟨w', b, o, he, hr, ho, hm⟩ := h.store (P := P) hi hc hs h1
  refine wpl_skipper hw (w' := w') ?_ (hk w' ho hm)
  simp [execOp, hx, hy, he, Instr.storeAt, Instr.sureAddr, hr]
theorem wpl_storeE1 {B e : Nat} {v c : Value} {es : List (List Value)} {t ty2 : TypeId} {x y : Operand} {i : Nat} (hw : Region.wanted (Oper.mk none (.store t x y) ty2 ps af g) (yielded ops ts.toArray) = true)
    (hx : (Act.mk ts.toArray df).eval x = elemPtr v (i * 1)) (hy : (Act.mk ts.toArray df).eval y = c) (h : Own B 1 e w v es) (hi : i < es.length) (hs : sizeTy P t 1 = true) (h1 : c.oneCell' = true)
    (hk : ∀ w', Own B 1 e w' v (es.set i [c]) → Mv v.ownBlock w w' → wpList P ops Q rest (Act.mk ts.toArray df) w') : wpList P ops Q (Oper.mk none (.store t x y) ty2 ps af g :: rest) (Act.mk ts.toArray df) w := by
  have hc : c.cells = #[c] := by cases c <;> first | rfl | cases h1
  refine wpl_storeE hw hx hy h hi (by rw [hc]; rfl) hs (by rw [hc]; simpa using h1) ?_
  rw [hc]
  exact hk
def bytesTy (P : Program) (t e : TypeId) : Bool := (match P.underlying t with | some (.slice e') => e' == e | _ => false) && (match P.underlying e with | some (.int .u8) => true | _ => false)
theorem bytesTy_spec {t e : TypeId} (h : bytesTy P t e = true) : P.underlying t = some (.slice e) ∧ P.underlying e = some (.int .u8) := by
  unfold bytesTy at h
  simp only [Bool.and_eq_true] at h
  constructor
  · split at h
    · rename_i e' he; have : e' = e := by simpa using h.1
      rw [he, this]
    · cases h.1
  · have h2 := h.2
    split at h2
    · assumption
    · cases h2
/-- a string's bytes in a slice of their own -/
theorem wpl_bytes {s t e : TypeId} {d : Nat} {x : Operand} {l : List UInt8} (hw : Region.wanted (Oper.mk (some d) (.convert s t x) ty ps af g) (yielded ops ts.toArray) = true)
    (hx : (Act.mk ts.toArray df).eval x = str l) (hs : strTy P s = true) (ht : bytesTy P t e = true) (hl : l.length ≤ 9223372036854775807)
    (h : ∀ v' w', Ext w w' → Own w.heap.size 1 e w' v' (bcells l) → wpList P ops Q rest (Act.mk (ts.set d v').toArray df) w') :
    wpList P ops Q (Oper.mk (some d) (.convert s t x) ty ps af g :: rest) (Act.mk ts.toArray df) w := by
  obtain ⟨h1, h2⟩ := bytesTy_spec ht
  have hr := run_bytes_of_string (P := P) w s t e ⟨l.toArray⟩ (strTy_spec hs) h1 h2
  unfold wpList
  rw [if_pos hw]
  refine .inl ?_
  unfold Oper.wp
  have hr' : (execOp (Act.mk ts.toArray df).eval (Oper.mk (some d) (.convert s t x) ty ps af g)).run P w = .ok (.value (.slice (some ⟨w.heap.size, 0, none⟩) (ByteArray.mk l.toArray).size (grownCap w (ByteArray.mk l.toArray).size 0 e)))
      (w.drew.alloc (.cells (bytesRow ⟨l.toArray⟩ (grownCap w (ByteArray.mk l.toArray).size 0 e)) e ((bytesRow ⟨l.toArray⟩ (grownCap w (ByteArray.mk l.toArray).size 0 e)).size, (bytesRow ⟨l.toArray⟩ (grownCap w (ByteArray.mk l.toArray).size 0 e)).size + 1))) := by
    simp only [execOp, hx, str, Sem.run_bind, hr, Result.andThen_ok, Sem.run_pure]
  rw [hr']
  rw [size_mk]
  have hge := grownCap_ge w l.length 0 e
  have hcm := grownCap_le_maxLen w l.length 0 e (by unfold maxLen; omega)
  have hall : ∀ x ∈ bcells l, x.length = 1 := by
    intro x hx
    obtain ⟨b, _, rfl⟩ := List.mem_map.1 hx
    rfl
  have hfl := bcells_flat l
  have hsz : (bytesRow ⟨l.toArray⟩ (grownCap w l.length 0 e)).size = grownCap w l.length 0 e := by
    simp [bytesRow, size_mk, -ByteArray.size_data]; omega
  have ho : Own w.heap.size 1 e (w.drew.alloc (.cells (bytesRow ⟨l.toArray⟩ (grownCap w l.length 0 e)) e ((bytesRow ⟨l.toArray⟩ (grownCap w l.length 0 e)).size, (bytesRow ⟨l.toArray⟩ (grownCap w l.length 0 e)).size + 1)))
      (.slice (some ⟨w.heap.size, 0, none⟩) l.length (grownCap w l.length 0 e)) (bcells l) := by
    refine ⟨⟨by rw [length_flatten_of hall], .inr ⟨w.heap.size, grownCap w l.length 0 e, _, _, by simp [bcells], Nat.le_refl _, heap_alloc_new w.drew _, .inr (Nat.le_refl _), by simpa [bcells] using hge, hcm, by rw [hsz]; simp, ?_⟩⟩, hall⟩
    rw [hfl]
    simp only [bcells, List.length_map, Nat.mul_one, bytesRow, Array.toList_append, Array.toList_map]
    rw [List.take_append_of_le_length (by simp), List.take_of_length_le (by simp)]
  have := h _ _ ((Ext.drew w).trans (Ext.alloc w.drew _)) ho
  simpa [Oper.upon, Act.put] using this
/-- bytes as a string -/
theorem Runs.strOf {s t e : TypeId} {m : Nat} {d : Option Nat} {l : List UInt8} (h : Sl 1 w (ts.getD m undef) (bcells l)) (hs : bytesTy P s e = true) (ht : strTy P t = true) :
    Runs P (Oper.mk d (.convert s t (.tmp m)) ty ps af g) (Act.mk ts.toArray df) w (str l) := by
  obtain ⟨h1, h2⟩ := bytesTy_spec hs
  obtain ⟨ad, cap, he, ha, hb, hc, hd, hf⟩ := h
  have e1 : (Act.mk ts.toArray df).eval (.tmp m) = ts.getD m undef := evalT m
  constructor
  have hlen : (bcells l).length = l.length := by simp [bcells]
  cases ad with
  | none =>
    have h0 := hd rfl
    have : l = [] := List.eq_nil_of_length_eq_zero (by rw [hlen] at ha; omega)
    subst this
    have hr := run_convert_bytes_nil (P := P) (w := w) s e h1 h2 0 cap t (strTy_spec ht)
    simp only [execOp, e1, he, hlen, List.length_nil, Sem.run_bind, hr, Result.andThen_ok, Sem.run_pure, str]
    rfl
  | some a =>
    have hne : ∀ j (hj : j < l.length), w.cell? (a.add j) = some (.int .u8 (l[j].toNat : Int)) := by
      intro j hj
      obtain ⟨b, o, hao, hcc⟩ := hf (by intro h; rw [h] at hlen; simp at hlen; omega)
      have := hcc j [.int .u8 (l[j].toNat : Nat)] 0 _ (by simp [bcells, hj]) rfl
      cases hao
      simpa [add_none] using this
    have hr := run_convert_bytes_back (P := P) w s t e a cap l h1 h2 (strTy_spec ht) hne
    simp only [execOp, e1, he, hlen, Sem.run_bind, hr, Result.andThen_ok, Sem.run_pure, str]
end
end Go.Proofs.X
