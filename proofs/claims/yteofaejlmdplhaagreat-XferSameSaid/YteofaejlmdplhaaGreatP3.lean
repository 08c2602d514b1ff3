/- Laws and walks that the proof of the statement is made of (part 3). -/
import Derived.Test.YteofaejlmdplhaaGreatP2
set_option linter.unusedVariables false
set_option linter.unusedSimpArgs false
namespace Go.Proofs.X
open Go.RowKit
section
variable {P : Program} {a : Act} {w : World} {d : Option Nat} {ty : TypeId} {ps : String} {af : Array Edge} {g : Option (Nat × Bool)}
theorem Runs.cutC {t : TypeId} {x lo hi : Operand} {k m n l c : Nat} {ad : Option Addr} (hx : a.eval x = .slice ad l c) (h1 : a.eval lo = .int .i64 (m : Nat)) (h2 : a.eval hi = .int .i64 (n : Nat)) (hmn : m ≤ n) (hn : n ≤ c) (ht : dO P t k = true) :
 Runs P (Oper.mk d (.slice t x (some lo) (some hi) none) ty ps af g) a w (.slice (if c = m then ad else ad.map (·.add (m * k))) (n - m) (c - m)) := by
 obtain ⟨e, ie, ht, hie, hz⟩ := cS ht
 constructor
 simp [execOp, hx, h1, h2, Instr.sliceAt, Instr.slice, run_underlying ht, Instr.sliceBounds, Instr.sliceBound, asIntOf, sizeOf, typeInfo, hie, hz, hmn, hn]
theorem Runs.cut3 {t : TypeId} {x lo hi mx : Operand} {k m n p l c : Nat} {ad : Option Addr} (hx : a.eval x = .slice ad l c) (h1 : a.eval lo = .int .i64 (m : Nat)) (h2 : a.eval hi = .int .i64 (n : Nat)) (h3 : a.eval mx = .int .i64 (p : Nat)) (hmn : m ≤ n) (hn : n ≤ p) (hp : p ≤ c) (ht : dO P t k = true) :
 Runs P (Oper.mk d (.slice t x (some lo) (some hi) (some mx)) ty ps af g) a w (.slice (if p = m then ad else ad.map (·.add (m * k))) (n - m) (p - m)) := by
 obtain ⟨e, ie, ht, hie, hz⟩ := cS ht
 constructor
 simp [execOp, hx, h1, h2, h3, Instr.sliceAt, Instr.slice, run_underlying ht, Instr.sliceBounds, Instr.sliceBound, asIntOf, sizeOf, typeInfo, hie, hz, hmn, hn, hp]
theorem Runs.capC {t : TypeId} {x : Operand} {k l c : Nat} {ad : Option Addr} (hx : a.eval x = .slice ad l c) (ht : dO P t k = true) :
 Runs P (Oper.mk d (.call ⟨.builtin .cap, #[x], #[t]⟩) ty ps af g) a w (.int .i64 c) := by
 obtain ⟨e, ie, ht, hie, hz⟩ := cS ht
 constructor
 simp [execOp, resolve, invoke, builtin, hx, Builtin.cap_, run_underlying ht, goInt]
theorem Runs.takeC {t : TypeId} {x hi : Operand} {k n l c : Nat} {ad : Option Addr} (hx : a.eval x = .slice ad l c) (h2 : a.eval hi = .int .i64 (n : Nat)) (hn : n ≤ c) (ht : dO P t k = true) :
 Runs P (Oper.mk d (.slice t x none (some hi) none) ty ps af g) a w (.slice (if c = 0 then ad else ad.map (·.add (0 * k))) (n - 0) (c - 0)) := by
 obtain ⟨e, ie, ht, hie, hz⟩ := cS ht
 constructor
 simp [execOp, hx, h2, Instr.sliceAt, Instr.slice, run_underlying ht, Instr.sliceBounds, Instr.sliceBound, asIntOf, sizeOf, typeInfo, hie, hz, hn]
end
theorem Sl.news {k n cap : Nat} {w : World} {a : Addr} {fs : List (List Value)} (hx : Sl k w (.slice (some a) n cap) fs) (hk : 0 < k) : ∀ j u, fs.flatten[j]? = some u → w.cell? (a.add j) = some u := by
 obtain ⟨ad, cap', he, h2, h3, h4, h5, h6⟩ := hx
 cases he
 intro j u hj
 by_cases hne : fs = []
 ·subst hne; simp at hj
 ·obtain ⟨b, o, he, hc⟩ := h6 hne
  cases he
  have hlen := aY h4
  have hjl : j < fs.length * k := by rw [← hlen]; exact (List.getElem?_eq_some_iff.1 hj).1
  have hdm : j = (j / k) * k + j % k := by rw [Nat.mul_comm]; exact (Nat.div_add_mod j k).symm
  have hlt : j / k < fs.length := Nat.div_lt_of_lt_mul (by rw [Nat.mul_comm]; exact hjl)
  have hml : j % k < (fs[j / k]).length := by rw [h4 _ (List.getElem_mem hlt)]; exact Nat.mod_lt _ hk
  have hf := iK h4 (i := j / k) (e := fs[j / k]) (j := j % k) (x := (fs[j / k])[j % k]) (List.getElem?_eq_getElem hlt) (List.getElem?_eq_getElem hml)
  rw [← hdm, hj] at hf
  have := hc (j / k) fs[j / k] (j % k) u (List.getElem?_eq_getElem hlt) (by rw [List.getElem?_eq_getElem hml]; exact hf.symm)
  rw [cR]
  rw [Nat.add_assoc, ← hdm] at this
  exact this
section
variable {P : Program} {ops : Array Oper} {Q : Exit → Act → World → Prop} {w : World} {rest : List Oper} {ts : List Value} {df : List Deferred} {ty : TypeId} {ps : String} {af : Array Edge}
theorem DJ {t e k B g cap i j d : Nat} {x y : Operand} {es : List (List Value)} (hw : Own B k e w (.slice (some ⟨g, 0, none⟩) es.length cap) es)
 (hx : (Act.mk ts.toArray df).eval x = .slice (some ⟨g, 0, none⟩) i cap) {ad : Addr} {c : Nat} (hy : (Act.mk ts.toArray df).eval y = .slice (some ad) (es.length - j) c) (hs : Sl k w (.slice (some ad) (es.length - j) c) (es.drop j)) (hij : i ≤ j) (hj : j ≤ es.length) (h1 : ∀ f ∈ es, ∀ u ∈ f, u.oneCell' = true)
 (h : ∀ w', Own B k e w' (.slice (some ⟨g, 0, none⟩) es.length cap) (es.take i ++ es.drop j ++ es.drop (i + (es.length - j))) → Mv (some g) w w' → wpList P ops Q rest (Act.mk (ts.set d (.slice (some ⟨g, 0, none⟩) (i + (es.length - j)) cap)).toArray df) w')
 (ht : jN P t e k (bytesOf P e) = true := by decide +kernel) :
 wpList P ops Q (Oper.mk (some d) (.call ⟨.builtin .append, #[x, y], #[t, t]⟩) ty ps af none :: rest) (Act.mk ts.toArray df) w := by
 obtain ⟨hu, inf, z', hi, hzi, hzc, hsz, hb, hk⟩ := fS ht
 have hfl : (es.drop j).length = es.length - j := by simp
 have hall : ∀ f ∈ es.drop j, f.length = k := fun f hf => hw.each f (List.mem_of_mem_drop hf)
 obtain ⟨cur, fz, hg, hfz, hnc, h3, h4, ho, hm⟩ := hw.over (i := i) (fs := es.drop j) (by rw [hfl]; omega) hall
 have hfl2 := aY hall
 have hr := lF (P := P) w t ty e inf hu hi g i cap cur fz hg hfz ad (es.length - j) c (es.drop j).flatten (by rw [hfl2, hfl, hsz]) (hs.news hk)
  (fun u hu' => by obtain ⟨f, hf, hfu⟩ := List.mem_flatten.1 hu'; exact h1 f (List.mem_of_mem_drop hf) u hfu) (by omega) (by rw [hsz]; omega)
 rw [hsz] at hr
 rw [hfl] at ho
 refine kP rfl ?_ (h _ ho hm)
 simp [execOp, resolve, invoke, builtin, hx, hy, hr]
theorem FT {t e k B g cap m : Nat} {a : Act} {y : Operand} {z : List Value} {c : Nat} {es : List (List Value)} (hw : Own B k e w (.slice (some ⟨g, 0, none⟩) es.length cap) es)
 (hy : a.eval y = .slice (some ⟨g, m * k, none⟩) (es.length - m) c) (hm : m < es.length)
 (h : ∀ w', Own B k e w' (.slice (some ⟨g, 0, none⟩) m cap) (es.take m) → Mv (some g) w w' → wpList P ops Q rest a w')
 (ht : jN P t e k (bytesOf P e) = true := by decide +kernel) (hz : sJ P e z = true := by decide +kernel) (hzl : z.length = k := by rfl) (h1 : ∀ u ∈ z, u.oneCell' = true := by decide +kernel) :
 wpList P ops Q (Oper.mk none (.call ⟨.builtin .clear, #[y], #[t]⟩) ty ps af none :: rest) a w := by
 obtain ⟨hu, inf, z', hi, hzi, hzc, hsz, hb, hk⟩ := fS ht
 obtain ⟨i2, v2, hi2, hz2, hc2⟩ := kN hz
 rw [hi] at hi2; cases hi2
 rw [hzi] at hz2; cases hz2
 have hall : ∀ f ∈ List.replicate (es.length - m) z, f.length = k := by intro f hf; rw [List.eq_of_mem_replicate hf]; exact hzl
 obtain ⟨cur, fz, hg, hfz, hnc, h3, h4, ho, hmv⟩ := hw.over (i := m) (fs := List.replicate (es.length - m) z) (by simp; omega) hall
 have hcells : (Builtin.zeroCells z.toArray (es.length - m)).toList = (List.replicate (es.length - m) z).flatten := by
  have := tJ (z := z) (by omega) (es.length - m)
  rw [← this]
  simp [Builtin.zeroCells, madeCells]
 have hst := cX P g (m * k) e fz (List.replicate (es.length - m) z).flatten 0 cur w hg hfz (by omega) (by
  intro u hu'
  obtain ⟨f, hf, hfu⟩ := List.mem_flatten.1 hu'
  rw [List.eq_of_mem_replicate hf] at hfu
  exact h1 u hfu)
 simp only [Nat.add_zero] at hst
 obtain ⟨n', hn'⟩ : ∃ n', es.length - m = n' + 1 := ⟨es.length - m - 1, by omega⟩
 have hr : (Builtin.clear_ #[t] ty #[.slice (some ⟨g, m * k, none⟩) (es.length - m) c]).run P w = .ok (.tuple #[]) (w.setRow g (cur.toList.take (m * k) ++ (List.replicate (es.length - m) z).flatten ++ cur.toList.drop (m * k + (List.replicate (es.length - m) z).flatten.length)).toArray) := by
  rw [hn'] at hcells hst ⊢
  simp [Builtin.clear_, run_underlying hu, zeroValue, typeInfo, hi, hzi, hc2, hcells, hst]
 have htk : (es.take m ++ List.replicate (es.length - m) z ++ es.drop (m + (List.replicate (es.length - m) z).length)).take m = es.take m := by
  rw [List.append_assoc, List.take_append_of_le_length (by simp; omega), List.take_take, Nat.min_self]
 have hs := ho.short (m := m) (by simp; omega)
 rw [htk] at hs
 refine wpList_plain rfl fun K hK => ?_
 unfold Oper.wp execOp
 simp only [resolve, invoke, builtin, Sem.run_bind, Sem.run_pure, Result.andThen_ok, List.map_toArray, List.map_cons, List.map_nil, hy, hr]
 exact hK _ _ (h _ hs hmv)
theorem KS {t e k n d : Nat} {x y : Operand} {z : List Value} (hx : (Act.mk ts.toArray df).eval x = .slice none 0 0) (hy : (Act.mk ts.toArray df).eval y = .int .i64 (n : Nat)) (h0 : 0 < n) (hn : n ≤ 1000000)
 (h : ∀ g cap w', Ext w w' → Own w.heap.size k e w' (.slice (some ⟨g, 0, none⟩) n cap) (List.replicate n z) → wpList P ops Q rest (Act.mk (ts.set d (.slice (some ⟨g, 0, none⟩) n cap)).toArray df) w') {tn : TypeId}
 (ht : jN P t e k (bytesOf P e) = true := by decide +kernel) (htn : lD P tn .i64 = true := by decide +kernel) (hz : sJ P e z = true := by decide +kernel) (hzl : z.length = k := by rfl) (hby : bytesOf P e ≤ 1000000 := by decide +kernel) :
 wpList P ops Q (Oper.mk (some d) (.call ⟨.builtin .append, #[x, y], #[t, tn]⟩) ty ps af none :: rest) (Act.mk ts.toArray df) w := by
 obtain ⟨hu, inf, z', hi, hzi, hzc, hsz, hb, hk⟩ := fS ht
 obtain ⟨i2, v2, hi2, hz2, hc2⟩ := kN hz
 rw [hi] at hi2; cases hi2
 rw [hzi] at hz2; cases hz2
 have hbn : n * inf.bytes ≤ 1000000 * 1000000 := by rw [hb]; exact Nat.mul_le_mul hn hby
 have hr := Lib.run_append_grow_zeros (P := P) w t tn ty e inf z' .i64 .i64 hu (jW htn) hi hzi none 0 0 [] (run_firstCells_none w.drew inf.size 0 0 0) n h0 (by omega) (by omega) (by omega) (by omega) (growslice_fits (by omega) (by rw [Nat.zero_add]; omega))
 rw [hc2] at hr
 simp only [Nat.zero_add, List.nil_append] at hr
 have hge := grownCap_ge w n 0 e
 have hcm := grownCap_le_maxLen w n 0 e (by unfold maxLen; omega)
 have hm : ∀ m, (Builtin.zeroCells z.toArray m).toList = (List.replicate m z).flatten := by
  intro m
  have := tJ (z := z) (by omega) m
  rw [← this]
  simp [Builtin.zeroCells, madeCells]
 generalize grownCap w n 0 e = cap at hr hge hcm
 have hr' : (execOp (Act.mk ts.toArray df).eval (Oper.mk (some d) (.call ⟨.builtin .append, #[x, y], #[t, tn]⟩) ty ps af none)).run P w = .ok (.value (.slice (some ⟨w.heap.size, 0, none⟩) n cap)) (w.drew.alloc (.cells (#[] ++ Builtin.zeroCells z.toArray n ++ Builtin.zeroCells z.toArray (cap - n)) e)) := by
  simp [execOp, resolve, invoke, builtin, hx, hy, hr]
 refine kP rfl hr' (h _ _ _ ((Ext.drew w).trans (Ext.alloc _ _)) ⟨⟨by simp [hzl], .inr ⟨w.heap.size, cap, _, (0, 0), by simp, Nat.le_refl _, heap_alloc_new w.drew _, .inl (Nat.le_refl _), by simpa using hge, hcm, ?_, ?_⟩⟩, by intro x hx; rw [List.eq_of_mem_replicate hx]; exact hzl⟩)
 ·simp only [Array.size_append, size_zeroCells, List.size_toArray, List.length_nil, hzl, Nat.zero_add, ← Nat.add_mul]
  congr 1; omega
 ·simp only [Array.toList_append, hm, List.length_replicate]
  have : ((List.replicate n z).flatten).length = n * k := by simp [hzl]
  rw [← this]
  simp
end
end Go.Proofs.X
set_option linter.unusedVariables false
set_option linter.unusedSimpArgs false
namespace Go.Proofs.X
open Go.RowKit
set_option maxRecDepth 100000
theorem zO {G A : Prop} (hA : A) (e : Hid A → G := by (intro kA; (repeat' first | ((with_reducible refine cY ?_); go_step) | ((with_reducible refine bR ?_); refine fM ?_) | fail); (with_reducible exact kA.out))) : G := e ⟨hA⟩
theorem RS {G A : Prop} (hA : A) (e : Hid A → G := by (intro kA; (repeat' first | ((with_reducible refine cY ?_); go_step) | ((with_reducible refine bR ?_); refine fM ?_) | fail); (rename_i z0; revert z0; with_reducible exact kA.out))) : G := e ⟨hA⟩
theorem SE {G A : Prop} (hA : A) (e : Hid A → G := by (intro kA; (repeat' first | ((with_reducible refine cY ?_); go_step) | ((with_reducible refine bR ?_); refine fM ?_) | fail); (rename_i z0 z1; revert z0 z1; with_reducible exact kA.out))) : G := e ⟨hA⟩
theorem VI {G A : Prop} (hA : A) (e : Hid A → G := by (intro kA; (repeat' first | ((with_reducible refine cY ?_); go_step) | ((with_reducible refine bR ?_); refine fM ?_) | fail); (rename_i z0 z1 z2; revert z0 z1 z2; with_reducible exact kA.out))) : G := e ⟨hA⟩
theorem TW {G A : Prop} (hA : A) (e : Hid A → G := by (intro kA; (repeat' first | ((with_reducible refine cY ?_); go_step) | ((with_reducible refine bR ?_); refine fM ?_) | fail); (rename_i z0 z1 z2 z3; revert z0 z1 z2 z3; with_reducible exact kA.out))) : G := e ⟨hA⟩
theorem RT {G A : Prop} (hA : A) (e : Hid A → G := by (intro kA; (repeat' first | ((with_reducible refine cY ?_); go_step) | ((with_reducible refine bR ?_); refine fM ?_) | fail); (rename_i z0 z1 z2 z3 z4; revert z0 z1 z2 z3 z4; with_reducible exact kA.out))) : G := e ⟨hA⟩
theorem dX {G A : Prop} (hA : A) (e : Hid A → G := by (intro kA; (try ((with_reducible refine VH ?_); refine VW ?_)); (with_reducible exact kA.out))) : G := e ⟨hA⟩
theorem vE {G A : Prop} (hA : A) (e : Hid A → G := by (intro kA; (try ((with_reducible refine VH ?_); refine VX ?_)); (with_reducible exact kA.out))) : G := e ⟨hA⟩
theorem PK {G A : Prop} (hA : A) (e : Hid A → G := by (intro kA; (repeat' (first | ((with_reducible refine cY ?_); go_step) | fail)); (with_reducible exact kA.out))) : G := e ⟨hA⟩
theorem hY {G A : Prop} (hA : A) (e : Hid A → G := by (intro kA; (repeat' (first | ((with_reducible refine cY ?_); go_step) | fail)); (rename_i z0 z1; revert z0 z1; with_reducible exact kA.out))) : G := e ⟨hA⟩
theorem uL {G A : Prop} (hA : A) (e : Hid A → G := by (intro kA; (repeat' (first | ((with_reducible refine cY ?_); go_step) | fail)); (rename_i z0 z1 z2; revert z0 z1 z2; with_reducible exact kA.out))) : G := e ⟨hA⟩
theorem VJ {G A : Prop} (hA : A) (e : Hid A → G := by (intro kA; (repeat' (first | ((with_reducible refine cY ?_); go_step) | fail)); (rename_i z0 z1 z2 z3 z4; revert z0 z1 z2 z3 z4; with_reducible exact kA.out))) : G := e ⟨hA⟩
theorem aS {G A : Prop} (hA : A) (e : Hid A → G := by (intro kA; (repeat' first | ((with_reducible refine cY ?_); go_step) | ((with_reducible refine bR ?_); first | refine fM ?_ | (refine dN ?_ ?_ <;> intro _)) | fail); (with_reducible exact kA.out))) : G := e ⟨hA⟩
theorem fP {G A : Prop} (hA : A) (e : Hid A → G := by (intro kA; (repeat' first | ((with_reducible refine cY ?_); go_step) | ((with_reducible refine bR ?_); first | refine fM ?_ | (refine dN ?_ ?_ <;> intro _)) | fail); (rename_i z0; revert z0; with_reducible exact kA.out))) : G := e ⟨hA⟩
theorem rF {G A B : Prop} (hB : B) (hA : A) (e : Hid A → Hid B → G := by (intro kA kB; (repeat' first | ((with_reducible refine cY ?_); go_step) | ((with_reducible refine bR ?_); first | refine fM ?_ | (refine dN ?_ ?_ <;> intro _)) | fail); (rename_i z0; revert z0; with_reducible exact kA.out); (rename_i z0; revert z0; with_reducible exact kB.out))) : G := e ⟨hA⟩ ⟨hB⟩
theorem QE {G A B C D : Prop} (hB : B) (hC : C) (hD : D) (hA : A) (e : Hid A → Hid B → Hid C → Hid D → G := by (intro kA kB kC kD; (repeat' first | ((with_reducible refine cY ?_); go_step) | ((with_reducible refine bR ?_); first | refine fM ?_ | (refine dN ?_ ?_ <;> intro _)) | fail); (rename_i z0; revert z0; with_reducible exact kA.out); (rename_i z0 z1; revert z0 z1; with_reducible exact kB.out); (rename_i z0 z1 z2; revert z0 z1 z2; with_reducible exact kC.out); (rename_i z0 z1 z2; revert z0 z1 z2; with_reducible exact kD.out))) : G := e ⟨hA⟩ ⟨hB⟩ ⟨hC⟩ ⟨hD⟩
theorem SF {G A B C : Prop} (hB : B) (hC : C) (hA : A) (e : Hid A → Hid B → Hid C → G := by (intro kA kB kC; (repeat' first | ((with_reducible refine cY ?_); go_step) | ((with_reducible refine bR ?_); first | refine fM ?_ | (refine dN ?_ ?_ <;> intro _)) | fail); (rename_i z0; revert z0; with_reducible exact kA.out); (rename_i z0 z1; revert z0 z1; with_reducible exact kB.out); (rename_i z0 z1 z2 z3; revert z0 z1 z2 z3; with_reducible exact kC.out))) : G := e ⟨hA⟩ ⟨hB⟩ ⟨hC⟩
theorem vF {G A B : Prop} (hB : B) (hA : A) (e : Hid A → Hid B → G := by (intro kA kB; (repeat' first | ((with_reducible refine cY ?_); go_step) | ((with_reducible refine bR ?_); first | refine fM ?_ | (refine dN ?_ ?_ <;> intro _)) | fail); (rename_i z0; revert z0; with_reducible exact kA.out); (rename_i z0 z1 z2; revert z0 z1 z2; with_reducible exact kB.out))) : G := e ⟨hA⟩ ⟨hB⟩
theorem KT {G A B C : Prop} (hB : B) (hC : C) (hA : A) (e : Hid A → Hid B → Hid C → G := by (intro kA kB kC; (repeat' first | ((with_reducible refine cY ?_); go_step) | ((with_reducible refine bR ?_); first | refine fM ?_ | (refine dN ?_ ?_ <;> intro _)) | fail); (rename_i z0; revert z0; with_reducible exact kA.out); (rename_i z0 z1 z2 z3; revert z0 z1 z2 z3; with_reducible exact kB.out); (rename_i z0 z1; revert z0 z1; with_reducible exact kC.out))) : G := e ⟨hA⟩ ⟨hB⟩ ⟨hC⟩
theorem QF {G A B C D : Prop} (hB : B) (hC : C) (hD : D) (hA : A) (e : Hid A → Hid B → Hid C → Hid D → G := by (intro kA kB kC kD; (repeat' first | ((with_reducible refine cY ?_); go_step) | ((with_reducible refine bR ?_); first | refine fM ?_ | (refine dN ?_ ?_ <;> intro _)) | fail); (rename_i z0; revert z0; with_reducible exact kA.out); (rename_i z0 z1 z2 z3; revert z0 z1 z2 z3; with_reducible exact kB.out); (rename_i z0 z1 z2 z3 z4; revert z0 z1 z2 z3 z4; with_reducible exact kC.out); (rename_i z0 z1 z2; revert z0 z1 z2; with_reducible exact kD.out))) : G := e ⟨hA⟩ ⟨hB⟩ ⟨hC⟩ ⟨hD⟩
theorem UA {G A B : Prop} (hB : B) (hA : A) (e : Hid A → Hid B → G := by (intro kA kB; (repeat' first | ((with_reducible refine cY ?_); go_step) | ((with_reducible refine bR ?_); first | refine fM ?_ | (refine dN ?_ ?_ <;> intro _)) | fail); (rename_i z0; revert z0; with_reducible exact kA.out); (rename_i z0 z1 z2 z3 z4; revert z0 z1 z2 z3 z4; with_reducible exact kB.out))) : G := e ⟨hA⟩ ⟨hB⟩
theorem QH {G A B C D : Prop} (hB : B) (hC : C) (hD : D) (hA : A) (e : Hid A → Hid B → Hid C → Hid D → G := by (intro kA kB kC kD; (repeat' first | ((with_reducible refine cY ?_); go_step) | ((with_reducible refine bR ?_); first | refine fM ?_ | (refine dN ?_ ?_ <;> intro _)) | fail); (rename_i z0; revert z0; with_reducible exact kA.out); (rename_i z0 z1 z2 z3 z4; revert z0 z1 z2 z3 z4; with_reducible exact kB.out); (rename_i z0 z1 z2 z3 z4; revert z0 z1 z2 z3 z4; with_reducible exact kC.out); (rename_i z0 z1 z2 z3; revert z0 z1 z2 z3; with_reducible exact kD.out))) : G := e ⟨hA⟩ ⟨hB⟩ ⟨hC⟩ ⟨hD⟩
theorem bY {G A : Prop} (hA : A) (e : Hid A → G := by (intro kA; (repeat' first | ((with_reducible refine cY ?_); go_step) | ((with_reducible refine bR ?_); first | refine fM ?_ | (refine dN ?_ ?_ <;> intro _)) | fail); (rename_i z0 z1; revert z0 z1; with_reducible exact kA.out))) : G := e ⟨hA⟩
theorem UB {G A B : Prop} (hB : B) (hA : A) (e : Hid A → Hid B → G := by (intro kA kB; (repeat' first | ((with_reducible refine cY ?_); go_step) | ((with_reducible refine bR ?_); first | refine fM ?_ | (refine dN ?_ ?_ <;> intro _)) | fail); (rename_i z0 z1; revert z0 z1; with_reducible exact kA.out); (rename_i z0 z1; revert z0 z1; with_reducible exact kB.out))) : G := e ⟨hA⟩ ⟨hB⟩
theorem KU {G A B C : Prop} (hB : B) (hC : C) (hA : A) (e : Hid A → Hid B → Hid C → G := by (intro kA kB kC; (repeat' first | ((with_reducible refine cY ?_); go_step) | ((with_reducible refine bR ?_); first | refine fM ?_ | (refine dN ?_ ?_ <;> intro _)) | fail); (rename_i z0 z1; revert z0 z1; with_reducible exact kA.out); (rename_i z0 z1; revert z0 z1; with_reducible exact kB.out); (rename_i z0; revert z0; with_reducible exact kC.out))) : G := e ⟨hA⟩ ⟨hB⟩ ⟨hC⟩
theorem QI {G A B C D : Prop} (hB : B) (hC : C) (hD : D) (hA : A) (e : Hid A → Hid B → Hid C → Hid D → G := by (intro kA kB kC kD; (repeat' first | ((with_reducible refine cY ?_); go_step) | ((with_reducible refine bR ?_); first | refine fM ?_ | (refine dN ?_ ?_ <;> intro _)) | fail); (rename_i z0 z1; revert z0 z1; with_reducible exact kA.out); (rename_i z0 z1 z2; revert z0 z1 z2; with_reducible exact kB.out); (rename_i z0 z1 z2; revert z0 z1 z2; with_reducible exact kC.out); (rename_i z0; revert z0; with_reducible exact kD.out))) : G := e ⟨hA⟩ ⟨hB⟩ ⟨hC⟩ ⟨hD⟩
theorem PL {G A B C : Prop} (hB : B) (hC : C) (hA : A) (e : Hid A → Hid B → Hid C → G := by (intro kA kB kC; (repeat' first | ((with_reducible refine cY ?_); go_step) | ((with_reducible refine bR ?_); first | refine fM ?_ | (refine dN ?_ ?_ <;> intro _)) | fail); (rename_i z0 z1; revert z0 z1; with_reducible exact kA.out); (rename_i z0 z1 z2 z3; revert z0 z1 z2 z3; with_reducible exact kB.out); (rename_i z0; revert z0; with_reducible exact kC.out))) : G := e ⟨hA⟩ ⟨hB⟩ ⟨hC⟩
theorem UC {G A B : Prop} (hB : B) (hA : A) (e : Hid A → Hid B → G := by (intro kA kB; (repeat' first | ((with_reducible refine cY ?_); go_step) | ((with_reducible refine bR ?_); first | refine fM ?_ | (refine dN ?_ ?_ <;> intro _)) | fail); (rename_i z0 z1; revert z0 z1; with_reducible exact kA.out); (rename_i z0 z1 z2 z3 z4; revert z0 z1 z2 z3 z4; with_reducible exact kB.out))) : G := e ⟨hA⟩ ⟨hB⟩
theorem kL {G A : Prop} (hA : A) (e : Hid A → G := by (intro kA; (repeat' first | ((with_reducible refine cY ?_); go_step) | ((with_reducible refine bR ?_); first | refine fM ?_ | (refine dN ?_ ?_ <;> intro _)) | fail); (rename_i z0 z1 z2; revert z0 z1 z2; with_reducible exact kA.out))) : G := e ⟨hA⟩
theorem NR {G A B : Prop} (hB : B) (hA : A) (e : Hid A → Hid B → G := by (intro kA kB; (repeat' first | ((with_reducible refine cY ?_); go_step) | ((with_reducible refine bR ?_); first | refine fM ?_ | (refine dN ?_ ?_ <;> intro _)) | fail); (rename_i z0 z1 z2; revert z0 z1 z2; with_reducible exact kA.out); (rename_i z0; revert z0; with_reducible exact kB.out))) : G := e ⟨hA⟩ ⟨hB⟩
theorem yS {G A B : Prop} (hB : B) (hA : A) (e : Hid A → Hid B → G := by (intro kA kB; (repeat' first | ((with_reducible refine cY ?_); go_step) | ((with_reducible refine bR ?_); first | refine fM ?_ | (refine dN ?_ ?_ <;> intro _)) | fail); (rename_i z0 z1 z2; revert z0 z1 z2; with_reducible exact kA.out); (rename_i z0 z1 z2; revert z0 z1 z2; with_reducible exact kB.out))) : G := e ⟨hA⟩ ⟨hB⟩
theorem PM {G A B C : Prop} (hB : B) (hC : C) (hA : A) (e : Hid A → Hid B → Hid C → G := by (intro kA kB kC; (repeat' first | ((with_reducible refine cY ?_); go_step) | ((with_reducible refine bR ?_); first | refine fM ?_ | (refine dN ?_ ?_ <;> intro _)) | fail); (rename_i z0 z1 z2; revert z0 z1 z2; with_reducible exact kA.out); (rename_i z0 z1 z2; revert z0 z1 z2; with_reducible exact kB.out); (rename_i z0; revert z0; with_reducible exact kC.out))) : G := e ⟨hA⟩ ⟨hB⟩ ⟨hC⟩
theorem QJ {G A B C D : Prop} (hB : B) (hC : C) (hD : D) (hA : A) (e : Hid A → Hid B → Hid C → Hid D → G := by (intro kA kB kC kD; (repeat' first | ((with_reducible refine cY ?_); go_step) | ((with_reducible refine bR ?_); first | refine fM ?_ | (refine dN ?_ ?_ <;> intro _)) | fail); (rename_i z0 z1 z2; revert z0 z1 z2; with_reducible exact kA.out); (rename_i z0 z1 z2; revert z0 z1 z2; with_reducible exact kB.out); (rename_i z0 z1; revert z0 z1; with_reducible exact kC.out); (rename_i z0; revert z0; with_reducible exact kD.out))) : G := e ⟨hA⟩ ⟨hB⟩ ⟨hC⟩ ⟨hD⟩
theorem PN {G A B C : Prop} (hB : B) (hC : C) (hA : A) (e : Hid A → Hid B → Hid C → G := by (intro kA kB kC; (repeat' first | ((with_reducible refine cY ?_); go_step) | ((with_reducible refine bR ?_); first | refine fM ?_ | (refine dN ?_ ?_ <;> intro _)) | fail); (rename_i z0 z1 z2; revert z0 z1 z2; with_reducible exact kA.out); (rename_i z0 z1 z2 z3; revert z0 z1 z2 z3; with_reducible exact kB.out); (rename_i z0 z1 z2 z3; revert z0 z1 z2 z3; with_reducible exact kC.out))) : G := e ⟨hA⟩ ⟨hB⟩ ⟨hC⟩
theorem gV {G A : Prop} (hA : A) (e : Hid A → G := by (intro kA; (repeat' first | ((with_reducible refine cY ?_); go_step) | ((with_reducible refine bR ?_); first | refine fM ?_ | (refine dN ?_ ?_ <;> intro _)) | fail); (rename_i z0 z1 z2 z3; revert z0 z1 z2 z3; with_reducible exact kA.out))) : G := e ⟨hA⟩
theorem DK {G A B : Prop} (hB : B) (hA : A) (e : Hid A → Hid B → G := by (intro kA kB; (repeat' first | ((with_reducible refine cY ?_); go_step) | ((with_reducible refine bR ?_); first | refine fM ?_ | (refine dN ?_ ?_ <;> intro _)) | fail); (rename_i z0 z1 z2 z3; revert z0 z1 z2 z3; with_reducible exact kA.out); (rename_i z0 z1; revert z0 z1; with_reducible exact kB.out))) : G := e ⟨hA⟩ ⟨hB⟩
theorem DL {G A B C : Prop} (hB : B) (hC : C) (hA : A) (e : Hid A → Hid B → Hid C → G := by (intro kA kB kC; (repeat' first | ((with_reducible refine cY ?_); go_step) | ((with_reducible refine bR ?_); first | refine fM ?_ | (refine dN ?_ ?_ <;> intro _)) | fail); (rename_i z0 z1 z2 z3; revert z0 z1 z2 z3; with_reducible exact kA.out); (rename_i z0 z1; revert z0 z1; with_reducible exact kB.out); (rename_i z0; revert z0; with_reducible exact kC.out))) : G := e ⟨hA⟩ ⟨hB⟩ ⟨hC⟩
theorem QK {G A B : Prop} (hB : B) (hA : A) (e : Hid A → Hid B → G := by (intro kA kB; (repeat' first | ((with_reducible refine cY ?_); go_step) | ((with_reducible refine bR ?_); first | refine fM ?_ | (refine dN ?_ ?_ <;> intro _)) | fail); (rename_i z0 z1 z2 z3; revert z0 z1 z2 z3; with_reducible exact kA.out); (rename_i z0 z1 z2 z3; revert z0 z1 z2 z3; with_reducible exact kB.out))) : G := e ⟨hA⟩ ⟨hB⟩
theorem QL {G A : Prop} (hA : A) (e : Hid A → G := by (intro kA; (repeat' first | ((with_reducible refine cY ?_); go_step) | ((with_reducible refine bR ?_); first | refine fM ?_ | (refine dN ?_ ?_ <;> intro _)) | fail); (rename_i z0 z1 z2 z3 z4; revert z0 z1 z2 z3 z4; with_reducible exact kA.out))) : G := e ⟨hA⟩
theorem rG {G A B : Prop} (hB : B) (hA : A) (e : Hid A → Hid B → G := by (intro kA kB; (repeat' first | ((with_reducible refine cY ?_); go_step) | ((with_reducible refine bR ?_); first | refine fM ?_ | (refine dN ?_ ?_ <;> intro _)) | fail); (rename_i z0 z1 z2 z3 z4; revert z0 z1 z2 z3 z4; with_reducible exact kA.out); (rename_i z0 z1 z2; revert z0 z1 z2; with_reducible exact kB.out))) : G := e ⟨hA⟩ ⟨hB⟩
theorem QM {G A B C D : Prop} (hB : B) (hC : C) (hD : D) (hA : A) (e : Hid A → Hid B → Hid C → Hid D → G := by (intro kA kB kC kD; (repeat' first | ((with_reducible refine cY ?_); go_step) | ((with_reducible refine bR ?_); first | refine fM ?_ | (refine dN ?_ ?_ <;> intro _)) | fail); (rename_i z0 z1 z2 z3 z4; revert z0 z1 z2 z3 z4; with_reducible exact kA.out); (rename_i z0 z1 z2; revert z0 z1 z2; with_reducible exact kB.out); (rename_i z0 z1; revert z0 z1; with_reducible exact kC.out); (rename_i z0; revert z0; with_reducible exact kD.out))) : G := e ⟨hA⟩ ⟨hB⟩ ⟨hC⟩ ⟨hD⟩
theorem SG {G A B C : Prop} (hB : B) (hC : C) (hA : A) (e : Hid A → Hid B → Hid C → G := by (intro kA kB kC; (repeat' first | ((with_reducible refine cY ?_); go_step) | ((with_reducible refine bR ?_); first | refine fM ?_ | (refine dN ?_ ?_ <;> intro _)) | fail); (rename_i z0 z1 z2 z3 z4; revert z0 z1 z2 z3 z4; with_reducible exact kA.out); (rename_i z0 z1 z2; revert z0 z1 z2; with_reducible exact kB.out); (rename_i z0 z1 z2 z3; revert z0 z1 z2 z3; with_reducible exact kC.out))) : G := e ⟨hA⟩ ⟨hB⟩ ⟨hC⟩
theorem SH {G A B : Prop} (hB : B) (hA : A) (e : Hid A → Hid B → G := by (intro kA kB; (repeat' first | ((with_reducible refine cY ?_); go_step) | ((with_reducible refine bR ?_); first | refine fM ?_ | (refine dN ?_ ?_ <;> intro _)) | fail); (rename_i z0 z1 z2 z3 z4; revert z0 z1 z2 z3 z4; with_reducible exact kA.out); (rename_i z0 z1 z2 z3 z4; revert z0 z1 z2 z3 z4; with_reducible exact kB.out))) : G := e ⟨hA⟩ ⟨hB⟩
theorem SI {G A B C : Prop} (hB : B) (hC : C) (hA : A) (e : Hid A → Hid B → Hid C → G := by (intro kA kB kC; (repeat' first | ((with_reducible refine cY ?_); go_step) | ((with_reducible refine bR ?_); first | refine fM ?_ | (refine dN ?_ ?_ <;> intro _)) | fail); (rename_i z0 z1 z2 z3 z4; revert z0 z1 z2 z3 z4; with_reducible exact kA.out); (rename_i z0 z1 z2 z3 z4 z5; revert z0 z1 z2 z3 z4 z5; with_reducible exact kB.out); (rename_i z0 z1 z2 z3; revert z0 z1 z2 z3; with_reducible exact kC.out))) : G := e ⟨hA⟩ ⟨hB⟩ ⟨hC⟩
theorem oM {G A : Prop} (hA : A) (e : Hid A → G := by (intro kA; (repeat' first | ((with_reducible refine cY ?_); go_step) | ((with_reducible refine bR ?_); first | refine fM ?_ | (refine dN ?_ ?_ <;> intro _)) | fail); (rename_i z0 z1 z2 z3 z4 z5; revert z0 z1 z2 z3 z4 z5; with_reducible exact kA.out))) : G := e ⟨hA⟩
theorem SJ {G A B C : Prop} (hB : B) (hC : C) (hA : A) (e : Hid A → Hid B → Hid C → G := by (intro kA kB kC; (repeat' first | ((with_reducible refine cY ?_); go_step) | ((with_reducible refine bR ?_); first | refine fM ?_ | (refine dN ?_ ?_ <;> intro _)) | fail); (rename_i z0 z1 z2 z3 z4 z5; revert z0 z1 z2 z3 z4 z5; with_reducible exact kA.out); (rename_i z0 z1 z2 z3; revert z0 z1 z2 z3; with_reducible exact kB.out); (rename_i z0 z1 z2; revert z0 z1 z2; with_reducible exact kC.out))) : G := e ⟨hA⟩ ⟨hB⟩ ⟨hC⟩
theorem SK {G A B C : Prop} (hB : B) (hC : C) (hA : A) (e : Hid A → Hid B → Hid C → G := by (intro kA kB kC; (repeat' first | ((with_reducible refine cY ?_); go_step) | ((with_reducible refine bR ?_); first | refine fM ?_ | (refine dN ?_ ?_ <;> intro _)) | fail); (rename_i z0 z1 z2 z3 z4 z5; revert z0 z1 z2 z3 z4 z5; with_reducible exact kA.out); (rename_i z0 z1 z2 z3; revert z0 z1 z2 z3; with_reducible exact kB.out); (rename_i z0 z1 z2 z3 z4; revert z0 z1 z2 z3 z4; with_reducible exact kC.out))) : G := e ⟨hA⟩ ⟨hB⟩ ⟨hC⟩
theorem PO {G A B C : Prop} (hB : B) (hC : C) (hA : A) (e : Hid A → Hid B → Hid C → G := by (intro kA kB kC; (repeat' first | ((with_reducible refine cY ?_); go_step) | ((with_reducible refine bR ?_); first | refine fM ?_ | (refine dN ?_ ?_ <;> intro _)) | fail); (rename_i z0 z1 z2 z3 z4 z5; revert z0 z1 z2 z3 z4 z5; with_reducible exact kA.out); (rename_i z0 z1 z2 z3 z4 z5; revert z0 z1 z2 z3 z4 z5; with_reducible exact kB.out); (rename_i z0 z1 z2 z3 z4; revert z0 z1 z2 z3 z4; with_reducible exact kC.out))) : G := e ⟨hA⟩ ⟨hB⟩ ⟨hC⟩
theorem VK {G A : Prop} (hA : A) (e : Hid A → G := by (intro kA; (repeat' first | ((with_reducible refine cY ?_); go_step) | ((with_reducible refine bR ?_); first | refine fM ?_ | (refine dN ?_ ?_ <;> intro _)) | fail); (rename_i z0 z1 z2 z3 z4 z5 z6; revert z0 z1 z2 z3 z4 z5 z6; with_reducible exact kA.out))) : G := e ⟨hA⟩
theorem QN {G A B C D : Prop} (hB : B) (hC : C) (hD : D) (hA : A) (e : Hid A → Hid B → Hid C → Hid D → G := by (intro kA kB kC kD; (repeat' first | ((with_reducible refine cY ?_); go_step) | ((with_reducible refine bR ?_); first | refine fM ?_ | (refine dN ?_ ?_ <;> intro _)) | fail); (rename_i z0 z1 z2 z3 z4 z5 z6; revert z0 z1 z2 z3 z4 z5 z6; with_reducible exact kA.out); (rename_i z0 z1 z2 z3 z4; revert z0 z1 z2 z3 z4; with_reducible exact kB.out); (rename_i z0 z1 z2 z3 z4 z5; revert z0 z1 z2 z3 z4 z5; with_reducible exact kC.out); (rename_i z0 z1 z2 z3 z4; revert z0 z1 z2 z3 z4; with_reducible exact kD.out))) : G := e ⟨hA⟩ ⟨hB⟩ ⟨hC⟩ ⟨hD⟩
theorem UD {G A : Prop} (hA : A) (e : Hid A → G := by (intro kA; (repeat' first | ((with_reducible refine cY ?_); go_step) | ((with_reducible refine bR ?_); first | refine fM ?_ | (refine dN ?_ ?_ <;> intro _)) | fail); (rename_i z0 z1 z2 z3 z4 z5 z6 z7; revert z0 z1 z2 z3 z4 z5 z6 z7; with_reducible exact kA.out))) : G := e ⟨hA⟩
theorem VY {G A : Prop} (hA : A) (e : Hid A → G := by (intro kA; (repeat' first | ((with_reducible refine cY ?_); go_step) | ((with_reducible refine bR ?_); first | refine fM ?_ | (refine dN ?_ ?_ <;> intro _)) | fail); (rename_i z0 z1 z2 z3 z4 z5 z6 z7 z8; revert z0 z1 z2 z3 z4 z5 z6 z7 z8; with_reducible exact kA.out))) : G := e ⟨hA⟩
theorem dA {G A : Prop} (hA : A) (e : Hid A → G := by (intro kA; (repeat' first | ((with_reducible refine cY ?_); go_step) | ((with_reducible refine bR ?_); first | refine iI ?_ | (refine dN ?_ ?_ <;> intro _)) | fail); (with_reducible exact kA.out))) : G := e ⟨hA⟩
theorem RU {G A : Prop} (hA : A) (e : Hid A → G := by (intro kA; (repeat' first | ((with_reducible refine cY ?_); go_step) | ((with_reducible refine bR ?_); first | refine iI ?_ | (refine dN ?_ ?_ <;> intro _)) | fail); (rename_i z0; revert z0; with_reducible exact kA.out))) : G := e ⟨hA⟩
theorem NS {G A B : Prop} (hB : B) (hA : A) (e : Hid A → Hid B → G := by (intro kA kB; (repeat' first | ((with_reducible refine cY ?_); go_step) | ((with_reducible refine bR ?_); first | refine iI ?_ | (refine dN ?_ ?_ <;> intro _)) | fail); (rename_i z0; revert z0; with_reducible exact kA.out); (rename_i z0; revert z0; with_reducible exact kB.out))) : G := e ⟨hA⟩ ⟨hB⟩
theorem UE {G A B : Prop} (hB : B) (hA : A) (e : Hid A → Hid B → G := by (intro kA kB; (repeat' first | ((with_reducible refine cY ?_); go_step) | ((with_reducible refine bR ?_); first | refine iI ?_ | (refine dN ?_ ?_ <;> intro _)) | fail); (rename_i z0; revert z0; with_reducible exact kA.out); (rename_i z0 z1; revert z0 z1; with_reducible exact kB.out))) : G := e ⟨hA⟩ ⟨hB⟩
theorem SL {G A B C : Prop} (hB : B) (hC : C) (hA : A) (e : Hid A → Hid B → Hid C → G := by (intro kA kB kC; (repeat' first | ((with_reducible refine cY ?_); go_step) | ((with_reducible refine bR ?_); first | refine iI ?_ | (refine dN ?_ ?_ <;> intro _)) | fail); (rename_i z0; revert z0; with_reducible exact kA.out); (rename_i z0 z1; revert z0 z1; with_reducible exact kB.out); (rename_i z0 z1 z2 z3; revert z0 z1 z2 z3; with_reducible exact kC.out))) : G := e ⟨hA⟩ ⟨hB⟩ ⟨hC⟩
theorem UF {G A B : Prop} (hB : B) (hA : A) (e : Hid A → Hid B → G := by (intro kA kB; (repeat' first | ((with_reducible refine cY ?_); go_step) | ((with_reducible refine bR ?_); first | refine iI ?_ | (refine dN ?_ ?_ <;> intro _)) | fail); (rename_i z0; revert z0; with_reducible exact kA.out); (rename_i z0 z1 z2 z3; revert z0 z1 z2 z3; with_reducible exact kB.out))) : G := e ⟨hA⟩ ⟨hB⟩
theorem KV {G A B C : Prop} (hB : B) (hC : C) (hA : A) (e : Hid A → Hid B → Hid C → G := by (intro kA kB kC; (repeat' first | ((with_reducible refine cY ?_); go_step) | ((with_reducible refine bR ?_); first | refine iI ?_ | (refine dN ?_ ?_ <;> intro _)) | fail); (rename_i z0; revert z0; with_reducible exact kA.out); (rename_i z0 z1 z2 z3; revert z0 z1 z2 z3; with_reducible exact kB.out); (rename_i z0 z1 z2 z3; revert z0 z1 z2 z3; with_reducible exact kC.out))) : G := e ⟨hA⟩ ⟨hB⟩ ⟨hC⟩
theorem gX {G A : Prop} (hA : A) (e : Hid A → G := by (intro kA; (repeat' first | ((with_reducible refine cY ?_); go_step) | ((with_reducible refine bR ?_); first | refine iI ?_ | (refine dN ?_ ?_ <;> intro _)) | fail); (rename_i z0 z1; revert z0 z1; with_reducible exact kA.out))) : G := e ⟨hA⟩
theorem HP {G A B C : Prop} (hB : B) (hC : C) (hA : A) (e : Hid A → Hid B → Hid C → G := by (intro kA kB kC; (repeat' first | ((with_reducible refine cY ?_); go_step) | ((with_reducible refine bR ?_); first | refine iI ?_ | (refine dN ?_ ?_ <;> intro _)) | fail); (rename_i z0 z1; revert z0 z1; with_reducible exact kA.out); (rename_i z0 z1; revert z0 z1; with_reducible exact kB.out); (rename_i z0; revert z0; with_reducible exact kC.out))) : G := e ⟨hA⟩ ⟨hB⟩ ⟨hC⟩
theorem RV {G A : Prop} (hA : A) (e : Hid A → G := by (intro kA; (repeat' first | ((with_reducible refine cY ?_); go_step) | ((with_reducible refine bR ?_); first | refine iI ?_ | (refine dN ?_ ?_ <;> intro _)) | fail); (rename_i z0 z1 z2; revert z0 z1 z2; with_reducible exact kA.out))) : G := e ⟨hA⟩
theorem DM {G A B : Prop} (hB : B) (hA : A) (e : Hid A → Hid B → G := by (intro kA kB; (repeat' first | ((with_reducible refine cY ?_); go_step) | ((with_reducible refine bR ?_); first | refine iI ?_ | (refine dN ?_ ?_ <;> intro _)) | fail); (rename_i z0 z1 z2; revert z0 z1 z2; with_reducible exact kA.out); (rename_i z0; revert z0; with_reducible exact kB.out))) : G := e ⟨hA⟩ ⟨hB⟩
theorem NT {G A B : Prop} (hB : B) (hA : A) (e : Hid A → Hid B → G := by (intro kA kB; (repeat' first | ((with_reducible refine cY ?_); go_step) | ((with_reducible refine bR ?_); first | refine iI ?_ | (refine dN ?_ ?_ <;> intro _)) | fail); (rename_i z0 z1 z2; revert z0 z1 z2; with_reducible exact kA.out); (rename_i z0 z1 z2; revert z0 z1 z2; with_reducible exact kB.out))) : G := e ⟨hA⟩ ⟨hB⟩
theorem KW {G A B C D : Prop} (hB : B) (hC : C) (hD : D) (hA : A) (e : Hid A → Hid B → Hid C → Hid D → G := by (intro kA kB kC kD; (repeat' first | ((with_reducible refine cY ?_); go_step) | ((with_reducible refine bR ?_); first | refine iI ?_ | (refine dN ?_ ?_ <;> intro _)) | fail); (rename_i z0 z1 z2; revert z0 z1 z2; with_reducible exact kA.out); (rename_i z0 z1 z2; revert z0 z1 z2; with_reducible exact kB.out); (rename_i z0 z1; revert z0 z1; with_reducible exact kC.out); (rename_i z0; revert z0; with_reducible exact kD.out))) : G := e ⟨hA⟩ ⟨hB⟩ ⟨hC⟩ ⟨hD⟩
theorem UG {G A B : Prop} (hB : B) (hA : A) (e : Hid A → Hid B → G := by (intro kA kB; (repeat' first | ((with_reducible refine cY ?_); go_step) | ((with_reducible refine bR ?_); first | refine iI ?_ | (refine dN ?_ ?_ <;> intro _)) | fail); (rename_i z0 z1 z2; revert z0 z1 z2; with_reducible exact kA.out); (rename_i z0 z1 z2 z3; revert z0 z1 z2 z3; with_reducible exact kB.out))) : G := e ⟨hA⟩ ⟨hB⟩
theorem UH {G A B : Prop} (hB : B) (hA : A) (e : Hid A → Hid B → G := by (intro kA kB; (repeat' first | ((with_reducible refine cY ?_); go_step) | ((with_reducible refine bR ?_); first | refine iI ?_ | (refine dN ?_ ?_ <;> intro _)) | fail); (rename_i z0 z1 z2; revert z0 z1 z2; with_reducible exact kA.out); (rename_i z0 z1 z2 z3 z4; revert z0 z1 z2 z3 z4; with_reducible exact kB.out))) : G := e ⟨hA⟩ ⟨hB⟩
theorem PP {G A B C : Prop} (hB : B) (hC : C) (hA : A) (e : Hid A → Hid B → Hid C → G := by (intro kA kB kC; (repeat' first | ((with_reducible refine cY ?_); go_step) | ((with_reducible refine bR ?_); first | refine iI ?_ | (refine dN ?_ ?_ <;> intro _)) | fail); (rename_i z0 z1 z2; revert z0 z1 z2; with_reducible exact kA.out); (rename_i z0 z1 z2 z3 z4 z5; revert z0 z1 z2 z3 z4 z5; with_reducible exact kB.out); (rename_i z0 z1 z2 z3 z4 z5; revert z0 z1 z2 z3 z4 z5; with_reducible exact kC.out))) : G := e ⟨hA⟩ ⟨hB⟩ ⟨hC⟩
theorem UI {G A B : Prop} (hB : B) (hA : A) (e : Hid A → Hid B → G := by (intro kA kB; (repeat' first | ((with_reducible refine cY ?_); go_step) | ((with_reducible refine bR ?_); first | refine iI ?_ | (refine dN ?_ ?_ <;> intro _)) | fail); (rename_i z0 z1 z2; revert z0 z1 z2; with_reducible exact kA.out); (rename_i z0 z1 z2 z3 z4 z5 z6; revert z0 z1 z2 z3 z4 z5 z6; with_reducible exact kB.out))) : G := e ⟨hA⟩ ⟨hB⟩
theorem JA {G A : Prop} (hA : A) (e : Hid A → G := by (intro kA; (repeat' first | ((with_reducible refine cY ?_); go_step) | ((with_reducible refine bR ?_); first | refine iI ?_ | (refine dN ?_ ?_ <;> intro _)) | fail); (rename_i z0 z1 z2 z3; revert z0 z1 z2 z3; with_reducible exact kA.out))) : G := e ⟨hA⟩
theorem SM {G A B C : Prop} (hB : B) (hC : C) (hA : A) (e : Hid A → Hid B → Hid C → G := by (intro kA kB kC; (repeat' first | ((with_reducible refine cY ?_); go_step) | ((with_reducible refine bR ?_); first | refine iI ?_ | (refine dN ?_ ?_ <;> intro _)) | fail); (rename_i z0 z1 z2 z3; revert z0 z1 z2 z3; with_reducible exact kA.out); (rename_i z0 z1 z2 z3; revert z0 z1 z2 z3; with_reducible exact kB.out); (rename_i z0 z1 z2; revert z0 z1 z2; with_reducible exact kC.out))) : G := e ⟨hA⟩ ⟨hB⟩ ⟨hC⟩
theorem SN {G A : Prop} (hA : A) (e : Hid A → G := by (intro kA; (repeat' first | ((with_reducible refine cY ?_); go_step) | ((with_reducible refine bR ?_); first | refine iI ?_ | (refine dN ?_ ?_ <;> intro _)) | fail); (rename_i z0 z1 z2 z3 z4; revert z0 z1 z2 z3 z4; with_reducible exact kA.out))) : G := e ⟨hA⟩
theorem KX {G A B : Prop} (hB : B) (hA : A) (e : Hid A → Hid B → G := by (intro kA kB; (repeat' first | ((with_reducible refine cY ?_); go_step) | ((with_reducible refine bR ?_); first | refine iI ?_ | (refine dN ?_ ?_ <;> intro _)) | fail); (rename_i z0 z1 z2 z3 z4; revert z0 z1 z2 z3 z4; with_reducible exact kA.out); (rename_i z0 z1 z2; revert z0 z1 z2; with_reducible exact kB.out))) : G := e ⟨hA⟩ ⟨hB⟩
theorem QO {G A B C D : Prop} (hB : B) (hC : C) (hD : D) (hA : A) (e : Hid A → Hid B → Hid C → Hid D → G := by (intro kA kB kC kD; (repeat' first | ((with_reducible refine cY ?_); go_step) | ((with_reducible refine bR ?_); first | refine iI ?_ | (refine dN ?_ ?_ <;> intro _)) | fail); (rename_i z0 z1 z2 z3 z4; revert z0 z1 z2 z3 z4; with_reducible exact kA.out); (rename_i z0 z1 z2; revert z0 z1 z2; with_reducible exact kB.out); (rename_i z0 z1; revert z0 z1; with_reducible exact kC.out); (rename_i z0; revert z0; with_reducible exact kD.out))) : G := e ⟨hA⟩ ⟨hB⟩ ⟨hC⟩ ⟨hD⟩
theorem SP {G A B C : Prop} (hB : B) (hC : C) (hA : A) (e : Hid A → Hid B → Hid C → G := by (intro kA kB kC; (repeat' first | ((with_reducible refine cY ?_); go_step) | ((with_reducible refine bR ?_); first | refine iI ?_ | (refine dN ?_ ?_ <;> intro _)) | fail); (rename_i z0 z1 z2 z3 z4; revert z0 z1 z2 z3 z4; with_reducible exact kA.out); (rename_i z0 z1 z2 z3 z4 z5; revert z0 z1 z2 z3 z4 z5; with_reducible exact kB.out); (rename_i z0 z1 z2 z3; revert z0 z1 z2 z3; with_reducible exact kC.out))) : G := e ⟨hA⟩ ⟨hB⟩ ⟨hC⟩
theorem SQ {G A : Prop} (hA : A) (e : Hid A → G := by (intro kA; (repeat' first | ((with_reducible refine cY ?_); go_step) | ((with_reducible refine bR ?_); first | refine iI ?_ | (refine dN ?_ ?_ <;> intro _)) | fail); (rename_i z0 z1 z2 z3 z4 z5; revert z0 z1 z2 z3 z4 z5; with_reducible exact kA.out))) : G := e ⟨hA⟩
theorem SS {G A B C : Prop} (hB : B) (hC : C) (hA : A) (e : Hid A → Hid B → Hid C → G := by (intro kA kB kC; (repeat' first | ((with_reducible refine cY ?_); go_step) | ((with_reducible refine bR ?_); first | refine iI ?_ | (refine dN ?_ ?_ <;> intro _)) | fail); (rename_i z0 z1 z2 z3 z4 z5; revert z0 z1 z2 z3 z4 z5; with_reducible exact kA.out); (rename_i z0 z1; revert z0 z1; with_reducible exact kB.out); (rename_i z0 z1 z2 z3 z4; revert z0 z1 z2 z3 z4; with_reducible exact kC.out))) : G := e ⟨hA⟩ ⟨hB⟩ ⟨hC⟩
theorem ST {G A B : Prop} (hB : B) (hA : A) (e : Hid A → Hid B → G := by (intro kA kB; (repeat' first | ((with_reducible refine cY ?_); go_step) | ((with_reducible refine bR ?_); first | refine iI ?_ | (refine dN ?_ ?_ <;> intro _)) | fail); (rename_i z0 z1 z2 z3 z4 z5; revert z0 z1 z2 z3 z4 z5; with_reducible exact kA.out); (rename_i z0 z1 z2 z3; revert z0 z1 z2 z3; with_reducible exact kB.out))) : G := e ⟨hA⟩ ⟨hB⟩
theorem KY {G A B C : Prop} (hB : B) (hC : C) (hA : A) (e : Hid A → Hid B → Hid C → G := by (intro kA kB kC; (repeat' first | ((with_reducible refine cY ?_); go_step) | ((with_reducible refine bR ?_); first | refine iI ?_ | (refine dN ?_ ?_ <;> intro _)) | fail); (rename_i z0 z1 z2 z3 z4 z5; revert z0 z1 z2 z3 z4 z5; with_reducible exact kA.out); (rename_i z0 z1 z2 z3; revert z0 z1 z2 z3; with_reducible exact kB.out); (rename_i z0 z1 z2 z3 z4; revert z0 z1 z2 z3 z4; with_reducible exact kC.out))) : G := e ⟨hA⟩ ⟨hB⟩ ⟨hC⟩
theorem UJ {G A B : Prop} (hB : B) (hA : A) (e : Hid A → Hid B → G := by (intro kA kB; (repeat' first | ((with_reducible refine cY ?_); go_step) | ((with_reducible refine bR ?_); first | refine iI ?_ | (refine dN ?_ ?_ <;> intro _)) | fail); (rename_i z0 z1 z2 z3 z4 z5; revert z0 z1 z2 z3 z4 z5; with_reducible exact kA.out); (rename_i z0 z1 z2 z3 z4 z5; revert z0 z1 z2 z3 z4 z5; with_reducible exact kB.out))) : G := e ⟨hA⟩ ⟨hB⟩
theorem PQ {G A B C : Prop} (hB : B) (hC : C) (hA : A) (e : Hid A → Hid B → Hid C → G := by (intro kA kB kC; (repeat' first | ((with_reducible refine cY ?_); go_step) | ((with_reducible refine bR ?_); first | refine iI ?_ | (refine dN ?_ ?_ <;> intro _)) | fail); (rename_i z0 z1 z2 z3 z4 z5 z6; revert z0 z1 z2 z3 z4 z5 z6; with_reducible exact kA.out); (rename_i z0 z1 z2 z3 z4 z5 z6; revert z0 z1 z2 z3 z4 z5 z6; with_reducible exact kB.out); (rename_i z0 z1 z2 z3 z4 z5; revert z0 z1 z2 z3 z4 z5; with_reducible exact kC.out))) : G := e ⟨hA⟩ ⟨hB⟩ ⟨hC⟩
theorem VZ {G A : Prop} (hA : A) (e : Hid A → G := by (intro kA; (repeat' first | ((with_reducible refine cY ?_); go_step) | ((with_reducible refine bR ?_); first | refine iI ?_ | (refine dN ?_ ?_ <;> intro _)) | fail); (rename_i z0 z1 z2 z3 z4 z5 z6 z7; revert z0 z1 z2 z3 z4 z5 z6 z7; with_reducible exact kA.out))) : G := e ⟨hA⟩
end Go.Proofs.X
set_option linter.unusedSimpArgs false
set_option linter.unusedVariables false
namespace Go.Proofs.X
open Go.RowKit
set_option maxRecDepth 100000
theorem NU {b : UInt8} (h : 65 ≤ b.toNat) (h2 : b.toNat ≤ 90) : IntKind.wrap .u8 (IntKind.wrap .u8 ((b.toNat : Int) - 65) + 97) = ((sN b).toNat : Int) := by
 rw [sN, if_pos ⟨h, h2⟩]
 rw [UInt8.toNat_add]
 simp only [IntKind.wrap, IntKind.bits, IntKind.signed]
 have : (32 : UInt8).toNat = 32 := rfl
 rw [this]
 simp
 omega
theorem vG (l : List UInt8) (k : Nat) (b : UInt8) (h : l[k]? = some b) : (bJ l)[k]? = some [.int .u8 (b.toNat : Nat)] := by simp [bJ, h]
theorem vH (l : List UInt8) (k : Nat) (b : UInt8) : (bJ l).set k [.int .u8 (b.toNat : Nat)] = bJ (l.set k b) := by simp [bJ, List.map_set]
theorem WA (l : List UInt8) (w : World) (hl : l.length ≤ 254) : Calls Tryz.prog 109 #[aI l] w (bG w (aI (low l))) := by
 go_enter Tryz.func109, Tryz.ntmps109
 refine_lift bY fun _ _ => ?_
 refine sK (e := 5) (l := l) rfl rfl (by decide +kernel) (by decide +kernel) (by omega) ?_
 intro v w1 x1 o1
 refine aA ?_
 have sl := o1.sl
 refine_lift bY fun _ _ => ?_
 clear sl
 have hlb : (bJ l).length = l.length := by simp [bJ]
 rw [hlb]
 go_loopw [10] (fun i wr => ∃ k : Nat, k ≤ l.length ∧ i = .int .i64 k ∧ Ext w wr ∧ Own w.heap.size 1 5 wr v (bJ (kT l k))) (fun i _ => l.length - (intOf i).toNat)
 case atStart => exact ⟨0, Nat.zero_le _, rfl, x1, by simpa [zI] using o1⟩
 case round =>
  obtain ⟨k, hk, rfl, hx, ho⟩ := hrel
  have hsl := ho.sl
  have hlen : (bJ (kT l k)).length = l.length := by simp [bJ, nH]
  by_cases hlt : k < l.length
  ·have hp := hsl.elem (vG _ _ _ (uY l k hlt))
   (repeat' first | ((with_reducible refine cY ?_); go_step) | ((with_reducible refine bR ?_); first | refine fM ?_ | (refine dN ?_ ?_ <;> intro hc)) | fail)
   ·rename_i h1 h2
    refine gU (c := .int .u8 _) (i := k) rfl rfl rfl ho (by omega) (by decide +kernel) rfl ?_
    intro w2 o2 m2
    have hx2 := ho.mvx m2 hx (Nat.le_refl _)
    have e2 : (bJ (kT l k)).set k [Value.int .u8 (IntKind.u8.wrap (IntKind.u8.wrap (↑l[k].toNat - 65) + 97))] = bJ (kT l (k + 1)) := by
     rw [sO l k hlt, ← vH, NU (by omega) (by omega)]
    rw [e2] at o2
    clear hx ho hsl hp
    refine_lift aS ?_
    exact ⟨⟨k + 1, by omega, rfl, hx2, o2⟩, by simp [intOf]; omega⟩
   ·refine ⟨⟨k + 1, by omega, rfl, hx, ?_⟩, by simp [intOf]; omega⟩
    rw [sP l k hlt (BM (by omega))]; exact ho
   ·refine ⟨⟨k + 1, by omega, rfl, hx, ?_⟩, by simp [intOf]; omega⟩
    rw [sP l k hlt (BM (by omega))]; exact ho
  ·have : k = l.length := by omega
   subst this
   rw [DD] at hsl
   refine_lift fP fun _ => ?_
   go_ret
   exact ⟨rfl, hx⟩
def BN (w : World) (b : Nat) : Nat := match w.cell? ⟨b, 0, none⟩ with | some (.string s) => s.size | _ => 0
theorem vI {w : World} {b : Nat} {l : List UInt8} {t : TypeId} {fr : Nat × Nat} (h : w.heap[b]? = some (.cells #[aI l] t fr)) : BN w b = l.length := by
 unfold BN
 rw [cell_of_row w b 0 _ t fr h]
 simp [aI, fI, -ByteArray.size_data]
def HQ (P : Program) (l b : Nat) (lp : Loop) (J : List (List UInt8) → World → Prop) (Jx : World → Prop) : Prop :=
 (∀ pre x rest W, pre.length < 254 → J pre W → W.heap[b]? = some (.cells #[aI rest] 22 (0, 0)) → RoundIn Fence.wide 0 P l lp.fn ((lp.params.zip #[aI x, .bool true]).foldl (fun tmps (t, a) => tmps.setIfInBounds t a) lp.tmps) lp.assign lp.body W
    fun e W' => e = .returned (.bool true) ∧ J (pre ++ [x]) W' ∧ W'.heap[b]? = some (.cells #[aI rest] 22 (0, 0))) ∧
 (∀ pre W, J pre W → RoundIn Fence.wide 0 P l lp.fn ((lp.params.zip #[aI [], .bool false]).foldl (fun tmps (t, a) => tmps.setIfInBounds t a) lp.tmps) lp.assign lp.body W fun e W' => e = .returned (.bool false) ∧ Jx W')
set_option maxHeartbeats 1000000 in
theorem WB (l b : Nat) (lp : Loop) (J : List (List UInt8) → World → Prop) (Jx : World → Prop) (hp : lp.params.size = 2) (hL : ∀ pre W, J pre W → W.heap[l]? = some (.loop lp))
 (hput : ∀ pre W W' o, J pre W → Put W W' b o → J pre W') (hy : HQ Tryz.prog l b lp J Jx) (nm : List UInt8) (w : World) (h0 : J [] w) (hb : w.heap[b]? = some (.cells #[aI nm] 22 (0, 0))) (hlen : nm.length ≤ 254) :
 Calls Tryz.prog 195 #[.func (.yield l) #[] #[], .pointer (some ⟨b, 0, none⟩)] w fun e w' => e = .returned (.tuple #[]) ∧ match gH nm with | some ls => J ls w' | none => Jx w' := by
 go_enter Tryz.func195, Tryz.ntmps195
 iterate 2 go_step
 go_loopw [3] (fun _ wr => ∃ pre rest, J pre wr ∧ wr.heap[b]? = some (.cells #[aI rest] 22 (0, 0)) ∧ pre.length + rest.length ≤ 254 ∧ gH nm = (gH rest).map (pre ++ ·)) (fun _ wr => BN wr b)
 case atStart => exact ⟨[], nm, h0, hb, by simpa using hlen, by simp⟩
 case round =>
  obtain ⟨pre, rest, hJ, hbr, hrl, hpar⟩ := hrel
  have hc := aE (cs := [aI rest]) hbr
  cases rest with
  | nil =>
   refine_lift aS ?_
   refine bodyPost_end (results_none rfl _ _ _) rfl ⟨rfl, ?_⟩
   rw [hpar, sM]
   simpa using hJ
  | cons k t =>
   have hk : k.toNat < 256 := k.toNat_lt
   have hlt : t.length ≤ 253 := by simp only [List.length_cons] at hrl; omega
   have hfalse : (k.toNat < 1 ∨ 63 < k.toNat ∨ t.length < k.toNat) → gH nm = none := by
    intro h
    rw [hpar, jY, if_pos h]; rfl
   have htrue : ¬ (k.toNat < 1 ∨ 63 < k.toNat ∨ t.length < k.toNat) → gH nm = (gH (t.drop k.toNat)).map ((pre ++ [t.take k.toNat]) ++ ·) := by
    intro h
    rw [hpar, jY, if_neg h, Option.map_map]
    congr 1
    funext x
    simp
   have Hp := Lib.hid hpar
   clear hpar
   repeat' (first | (refine cE (id := 3) ?_) | (refine cE (id := 4) ?_) | ((with_reducible apply gY); (rfl); exact rn; refine aA ?_) | (with_reducible (apply iY)) | ((with_reducible refine bR ?_); (first | (refine gW ?_; refine jA ?_) | (refine jG ?_; first | refine kJ ?_ | refine pP ?_ | refine pR ?_ | refine pQ ?_ | ((first | refine pG ?_ ?_ | refine pH ?_ ?_) <;> intro hc)))) | ((fail_if_success (with_reducible refine bR ?_)); go_step))
   rotate_left
   ·refine lU (lp := lp) rfl rfl rfl (hL _ _ hJ) (by simp [hp]) (hy.1 _ _ _ _ (by simp only [List.length_cons] at hrl; omega) hJ hbr) ?_
    rintro e W' ⟨rfl, hJ', hb'⟩
    refine ⟨_, rfl, ?_⟩
    simp only [List.set_cons_succ, List.set_cons_zero]
    rw [show List.drop 1 (List.take (k.toNat + 1) (k :: t)) = t.take k.toNat by simp] at hJ'
    have hc2 := aE (cs := [aI (k :: t)]) hb'
    clear hJ
    have hlt2 : k.toNat ≤ t.length := by simp only [List.length_cons] at *; omega
    repeat' (first | (refine cE (id := 3) ?_) | (refine cE (id := 4) ?_) | ((with_reducible apply gY); (rfl); exact rn; refine aA ?_) | (with_reducible (apply iY)) | ((with_reducible refine bR ?_); (first | (refine gW ?_; refine jA ?_) | (refine jG ?_; first | refine kJ ?_ | refine pP ?_ | refine pR ?_ | refine pQ ?_ | ((first | refine pG ?_ ?_ | refine pH ?_ ?_) <;> intro hc)))) | ((fail_if_success (with_reducible refine bR ?_)); go_step))
    refine cI (v := aI (List.drop (k.toNat + 1) (k :: t))) rfl rfl rfl hb' (by decide +kernel) rfl ?_
    intro W2 hput2
    refine_lift aS ?_
    have hb2 := hput2.this
    have hJ2 := hput _ _ _ _ hJ' hput2
    have hd : List.drop (k.toNat + 1) (k :: t) = t.drop k.toNat := by simp
    go_roundw
    case rel => exact ⟨pre ++ [t.take k.toNat], t.drop k.toNat, hJ2, by rw [← hd]; exact hb2, by simp at hrl ⊢; omega, htrue (by omega)⟩
    case measure =>
     rw [vI hb2, vI hbr]
     simp; omega
   all_goals
    refine lU (lp := lp) rfl rfl rfl (hL _ _ hJ) (by simp [hp]) (hy.2 _ _ hJ) ?_
    rintro e W' ⟨rfl, hx⟩
    refine ⟨_, rfl, ?_⟩
    simp only [List.set_cons_succ, List.set_cons_zero]
    repeat' (first | (refine cE (id := 3) ?_) | (refine cE (id := 4) ?_) | ((with_reducible apply gY); (rfl); exact rn; refine aA ?_) | (with_reducible (apply iY)) | ((with_reducible refine bR ?_); (first | (refine gW ?_; refine jA ?_) | (refine jG ?_; first | refine kJ ?_ | refine pP ?_ | refine pR ?_ | refine pQ ?_ | ((first | refine pG ?_ ?_ | refine pH ?_ ?_) <;> intro hc)))) | ((fail_if_success (with_reducible refine bR ?_)); go_step))
    refine bodyPost_ret (results_none rfl _ _ _) rfl ⟨rfl, ?_⟩
    rw [hfalse (by simp only [List.length_cons] at *; omega)]
    exact hx
theorem WC (nm : List UInt8) (w : World) : Calls Tryz.prog 160 #[aI nm] w fun e w' => e = .returned (.func (.func 195) #[] #[.pointer (some ⟨w.heap.size, 0, none⟩)]) ∧ Ext w w' ∧ w'.heap.size = w.heap.size + 1 ∧ w'.heap[w.heap.size]? = some (.cells #[aI nm] 22 (0, 0)) := by
 go_enter Tryz.func160, Tryz.ntmps160
 refine_lift uL ?_; intro _ _ _
 refine eD (vs := [aI nm]) rfl rfl ?_
 intro w1 x1 s1 h1
 refine aA ?_
 refine_lift aS ?_
 go_ret
 exact ⟨rfl, x1, s1, h1⟩
def aN (ls : List (List UInt8)) : List (List Value) := ls.map fun x => [aI x]
structure CutMid (w : World) (s : Nat) (lp : Loop) (pre : List (List UInt8)) (W : World) : Prop where
 ext : Ext w W
 hs : w.heap.size = s
 c0 : W.heap[s]? = some (.cells #[.slice none 0 0] 117 (0, 0))
 c1 : W.heap[s + 1]? = some (.cells #[.bool false] 4 (0, 0))
 loc : ∃ v, W.heap[s + 2]? = some (.cells #[v] 117 (0, 0)) ∧ Own (s + 6) 1 9 W v (aN pre)
 df : W.heap[s + 4]? = some (.deferred (some []))
 lp : W.heap[s + 5]? = some (.loop lp)
 size : s + 6 ≤ W.heap.size
structure CutOut (w : World) (s : Nat) (lp : Loop) (W : World) : Prop where
 ext : Ext w W
 hs : w.heap.size = s
 c0 : W.heap[s]? = some (.cells #[.slice none 0 0] 117 (0, 0))
 c1 : W.heap[s + 1]? = some (.cells #[.bool false] 4 (0, 0))
 df : W.heap[s + 4]? = some (.deferred (some []))
 lp : W.heap[s + 5]? = some (.loop { lp with state := .done, pending := some .ret })
theorem CutMid.put {w : World} {s : Nat} {lp : Loop} {pre : List (List UInt8)} {W W' : World} (h : CutMid w s lp pre W) {o : Obj} (hp : Put W W' (s + 3) o) : CutMid w s lp pre W' := by
 have hm := hp.mv
 have ne : ∀ k, k ≠ s + 3 → some k ≠ some (s + 3) := fun k hk e => hk (Option.some.inj e)
 obtain ⟨v, hv, ho⟩ := h.loc
 refine ⟨h.ext.move hm (by rintro k ⟨⟩; have := h.hs; omega), h.hs, hm.at h.c0 (ne _ (by omega)), hm.at h.c1 (ne _ (by omega)), ⟨v, hm.at hv (ne _ (by omega)), ho.mv hm ?_⟩, hm.at h.df (ne _ (by omega)), hm.at h.lp (ne _ (by omega)), Nat.le_trans h.size hm.size⟩
 cases hb : v.ownBlock with
 | none => exact .inl rfl
 | some r => have := ho.block r hb; exact .inr (ne r (by omega))
set_option maxHeartbeats 1000000 in
theorem UK (nm : List UInt8) (w : World) : Calls Tryz.prog 106 #[aI nm] w (jE w fun v w' => match bF nm with
 | some ls => ∃ s, v = .tuple #[s, .bool true] ∧ Own w.heap.size 1 9 w' s (aN ls)
 | none => v = .tuple #[.slice none 0 0, .bool false]) := by
 refine gZ Tryz.func106 rfl ?_
 simp only [Tryz.ntmps106, List.size_toArray, List.length_cons, List.length_nil, Nat.reduceAdd, Nat.reduceSub, Array.replicate_succ, Array.replicate_zero, List.push_toArray, List.append_toArray, List.nil_append, List.cons_append]
 refine_lift uL ?_; intro _ _ _
 refine aG (z := [.slice none 0 0]) rfl (by decide +kernel) ?_
 intro w1 x1 s1 h1
 refine aA ?_
 refine aG (z := [.bool false]) rfl (by decide +kernel) ?_
 intro w2 x2 s2 h2
 refine aA ?_
 rw [s1] at h2 ⊢
 have h1' := x2.at h1
 refine_lift rG (fun _ _ _ => ?_) (fun _ _ _ _ _ => ?_)
 ·rename_i hc
  refine cI (v := .slice none 0 0) rfl rfl rfl h1' (by decide +kernel) rfl ?_
  intro w3 p3
  have h23 := (p3.other _ (by omega)).trans h2
  refine cI (v := .bool false) rfl rfl rfl h23 (by decide +kernel) rfl ?_
  intro w4 p4
  have h14 := (p4.other _ (by omega)).trans p3.this
  refine_lift aS ?_
  refine iL (eY rfl rfl rfl h14 p4.this (by decide +kernel) (by decide +kernel)) ⟨_, rfl, ?_, ?_⟩
  ·exact ((x1.trans x2).move p3.mv (by rintro k ⟨⟩; omega)).move p4.mv (by rintro k ⟨⟩; omega)
  ·rw [bF, if_pos (by omega)]
 ·rename_i hc
  refine aG (z := [.slice none 0 0]) rfl (by decide +kernel) ?_
  intro w3 x3 s3 h3
  rw [s2, s1] at h3 s3 ⊢
  refine_lift gV fun _ _ _ _ => ?_
  refine bH (enters_of Tryz.func160 rfl rfl) rfl rfl (WC nm _) ?_
  rintro e w4 ⟨rfl, x4, s4, h4⟩
  refine ⟨_, rfl, ?_⟩
  rw [s3] at h4 s4
  refine aA ?_
  refine_lift PK ?_
  simp only [s3]
  have e4 : w4.heap.size = w.heap.size + 4 := by omega
  generalize hs : w.heap.size = s at *
  have g0 : w4.heap[s]? = _ := x4.at (x3.at h1')
  have g1 : w4.heap[s + 1]? = _ := x4.at (x3.at h2)
  have g2 : w4.heap[s + 2]? = _ := x4.at h3
  have g3 : w4.heap[s + 3]? = _ := h4
  have gx : Ext w w4 := ((x1.trans x2).trans x3).trans x4
  clear h1 h2 h1' h3 h4 x1 x2 x3 x4 s1 s2 s3 s4
  refine jF (caps := #[.pointer (some ⟨s + 3, 0, none⟩)]) rfl (enters_of Tryz.func195 rfl rfl) e4 ?_
  intro fn W lp hlp xW k4 k5 sW
  have hJ : CutMid w s lp [] W := ⟨gx.trans xW, hs, xW.at g0, xW.at g1, ⟨_, xW.at g2, Own.nil _ _ _ _⟩, k4, k5, by omega⟩
  have gb := xW.at g3
  have hrdy : lp.state = .ready ∧ lp.pending = none := by subst hlp; exact ⟨rfl, rfl⟩
  have hlab : bF nm = gH nm := by rw [bF, if_neg (by omega)]
  have hy : HQ Tryz.prog (s + 5) (s + 3) lp (CutMid w s lp) (CutOut w s lp) := by
   constructor
   ·intro pre x rest W hpre hM hb
    subst hlp
    simp only [List.zip_toArray, List.zip_cons_cons, List.zip_nil_right, List.foldl_toArray', List.foldl_cons, List.foldl_nil, List.setIfInBounds_toArray, List.set_cons_succ, List.set_cons_zero, List.foldl_toArray, List.size_toArray, List.zip_toArray, List.length_cons, List.length_nil]
    have m0 := hM.c0
    have m1 := hM.c1
    obtain ⟨v, m2, mo⟩ := hM.loc
    have md := hM.df
    have ml := hM.lp
    have mx := hM.ext
    have ms := hM.size
    clear hM hJ gb xW k4 k5 sW g0 g1 g2 g3
    refine qZ ?_
    repeat' (first | refine cF (by rfl) (by intro _ _ h; exact h) ?_ | ((with_reducible refine bR ?_); (first | (refine gW ?_; refine jA ?_) | (refine jG ?_; first | refine kJ ?_ | refine pP ?_ | refine pR ?_ | refine pQ ?_ | ((first | refine pG ?_ ?_ | refine pH ?_ ?_) <;> intro hc)))) | ((fail_if_success (with_reducible refine bR ?_)); first | go_step | gi_step))
    refine ⟨_, ml, rfl, ?_⟩
    intro w2 p2
    have n0 := p2.at m0 (by omega)
    have n1 := p2.at m1 (by omega)
    have n2 := p2.at m2 (by omega)
    have no := mo.put p2 (by omega)
    have nb := p2.at hb (by omega)
    have nd := p2.at md (by omega)
    have nl := p2.this
    have nx := mx.move p2.mv (by rintro k ⟨⟩; omega)
    have ns : s + 6 ≤ w2.heap.size := Nat.le_trans ms p2.mv.size
    clear m0 m1 m2 mo hb md ml mx ms p2
    have hp2 := aE (cs := [v]) n2
    repeat' (first | refine cF (by rfl) (by intro _ _ h; exact h) ?_ | ((with_reducible refine bR ?_); (first | (refine gW ?_; refine jA ?_) | (refine jG ?_; first | refine kJ ?_ | refine pP ?_ | refine pR ?_ | refine pQ ?_ | ((first | refine pG ?_ ?_ | refine pH ?_ ?_) <;> intro hc)))) | ((fail_if_success (with_reducible refine bR ?_)); first | go_step | gi_step))
    refine bZ (xs := [aI x]) (k := 1) (e := 9) (bytes := 16) rfl rfl rfl (by intro y hy; simp at hy; subst hy; rfl) (by decide +kernel) (by simp) ?_
    intro v' w3 x3 s3 sl3 _
    refine aA ?_
    refine qE (B := s + 6) (k := 1) (e := 9) (bytes := 16) (x := v') rfl (no.ext x3) rfl sl3 (by decide +kernel) (by simp [aI, Value.cells]; rfl) (by have := x3.size; omega) (by simp [aN]; omega) (by simp [aN]; omega) ?_
    intro v2 w4 o4 mv4
    refine aA ?_
    have hv : Mv v.ownBlock w3 w4 := mv4
    have no3 := no.ext x3
    have q2 := no3.mvs hv (x3.at n2) (by omega)
    refine cI (v := v2) rfl rfl rfl q2 (by decide +kernel) o4.one ?_
    intro w5 p5
    have q0 := p5.at (no3.mvs hv (x3.at n0) (by omega)) (by omega)
    have q1 := p5.at (no3.mvs hv (x3.at n1) (by omega)) (by omega)
    have q3 := p5.at (no3.mvs hv (x3.at nb) (by omega)) (by omega)
    have q4 := p5.at (no3.mvs hv (x3.at nd) (by omega)) (by omega)
    have q5 := p5.at (no3.mvs hv (x3.at nl) (by omega)) (by omega)
    have qx := (no3.mvx hv (nx.trans x3) (by omega)).move p5.mv (by rintro k ⟨⟩; omega)
    have qs : s + 6 ≤ w5.heap.size := by have := x3.size; have := hv.size; have := p5.mv.size; omega
    have qo := o4.put p5 (by omega)
    have q2' := p5.this
    repeat' (first | refine cF (by rfl) (by intro _ _ h; exact h) ?_ | ((with_reducible refine bR ?_); (first | (refine gW ?_; refine jA ?_) | (refine jG ?_; first | refine kJ ?_ | refine pP ?_ | refine pR ?_ | refine pQ ?_ | ((first | refine pG ?_ ?_ | refine pH ?_ ?_) <;> intro hc)))) | ((fail_if_success (with_reducible refine bR ?_)); first | go_step | gi_step))
    refine lV q5 fun w6 p6 => ⟨rfl, ⟨qx.move p6.mv (by rintro k ⟨⟩; omega), hs, p6.at q0 (by omega), p6.at q1 (by omega), ⟨v2, p6.at q2' (by omega), ?_⟩, p6.at q4 (by omega), p6.this, Nat.le_trans qs p6.mv.size⟩, p6.at q3 (by omega)⟩
    have := qo.put p6 (by omega)
    simpa [aN, aI, Value.cells] using this
   ·intro pre W hM
    subst hlp
    simp only [List.zip_toArray, List.zip_cons_cons, List.zip_nil_right, List.foldl_toArray', List.foldl_cons, List.foldl_nil, List.setIfInBounds_toArray, List.set_cons_succ, List.set_cons_zero, List.foldl_toArray, List.size_toArray, List.length_cons, List.length_nil]
    have m0 := hM.c0
    have m1 := hM.c1
    have md := hM.df
    have ml := hM.lp
    have mx := hM.ext
    clear hM hJ gb xW k4 k5 sW g0 g1 g2 g3
    refine qZ ?_
    repeat' (first | refine cF (by rfl) (by intro _ _ h; exact h) ?_ | ((with_reducible refine bR ?_); (first | (refine gW ?_; refine jA ?_) | (refine jG ?_; first | refine kJ ?_ | refine pP ?_ | refine pR ?_ | refine pQ ?_ | ((first | refine pG ?_ ?_ | refine pH ?_ ?_) <;> intro hc)))) | ((fail_if_success (with_reducible refine bR ?_)); first | go_step | gi_step))
    refine ⟨_, ml, rfl, ?_⟩
    intro w2 p2
    have n0 := p2.at m0 (by omega)
    have n1 := p2.at m1 (by omega)
    have nd := p2.at md (by omega)
    have nl := p2.this
    have nx := mx.move p2.mv (by rintro k ⟨⟩; omega)
    clear m0 m1 md ml mx p2
    repeat' (first | refine cF (by rfl) (by intro _ _ h; exact h) ?_ | ((with_reducible refine bR ?_); (first | (refine gW ?_; refine jA ?_) | (refine jG ?_; first | refine kJ ?_ | refine pP ?_ | refine pR ?_ | refine pQ ?_ | ((first | refine pG ?_ ?_ | refine pH ?_ ?_) <;> intro hc)))) | ((fail_if_success (with_reducible refine bR ?_)); first | go_step | gi_step))
    refine cI (v := .slice none 0 0) rfl rfl rfl n0 (by decide +kernel) rfl ?_
    intro w3 p3
    refine cI (v := .bool false) rfl rfl rfl (p3.at n1 (by omega)) (by decide +kernel) rfl ?_
    intro w4 p4
    have q0 := p4.at p3.this (by omega)
    have q1 := p4.this
    have q4 := p4.at (p3.at nd (by omega)) (by omega)
    have q5 := p4.at (p3.at nl (by omega)) (by omega)
    have qx := (nx.move p3.mv (by rintro k ⟨⟩; omega)).move p4.mv (by rintro k ⟨⟩; omega)
    repeat' (first | refine cF (by rfl) (by intro _ _ h; exact h) ?_ | ((with_reducible refine bR ?_); (first | (refine gW ?_; refine jA ?_) | (refine jG ?_; first | refine kJ ?_ | refine pP ?_ | refine pR ?_ | refine pQ ?_ | ((first | refine pG ?_ ?_ | refine pH ?_ ?_) <;> intro hc)))) | ((fail_if_success (with_reducible refine bR ?_)); first | go_step | gi_step))
    exact zE q5 fun w6 p6 => ⟨rfl, ⟨qx.move p6.mv (by rintro k ⟨⟩; omega), hs, p6.at q0 (by omega), p6.at q1 (by omega), p6.at q4 (by omega), p6.this⟩⟩
  refine (WB (s + 5) (s + 3) lp (CutMid w s lp) (CutOut w s lp) (by subst hlp; rfl) (fun _ _ h => h.lp) (fun _ _ _ _ h hp => h.put hp) hy nm W hJ gb (by omega)).mono ?_
  rintro e W' ⟨rfl, hR⟩
  refine ⟨⟨_, rfl⟩, ?_⟩
  clear hJ gb xW k4 k5 sW hy g0 g1 g2 g3
  cases hpn : gH nm with
  | some ls =>
   rw [hpn] at hR
   refine ⟨lp, hR.lp, by rw [hrdy.1]; simp, ?_⟩
   intro W2 hput
   rw [hrdy.2]
   clear hlp hrdy
   simp only
   have hm := hput.mv
   have ne : ∀ k, k ≠ s + 4 + 1 → some k ≠ some (s + 4 + 1) := fun k hk e => hk (Option.some.inj e)
   have f0 := hm.at hR.c0 (ne _ (by omega))
   have f1 := hm.at hR.c1 (ne _ (by omega))
   have fd := hm.at hR.df (ne _ (by omega))
   obtain ⟨v, f2, ho⟩ := hR.loc
   have fo : Own (s + 6) 1 9 W2 v (aN ls) := ho.put hput (by omega)
   have f2 := hm.at f2 (ne _ (by omega))
   have fx : Ext w W2 := hR.ext.move hm (by rintro k ⟨⟩; omega)
   have fs := Nat.le_trans hR.size hm.size
   clear hR hput hm
   have hp2 := aE (cs := [v]) f2
   refine_lift bY fun _ _ => ?_
   refine cI (v := v) rfl rfl rfl f0 (by decide +kernel) fo.one ?_
   intro W3 p3
   refine cI (v := .bool true) rfl rfl rfl ((p3.other _ (by omega)).trans f1) (by decide +kernel) rfl ?_
   intro W4 p4
   have q0 := (p4.other _ (by omega)).trans p3.this
   have qd := (p4.other _ (by omega)).trans ((p3.other _ (by omega)).trans fd)
   have qx : Ext w W4 := (fx.move p3.mv (by rintro k ⟨⟩; omega)).move p4.mv (by rintro k ⟨⟩; omega)
   have qo : Own (s + 6) 1 9 W4 v (aN ls) := (fo.put p3 (by omega)).put p4 (by omega)
   have qf := (p4.this)
   refine_lift aS ?_
   refine iZ qd fun W5 p5 => ⟨_, eY rfl rfl rfl (p5.at q0 (by omega)) (p5.at qf (by omega)) (by decide +kernel) (by decide +kernel), _, rfl, qx.move p5.mv (by rintro k ⟨⟩; omega), ?_⟩
   rw [hlab, hpn, hs]
   exact ⟨v, rfl, (qo.put p5 (by omega)).weaken (by omega)⟩
  | none =>
   rw [hpn] at hR
   refine ⟨_, hR.lp, by simp, ?_⟩
   intro W2 hput
   simp only
   have hm := hput.mv
   have ne : ∀ k, k ≠ s + 4 + 1 → some k ≠ some (s + 4 + 1) := fun k hk e => hk (Option.some.inj e)
   have f0 := hm.at hR.c0 (ne _ (by omega))
   have f1 := hm.at hR.c1 (ne _ (by omega))
   have fd := hm.at hR.df (ne _ (by omega))
   have fx : Ext w W2 := hR.ext.move hm (by rintro k ⟨⟩; omega)
   clear hlp hrdy
   refine_lift PK ?_
   refine iZ fd fun W5 p5 => ⟨_, eY rfl rfl rfl (p5.at f0 (by omega)) (p5.at f1 (by omega)) (by decide +kernel) (by decide +kernel), _, rfl, fx.move p5.mv (by rintro k ⟨⟩; omega), ?_⟩
   rw [hlab, hpn]
open Go.RowKit Go.Proofs
theorem PR : (Tryz.prog.info? 197).map (·.size) = some 2 := by kernel_rfl
theorem SU : liesAt Tryz.prog Tryz.prog.depth 197 (2 / Tryz.prog.cellsOf 197) 0 197 1 = true := by kernel_rfl
theorem PS : (Tryz.prog.info? 5).map (fun i => (i.zero, i.size, i.bytes)) = some (some (.int .u8 0), 1, 1) := by kernel_rfl
set_option maxHeartbeats 1000000 in
set_option maxRecDepth 100000 in
theorem T.Builder_copyCheck_used (b : Nat) (w : World) (h0 : w.cell? ⟨b, 0, none⟩ = some (.pointer (some ⟨b, 0, none⟩))) :
 Calls Tryz.prog 197 #[.pointer (some ⟨b, 0, none⟩)] w fun e w' => e = .returned (.tuple #[]) ∧ w' = w := by
 obtain ⟨j, hj, _⟩ := Option.map_eq_some_iff.1 PR
 go_enter Tryz.func197, Tryz.ntmps197
 go_wp2
 rw [Lib.run_neq_ptr_same w _ Tryz.underlying195 hj]
 go_wp2
 go_end0
 exact ⟨rfl, rfl⟩
set_option maxHeartbeats 1000000 in
set_option maxRecDepth 100000 in
theorem T.Builder_copyCheck_fresh (b : Nat) (w : World) (h0 : w.cell? ⟨b, 0, none⟩ = some (.pointer none)) (hsh : w.shape? b = some (197, 2)) (hfz : w.frozen? ⟨b, 0, none⟩ = false) :
 Calls Tryz.prog 197 #[.pointer (some ⟨b, 0, none⟩)] w fun e w' => e = .returned (.tuple #[]) ∧ w' = w.setCell ⟨b, 0, none⟩ (.pointer (some ⟨b, 0, none⟩)) := by
 obtain ⟨j, hj, hjs⟩ := Option.map_eq_some_iff.1 PR
 go_enter Tryz.func197, Tryz.ntmps197
 go_wp2
 rw [Lib.run_to_unsafe w ⟨b, 0, none⟩ Tryz.underlying195 Tryz.underlying251 hj (by rw [hjs]; decide) hsh (Nat.zero_lt_succ 1)]
 simp only [Result.andThen]
 rw [Oper.upon_value]
 go_wp2
 rw [run_callFunc_extern Tryz.func226 (by kernel_rfl) (by kernel_rfl) (by kernel_rfl) (e := Extern.AbiNoEscape.same) (by kernel_rfl)]
 rw [Lib.run_noEscape]
 simp only [Result.andThen]
 rw [Oper.upon_value]
 go_wp2
 rw [Lib.run_from_unsafe w ⟨b, 0, none⟩ Tryz.underlying251 Tryz.underlying195 hj hsh SU]
 simp only [Result.andThen]
 rw [Oper.upon_value]
 go_wp2
 go_end0
 exact ⟨rfl, rfl⟩
theorem T.Builder_copyCheck (B b : Nat) (bs : List Value) (w : World) (h : Lib.IsBuilder 197 5 B b bs w) :
 Calls Tryz.prog 197 #[.pointer (some ⟨b, 0, none⟩)] w fun e w' => e = .returned (.tuple #[]) ∧ (Lib.BuilderAt 197 5 B b (.pointer (some ⟨b, 0, none⟩)) bs w' ∧ Below B w w' ∧ w.drawn ≤ w'.drawn) := by
 rcases h with h | h
 ·refine (T.Builder_copyCheck_fresh b w h.cell0 h.shape h.frozen0).mono ?_
  rintro e w' ⟨rfl, rfl⟩
  exact ⟨rfl, h.used _, (Below.refl B w).setCell (p := ⟨b, 0, none⟩) h.1 _, Nat.le_refl _⟩
 ·refine (T.Builder_copyCheck_used b w h.cell0).mono ?_
  rintro e w' ⟨rfl, rfl⟩
  exact ⟨rfl, h, Below.refl B _, Nat.le_refl _⟩
set_option maxHeartbeats 2000000 in
set_option maxRecDepth 100000 in
theorem T.Builder_WriteByte (B b : Nat) (bs : List Value) (c : Int) (w : World) (h : Lib.IsBuilder 197 5 B b bs w) (hlen : bs.length + 1 ≤ 140737488355328) (hBw : B ≤ w.heap.size) :
 Calls Tryz.prog 164 #[.pointer (some ⟨b, 0, none⟩), .int .u8 c] w fun e w' => e = .returned .nilIface ∧ (Lib.BuilderAt 197 5 B b (.pointer (some ⟨b, 0, none⟩)) (bs ++ [.int .u8 c]) w' ∧ Below B w w' ∧ w.drawn ≤ w'.drawn) := by
 obtain ⟨i0, hi, hz0, hz1, hz2⟩ := info_parts PS
 go_enter Tryz.func164, Tryz.ntmps164
 go_wp2_with (go_at_call 197; refine (T.Builder_copyCheck B b bs _ h).mono ?_)
 rintro e w1 ⟨rfl, h1, hb1, hd1⟩
 obtain ⟨hB, v, hbk, hown, hne⟩ := h1
 have c0 : w1.cell? ⟨b, 0, none⟩ = some (.pointer (some ⟨b, 0, none⟩)) := by rw [Lib.cell_of_heap hbk]; rfl
 have c1 : w1.cell? ⟨b, 1, none⟩ = some v := by rw [Lib.cell_of_heap hbk]; rfl
 go_wp2_with (at_builtin; refine FO rfl _ _ 181 rfl B 5 i0 (.int .u8 0) 1 1 Tryz.underlying181 hi hz0 hz1 hz2 rfl (by decide) _ _ _ rfl (hown.alloc _) ⟨w1.heap.size, 0, none⟩ 1 1 [.int .u8 c] rfl rfl ?c1 ?c2 ?c3 ?c4 ?c5 ?_)
 case c1 =>
  intro j u hj
  match j, hj with
  | 0, hj => simp at hj; subst hj; simp [Addr.add]
 case c2 => intro u hu; simp at hu; subst hu; rfl
 case c3 => unfold maxLen; omega
 case c4 => omega
 case c5 => have := hb1.size; simp; omega
 intro v' w2 hown' hgrow hd2
 have hlt : b < w1.heap.size := by
  rcases Nat.lt_or_ge b w1.heap.size with h' | h'
  ·exact h'
  ·simp [Array.getElem?_eq_none h'] at hbk
 have hb2 : w2.heap[b]? = some (.cells #[.pointer (some ⟨b, 0, none⟩), v] 197 (0, 0)) := by
  rw [hgrow.block b (by simp; omega) (fun e => hne e.symm), Lib.alloc_old w1 _ b hlt]
  exact hbk
 have d0 : w2.cell? ⟨b, 0, none⟩ = some (.pointer (some ⟨b, 0, none⟩)) := by rw [Lib.cell_of_heap hb2]; rfl
 have d1 : w2.cell? ⟨b, 1, none⟩ = some v := by rw [Lib.cell_of_heap hb2]; rfl
 have f1 : w2.frozen? ⟨b, 1, none⟩ = false := Lib.frozen_of_heap hb2 1
 obtain ⟨g, cap, rfl⟩ : ∃ g cap, v' = .slice (some ⟨g, 0, none⟩) (bs.length + 1) cap := by
  rcases hown'.2 with ⟨_, h0⟩ | ⟨g, cap, cur, hv, _⟩
  ·omega
  ·exact ⟨g, cap, hv⟩
 go_wp2
 go_ret
 refine ⟨rfl, ?_, ?_⟩
 ·exact Lib.BuilderAt.put (T := 197) (e := 5) hB hb2 (bs' := bs ++ [.int .u8 c]) (by simpa using hown') (by decide)
 ·exact ⟨((hb1.alloc (by have := hb1.size; omega) _).grown hgrow (by have := hb1.size; simp; omega) (fun k hk => (hown.lt k hk).1)).setCell (p := ⟨b, 1, none⟩) hB _, Nat.le_trans hd1 hd2⟩
set_option maxHeartbeats 2000000 in
set_option maxRecDepth 100000 in
theorem T.Builder_WriteString (B b : Nat) (bs : List Value) (s : ByteArray) (w : World) (h : Lib.IsBuilder 197 5 B b bs w) (hlen : bs.length + s.size ≤ 140737488355328) (hBw : B ≤ w.heap.size) :
 Calls Tryz.prog 165 #[.pointer (some ⟨b, 0, none⟩), .string s] w fun e w' => e = .returned (.tuple #[.int .i64 s.size, .nilIface]) ∧ (Lib.BuilderAt 197 5 B b (.pointer (some ⟨b, 0, none⟩)) (bs ++ Lib.strCells s) w' ∧ Below B w w' ∧ w.drawn ≤ w'.drawn) := by
 obtain ⟨i0, hi, hz0, hz1, hz2⟩ := info_parts PS
 go_enter Tryz.func165, Tryz.ntmps165
 go_wp2_with (go_at_call 197; refine (T.Builder_copyCheck B b bs _ h).mono ?_)
 rintro e w1 ⟨rfl, h1, hb1, hd1⟩
 obtain ⟨hB, v, hbk, hown, hne⟩ := h1
 have c0 : w1.cell? ⟨b, 0, none⟩ = some (.pointer (some ⟨b, 0, none⟩)) := by rw [Lib.cell_of_heap hbk]; rfl
 have c1 : w1.cell? ⟨b, 1, none⟩ = some v := by rw [Lib.cell_of_heap hbk]; rfl
 go_wp2_with (at_builtin; refine DA rfl _ _ 181 9 rfl B 5 i0 Tryz.underlying181 Tryz.underlying9 hi hz0 hz1 hz2 _ _ _ rfl hown s rfl ?c3 ?c4 ?c5 ?_)
 case c3 => unfold maxLen; omega
 case c4 => omega
 case c5 => have := hb1.size; omega
 intro v' w2 hown' hgrow hd2
 have hlt : b < w1.heap.size := by
  rcases Nat.lt_or_ge b w1.heap.size with h' | h'
  ·exact h'
  ·simp [Array.getElem?_eq_none h'] at hbk
 have hb2 : w2.heap[b]? = some (.cells #[.pointer (some ⟨b, 0, none⟩), v] 197 (0, 0)) := by
  rw [hgrow.block b hlt (fun e => hne e.symm)]
  exact hbk
 have d0 : w2.cell? ⟨b, 0, none⟩ = some (.pointer (some ⟨b, 0, none⟩)) := by rw [Lib.cell_of_heap hb2]; rfl
 have d1 : w2.cell? ⟨b, 1, none⟩ = some v := by rw [Lib.cell_of_heap hb2]; rfl
 have f1 : w2.frozen? ⟨b, 1, none⟩ = false := Lib.frozen_of_heap hb2 1
 obtain ⟨ao, n', cap, rfl⟩ : ∃ ao n' cap, v' = .slice ao n' cap := by
  rcases hown'.2 with ⟨hv, _⟩ | ⟨g, cap, cur, hv, _⟩
  ·exact ⟨_, _, _, hv⟩
  ·exact ⟨_, _, _, hv⟩
 go_wp2
 go_ret2
 refine ⟨rfl, ?_, ?_⟩
 ·exact Lib.BuilderAt.put (T := 197) (e := 5) hB hb2 (bs' := bs ++ Lib.strCells s) (by simpa [Lib.strCells_length] using hown') (by decide)
 ·exact ⟨(hb1.grown hgrow (by have := hb1.size; omega) (fun k hk => (hown.lt k hk).1)).setCell (p := ⟨b, 1, none⟩) hB _, Nat.le_trans hd1 hd2⟩
theorem Ext.heapEq {w w1 : World} (h : w1.heap = w.heap) {k : Nat} {o : Obj} (hk : w.heap[k]? = some o) : w1.heap[k]? = some o := by rw [h]; exact hk
theorem FU {w0 w : World} (h : Ext w0 w) {g n : Nat} (hg : w0.heap.size ≤ g) : Ext w0 (w.freeze ⟨g, 0, none⟩ n) := by
 unfold World.freeze
 split
 ·exact h
 ·refine ⟨h.os, h.tape, h.output, by simpa using h.size, fun k hk => ?_, h.drawn⟩
  have hne : g ≠ k := by omega
  simp only [Array.getElem?_modify]
  rw [if_neg hne]
  exact h.block k hk
set_option maxHeartbeats 1000000 in
theorem T.Builder_String (B b : Nat) (l : List UInt8) (w0 w : World) (h : Lib.IsBuilder 197 5 B b (Lib.byteCells l) w) (hx0 : Ext w0 w) (hB : w0.heap.size ≤ B) (hlen : l.length ≤ 9223372036854775807) :
 Calls Tryz.prog 166 #[.pointer (some ⟨b, 0, none⟩)] w fun e w' => e = .returned (aI l) ∧ Ext w0 w' := by
 obtain ⟨p, hbB, v, hbk, hown, hne⟩ : ∃ p, Lib.BuilderAt 197 5 B b p (Lib.byteCells l) w := by
  rcases h with h | h <;> exact ⟨_, h⟩
 go_enter Tryz.func166, Tryz.ntmps166
 refine_lift kL ?_; intro _ _ _
 refine cC (S := fun w' => Ext w0 w' ∧ w'.heap[b]? = some (.cells #[p, v] 197 (0, 0))) (by decide +kernel) ?_
 intro w1 x1 hh1
 have hS : Ext w0 w1 ∧ w1.heap[b]? = some (.cells #[p, v] 197 (0, 0)) := ⟨hx0.trans x1, Ext.heapEq hh1 hbk⟩
 have hsl' := (Own.sl (B := B) (k := 1) (e := 5) (es := bJ l) ⟨by rw [nE]; simpa [bJ, Lib.byteCells] using kO hown, by simp [bJ]⟩)
 ((with_reducible apply bP (i := 0)); (rfl); (rfl); (decide +kernel); (decide +kernel); (decide +kernel); (rfl); (exact hS); (intro w9 hS9; (have hp := aE (cs := [p, v]) hS9.2); exact rn); (exact fun _ _ _ h => h); (refine aA ?_)); ((with_reducible apply bP (i := 1)); (rfl); (rfl); (decide +kernel); (decide +kernel); (decide +kernel); (rfl); (exact hS); (intro w9 hS9; (have hp := aE (cs := [p, v]) hS9.2); exact rn); (exact fun _ _ _ h => h); (refine aA ?_)); ((with_reducible apply bP (i := 2)); (rfl); (rfl); (decide +kernel); (decide +kernel); (decide +kernel); (rfl); (exact hS); (intro w9 hS9; (have hp := aE (cs := [p, v]) hS9.2); exact rn); (exact fun _ _ _ h => h); (refine aA ?_)); ((with_reducible apply bP (i := 3)); (rfl); (rfl); (decide +kernel); (decide +kernel); (decide +kernel); (rfl); (exact hS); (intro w9 hS9; (have hp := aE (cs := [p, v]) hS9.2); exact rn); (exact fun _ _ _ h => h); (refine aA ?_)); ((with_reducible apply bP (i := 5)); (rfl); (rfl); (decide +kernel); (decide +kernel); (decide +kernel); (rfl); (exact hS); (intro w9 hS9; (have hp := aE (cs := [p, v]) hS9.2); exact rn); (exact fun _ _ _ h => h); (refine aA ?_)); ((with_reducible apply bP (i := 6)); (rfl); (rfl); (decide +kernel); (decide +kernel); (decide +kernel); (rfl); (exact hS); (intro w9 hS9; (have hp := aE (cs := [p, v]) hS9.2); exact rn); (exact fun _ _ _ h => h); (refine aA ?_)); ((with_reducible apply bP (i := 7)); (rfl); (rfl); (decide +kernel); (decide +kernel); (decide +kernel); (rfl); (exact hS); (intro w9 hS9; (have hp := aE (cs := [p, v]) hS9.2); exact rn); (exact fun _ _ _ h => h); (refine aA ?_)); ((with_reducible apply bP (i := 8)); (rfl); (rfl); (decide +kernel); (decide +kernel); (decide +kernel); (rfl); (exact hS); (intro w9 hS9; (have hp := aE (cs := [p, v]) hS9.2); exact rn); (exact fun _ _ _ h => h); (refine aA ?_))
 have hsz : ∀ w', (Sl 1 w' v (bJ l)) ∨ True := fun _ => .inr trivial
 refine bP (i := 9) (v := .int .i64 ((bJ l).length : Nat)) rfl rfl (by decide +kernel) (by decide +kernel) (by decide +kernel) rfl hS (fun w' _ => ?_) (fun _ _ _ h => h) ?_
 ·obtain ⟨ad, cap, h1, _⟩ := hsl'.out
  obtain ⟨e, i, ht, _⟩ := cS (P := Tryz.prog) (t := 181) (k := 1) (by decide +kernel)
  exact ⟨by simp [execOp, resolve, invoke, builtin, Act.eval, h1, Builtin.len_, run_underlying ht, goInt]⟩
 refine aA ?_
 have hlb : (bJ l).length = l.length := by simp [bJ]
 have hE : Ext w0 w1 := hx0.trans x1
 obtain ⟨q, w2, hr2, x2, hq⟩ : ∃ q w2, (Builtin.unsafeSliceData_ #[181] 226 #[v]).run Tryz.prog w1 = .ok (.pointer q) w2 ∧ Ext w1 w2 ∧ (l ≠ [] → ∃ g cur, q = some ⟨g, 0, none⟩ ∧ B ≤ g ∧ w2.heap[g]? = some (.cells cur 5 (0, 0)) ∧ l.length ≤ cur.size ∧ ∀ j x, l[j]? = some x → w2.cell? ⟨g, j, none⟩ = some (.int .u8 (x.toNat : Nat))) := by
  rcases hown.2 with ⟨rfl, h0⟩ | ⟨g, cap, cur, rfl, hbg, hg, hnc, hcm, hcs, htake⟩
  ·refine ⟨none, w1, rfl, Ext.refl _, fun hne => absurd (List.eq_nil_of_length_eq_zero ?_) hne⟩
   simpa [Lib.byteCells] using h0
  ·have hg1 : w1.heap[g]? = some (.cells cur 5 (0, 0)) := Ext.heapEq hh1 hg
   by_cases hc : cap = 0
   ·subst hc
    have hl0 : l = [] := List.eq_nil_of_length_eq_zero (by simpa [Lib.byteCells] using hnc)
    exact ⟨_, _, Lib.run_unsafeSliceData_zero w1 _ _ 5 Tryz.underlying226 ⟨g, 0, none⟩ _ (5, cur.size) (by simp [World.shape?, hg1]), Ext.alloc _ _, fun hne => absurd hl0 hne⟩
   ·refine ⟨_, w1, Lib.run_unsafeSliceData_row _ _ _ _ _ _ hc, Ext.refl _, fun _ => ⟨g, cur, rfl, hbg, hg1, ?_, fun j x hj => ?_⟩⟩
    ·have : l.length ≤ cap := by simpa [Lib.byteCells] using hnc
     omega
    ·rw [cell_of_row w1 g j cur 5 _ hg1]
     have := congrArg (·[j]?) htake
     have hjl : j < l.length := (List.getElem?_eq_some_iff.1 hj).1
     simp only [List.getElem?_take] at this
     rw [if_pos (by simpa [Lib.byteCells] using hjl)] at this
     rw [← Array.getElem?_toList, this]
     simp [Lib.byteCells, hj]
 refine aT (i := 4) (by decide +kernel) rfl rfl ?_
 refine kP rfl (w' := w2) (v := .pointer q) (by simp [execOp, resolve, invoke, builtin, eW, Act.eval, hr2]) ?_
 refine aA ?_
 have hb1 : b < w1.heap.size := (Array.getElem?_eq_some_iff.1 hS.2).1
 refine aJ ⟨⟨hE.trans x2, x2.at hS.2⟩, ?_⟩
 have hE2 : Ext w0 w2 := hE.trans x2
 obtain ⟨w3, hr3, x3, hb3⟩ : ∃ w3, (Builtin.unsafeString_ #[226, 3] 9 #[.pointer q, .int .i64 ((bJ l).length : Nat)]).run Tryz.prog w2 = .ok (aI l) w3 ∧ Ext w0 w3 ∧ w3.heap[b]? = some (.cells #[p, v] 197 (0, 0)) := by
  by_cases hl0 : l = []
  ·subst hl0
   exact ⟨w2, Lib.run_unsafeString_none w2 _ _ _ q, hE2, x2.at hS.2⟩
  ·obtain ⟨g, cur, rfl, hbg, hg2, hcl, hcell⟩ := hq hl0
   refine ⟨_, by rw [hlb]; exact Lib.run_unsafeString_row w2 226 3 9 5 Tryz.underlying226 (by decide +kernel) g cur.size (by simp [World.shape?, hg2]) l hl0 hcl hlen (fun j x hj => by rw [cR, Nat.zero_add]; exact hcell j x hj), FU hE2 (by omega), ?_⟩
   have hgb : g ≠ b := by
    rintro rfl
    rw [x2.at hS.2] at hg2
    simp at hg2
   unfold World.freeze
   split
   ·exact x2.at hS.2
   ·simp only [Array.getElem?_modify]
    rw [if_neg hgb]
    exact x2.at hS.2
 refine aT (i := 10) (by decide +kernel) rfl rfl ?_
 refine kP rfl (w' := w3) (v := aI l) (by rw [hlb] at hr3; simp [execOp, resolve, invoke, builtin, Act.eval, hlb, hr3]) ?_
 refine aA ?_
 refine aJ ⟨⟨x3, hb3⟩, ?_⟩
 refine aT (i := 11) (by decide +kernel) rfl rfl ?_
 refine_lift aS ?_
 refine ⟨⟨x3, hb3⟩, ?_⟩
 refine cB (by decide +kernel) ?_
 refine_lift aS ?_
 go_ret
 exact ⟨rfl, x3⟩
end Go.Proofs.X
