/- Laws and walks that the proof of the statement is made of (part 11). -/
import Derived.Test.YteofaejlmdplhaaGreatP10
set_option linter.unusedSimpArgs false
set_option linter.unusedVariables false
namespace Go.Proofs.X
open Go.RowKit
set_option maxRecDepth 100000
structure OwnOff (B k : Nat) (e : TypeId) (w : World) (v : Value) (es : List (List Value)) : Prop where
 row : (v = .slice none 0 0 ∧ es = []) ∨ ∃ g o cap cur fz, v = .slice (some ⟨g, o * k, none⟩) es.length cap ∧ B ≤ g ∧ w.heap[g]? = some (.cells cur e fz) ∧ (fz.2 ≤ fz.1 ∨ cur.size ≤ fz.1) ∧ es.length ≤ cap ∧ cap ≤ maxLen ∧ (o + cap) * k ≤ cur.size ∧ (cur.toList.drop (o * k)).take (es.length * k) = es.flatten
 each : ∀ x ∈ es, x.length = k
theorem Own.off {B k e : Nat} {w : World} {v : Value} {es : List (List Value)} (h : Own B k e w v es) : OwnOff B k e w v es := by
 refine ⟨?_, h.each⟩
 rcases h.row.2 with ⟨rfl, h0⟩ | ⟨g, cap, cur, fz, rfl, hb, hg, hfz, hnc, hcm, hcs, htake⟩
 ·exact .inl ⟨rfl, List.eq_nil_of_length_eq_zero h0⟩
 ·exact .inr ⟨g, 0, cap, cur, fz, by simp, hb, hg, hfz, hnc, hcm, by rw [Nat.zero_add]; exact Nat.le_of_eq hcs.symm, by simpa using htake⟩
theorem OwnOff.nil (B k : Nat) (e : TypeId) (w : World) : OwnOff B k e w (.slice none 0 0) [] := (Own.nil B k e w).off
theorem OwnOff.type {B k e : Nat} {w : World} {v : Value} {es : List (List Value)} (h : OwnOff B k e w v es) {r : Nat} (hr : v.ownBlock = some r) : B ≤ r ∧ r < w.heap.size ∧ ∃ cur fz, w.heap[r]? = some (.cells cur e fz) := by
 rcases h.row with ⟨rfl, _⟩ | ⟨g, o, cap, cur, fz, rfl, hb, hg, _⟩
 ·simp [Value.ownBlock] at hr
 ·simp [Value.ownBlock] at hr; subst hr; exact ⟨hb, (Array.getElem?_eq_some_iff.1 hg).1, cur, fz, hg⟩
theorem OwnOff.neBlock {B k e t b : Nat} {w : World} {v : Value} {es : List (List Value)} {cs : Array Value} {fz : Nat × Nat} (h : OwnOff B k e w v es) (hb : w.heap[b]? = some (.cells cs t fz)) (ht : t ≠ e) : v.ownBlock ≠ some b := fun e' => by
 obtain ⟨_, _, cur, fz', h'⟩ := h.type e'
 rw [hb] at h'
 simp only [Option.some.injEq, Obj.cells.injEq] at h'
 exact ht h'.2.1
theorem OwnOff.neOwn {B k e B' k' e' : Nat} {w : World} {v v' : Value} {es es' : List (List Value)} (h : OwnOff B k e w v es) (h' : Own B' k' e' w v' es') (he : e ≠ e') : v'.ownBlock = none ∨ v'.ownBlock ≠ v.ownBlock := by
 cases hv : v'.ownBlock with
 | none => exact .inl rfl
 | some r =>
  obtain ⟨cur, fz, h1⟩ := h'.type hv
  exact .inr fun e2 => h.neBlock h1 (fun e3 => he e3.symm) e2.symm
theorem OwnOff.mv {B k e : Nat} {w w' : World} {v : Value} {es : List (List Value)} {row : Option Nat} (h : OwnOff B k e w v es) (hm : Mv row w w') (hne : v.ownBlock = none ∨ v.ownBlock ≠ row) : OwnOff B k e w' v es := by
 refine ⟨h.row.imp id ?_, h.each⟩
 rintro ⟨g, o, cap, cur, fz, rfl, hb, hg, r⟩
 refine ⟨g, o, cap, cur, fz, rfl, hb, hm.at hg ?_, r⟩
 rcases hne with hne | hne
 ·simp [Value.ownBlock] at hne
 ·simpa [Value.ownBlock] using hne
theorem OwnOff.ext {B k e : Nat} {w w' : World} {v : Value} {es : List (List Value)} (h : OwnOff B k e w v es) (hx : Ext w w') : OwnOff B k e w' v es := by
 refine ⟨h.row.imp id ?_, h.each⟩
 rintro ⟨g, o, cap, cur, fz, rfl, hb, hg, r⟩
 exact ⟨g, o, cap, cur, fz, rfl, hb, hx.at hg, r⟩
theorem OwnOff.weaken {B C k e : Nat} {w : World} {v : Value} {es : List (List Value)} (h : OwnOff B k e w v es) (hc : C ≤ B) : OwnOff C k e w v es :=
 ⟨h.row.imp id fun ⟨g, o, cap, cur, fz, a, b, r⟩ => ⟨g, o, cap, cur, fz, a, Nat.le_trans hc b, r⟩, h.each⟩
theorem OwnOff.sl {B k e : Nat} {w : World} {v : Value} {es : List (List Value)} (h : OwnOff B k e w v es) : Sl k w v es := by
 rcases h.row with ⟨rfl, rfl⟩ | ⟨g, o, cap, cur, fz, rfl, hb, hg, hfz, hnc, hcm, hcs, htake⟩
 ·exact Sl.nil _ _
 ·refine ⟨_, cap, rfl, hnc, by unfold maxLen at hcm; omega, h.each, (fun e => by cases e), fun _ => ⟨g, o * k, rfl, ?_⟩⟩
  intro i ce j x hi hj
  have hfl := iK h.each hi hj
  rw [← htake, List.getElem?_take] at hfl
  split at hfl
  ·rw [List.getElem?_drop] at hfl
   have hlt : o * k + (i * k + j) < cur.size := by
    have := (List.getElem?_eq_some_iff.1 hfl).1
    simpa using this
   simp only [World.cell?, hg]
   rw [← Nat.add_assoc] at hfl
   simpa [Array.getElem?_toList] using hfl
  ·cases hfl
theorem OwnOff.drop {B k e : Nat} {w : World} {v : Value} {es : List (List Value)} (h : OwnOff B k e w v es) {m : Nat} (hm : m ≤ es.length) : OwnOff B k e w (cK v k m es.length) (es.drop m) := by
 refine ⟨?_, fun x hx => h.each x (List.mem_of_mem_drop hx)⟩
 rcases h.row with ⟨rfl, rfl⟩ | ⟨g, o, cap, cur, fz, rfl, hb, hg, hfz, hnc, hcm, hcs, htake⟩
 ·have : m = 0 := by simpa using hm
  subst this
  exact .inl ⟨by simp [cK], rfl⟩
 ·have hfl := aY h.each
  by_cases hc : cap = m
  ·have hlm : es.length = m := by omega
   refine .inr ⟨g, o, 0, cur, fz, ?_, hb, hg, hfz, ?_, by unfold maxLen; omega, ?_, ?_⟩
   ·simp [cK, hc, hlm]
   ·simp [hlm]
   ·have : (o + 0) * k ≤ (o + cap) * k := Nat.mul_le_mul_right k (by omega)
    omega
   ·have h0 : es.drop m = [] := by rw [← hlm, List.drop_length]
    rw [h0]
    simp
  ·refine .inr ⟨g, o + m, cap - m, cur, fz, ?_, hb, hg, hfz, ?_, by omega, ?_, ?_⟩
   ·simp [cK, hc, cR, Nat.add_mul]
   ·simp; omega
   ·rw [show o + m + (cap - m) = o + cap by omega]; exact hcs
   ·have hd := lY es m h.each
    rw [hd, ← htake, List.drop_take, List.drop_drop, List.length_drop, Nat.add_mul, ← Nat.sub_mul]
theorem yW {P : Program} {w : World} {t e k bytes B : Nat} {ty : TypeId} {v x : Value} {es fs : List (List Value)} (ht : jN P t e k bytes = true) (h : OwnOff B k e w v es) (hx : Sl k w x fs) (hne : fs ≠ []) (h1 : ∀ f ∈ fs, ∀ u ∈ f, u.oneCell' = true)
 (hB : B ≤ w.heap.size) (hb : (es.length + fs.length) * bytes ≤ 140737488355328) (hm : es.length + fs.length ≤ 140737488355328) :
 ∃ v' w', (Builtin.append_ #[t, t] ty #[v, x]).run P w = .ok v' w' ∧ OwnOff B k e w' v' (es ++ fs) ∧ Mv v.ownBlock w w' ∧ (v'.ownBlock = v.ownBlock ∨ v'.ownBlock = some w.heap.size) := by
 obtain ⟨hu, i, z, hi, hz, hzc, hs, hby, hk⟩ := fS ht
 rcases h.row with ⟨rfl, rfl⟩ | ⟨g, o, cap, cur, fz, rfl, hbg, hg, hfz, hnc, hcm, hcs, htake⟩
 ·obtain ⟨v', w', hr, ho, hmv, hkin⟩ := nD (ty := ty) ht (Own.nil B k e w) hx h1 hB hb hm
  exact ⟨v', w', hr, ho.off, hmv, hkin⟩
 ·have hxs := hx
  obtain ⟨ad, xcap, rfl, h2, h3, h4, h5, h6⟩ := hx
  obtain ⟨b, bo, he, hc⟩ := h6 hne
  subst he
  have hnews := hxs.news hk
  have hlf := aY h4
  have hle := aY h.each
  have hall : ∀ y ∈ es ++ fs, y.length = k := fun y hy => by
   rcases List.mem_append.1 hy with hy | hy
   ·exact h.each y hy
   ·exact h4 y hy
  have hokc : (o + cap) * k = o * k + cap * k := Nat.add_mul _ _ _
  have hf1 : ∀ u ∈ fs.flatten, u.oneCell' = true := fun u hu' => by obtain ⟨f, hf, hfu⟩ := List.mem_flatten.1 hu'; exact h1 f hf u hfu
  by_cases hroom : es.length + fs.length ≤ cap
  ·have hfit : o * k + es.length * k + fs.flatten.length ≤ cur.size := by
    have : (es.length + fs.length) * k ≤ cap * k := Nat.mul_le_mul_right k hroom
    rw [Nat.add_mul] at this
    omega
   have hf := run_firstCells_some (P := P) w i.size fs.length ⟨b, bo, none⟩ fs.length xcap fs.flatten (by rw [hlf, hs]) hnews
   have hst := cX P g (o * k + es.length * k) e fz fs.flatten 0 cur w hg hfz (by simpa using hfit) hf1
   simp only [Nat.add_zero] at hst
   have hr : (Builtin.append_ #[t, t] ty #[.slice (some ⟨g, o * k, none⟩) es.length cap, .slice (some ⟨b, bo, none⟩) fs.length xcap]).run P w =
    .ok (.slice (some ⟨g, o * k, none⟩) (es.length + fs.length) cap) (w.setRow g (cur.toList.take (o * k + es.length * k) ++ fs.flatten ++ cur.toList.drop (o * k + es.length * k + fs.flatten.length)).toArray) := by
    simp [Builtin.append_, run_underlying hu, sizeOf, typeInfo, hi, Builtin.lenOf, hroom, hf, cR, hs]
    rw [hs] at hf
    simp [hf, hst]
   refine ⟨_, _, hr, ⟨.inr ⟨g, o, cap, _, fz, by rw [List.length_append], hbg, setRow_heap w g cur _ e _ hg, ?_, by rw [List.length_append]; exact hroom, hcm, ?_, ?_⟩, hall⟩, ⟨rfl, rfl, rfl, by simp, fun k _ hk => setRow_other w g k _ (fun e => hk (by simp [Value.ownBlock, e])), Nat.le_refl _⟩, .inl rfl⟩
   ·simp only [List.size_toArray, List.length_append, List.length_take, List.length_drop, Array.length_toList]
    omega
   ·simp only [List.size_toArray, List.length_append, List.length_take, List.length_drop, Array.length_toList]
    omega
   ·have e1 : cur.toList.take (o * k + es.length * k) = cur.toList.take (o * k) ++ es.flatten := by
     rw [List.take_add, htake]
    have hok : (cur.toList.take (o * k)).length = o * k := by simp; omega
    rw [e1, List.toList_toArray, List.append_assoc, List.append_assoc, List.drop_append, hok, Nat.sub_self, List.drop_zero, List.drop_of_length_le (by omega), List.nil_append, List.flatten_append, ← List.append_assoc]
    have e2 : (es ++ fs).length * k = (es.flatten ++ fs.flatten).length := by rw [List.length_append, List.length_append, Nat.add_mul, hle, hlf]
    rw [e2]
    exact List.take_left
  ·have holds : ∀ j u, es.flatten[j]? = some u → w.cell? ((⟨g, o * k, none⟩ : Addr).add j) = some u := by
    intro j u hj
    rw [← htake, List.getElem?_take] at hj
    split at hj
    ·rw [List.getElem?_drop] at hj
     rw [cR]
     simp only [World.cell?, hg]
     simpa [Array.getElem?_toList] using hj
    ·cases hj
   have hr := run_append_grow (P := P) (ty := ty) w t e i z hu hi hz ⟨g, o * k, none⟩ es.length cap es.flatten (by rw [hle, hs]) holds ⟨b, bo, none⟩ fs.length xcap fs.flatten (by rw [hlf, hs]) hnews (by omega) (by omega) (growslice_fits (by omega) (by rw [hby]; exact hb))
   have hge := grownCap_ge w (es.length + fs.length) cap e
   have hcm' : grownCap w (es.length + fs.length) cap e ≤ maxLen := grownCap_le_maxLen w (es.length + fs.length) cap e (by unfold maxLen; omega)
   have hlen : (es ++ fs).flatten.length = (es ++ fs).length * k := aY hall
   refine ⟨_, _, hr, (show Own B k e _ _ (es ++ fs) from ⟨⟨hlen, .inr ⟨w.heap.size, _, _, (0, 0), by rw [List.length_append], hB, heap_alloc_new w.drew _, .inl (Nat.le_refl _), by rw [List.length_append]; exact hge, hcm', ?_, ?_⟩⟩, hall⟩).off, ⟨rfl, rfl, rfl, by simp, fun k hk _ => (Ext.alloc w.drew _).block k hk, Nat.le_succ _⟩, .inr rfl⟩
   ·simp only [Array.size_append, List.size_toArray, size_zeroCells, hzc, hle, hlf, ← Nat.add_mul]
    congr 1
    omega
   ·simp only [Array.toList_append, List.append_assoc]
    rw [← List.append_assoc, ← List.flatten_append, ← hlen]
    exact List.take_left
section
variable {P : Program} {ops : Array Oper} {Q : Exit → Act → World → Prop} {w : World} {rest : List Oper} {ts : List Value} {df : List Deferred} {ty : TypeId} {ps : String} {af : Array Edge}
theorem yX {t e k B d : Nat} {x0 y : Operand} {v0 x : Value} {es fs : List (List Value)} (h0 : (Act.mk ts.toArray df).eval x0 = v0)
 (h : OwnOff B k e w v0 es) (hy : (Act.mk ts.toArray df).eval y = x) (hx : Sl k w x fs) (hne : fs ≠ []) (h1 : ∀ f ∈ fs, ∀ u ∈ f, u.oneCell' = true)
 (hB : B ≤ w.heap.size) (hm : es.length + fs.length ≤ 1000000)
 (hk : ∀ v' w', OwnOff B k e w' v' (es ++ fs) → Mv v0.ownBlock w w' → (v'.ownBlock = v0.ownBlock ∨ v'.ownBlock = some w.heap.size) → wpList P ops Q rest (Act.mk (ts.set d v').toArray df) w')
 (ht : jN P t e k (bytesOf P e) = true := by decide +kernel) (hby : bytesOf P e ≤ 1000000 := by decide +kernel) :
 wpList P ops Q (Oper.mk (some d) (.call ⟨.builtin .append, #[x0, y], #[t, t]⟩) ty ps af none :: rest) (Act.mk ts.toArray df) w := by
 have hb : (es.length + fs.length) * bytesOf P e ≤ 140737488355328 :=
  calc (es.length + fs.length) * bytesOf P e ≤ 1000000 * 1000000 := Nat.mul_le_mul hm hby
   _ ≤ _ := by decide
 obtain ⟨v', w', hr, ho, hmv, hkin⟩ := yW (ty := ty) ht h hx hne h1 hB hb (by omega)
 refine kP rfl ?_ (hk v' w' ho hmv hkin)
 simp [execOp, resolve, invoke, builtin, h0, hy, hr]
end
theorem Pts.front {w : World} {p : Value} {vs : List Value} (h : Pts w p vs) (n : Nat) : Pts w p (vs.take n) := by
 obtain ⟨b, o, e, hc⟩ := h
 refine ⟨b, o, e, fun j x hx => hc j x ?_⟩
 rw [List.getElem?_take] at hx
 split at hx
 ·exact hx
 ·cases hx
section
variable {P : Program} {w : World} {ts : List Value} {df : List Deferred} {d : Option Nat} {ty : TypeId} {ps : String} {af : Array Edge} {g : Option (Nat × Bool)}
theorem Runs.fieldJ {s : TypeId} {m n off : Nat} {ad : Addr} (hx : ts.getD m undef = .pointer (some ad)) (hf : jO P s n off = true) :
 Runs P (Oper.mk d (.fieldAddr s (.tmp m) n) ty ps af g) (Act.mk ts.toArray df) w (bL (.pointer (some ad)) off) := by
 obtain ⟨fs, f, i, ht, hf, ho, hie, hz⟩ := jQ hf
 have hx' : (Act.mk ts.toArray df).eval (.tmp m) = .pointer (some ad) := by rw [eW]; exact hx
 constructor
 simp [execOp, hx', Instr.fieldAt, Instr.sureAddr, run_underlying ht, hf, fieldPlace, sizeOf, typeInfo, hie, hz, bL, ho]
end
structure SetsN (B : Nat) (w : World) (css0 css : List (List Value)) (l : List RSet) (k : Nat) : Prop where
 len : css.length = l.length
 new : ∀ (i : Nat) (s : RSet), l[i]? = some s → i < k → ∃ x, css[i]? = some [aI s.name, .int .i64 s.kind, .int .i64 s.ttl, x] ∧ Own B 1 9 w x (aN s.data)
 old : ∀ i, k ≤ i → css[i]? = css0[i]?
theorem SetsN.ext {B : Nat} {w w' : World} {css0 css : List (List Value)} {l : List RSet} {k : Nat} (h : SetsN B w css0 css l k) (hx : Ext w w') : SetsN B w' css0 css l k :=
 ⟨h.len, fun i s hi hk => let ⟨x, a, b⟩ := h.new i s hi hk; ⟨x, a, b.ext hx⟩, h.old⟩
theorem SetsN.mv {B : Nat} {w w' : World} {css0 css : List (List Value)} {l : List RSet} {k : Nat} {row : Option Nat} (h : SetsN B w css0 css l k) (hm : Mv row w w') (hne : ∀ x es, Own B 1 9 w x es → x.ownBlock = none ∨ x.ownBlock ≠ row) : SetsN B w' css0 css l k :=
 ⟨h.len, fun i s hi hk => let ⟨x, a, b⟩ := h.new i s hi hk; ⟨x, a, b.mv hm (hne x _ b)⟩, h.old⟩
theorem SetsN.step {B : Nat} {w : World} {css0 css : List (List Value)} {l : List RSet} {k : Nat} (h : SetsN B w css0 css l k) (hk : k < l.length) {y : Value} (hy : Own B 1 9 w y (aN l[k].data)) :
 SetsN B w css0 (css.set k [aI l[k].name, .int .i64 l[k].kind, .int .i64 l[k].ttl, y]) l (k + 1) := by
 refine ⟨by rw [List.length_set, h.len], fun i s hi hik => ?_, fun i hi => ?_⟩
 ·by_cases e : k = i
  ·subst e
   rw [List.getElem?_eq_getElem hk] at hi
   cases hi
   exact ⟨y, List.getElem?_set_self (by rw [h.len]; exact hk), hy⟩
  ·obtain ⟨x, a, b⟩ := h.new i s hi (by omega)
   exact ⟨x, by rw [List.getElem?_set_ne e]; exact a, b⟩
 ·rw [List.getElem?_set_ne (by omega)]; exact h.old i (by omega)
theorem SetsN.done {B : Nat} {w : World} {css0 css : List (List Value)} {l : List RSet} (h : SetsN B w css0 css l l.length) : SetsW B w css l :=
 ⟨h.len, fun i s hi => h.new i s hi (List.getElem?_eq_some_iff.1 hi).1⟩
set_option maxHeartbeats 6000000 in
theorem wY (o : List UInt8) (v : Value) (l : List RSet) (w : World) (hv : SetsAt w v l) (hl : l.length ≤ 100000) (hb : ∀ s ∈ l, s.data.length ≤ 1000000) :
 Calls Tryz.prog 44 #[.agg #[aI o, v]] w (jE w fun r w' => ∃ y, r = .agg #[aI o, y] ∧ SetsV w.heap.size w' y l) := by
 obtain ⟨css0, hv0, hvs⟩ := hv.rows
 have hlen0 := hvs.len
 go_enter Tryz.func44, Tryz.ntmps44
 refine_lift uL ?_; intro _ _ _
 refine eD (vs := [aI o, v]) rfl rfl ?_
 intro w1 x1 s1 hz1
 refine aA ?_
 refine aG (z := aM) rfl (by decide +kernel) ?_
 intro w2 x2 s2 h2
 refine aA ?_
 have hz2 := x2.at hz1
 have hx2 := x1.trans x2
 have hp2 := aE hz2
 have z1 := x1.size
 refine_lift bY fun _ _ => ?_
 refine aK (enters_of Tryz.func87 rfl rfl) rfl rfl (EL v css0 _ (hv0.ext hx2) (hvs.ext hx2).cell (by rw [hlen0]; omega)) ?_
 intro y w8 x8 ho8
 have hx8 := hx2.trans x8
 have h8 := x8.at h2
 have hz8 := x8.at hz2
 have hp8 := aE hz8
 refine aA ?_
 refine_lift aS ?_
 refine dP (n := 1) hz8 rfl rfl rfl (by simp) (by decide +kernel) ho8.one ?_
 intro w9 p9
 have hx9 : Ext w w9 := hx8.move p9.mv (by rintro k ⟨⟩; exact Nat.le_refl _)
 have hz9 : w9.heap[w.heap.size]? = some (.cells [aI o, y].toArray 25 (0, 0)) := p9.this
 have h9 := p9.at h8 (by omega)
 have ho9 := ho8.mv p9.mv (.inr (ho8.neBlock hz8 (by decide)))
 have hzB : w1.heap.size < w2.heap.size := by omega
 have hzW := hx2.size
 have hB9 : w2.heap.size ≤ w9.heap.size := by have a1 := x8.size; have a2 := p9.size; omega
 have hne : w.heap.size ≠ w1.heap.size := by omega
 have hsl9 := ho9.sl
 have hpz9 := aE hz9
 clear p9 hz8 hp8 h8 ho8 hp2 hz2 hz1 h2
 refine_lift bY fun _ _ => ?_
 generalize hrb : w1.heap.size = rb at *
 generalize w2.heap.size = B at *
 clear hpz9 hsl9
 go_loopw [3, 4, 12] (fun _ _ i wr => ∃ (k : Nat) (css : List (List Value)), k ≤ l.length ∧ i = .int .i64 k ∧ Ext w wr ∧ B ≤ wr.heap.size ∧ wr.heap[w.heap.size]? = some (.cells [aI o, y].toArray 25 (0, 0)) ∧ wr.heap[rb]? = some (.cells aM.toArray 25 (0, 0)) ∧ Own B 4 119 wr y css ∧ SetsN B wr css0 css l k) (fun _ _ i _ => l.length - (intOf i).toNat)
 case atStart => exact ⟨0, css0, Nat.zero_le _, rfl, hx9, hB9, hz9, h9, ho9, ⟨hlen0, by omega, fun i _ => rfl⟩⟩
 case round =>
  obtain ⟨k, css, hk, rfl, hx, hBr, hbz, hbr, ho, hs⟩ := hrel
  have hpz := aE hbz
  have hsl := ho.sl
  have hlen := hs.len
  by_cases hlt : k < l.length
  ·obtain ⟨x, hc0, hxd0⟩ := hvs.at' k _ (List.getElem?_eq_getElem hlt)
   have hc : css[k]? = some [aI l[k].name, .int .i64 l[k].kind, .int .i64 l[k].ttl, x] := by rw [hs.old k (Nat.le_refl _)]; exact hc0
   have hxd := hxd0.ext hx
   have hpe := hsl.elem hc
   have hbk := hb _ (List.getElem_mem hlt)
   refine_lift oM ?_; intro _ _ _ _ _ _
   refine aG (z := gR) rfl (by decide +kernel) ?_
   intro w10 x10 s10 h10
   refine aA ?_
   refine_lift aS ?_
   refine aC (v := .agg #[aI l[k].name, .int .i64 l[k].kind, .int .i64 l[k].ttl, x]) rfl rfl rfl h10 (show aO Tryz.prog 119 4 = true by decide +kernel) rfl (iM rfl rfl rfl hxd.one) ?_
   intro w11 p11
   have x11 : Ext wr w11 := x10.move p11.mv (by rintro k ⟨⟩; exact Nat.le_refl _)
   have hbs : w11.heap[wr.heap.size]? = some (.cells [aI l[k].name, .int .i64 l[k].kind, .int .i64 l[k].ttl, x].toArray 119 (0, 0)) := p11.this
   have hx11 := hx.trans x11
   have hbz11 := x11.at hbz
   have hbr11 := x11.at hbr
   have ho11 := ho.ext x11
   have hs11 := hs.ext x11
   have hps := aE hbs
   have hpz11 := aE hbz11
   have hsl11 := ho11.sl
   have hpe11 := hsl11.elem hc
   have hxd11 := hxd.ext x11
   clear p11 h10 x10 hpe hpz hsl
   refine_lift aS ?_
   refine cG 8 (Ext w11) (by decide +kernel) ?_
   intro w12 x12 _
   refine ⟨x12, ?_⟩
   refine eL 0 ?_; refine eL 1 ?_; refine eL 2 ?_; refine eL 3 ?_; refine eL 4 ?_
   refine bV (i := 5) (by decide +kernel) rfl rfl ?_
   refine aK (enters_of Tryz.func88 rfl rfl) rfl rfl (UN x l[k].data _ (hxd11.ext x12) (by omega)) ?_
   intro u w13 x13 ou
   refine aA ?_
   have x1113 := x12.trans x13
   refine aJ ⟨dF x1113, ?_⟩
   refine eL 6 ?_; refine eL 7 ?_
   refine bV (i := 8) (by decide +kernel) rfl rfl ?_
   have ho13 := ho11.ext x1113
   refine kR (i := k) (j := 3) rfl rfl rfl ho13 hc (by decide) (by decide +kernel) ou.one ?_
   intro w14 o14 m14
   refine aJ ⟨cJ rfl, ?_⟩
   refine cZ (by decide +kernel) ?_
   have hx13 := hx11.trans x1113
   have x14 : Ext w w14 := ho13.mvx m14 hx13 hzW
   have hbz14 := m14.at (x1113.at hbz11) (fun e => ho13.neBlock (x1113.at hbz11) (by decide) e.symm)
   have hbr14 := m14.at (x1113.at hbr11) (fun e => ho13.neBlock (x1113.at hbr11) (by decide) e.symm)
   have ou14 := ou.mv m14 (ou.ne ho13 (by decide))
   have hs14 := (hs11.ext x1113).mv m14 (fun x es hx => hx.ne ho13 (by decide))
   have hB14 : B ≤ w14.heap.size := by have a1 := x1113.size; have a2 := m14.size; have a3 := x11.size; omega
   have ouk : Own B 1 9 w14 u (aN l[k].data) := ou14.weaken (by have a1 := x12.size; have a2 := x11.size; omega)
   clear hps hpz11 hsl11 hpe11 hbs hbz11 hbr11 hs11 ho13 ho11 hxd11
   refine_lift aS ?_
   exact ⟨⟨k + 1, _, by omega, by go_num, x14, hB14, hbz14, hbr14, o14, hs14.step hlt ouk⟩, by simp [intOf]; omega⟩
  ·have : k = l.length := by omega
   subst this
   refine_lift kL fun _ _ _ => ?_
   refine aC (v := .agg #[aI o, y]) rfl rfl rfl hbr (show aO Tryz.prog 25 2 = true by decide +kernel) rfl (bE ho.one) ?_
   intro w11 p11
   have x11 : Ext w w11 := hx.move p11.mv (by rintro k ⟨⟩; omega)
   have hfin : SetsV w.heap.size w11 y l := by
    have : SetsV B wr y l := ⟨css, ho, hs.done⟩
    exact (this.put hbr (by decide) (by decide) p11).weaken hzW
   refine_lift aS ?_
   exact bodyPost_ret (fL (cs := [aI o, y]) rfl rfl p11.this (show dY Tryz.prog 25 2 = true by decide +kernel)) rfl ⟨_, rfl, x11, y, rfl, hfin⟩
section
variable {P : Program} {a : Act} {w : World} {d : Option Nat} {ty : TypeId} {ps : String} {af : Array Edge} {g : Option (Nat × Bool)}
theorem Runs.isNil {t u : TypeId} {x y : Operand} {p : Option Addr} (hx : a.eval x = .pointer p) (hy : a.eval y = .pointer none) (ht : P.underlying t = some (.pointer (P.pointee t))) :
 Runs P (Oper.mk d (.binOp .eql t x y u) ty ps af g) a w (.bool p.isNone) := by
 constructor
 simp [execOp, hx, hy, eqGuard, run_eql_pointer_nil w t p ht]
end
structure DelsV (B : Nat) (w : World) (v : Value) (ds : List DeltaR) : Prop where
 out : ∃ css, OwnOff B 4 90 w v css ∧ css.length = ds.length ∧ ∀ (i : Nat) (d : DeltaR), ds[i]? = some d → ∃ g n, css[i]? = some [.int .i64 d.fr, .int .i64 d.to, g, n] ∧ Own B 4 47 w g (aD d.gone) ∧ Own B 4 47 w n (aD d.new)
theorem DelsV.nil (B : Nat) (w : World) : DelsV B w (.slice none 0 0) [] := ⟨[], OwnOff.nil _ _ _ _, rfl, by simp⟩
theorem DelsV.ext {B : Nat} {w w' : World} {v : Value} {ds : List DeltaR} (h : DelsV B w v ds) (hx : Ext w w') : DelsV B w' v ds := by
 obtain ⟨css, h1, h2, h3⟩ := h
 exact ⟨css, h1.ext hx, h2, fun i d hi => let ⟨g, n, a, b, c⟩ := h3 i d hi; ⟨g, n, a, b.ext hx, c.ext hx⟩⟩
theorem DelsV.put {B b t : Nat} {w w' : World} {v : Value} {ds : List DeltaR} {cs : Array Value} {fz : Nat × Nat} {o : Obj} (h : DelsV B w v ds) (hb : w.heap[b]? = some (.cells cs t fz)) (h1 : t ≠ 90) (h2 : t ≠ 47) (hp : Put w w' b o) : DelsV B w' v ds := by
 obtain ⟨css, a, c, e⟩ := h
 exact ⟨css, a.mv hp.mv (.inr (a.neBlock hb h1)), c, fun i d hi => let ⟨g, n, x, y, z⟩ := e i d hi; ⟨g, n, x, y.mv hp.mv (.inr (y.neBlock hb h2)), z.mv hp.mv (.inr (z.neBlock hb h2))⟩⟩
theorem DelsV.len {B : Nat} {w : World} {v : Value} {ds : List DeltaR} (h : DelsV B w v ds) : ∃ css, Sl 4 w v css ∧ css.length = ds.length := let ⟨css, a, c, _⟩ := h; ⟨css, a.sl, c⟩
def jC (o : List UInt8) (v : Value) (room : Int) (dv : Value) : List Value := [aI o, v, .int .i64 room, dv]
structure JAt (w0 w : World) (b : Nat) (o : List UInt8) (l : List RSet) (room : Int) (ds : List DeltaR) : Prop where
 ge : w0.heap.size ≤ b
 ext : Ext w0 w
 out : ∃ v dv, w.heap[b]? = some (.cells (jC o v room dv).toArray 84 (0, 0)) ∧ SetsV w0.heap.size w v l ∧ DelsV w0.heap.size w dv ds
theorem JAt.grow {w0 w w' : World} {b : Nat} {o : List UInt8} {l : List RSet} {room : Int} {ds : List DeltaR} (h : JAt w0 w b o l room ds) (hx : Ext w w') : JAt w0 w' b o l room ds := by
 obtain ⟨h1, h2, v, dv, h3, h4, h5⟩ := h
 exact ⟨h1, h2.trans hx, v, dv, hx.at h3, h4.ext hx, h5.ext hx⟩
theorem nV {w : World} {b : Nat} {o : List UInt8} {v dv : Value} {room : Int} (h : w.heap[b]? = some (.cells (jC o v room dv).toArray 84 (0, 0))) :
 Pts w (.pointer (some ⟨b, 0, none⟩)) (jC o v room dv) ∧ Pts w (bL (.pointer (some ⟨b, 0, none⟩)) 0) [aI o, v] := by
 have hp := aE h
 exact ⟨hp, (hp.part 0).front 2⟩
theorem SetsV.sets {B : Nat} {w : World} {v : Value} {l : List RSet} (h : SetsV B w v l) : SetsAt w v l := by
 obtain ⟨css, h1, h2⟩ := h
 exact h2.sets.sets h1.sl
theorem nW {w0 w : World} {b : Nat} {o : List UInt8} {l : List RSet} {room : Int} {ds : List DeltaR} (h : JAt w0 w b o l room ds) (hb : ∀ s ∈ l, s.data.length ≤ 1000000) (hd : ∀ s ∈ l, ∀ d ∈ s.data, d.length ≤ 4611686018427387904) :
 Calls Tryz.prog 32 #[.pointer (some ⟨b, 0, none⟩)] w (bG w (.int .i64 (aP o l).serial)) := by
 obtain ⟨v, dv, hbk, hs, hds⟩ := h.out
 obtain ⟨hp, hp0⟩ := nV hbk
 go_enter Tryz.func32, Tryz.ntmps32
 refine_lift gV fun _ _ _ _ => ?_
 refine bM (Runs.isNil rfl rfl (by kernel_rfl)) ?_
 refine aA ?_
 refine_lift kL fun _ _ _ => ?_
 refine aB (enters_of Tryz.func31 rfl rfl) rfl rfl (pU o v l _ hs.sets hb hd) ?_; intro w1 x1; refine aA ?_
 refine_lift aS ?_
 refine aG (z := aV) rfl (by decide +kernel) ?_
 intro w2 x2 s2 h2
 refine aA ?_
 refine aC (v := .agg (aP o l).cells.toArray) rfl rfl rfl h2 (show aO Tryz.prog 67 7 = true by decide +kernel) rfl (dI _) ?_
 intro w3 p3
 have x3 : Ext w1 w3 := x2.move p3.mv (by rintro k ⟨⟩; exact Nat.le_refl _)
 have hs3 := aE (cs := (aP o l).cells) p3.this
 refine_lift aS ?_
 go_ret
 exact ⟨rfl, x1.trans x3⟩
theorem MG {w0 w : World} {b : Nat} {o : List UInt8} {l : List RSet} {room : Int} {ds : List DeltaR} (h : JAt w0 w b o l room ds) (hl : l.length ≤ 100000) (hb : ∀ s ∈ l, s.data.length ≤ 1000000) :
 Calls Tryz.prog 33 #[.pointer (some ⟨b, 0, none⟩)] w (jE w fun r w' => ∃ y, r = .agg #[aI o, y] ∧ SetsV w.heap.size w' y l) := by
 obtain ⟨v, dv, hbk, hs, hds⟩ := h.out
 go_enter Tryz.func33, Tryz.ntmps33
 refine_lift uL ?_; intro _ _ _
 refine aG (z := aM) rfl (by decide +kernel) ?_
 intro w1 x1 s1 h1
 refine aA ?_
 have hbk1 := x1.at hbk
 obtain ⟨hp, hp0⟩ := nV hbk1
 have hs1 := hs.ext x1
 refine_lift gV fun _ _ _ _ => ?_
 refine bM (Runs.isNil rfl rfl (by kernel_rfl)) ?_
 refine aA ?_
 refine_lift kL fun _ _ _ => ?_
 refine aK (enters_of Tryz.func44 rfl rfl) rfl rfl (wY o v l _ hs1.sets hl hb) ?_
 rintro r w2 x2 ⟨y, rfl, hy⟩
 have h2 := x2.at h1
 have hy1 : y.oneCell' = true := by obtain ⟨_, _, _, rfl⟩ := hy.slf; rfl
 refine aA ?_
 refine_lift aS ?_
 refine aC (v := .agg #[aI o, y]) rfl rfl rfl h2 (show aO Tryz.prog 25 2 = true by decide +kernel) rfl (bE hy1) ?_
 intro w3 p3
 have x3 : Ext w w3 := (x1.trans x2).move p3.mv (by rintro k ⟨⟩; exact Nat.le_refl _)
 refine_lift aS ?_
 exact bodyPost_ret (fL (cs := [aI o, y]) rfl rfl p3.this (show dY Tryz.prog 25 2 = true by decide +kernel)) rfl ⟨_, rfl, x3, y, rfl, (hy.put h2 (by decide) (by decide) p3).weaken x1.size⟩
def pM (o : List UInt8) (l : List RSet) (room : Int) : Int := if aX o l ≠ 0 then aX o l else if room < 0 ∨ 20 < room then 1 else 0
theorem MH (o : List UInt8) (v : Value) (l : List RSet) (room : Int) (w : World) (hv : SetsAt w v l) (hl : l.length ≤ 100000) (hb : ∀ s ∈ l, s.data.length ≤ 1000000) :
 Calls Tryz.prog 14 #[.agg #[aI o, v], .int .i64 room] w fun e w' => (pM o l room ≠ 0 ∧ e = .returned (.tuple #[.pointer none, .int .i64 (pM o l room)]) ∧ Ext w w') ∨
  (pM o l room = 0 ∧ ∃ b, e = .returned (.tuple #[.pointer (some ⟨b, 0, none⟩), .int .i64 0]) ∧ JAt w w' b o l room []) := by
 go_enter Tryz.func14, Tryz.ntmps14
 refine_lift uL ?_; intro _ _ _
 refine aZ (vs := [aI o, v]) rfl rfl ?_
 intro p w1 x1 hp
 refine aA ?_
 have hv1 := hv.ext x1
 refine_lift gV fun _ _ _ _ => ?_
 refine aB (enters_of Tryz.func34 rfl rfl) rfl rfl (rR o v l _ hv1 hb) ?_; intro w2 x2; refine aA ?_
 have hx2 := x1.trans x2
 have hp2 := hp.ext x2
 have hv2 := hv1.ext x2
 refine_lift QH (fun _ _ _ hc _ => ?_) (fun _ hc _ _ _ => ?_) (fun _ _ _ hc => ?_) (fun _ => ?_)
 ·have q : ¬ aX o l = 0 := by simpa using (by assumption : (!decide (aX o l = 0)) = true)
  have hE : pM o l room = aX o l := by rw [pM, if_pos q]
  go_ret2
  exact .inl ⟨by rw [hE]; exact q, by rw [hE]; rfl, hx2⟩
 ·have hE : pM o l room = 1 := by
   have q : aX o l = 0 := by simpa using (by assumption : (!decide (aX o l = 0)) = false)
   rw [pM, if_neg (by simp [q]), if_pos (by omega)]
  go_ret2
  exact .inl ⟨by rw [hE]; decide, by rw [hE]; rfl, hx2⟩
 ·have q : aX o l = 0 := by simpa using (by assumption : (!decide (aX o l = 0)) = false)
  have hE : pM o l room = 0 := by
   have h1 := ‹¬ room < 0›
   have h2 := ‹room ≤ 20›
   rw [pM, if_neg (by simp [q]), if_neg (by omega)]
  refine aK (enters_of Tryz.func44 rfl rfl) rfl rfl (wY o v l _ hv2 hl hb) ?_
  rintro r w3 x3 ⟨y, rfl, hy⟩
  obtain ⟨ya, yn, yc, hys⟩ := hy.slf
  refine aA ?_
  refine_lift aS ?_
  refine aQ (v := .agg (jC o y room (.slice none 0 0)).toArray) rfl (Runs.build (vals := [(0, .agg #[aI o, y]), (1, .int .i64 room)]) rfl (by rw [hys]; kernel_rfl)) ?_
  refine aA ?_
  refine eD (vs := jC o y room (.slice none 0 0)) rfl rfl ?_
  intro w4 x4 s4 b4
  refine aA ?_
  refine_lift aS ?_
  go_ret2
  have hx3 := hx2.trans x3
  exact .inr ⟨hE, w3.heap.size, rfl, hx3.size, hx3.trans x4, y, _, b4, (hy.ext x4).weaken hx2.size, DelsV.nil _ _⟩
 ·have hE : pM o l room = 1 := by
   have q : aX o l = 0 := by simpa using (by assumption : (!decide (aX o l = 0)) = false)
   rw [pM, if_neg (by simp [q]), if_pos (by omega)]
  go_ret2
  exact .inl ⟨by rw [hE]; decide, by rw [hE]; rfl, hx2⟩
section
variable {P : Program} {a : Act} {w : World} {d : Option Nat} {ty : TypeId} {ps : String} {af : Array Edge} {g : Option (Nat × Bool)}
theorem Runs.and32 {t u : TypeId} {x y : Operand} {m : Int} (hx : a.eval x = .int .i64 m) (hy : a.eval y = .int .i64 4294967295) :
 Runs P (Oper.mk d (.binOp .and t x y u) ty ps af g) a w (.int .i64 (m % 4294967296)) := by
 have e : (((BitVec.ofInt 64 m &&& BitVec.ofInt 64 4294967295).toNat : Nat) : Int) = m % 4294967296 := by
  rw [BitVec.toNat_and, BitVec.toNat_ofInt, show (BitVec.ofInt 64 4294967295).toNat = 2 ^ 32 - 1 from rfl, Nat.and_two_pow_sub_one_eq_mod]
  have h0 : 0 ≤ m % ((2 ^ 64 : Nat) : Int) := Int.emod_nonneg _ (by decide)
  have h1 : ((m % ((2 ^ 64 : Nat) : Int)).toNat : Int) = m % ((2 ^ 64 : Nat) : Int) := Int.toNat_of_nonneg h0
  rw [Int.natCast_emod, h1]
  exact Int.emod_emod_of_dvd m (by decide)
 have h2 : 0 ≤ m % 4294967296 ∧ m % 4294967296 < 4294967296 := ⟨Int.emod_nonneg _ (by decide), Int.emod_lt_of_pos _ (by decide)⟩
 have e2 : IntKind.i64.wrap (m % 4294967296) = m % 4294967296 := IntWalk.i64_in _ (by omega)
 constructor
 have hb : (Op.intBits .and .i64 m 4294967295) = Sem.pure (.int .i64 (m % 4294967296)) := by
  show Sem.pure (Value.int .i64 (IntKind.i64.wrap ((BitVec.ofInt 64 m &&& BitVec.ofInt 64 4294967295).toNat : Nat))) = _
  rw [e, e2]
 simp only [execOp, hx, hy, Sem.run_bind]
 simp [eqGuard, binOp, hb]
end
def eX (n : Int) : Bool := decide (0 ≤ n) && decide (n ≤ 4294967295)
def dB (a b : Int) : Bool := eX a && eX b && decide (2147483648 < (b - a) % 4294967296)
def CD (l : List Int) : List (List Value) := l.map fun n => [.int .i64 n]
set_option maxHeartbeats 2000000 in
theorem TE (v : Value) (l : List Int) (w : World) (hv : Sl 1 w v (CD l)) : Calls Tryz.prog 152 #[v] w (bG w (.bool (l.all eX))) := by
 have hl : (CD l).length = l.length := by simp [CD]
 have hle := hv.le
 rw [hl] at hle
 go_enter Tryz.func152, Tryz.ntmps152
 refine_lift bY fun _ _ => ?_
 go_loopw [4, 7] (fun _ i wr => ∃ k : Nat, k ≤ l.length ∧ i = .int .i64 k ∧ wr = w ∧ (l.take k).all eX = true) (fun _ i _ => l.length - (intOf i).toNat)
 case atStart => exact ⟨0, Nat.zero_le _, rfl, rfl, by simp⟩
 case round =>
  obtain ⟨k, hk, rfl, rfl, hall⟩ := hrel
  by_cases hlt : k < l.length
  ·have el := hv.elem (i := k) (e := [.int .i64 l[k]]) (by simp [CD, hlt])
   refine_lift SG (fun _ hc _ => ?_) (fun _ _ _ hc => ?_) (fun _ _ _ hc _ => ?_)
   ·have h1 := ‹(4294967295 : Int) < l[k]›
    go_ret
    refine ⟨?_, Ext.refl _⟩
    rw [show l.all eX = false from List.all_eq_false.2 ⟨_, List.getElem_mem hlt, by simp [eX]; omega⟩]
    rfl
   ·have h1 := ‹l[k] ≤ (4294967295 : Int)›
    have h0 := ‹¬ l[k] < 0›
    exact ⟨⟨k + 1, by omega, by go_num, trivial, by rw [List.take_succ_eq_append_getElem hlt, List.all_append, hall]; simp [eX]; omega⟩, by simp [intOf]; omega⟩
   ·have h1 := ‹l[k] < 0›
    go_ret
    refine ⟨?_, Ext.refl _⟩
    rw [show l.all eX = false from List.all_eq_false.2 ⟨_, List.getElem_mem hlt, by simp [eX]; omega⟩]
    rfl
  ·have : k = l.length := by omega
   subst this
   rw [List.take_length] at hall
   refine_lift fP fun _ => ?_
   go_ret
   exact ⟨by rw [hall]; rfl, Ext.refl _⟩
def eU (a b : Int) : Int × Int :=
 if (eX a && eX b) = false then (0, 1) else if (b - a) % 4294967296 = 0 then (0, 0) else if (b - a) % 4294967296 < 2147483648 then (-1, 0) else if 2147483648 < (b - a) % 4294967296 then (1, 0) else (0, 5)
set_option maxHeartbeats 2000000 in
theorem MI (a b : Int) (w : World) : Calls Tryz.prog 96 #[.int .i64 a, .int .i64 b] w (bG w (.tuple #[.int .i64 (eU a b).1, .int .i64 (eU a b).2])) := by
 go_enter Tryz.func96, Tryz.ntmps96
 refine_lift hY fun _ _ => ?_
 refine_lift gV fun _ _ _ _ => ?_
 refine bZ (e := 3) (k := 1) (bytes := 8) (xs := [.int .i64 a, .int .i64 b]) rfl rfl rfl (by simp [Value.cells]) (by decide +kernel) (by simp) ?_
 intro v1 w1 x1 _ sl1 _
 refine aA ?_
 refine_lift aS ?_
 refine aB (enters_of Tryz.func152 rfl rfl) rfl rfl (TE v1 [a, b] _ sl1) ?_; intro w2 x2; refine aA ?_
 have hx2 := x1.trans x2
 have hall : [a, b].all eX = (eX a && eX b) := by simp
 rw [hall]
 cases hok : (eX a && eX b) with
 | false =>
  refine_lift aS ?_
  go_ret2
  exact ⟨by rw [eU, if_pos hok]; rfl, hx2⟩
 | true =>
  have hb : 0 ≤ a ∧ a ≤ 4294967295 ∧ 0 ≤ b ∧ b ≤ 4294967295 := by
   simp only [eX, Bool.and_eq_true, decide_eq_true_eq] at hok
   omega
  refine_lift gV fun _ _ _ _ => ?_
  refine bM (Runs.and32 rfl rfl) ?_
  refine aA ?_
  refine_lift QE (fun _ _ => ?_) (fun _ _ _ => ?_) (fun _ _ _ => ?_) (fun _ => ?_)
  all_goals
   go_ret2
   refine ⟨?_, hx2⟩
   rw [eU, if_neg (by simp [hok])]
   first
    | (rw [if_pos (by omega)]; rfl)
    | (rw [if_neg (by omega), if_pos (by omega)]; rfl)
    | (rw [if_neg (by omega), if_neg (by omega), if_pos (by omega)]; rfl)
    | (rw [if_neg (by omega), if_neg (by omega), if_neg (by omega)]; rfl)
theorem IC (a b : Int) (w : World) : Calls Tryz.prog 45 #[.int .i64 a, .int .i64 b] w (bG w (.bool (dB a b))) := by
 have h : eU a b = (0, 1) ∧ dB a b = false ∨ eU a b = (0, 0) ∧ dB a b = false ∨ eU a b = (-1, 0) ∧ dB a b = false ∨ eU a b = (1, 0) ∧ dB a b = true ∨ eU a b = (0, 5) ∧ dB a b = false := by
  unfold eU dB
  cases hok : (eX a && eX b) with
  | false => simp
  | true =>
   simp only [Bool.true_eq_false, if_false, Bool.true_and]
   generalize (b - a) % 4294967296 = d
   by_cases h1 : d = 0
   ·simp [h1]
   ·by_cases h2 : d < 2147483648
    ·have : ¬ 2147483648 < d := by omega
     simp [h1, h2, this]
    ·by_cases h3 : 2147483648 < d
     ·simp [h1, h2, h3]
     ·simp [h1, h2, h3]
 go_enter Tryz.func45, Tryz.ntmps45
 refine_lift bY fun _ _ => ?_
 refine aB (enters_of Tryz.func96 rfl rfl) rfl rfl (MI a b _) ?_; intro w1 x1; refine aA ?_
 rcases h with ⟨h1, h2⟩ | ⟨h1, h2⟩ | ⟨h1, h2⟩ | ⟨h1, h2⟩ | ⟨h1, h2⟩
 all_goals
  rw [h1]
  refine_lift aS ?_
  go_ret
  exact ⟨by rw [h2]; rfl, x1⟩
theorem yY {P : Program} {w : World} {t ty : TypeId} {b n : Nat} {cs vs : List Value} {v : Value} (hb : w.heap[b]? = some (.cells cs.toArray t (0, 0))) (hv : v.cells = vs.toArray) (hn : n + vs.length ≤ cs.length) (hs : aO P ty vs.length = true) (h1 : ∀ u ∈ vs, u.oneCell' = true) :
 ∃ w', (storeVar ty ⟨b, n, none⟩ v).run P w = .ok () w' ∧ Put w w' b (.cells (cs.take n ++ vs ++ cs.drop (n + vs.length)).toArray t (0, 0)) := by
 obtain ⟨i, hq, hsz⟩ := lT (fQ hs)
 have hr := cX P b n t (0, 0) vs 0 cs.toArray w hb (.inl (Nat.le_refl _)) (by simpa using hn) h1
 simp only [Nat.add_zero] at hr
 refine ⟨w.setRow b (cs.take n ++ vs ++ cs.drop (n + vs.length)).toArray, ?_, rfl, rfl, rfl, by simp, setRow_heap w b _ _ t _ hb, fun k hk => setRow_other w b k _ hk, rfl⟩
 simp [storeVar, sizeOf, typeInfo, hq, hsz, hv, hr]
section
variable {P : Program} {ops : Array Oper} {Q : Exit → Act → World → Prop} {w : World} {rest : List Oper} {ts : List Value} {df : List Deferred} {d : Option Nat} {ty : TypeId} {ps : String} {af : Array Edge} {g : Option (Nat × Bool)}
theorem GQ {t ty : TypeId} {x y : Operand} {b n : Nat} {cs vs : List Value} {v : Value} {ty2 : TypeId} (hb : w.heap[b]? = some (.cells cs.toArray t (0, 0))) (hw : Region.wanted (Oper.mk none (.store ty x y) ty2 ps af g) (yielded ops ts.toArray) = true)
 (hx : (Act.mk ts.toArray df).eval x = bL (.pointer (some ⟨b, 0, none⟩)) n) (hy : (Act.mk ts.toArray df).eval y = v) (hv : v.cells = vs.toArray) (hn : n + vs.length ≤ cs.length) (hs : aO P ty vs.length = true) (h1 : ∀ u ∈ vs, u.oneCell' = true)
 (h : ∀ w', Put w w' b (.cells (cs.take n ++ vs ++ cs.drop (n + vs.length)).toArray t (0, 0)) → wpList P ops Q rest (Act.mk ts.toArray df) w') : wpList P ops Q (Oper.mk none (.store ty x y) ty2 ps af g :: rest) (Act.mk ts.toArray df) w := by
 obtain ⟨w', hr, hp⟩ := yY (P := P) hb hv hn hs h1
 refine fR hw (w' := w') ?_ (h w' hp)
 have e : bL (.pointer (some ⟨b, 0, none⟩)) n = .pointer (some ⟨b, n, none⟩) := by simp [bL, cR]
 simp [execOp, hx, hy, e, Instr.storeAt, Instr.sureAddr, hr]
theorem Runs.maxI {t u : TypeId} {x y : Operand} {m n : Int} (hx : (Act.mk ts.toArray df).eval x = .int .i64 m) (hy : (Act.mk ts.toArray df).eval y = .int .i64 n) :
 Runs P (Oper.mk d (.call ⟨.builtin .max, #[x, y], #[t, u]⟩) ty ps af g) (Act.mk ts.toArray df) w (.int .i64 (max m n)) := by
 constructor
 have e : (if n > m then n else m) = max m n := by rw [Int.max_def]; split <;> split <;> omega
 simp [execOp, resolve, invoke, builtin, hx, hy, run_max_int2, e]
end
theorem nX {o : List UInt8} {l : List RSet} (h : ZoneOk o l) : l.length ≤ 200 ∧ (∀ s ∈ l, s.data.length ≤ 20) ∧ (∀ s ∈ l, ∀ d ∈ s.data, d.length ≤ 4000) ∧ (aF l).length ≤ 4000 := by
 have h1 : l.length ≤ 200 := by
  have := h.chk
  unfold dC at this
  split at this
  ·cases this
  ·omega
 have h2 : ∀ s ∈ l, s.data.length ≤ 20 := fun s hs => by
  have hm := h.may hs
  simp only [fC, Bool.and_eq_true, decide_eq_true_eq] at hm
  exact hm.1.2
 refine ⟨h1, h2, fun s hs d hd => ?_, ?_⟩
 ·obtain ⟨i, hi, rfl⟩ := List.mem_iff_getElem.1 hd
  exact (tV (BY (h.may hs) hi)).1
 ·have : ∀ {L : List RSet}, (∀ s ∈ L, s.data.length ≤ 20) → (aF L).length ≤ 20 * L.length := by
   intro L
   induction L with
   | nil => intro _; simp [aF]
   | cons s L ih =>
    intro hL
    have e : aF (s :: L) = dZ s ++ aF L := by simp [aF]
    have i1 := ih fun t ht => hL t (by simp [ht])
    have i2 := hL s (by simp)
    rw [e, List.length_append, dZ, List.length_map, List.length_cons]
    omega
  have := this h2
  omega
def nC (o : List UInt8) (l : List RSet) (o' : List UInt8) (l' : List RSet) : Int :=
 if aX o' l' ≠ 0 then aX o' l' else if o' ≠ o then 1 else if dB (aP o' l').serial (aP o l).serial = false then 7 else 0
def dD (room : Int) (ds : List DeltaR) : List DeltaR := ds.drop (ds.length - room.toNat)
def KeptJ (b : Nat) (w w' : World) : Prop := ∀ c o, w.heap[c]? = some o → c ≠ b → (∀ cs fz, o ≠ .cells cs 90 fz) → w'.heap[c]? = some o
theorem PU {α β γ : Type} {F : α → β → γ → World → Prop} {G : α → β → γ → World → Prop} {goal : Prop} (h1 : (∀ x y z w', F x y z w' → G x y z w') → goal) (h2 : ∀ x y z w', F x y z w' → G x y z w') : goal := h1 h2
theorem KeptJ.of {b : Nat} {w w' : World} (h : Ext w w') : KeptJ b w w' := fun c o hc _ _ => h.at hc
theorem KeptJ.trans {b : Nat} {w w' w'' : World} (h : KeptJ b w w') (k : KeptJ b w' w'') : KeptJ b w w'' := fun c o hc hn ht => k c o (h c o hc hn ht) hn ht
theorem KeptJ.mv {b B : Nat} {w w' : World} {v : Value} {es : List (List Value)} (ho : OwnOff B 4 90 w v es) (hm : Mv v.ownBlock w w') : KeptJ b w w' := fun c o hc _ ht => by
 refine hm.at hc fun e => ?_
 obtain ⟨_, _, cur, fz, h⟩ := ho.type e.symm
 rw [hc] at h
 exact ht _ _ (Option.some.inj h)
theorem KeptJ.put {b : Nat} {w w' : World} {o : Obj} (hp : Put w w' b o) : KeptJ b w w' := fun c o hc hn _ => hp.mv.at hc (fun e => hn (Option.some.inj e))
theorem SetsV.mvO {B B' k' e' : Nat} {w w' : World} {v x : Value} {l : List RSet} {es : List (List Value)} (h : SetsV B w v l) (ho : OwnOff B' k' e' w x es) (h1 : e' ≠ 9) (h2 : e' ≠ 119) (hm : Mv x.ownBlock w w') : SetsV B w' v l := by
 obtain ⟨css, a, b⟩ := h
 exact ⟨css, a.mv hm (ho.neOwn a h2), b.len, fun i s hi => let ⟨y, c, d⟩ := b.at' i s hi; ⟨y, c, d.mv hm (ho.neOwn d h1)⟩⟩
theorem DelsV.add {B : Nat} {w w' : World} {v v' g n : Value} {ds : List DeltaR} {D : DeltaR} {css : List (List Value)} (h1 : OwnOff B 4 90 w v css) (h2 : css.length = ds.length)
 (h3 : ∀ (i : Nat) (d : DeltaR), ds[i]? = some d → ∃ g n, css[i]? = some [.int .i64 d.fr, .int .i64 d.to, g, n] ∧ Own B 4 47 w g (aD d.gone) ∧ Own B 4 47 w n (aD d.new)) (hm : Mv v.ownBlock w w')
 (o : OwnOff B 4 90 w' v' (css ++ [[.int .i64 D.fr, .int .i64 D.to, g, n]])) (hg : Own B 4 47 w g (aD D.gone)) (hn : Own B 4 47 w n (aD D.new)) : DelsV B w' v' (ds ++ [D]) := by
 refine ⟨_, o, by simp [h2], fun i d hi => ?_⟩
 rw [List.getElem?_append] at hi ⊢
 rw [h2]
 split at hi
 ·rw [if_pos ‹_›]
  obtain ⟨x, y, a, b, c⟩ := h3 i d hi
  exact ⟨x, y, a, b.mv hm (h1.neOwn b (by decide)), c.mv hm (h1.neOwn c (by decide))⟩
 ·rw [if_neg ‹_›]
  have hi0 : i - ds.length = 0 := by
   have := (List.getElem?_eq_some_iff.1 hi).1
   simpa using this
  rw [hi0] at hi ⊢
  cases hi
  exact ⟨g, n, rfl, hg.mv hm (h1.neOwn hg (by decide)), hn.mv hm (h1.neOwn hn (by decide))⟩
theorem DelsV.drop {B : Nat} {w : World} {v : Value} {ds : List DeltaR} (h : DelsV B w v ds) {m : Nat} (hm : m ≤ ds.length) : DelsV B w (cK v 4 m ds.length) (ds.drop m) := by
 obtain ⟨css, h1, h2, h3⟩ := h
 rw [← h2] at hm ⊢
 refine ⟨_, h1.drop hm, by simp [h2], fun i d hi => ?_⟩
 rw [List.getElem?_drop] at hi ⊢
 exact h3 _ d hi
set_option maxHeartbeats 8000000 in
theorem MJ {w0 w : World} {b : Nat} {o : List UInt8} {l : List RSet} {room : Int} {ds : List DeltaR} (h : JAt w0 w b o l room ds) (hz : ZoneOk o l) (hr : 0 ≤ room ∧ room ≤ 20) (hds : ds.length ≤ 20)
 (o' : List UInt8) (v' : Value) (l' : List RSet) (hv0 : SetsAt w0 v' l') (hb' : ∀ s ∈ l', s.data.length ≤ 1000000) (hd' : ∀ s ∈ l', ∀ d ∈ s.data, d.length ≤ 4611686018427387904) :
 Calls Tryz.prog 16 #[.pointer (some ⟨b, 0, none⟩), .agg #[aI o', v']] w fun e w' => e = .returned (.int .i64 (nC o l o' l')) ∧ KeptJ b w w' ∧
  (nC o l o' l' ≠ 0 → JAt w0 w' b o l room ds) ∧ (nC o l o' l' = 0 → JAt w0 w' b o l' room (dD room (ds ++ [uG o l o l']))) := by
 obtain ⟨zl, zb, zd, zr⟩ := nX hz
 have hE0 := h.ext
 have hv' := hv0.ext hE0
 obtain ⟨v, dv, hbk, hs, hdl⟩ := h.out
 go_enter Tryz.func16, Tryz.ntmps16
 refine_lift uL ?_; intro _ _ _
 refine eD (vs := [aI o', v']) rfl rfl ?_
 intro w1 x1 sz1 hcz
 have hpz := aE (cs := [aI o', v']) hcz
 refine aA ?_
 have hbk1 := x1.at hbk
 obtain ⟨hp, hp0⟩ := nV hbk1
 have hv1 := hv'.ext x1
 refine_lift gV fun _ _ _ _ => ?_
 refine bM (Runs.isNil rfl rfl (by kernel_rfl)) ?_
 refine aA ?_
 refine_lift kL fun _ _ _ => ?_
 refine aB (enters_of Tryz.func31 rfl rfl) rfl rfl (pU o' v' l' _ hv1 hb' hd') ?_; intro w2 x2; refine aA ?_
 have hx2 := x1.trans x2
 refine_lift aS ?_
 refine aG (z := aV) rfl (by decide +kernel) ?_
 intro w3 x3 s3 h3
 refine aA ?_
 refine aC (v := .agg (aP o' l').cells.toArray) rfl rfl rfl h3 (show aO Tryz.prog 67 7 = true by decide +kernel) rfl (dI _) ?_
 intro w4 p4
 have x4 : Ext w2 w4 := x3.move p4.mv (by rintro k ⟨⟩; exact Nat.le_refl _)
 have hs4 := aE (cs := (aP o' l').cells) p4.this
 have hx4 := hx2.trans x4
 have hpz4 := hpz.ext (x2.trans x4)
 have hbk4 := (x2.trans x4).at hbk1
 have hJ4 := h.grow hx4
 have hv4 := hv1.ext (x2.trans x4)
 clear p4 h3 x3 hp hp0
 obtain ⟨hp, hp0⟩ := nV hbk4
 by_cases q1 : aX o' l' = 0
 ·have q1' : ¬ aX o' l' ≠ 0 := by simp [q1]
  have hz' := gF q1
  rw [q1]
  refine_lift gV fun _ _ _ _ => ?_
  refine bB (by decide +kernel) (by decide +kernel) ?_
  refine_lift dX ?_
  intro w5 x5
  have hx5 := hx4.trans x5
  have hJ5 := hJ4.grow x5
  have hs5 := hs4.ext x5
  have hpz5 := hpz4.ext x5
  have hbk5 := x5.at hbk4
  have hv5 := hv4.ext x5
  clear hp hp0 hs4 hpz4
  obtain ⟨hp, hp0⟩ := nV hbk5
  by_cases q2 : o' = o
  ·subst q2
   rw [decide_eq_true rfl]
   simp only [Bool.not_true]
   refine_lift bY fun _ _ => ?_
   refine bB (by decide +kernel) (by decide +kernel) ?_
   refine_lift dX ?_
   refine cA (enters_of Tryz.func32 rfl rfl) rfl rfl (fun w' x' => nW (hJ5.grow x') (fun s hs => by have := zb s hs; omega) (fun s hs d hd => by have := zd s hs d hd; omega)) ?_
   refine aA ?_
   refine_lift dX ?_
   refine cA (enters_of Tryz.func45 rfl rfl) rfl rfl (fun w' _ => IC _ _ w') ?_
   refine aA ?_
   refine_lift dX ?_
   intro w6 x6
   have hx6 := hx5.trans x6
   have hJ6 := hJ5.grow x6
   cases hlt : dB (aP o' l').serial (aP o' l).serial with
   | false =>
    have hE : nC o' l o' l' = 7 := by rw [nC, if_neg q1', if_neg (by simp), if_pos hlt]
    simp only [Bool.not_false]
    refine_lift aS ?_
    go_ret
    exact ⟨by rw [hE]; rfl, KeptJ.of hx6, fun _ => hJ6, fun h0 => by rw [hE] at h0; cases h0⟩
   | true =>
    have hE : nC o' l o' l' = 0 := by rw [nC, if_neg q1', if_neg (by simp), if_neg (by simp [hlt])]
    simp only [Bool.not_true]
    have hpz6 := hpz5.ext x6
    have hv6 := hv5.ext x6
    have hdl6 := (hdl.ext hx5).ext x6
    have hs6 := (hs.ext hx5).ext x6
    have hbk6 := x6.at hbk5
    clear hp hp0 hs5 hpz5 hJ5 hJ4 hv5 hv4
    obtain ⟨hp, hp0⟩ := nV hbk6
    obtain ⟨zl', zb', zd', zr'⟩ := nX hz'
    have cM : ∀ w', Ext w6 w' → Calls Tryz.prog 46 #[.agg #[aI o', v], .agg #[aI o', v']] w' (jE w' fun r w'' => ∃ g n, r = .tuple #[.agg #[.int .i64 (uG o' l o' l').fr, .int .i64 (uG o' l o' l').to, g, n], .int .i64 (EO o' l o' l')] ∧ Own 0 4 47 w'' g (aD (uG o' l o' l').gone) ∧ Own 0 4 47 w'' n (aD (uG o' l o' l').new) ∧ Own w'.heap.size 4 47 w'' g (aD (uG o' l o' l').gone) ∧ Own w'.heap.size 4 47 w'' n (aD (uG o' l o' l').new)) := fun w' hx' => by
     refine (QY o' v l o' v' l' w' (hs6.ext hx').sets (hv6.ext hx') (fun s hs => by have := zb s hs; omega) (fun s hs d hd => by have := zd s hs d hd; omega) hb' hd' (by omega) (by omega)).mono ?_
     rintro e w'' ⟨r, rfl, hxx, y, rfl, g, n, rfl, og, on⟩
     exact ⟨_, rfl, hxx, g, n, rfl, og.weaken (Nat.zero_le _), on.weaken (Nat.zero_le _), og, on⟩
    generalize hDq : uG o' l o' l' = D at *
    generalize EO o' l o' l' = E at *
    refine_lift bY fun _ _ => ?_
    refine cC (S := fun w' => Ext w6 w') (by decide +kernel) ?_
    intro w21 x21 hh21
    refine tk 0 ?_; refine aA ?_; refine tk 1 ?_; refine aA ?_; refine tk 2 ?_; refine aA ?_; refine tk 3 ?_; refine aA ?_; refine tk 4 ?_; refine aA ?_
    have hsz6 := hx6.size
    have hsz0 := hE0.size
    apply PU (F := fun (g n : Value) (k : Nat) w' => Ext w6 w' ∧ w6.heap.size ≤ k ∧ w'.heap[k]? = some (.cells [.int .i64 D.fr, .int .i64 D.to, g, n].toArray 90 (0, 0)) ∧ Own w0.heap.size 4 47 w' g (aD D.gone) ∧ Own w0.heap.size 4 47 w' n (aD D.new))
    ·intro hG
     refine fJ (i := 5) (j := 9) (by decide +kernel) rfl rfl rfl ?_ ?_
     ·refine aK (enters_of Tryz.func46 rfl rfl) rfl rfl (cM _ x21) ?_
      rintro _ wC xC ⟨g, n, rfl, -, -, og, on⟩
      refine aA ?_
      have x1 := x21.trans xC
      have hsC := x21.size
      refine aJ ⟨x1, ?_⟩
      refine tk 6 ?_; refine aA ?_; refine tk 7 ?_; refine aA ?_; refine tk 8 ?_; refine aA ?_
      refine aT (i := 9) (by decide +kernel) rfl rfl ?_
      refine aG (z := pL) rfl (by decide +kernel) ?_
      intro wE xE sE hE
      have hsE := x1.size
      refine aA ?_
      have x3 := x1.trans xE
      refine aJ ⟨x3, ?_⟩
      refine aT (i := 10) (by decide +kernel) rfl rfl ?_
      refine aC (v := .agg #[.int .i64 D.fr, .int .i64 D.to, g, n]) rfl rfl rfl hE (show aO Tryz.prog 90 4 = true by decide +kernel) rfl (iM rfl rfl og.sl.one on.sl.one) ?_
      intro wF pF
      have xF : Ext wC wF := xE.move pF.mv (by rintro k ⟨⟩; exact Nat.le_refl _)
      have hF := pF.this
      refine aJ ⟨x1.trans xF, ?_⟩
      refine tk 11 ?_; refine aA ?_
      have x4 := x1.trans xF
      clear pF hE xE sE
      generalize wC.heap.size = k at *
      exact hG g n k _ ⟨x4, hsE, hF, (og.ext xF).weaken (by omega), (on.ext xF).weaken (by omega)⟩
     ·refine aG (z := pL) rfl (by decide +kernel) ?_
      intro wD xD sD hD
      have hsD := x21.size
      refine aA ?_
      have x2 := x21.trans xD
      refine aJ ⟨x2, ?_⟩
      refine aT (i := 5) (by decide +kernel) rfl rfl ?_
      refine aK (enters_of Tryz.func46 rfl rfl) rfl rfl (cM _ x2) ?_
      rintro _ wE xE ⟨g, n, rfl, -, -, og, on⟩
      refine aA ?_
      have hsE := x2.size
      have x3 := x2.trans xE
      refine aJ ⟨x3, ?_⟩
      refine tk 6 ?_; refine aA ?_; refine tk 7 ?_; refine aA ?_; refine tk 8 ?_; refine aA ?_
      have hE := xE.at hD
      refine aT (i := 10) (by decide +kernel) rfl rfl ?_
      refine aC (v := .agg #[.int .i64 D.fr, .int .i64 D.to, g, n]) rfl rfl rfl hE (show aO Tryz.prog 90 4 = true by decide +kernel) rfl (iM rfl rfl og.sl.one on.sl.one) ?_
      intro wF pF
      have xF : Ext w6 wF := x3.move pF.mv (by rintro k ⟨⟩; exact hsD)
      have hF := pF.this
      refine aJ ⟨xF, ?_⟩
      refine tk 11 ?_; refine aA ?_
      have hfin1 := (og.mv pF.mv (.inr (og.neBlock hE (by decide)))).weaken (show w0.heap.size ≤ _ by omega)
      have hfin2 := (on.mv pF.mv (.inr (on.neBlock hE (by decide)))).weaken (show w0.heap.size ≤ _ by omega)
      clear pF hE hD sD
      generalize w21.heap.size = k at *
      exact hG g n k _ ⟨xF, hsD, hF, hfin1, hfin2⟩
    ·clear hh21
     rintro g n k w7 ⟨x7, hk7, hk, og, on⟩
     refine cB (by decide +kernel) ?_
     refine_lift bY fun _ _ => ?_
     have hx7 := hx6.trans x7
     have hcz7 := ((((x2.trans x4).trans x5).trans x6).trans x7).at hcz
     have hbk7 := x7.at hbk6
     have hs7 := hs6.ext x7
     have hE7 : Ext w0 w7 := hE0.trans hx7
     obtain ⟨css, hdo, hdlen, hdat⟩ := (hdl6.ext x7).out
     have hnb : dv.ownBlock ≠ some b := hdo.neBlock hbk7 (by decide)
     have hnz : dv.ownBlock ≠ some w.heap.size := hdo.neBlock hcz7 (by decide)
     have hnk : ∀ r, dv.ownBlock = some r → w0.heap.size ≤ r := fun r hr => (hdo.type hr).1
     have hkb : k ≠ b := by rintro rfl; rw [hk] at hbk7; simp at hbk7
     have hkz : k ≠ w.heap.size := by rintro rfl; rw [hk] at hcz7; simp at hcz7
     obtain ⟨hq, hq0⟩ := nV hbk7
     have hq3 : Pts w7 (bL (.pointer (some ⟨b, 0, none⟩)) 3) [dv] := hq.part 3
     have hkp := aE hk
     have hg1 := og.sl.one
     have hn1 := on.sl.one
     have h41 : ∀ f ∈ [[Value.int .i64 D.fr, .int .i64 D.to, g, n]], ∀ u ∈ f, u.oneCell' = true := by
      intro f hf u hu
      simp only [List.mem_singleton] at hf
      subst hf
      simp at hu
      rcases hu with rfl | rfl | rfl | rfl
      ·rfl
      ·rfl
      ·exact hg1
      ·exact hn1
     refine cG 7 (Ext w7) (by decide +kernel) ?_
     intro w8 x8 _
     refine ⟨x8, ?_⟩
     refine iN 0 ?_
     refine eL 1 ?_; refine eL 2 ?_
     refine dU (i := 3) rfl rfl rfl (by decide +kernel) (by decide +kernel) (by decide +kernel) rfl (fun _ => Runs.fieldJ (off := 3) rfl (by decide +kernel)) (fun _ _ _ h => h) ?_; refine aA ?_
     refine eL 4 ?_; refine eL 5 ?_
     refine bV (i := 6) (by decide +kernel) rfl rfl ?_
     refine bZ (e := 90) (k := 4) (bytes := 64) (xs := [.agg #[.int .i64 D.fr, .int .i64 D.to, g, n]]) rfl rfl rfl (by simp [Value.cells]) (by decide +kernel) (by simp) ?_
     intro vB wB xB szB slB owB
     refine aA ?_
     have x7B := x8.trans xB
     refine aJ ⟨dF x7B, ?_⟩
     refine bV (i := 7) (by decide +kernel) rfl rfl ?_
     refine yX (e := 90) (k := 4) rfl (hdo.ext x7B) rfl slB (by simp) h41 (hE7.trans x7B).size (by rw [hdlen]; simp; omega) ?_
     intro a9 w9 o9 m9 _
     refine aA ?_
     have hs9 : SetsV w0.heap.size w9 v l := (hs7.ext x7B).mvO (hdo.ext x7B) (by decide) (by decide) m9
     have hE9 : Ext w0 w9 := (hE7.trans x7B).move m9 hnk
     have hbk9 := m9.at (x7B.at hbk7) (fun e => hnb e.symm)
     have hcz9 := m9.at (x7B.at hcz7) (fun e => hnz e.symm)
     have hK9 : KeptJ b w w9 := (KeptJ.of (hx7.trans x7B)).trans (KeptJ.mv (hdo.ext x7B) m9)
     have hD9 : DelsV w0.heap.size w9 a9 (ds ++ [D]) := DelsV.add (hdo.ext x7B) hdlen (fun i d hi => let ⟨x, y, a, b, c⟩ := hdat i d hi; ⟨x, y, a, b.ext x7B, c.ext x7B⟩) m9 o9 (og.ext x7B) (on.ext x7B)
     refine aJ ⟨cJ rfl, ?_⟩
     refine iN 8 ?_
     refine dU (i := 9) rfl rfl rfl (by decide +kernel) (by decide +kernel) (by decide +kernel) rfl (fun _ => Runs.fieldJ (off := 3) rfl (by decide +kernel)) (fun _ _ _ h => h) ?_; refine aA ?_
     refine bV (i := 10) (by decide +kernel) rfl rfl ?_
     refine dP (n := 3) hbk9 rfl rfl rfl (by simp [jC]) (by decide +kernel) o9.sl.one ?_
     intro w10 p10
     refine aJ ⟨cJ rfl, ?_⟩
     refine cZ (by decide +kernel) ?_
     have hbk10 : w10.heap[b]? = some (.cells (jC o' v room a9).toArray 84 (0, 0)) := p10.this
     have hK10 := hK9.trans (KeptJ.put p10)
     have hE10 : Ext w0 w10 := hE9.move p10.mv (by rintro k ⟨⟩; exact h.ge)
     have hD10 := hD9.put hbk9 (by decide) (by decide) p10
     have hs10 := hs9.put hbk9 (by decide) (by decide) p10
     have hcz10 := p10.mv.at hcz9 (by intro e; have := Option.some.inj e; subst this; rw [hcz9] at hbk9; simp at hbk9)
     clear p10 m9 o9 hq hq0 hq3 hkp hdo hdat hp hp0
     have hlen : (ds ++ [D]).length ≤ 21 := by simp; omega
     generalize hes : ds ++ [D] = es at *
     obtain ⟨hp, hp0⟩ := nV hbk10
     obtain ⟨ces, hsl, hcl⟩ := hD10.len
     have hp3 : Pts w10 (bL (.pointer (some ⟨b, 0, none⟩)) 3) [a9] := hp.part 3
     have hp2 : Pts w10 (bL (.pointer (some ⟨b, 0, none⟩)) 2) [.int .i64 room] := (hp.part 2).front 1
     refine_lift bY fun _ _ => ?_
     refine cG 19 (Ext w10) (by decide +kernel) ?_
     intro w11 x11 _
     refine ⟨x11, ?_⟩
     refine eL 0 ?_; refine eL 1 ?_; refine eL 2 ?_
     refine dU (i := 3) rfl rfl rfl (by decide +kernel) (by decide +kernel) (by decide +kernel) rfl (fun _ => Runs.fieldJ (off := 3) rfl (by decide +kernel)) (fun _ _ _ h => h) ?_; refine aA ?_
     refine eL 4 ?_; refine eL 5 ?_; refine eL 6 ?_
     refine dU (i := 7) rfl rfl rfl (by decide +kernel) (by decide +kernel) (by decide +kernel) rfl (fun _ => Runs.fieldJ (off := 3) rfl (by decide +kernel)) (fun _ _ _ h => h) ?_; refine aA ?_
     refine eL 8 ?_
     refine eL 9 ?_; refine eL 10 ?_; refine eL 11 ?_
     refine dU (i := 12) rfl rfl rfl (by decide +kernel) (by decide +kernel) (by decide +kernel) rfl (fun _ => Runs.fieldJ (off := 2) rfl (by decide +kernel)) (fun _ _ _ h => h) ?_; refine aA ?_
     refine eL 13 ?_; refine eL 14 ?_
     refine dU (i := 15) (v := .int .i64 (max ((es.length : Int) - room) 0)) rfl rfl rfl (by decide +kernel) (by decide +kernel) (by decide +kernel) rfl (fun _ => by rw [← hcl]; exact Runs.maxI rfl rfl) (fun _ _ _ h => h) ?_; refine aA ?_
     refine bQ (i := 16) (v := cK a9 4 (es.length - room.toNat) es.length) rfl rfl (by decide +kernel) (by decide +kernel) (by decide +kernel) (by decide +kernel) (by decide +kernel) rfl (fun w' hF => by
      have e : es.length - room.toNat = (max ((es.length : Int) - room) 0).toNat := by omega
      rw [e, ← hcl]
      exact Runs.dropTI rfl (hsl.ext hF) (by omega) (by omega) (by decide +kernel)) (fun _ _ _ h => h) ?_
     refine aA ?_
     refine eL 17 ?_
     refine dU (i := 18) rfl rfl rfl (by decide +kernel) (by decide +kernel) (by decide +kernel) rfl (fun _ => Runs.fieldJ (off := 3) rfl (by decide +kernel)) (fun _ _ _ h => h) ?_; refine aA ?_
     refine bV (i := 19) (by decide +kernel) rfl rfl ?_
     have hD11 := (hD10.ext x11).drop (m := es.length - room.toNat) (by omega)
     have hbk11 := x11.at hbk10
     obtain ⟨_, h1s, _⟩ := hD11.len
     refine dP (n := 3) hbk11 rfl rfl rfl (by simp [jC]) (by decide +kernel) h1s.one ?_
     intro w12 p12
     refine aJ ⟨cJ rfl, ?_⟩
     refine cZ (by decide +kernel) ?_
     have hbk12 : w12.heap[b]? = some (.cells (jC o' v room (cK a9 4 (es.length - room.toNat) es.length)).toArray 84 (0, 0)) := p12.this
     have hK12 := (hK10.trans (KeptJ.of x11)).trans (KeptJ.put p12)
     have hE12 : Ext w0 w12 := (hE10.trans x11).move p12.mv (by rintro k ⟨⟩; exact h.ge)
     have hD12 := hD11.put hbk11 (by decide) (by decide) p12
     have hcz11 := x11.at hcz10
     have hcz12 := p12.mv.at hcz11 (by intro e; have := Option.some.inj e; subst this; rw [hcz11] at hbk11; simp at hbk11)
     clear p12 hp hp0 hp2 hp3 hD11 h1s hsl
     have hpz12 := aE (cs := [aI o', v']) hcz12
     have hv12 := hv0.ext hE12
     obtain ⟨hp, hp0⟩ := nV hbk12
     refine_lift bY fun _ _ => ?_
     refine aK (enters_of Tryz.func44 rfl rfl) rfl rfl (wY o' v' l' _ hv12 (by omega) hb') ?_
     rintro r w13 x13 ⟨y, rfl, hy⟩
     have hbk13 := x13.at hbk12
     have hy1 : y.oneCell' = true := by obtain ⟨_, _, _, rfl⟩ := hy.slf; rfl
     have hD13 := hD12.ext x13
     have hyw := hy.weaken hE12.size
     refine aA ?_
     refine_lift aS ?_
     refine GQ (n := 0) (vs := [aI o', y]) hbk13 rfl rfl rfl rfl (by simp [jC]) (show aO Tryz.prog 25 2 = true by decide +kernel) (by intro u hu; simp at hu; rcases hu with rfl | rfl <;> first | rfl | assumption) ?_
     intro w14 p14
     refine_lift aS ?_
     go_ret
     refine ⟨by rw [hE]; rfl, ((hK12.trans (KeptJ.of x13)).trans (KeptJ.put p14)), fun h0 => absurd hE h0, fun _ => ⟨h.ge, (hE12.trans x13).move p14.mv (by rintro k ⟨⟩; exact h.ge), y, _, p14.this, hyw.put hbk13 (by decide) (by decide) p14, by rw [hDq, hes]; exact hD13.put hbk13 (by decide) (by decide) p14⟩⟩
  ·rw [decide_eq_false q2]
   have hE : nC o l o' l' = 1 := by rw [nC, if_neg q1', if_pos q2]
   refine_lift fP fun _ => ?_
   go_ret
   exact ⟨by rw [hE]; rfl, KeptJ.of hx5, fun _ => hJ5, fun h0 => by rw [hE] at h0; cases h0⟩
 ·have hE : nC o l o' l' = aX o' l' := by rw [nC, if_pos q1]
  refine_lift UA (fun _ _ _ _ _ => ?_) (fun _ => ?_)
  all_goals first
   | (exfalso
      have hh := ‹(!decide (aX o' l' = 0)) = false›
      simp [q1] at hh
      done)
   | (go_ret
      exact ⟨by rw [hE]; rfl, KeptJ.of hx4, fun _ => hJ4, fun h0 => by rw [hE] at h0; exact absurd h0 q1⟩)
theorem QZ (v : Value) (hv : v.cells = #[v]) (w : World) : Calls Tryz.prog 101 #[v] w fun e w' => e = .returned (.func (.func 159) #[] #[.pointer (some ⟨w.heap.size, 0, none⟩)]) ∧ Ext w w' ∧ w'.heap.size = w.heap.size + 1 ∧ w'.heap[w.heap.size]? = some (.cells #[v] 82 (0, 0)) := by
 go_enter Tryz.func101, Tryz.ntmps101
 refine_lift uL ?_; intro _ _ _
 refine eD (vs := [v]) rfl hv ?_
 intro w1 x1 s1 h1
 refine aA ?_
 refine_lift aS ?_
 go_ret
 exact ⟨rfl, x1, s1, h1⟩
def PV (n : Nat) (i : Value) : Nat := (intOf i + 1).toNat
theorem TF (l b : Nat) (lp : Loop) (J : Nat → World → Prop) (Jx : World → Prop) (hp : lp.params.size = 2) (w : World) (hE : ∀ k W, J k W → Ext w W) (hL : ∀ k W, J k W → W.heap[l]? = some (.loop lp))
 (v : Value) (css : List (List Value)) (hb : w.heap[b]? = some (.cells #[v] 82 (0, 0))) (hv : Sl 4 w v css) (hl : css.length ≤ 1000000) (hsh : ∀ c ∈ css, ∃ x y g n, c = [x, y, g, n])
 (hy : ∀ k c W, css[k]? = some c → J (k + 1) W → RoundIn Fence.wide 0 Tryz.prog l lp.fn ((lp.params.zip #[.int .i64 k, .agg c.toArray]).foldl (fun tmps (t, a) => tmps.setIfInBounds t a) lp.tmps) lp.assign lp.body W
  fun e W' => (e = .returned (.bool true) ∧ J k W') ∨ (e = .returned (.bool false) ∧ Jx W')) (W : World) (h0 : J css.length W) :
 Calls Tryz.prog 159 #[.func (.yield l) #[] #[], .pointer (some ⟨b, 0, none⟩)] W fun e w' => e = .returned (.tuple #[]) ∧ (J 0 w' ∨ Jx w') := by
 have hb0 := hb
 have x0 := hE _ _ h0
 have hbW := aE (cs := [v]) (x0.at hb)
 have hvW := hv.ext x0
 go_enter Tryz.func159, Tryz.ntmps159
 refine_lift fP ?_; intro _
 go_loopw [3] (fun i wr => ∃ k : Nat, k ≤ css.length ∧ i = .int .i64 ((k : Int) - 1) ∧ J k wr) (fun i _ => PV 0 i)
 case atStart => exact ⟨css.length, Nat.le_refl _, rfl, h0⟩
 case round =>
  obtain ⟨k, hk, rfl, hJ⟩ := hrel
  have xr := hE _ _ hJ
  have hbr := aE (cs := [v]) (xr.at hb)
  have hvr := hv.ext xr
  clear hbW hvW x0 h0
  cases k with
  | zero =>
   refine_lift fP fun _ => ?_
   exact bodyPost_end (results_none rfl _ _ _) rfl ⟨rfl, .inl hJ⟩
  | succ k =>
   have hk1 : ((k + 1 : Nat) : Int) - 1 = (k : Int) := by omega
   simp only [hk1]
   have hc := List.getElem?_eq_getElem (l := css) (i := k) (by omega)
   have hpe := hvr.elem hc
   obtain ⟨x, y, g, n, hcs⟩ := hsh _ (List.getElem_mem (show k < css.length by omega))
   rw [hcs] at hc hpe
   repeat' (first | (refine cE (id := 3) ?_) | (refine cE (id := 4) ?_) | ((with_reducible apply gY); (rfl); exact rn; refine aA ?_) | (with_reducible (apply iY)) | ((with_reducible refine bR ?_); (first | (refine gW ?_; refine jA ?_) | (refine jG ?_; first | refine kJ ?_ | refine pP ?_ | refine pR ?_ | refine pQ ?_ | ((first | refine pG ?_ ?_ | refine pH ?_ ?_) <;> intro hc)))) | ((fail_if_success (with_reducible refine bR ?_)); go_step))
   refine lU (lp := lp) (vs := [.int .i64 k, .agg #[x, y, g, n]]) rfl rfl rfl (hL _ _ hJ) (by simp [hp]) (hy k _ _ hc hJ) ?_
   rintro e W' (⟨rfl, hJ'⟩ | ⟨rfl, hx⟩)
   ·refine ⟨_, rfl, ?_⟩
    simp only [List.set_cons_succ, List.set_cons_zero]
    repeat' (first | (refine cE (id := 3) ?_) | (refine cE (id := 4) ?_) | ((with_reducible apply gY); (rfl); exact rn; refine aA ?_) | (with_reducible (apply iY)) | ((with_reducible refine bR ?_); (first | (refine gW ?_; refine jA ?_) | (refine jG ?_; first | refine kJ ?_ | refine pP ?_ | refine pR ?_ | refine pQ ?_ | ((first | refine pG ?_ ?_ | refine pH ?_ ?_) <;> intro hc)))) | ((fail_if_success (with_reducible refine bR ?_)); go_step))
    go_roundw
    case rel => exact ⟨k, by omega, by go_num, hJ'⟩
    case measure => simp [PV, intOf]
   ·refine ⟨_, rfl, ?_⟩
    simp only [List.set_cons_succ, List.set_cons_zero]
    repeat' (first | (refine cE (id := 3) ?_) | (refine cE (id := 4) ?_) | ((with_reducible apply gY); (rfl); exact rn; refine aA ?_) | (with_reducible (apply iY)) | ((with_reducible refine bR ?_); (first | (refine gW ?_; refine jA ?_) | (refine jG ?_; first | refine kJ ?_ | refine pP ?_ | refine pR ?_ | refine pQ ?_ | ((first | refine pG ?_ ?_ | refine pH ?_ ?_) <;> intro hc)))) | ((fail_if_success (with_reducible refine bR ?_)); go_step))
    refine bodyPost_ret (results_none rfl _ _ _) rfl ⟨rfl, .inr hx⟩
section
variable {P : Program} {n : Nat} {r : Option Nat} {ops : Array Oper} {Q : Exit → Act → World → Prop} {md : Region.Mode}
theorem JU {i : Nat} {a : Act} {w : World} {K K' : Act → World → Prop} (hd : ∀ o, ops[i]? = some o → ∀ c, o.op ≠ .defer c) (hQ : ∀ a w, ¬ Q .outgrown a w) (hK : ∀ a w, K a w → K' a w) (h : wpOp P ops Q i K a w) : wpOpIn (FR r) n P ops Q i K' a w := by
 unfold wpOp at h
 unfold wpOpIn
 cases ho : ops[i]? with
 | none => rw [ho] at h; exact hK _ _ h
 | some o =>
  rw [ho] at h
  simp only at h ⊢
  split
  ·rename_i hw
   rw [if_pos hw] at h
   rcases h with h | ⟨_, a0, w0, h0⟩
   ·refine ⟨fun _ _ => trivial, ?_⟩
    rw [Oper.semAt_eq _ _ _ (hd o ho)]
    exact HM hQ (fun _ _ _ h => h) hK h
   ·exact absurd h0 (hQ _ _)
  ·rename_i hw
   rw [if_neg hw] at h
   exact ⟨fun _ _ => trivial, hK _ _ h⟩
theorem GR (hd : ∀ o ∈ ops.toList, ∀ c, o.op ≠ .defer c) (hQ : ∀ a w, ¬ Q .outgrown a w) : ∀ (fuel : Nat) (listed : Array Bool) (a : Act) (w : World), wpAny P md ops Q fuel listed a w → wpAnyIn (FR r) n P md ops Q fuel listed a w := by
 intro fuel
 induction fuel with
 | zero => intro listed a w h; exact h
 | succ fuel ih =>
  intro listed a w h
  exact ⟨h.1, fun i hi => JU (fun o ho => hd o (by rw [← Array.getElem?_toList] at ho; exact List.mem_of_getElem? ho)) hQ (fun a w => ih _ a w) (h.2 i hi)⟩
end
theorem tY {P : Program} {n : Nat} {r : Option Nat} {Q : Exit → Act → World → Prop} {id : Nat} {l : List Oper} {w : World} {a : Act} (k : Nat) (F : World → Prop) (hd : CZ l = true) (hQ : ∀ a w, ¬ Q .outgrown a w) (hm : P.follows .mixedOrders = true)
 (h : ∀ w1, Ext w w1 → w1.heap = w.heap → F w1 ∧ BL P Q k F l l.length (List.replicate l.length false) a w1) : (Code.region id l.toArray true).wpIn (FR r) n P Q a w := by
 refine wpIn_region_any hm (GR (fun o ho c hc => by have := List.all_eq_true.1 hd o (by simpa using ho); rw [hc] at this; cases this) hQ _ _ _ _ (qI (S := Till k F) _ _ _ _ ?_))
 obtain ⟨h1, h2⟩ := h { w with drawn := w.drawn + 1 } (Ext.drew w) rfl
 have := h2 ⟨by simpa using Closed.start _, fun _ => h1⟩
 simpa using this
theorem MK (v : Value) (css : List (List Value)) (w : World) (hv : Sl 4 w v css) (h1 : ∀ f ∈ css, ∀ u ∈ f, u.oneCell' = true) (hl : css.length ≤ 1000000) : Calls Tryz.prog 102 #[v] w (jE w fun v' w' => Own w.heap.size 4 90 w' v' css) := by
 go_enter Tryz.func102, Tryz.ntmps102
 (repeat' first | ((with_reducible refine cY ?_); go_step) | ((with_reducible refine bR ?_); first | refine fM ?_ | (refine dN ?_ ?_ <;> intro hc)) | fail)
 ·have hn := ‹uS v = true›
  go_ret
  have : css = [] := hv.isNil hn
  refine ⟨_, rfl, Ext.refl _, ?_⟩
  rw [this]
  exact Own.nil _ _ _ _
 ·refine jX (t := 82) (e := 90) (k := 4) (bytes := 64) (by decide +kernel) rfl ?_
  intro v2 w2 x2 s2 o2
  refine aA ?_
  refine_lift aS ?_
  refine cP (B := w.heap.size) (e := 90) rfl o2 rfl (hv.ext x2) h1 x2.size (by simp; omega) ?_
  intro v3 w3 o3 m3 _
  have x3 := o2.mvx m3 x2 (Nat.le_refl _)
  refine aA ?_
  refine_lift aS ?_
  go_ret
  exact ⟨_, rfl, x3, by simpa using o3⟩
end Go.Proofs.X
