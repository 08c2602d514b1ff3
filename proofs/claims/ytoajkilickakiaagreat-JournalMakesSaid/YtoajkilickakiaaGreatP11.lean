/- Laws and walks that the proof of the statement is made of (part 11). -/
import Derived.Test.YtoajkilickakiaaGreatProg
import Derived.Lib.Hide
import Derived.Test.YtoajkilickakiaaGreatShelf
import Derived.Shelf.SlSortCmp.NoneTotal
import Derived.OwnWalk
import Derived.Shelf.RegionOpenPlain
import Derived.Lib.Strings
import Derived.Lib.Slices
import Derived.Lib.Walk
import Derived.Lib.Builder
import Derived.Lib.AppendStr
import Derived.Lib.UnsafeStr
import Derived.Lib.MakeNoZero
import Derived.WalkKit
import Derived.Laws.Externs
import Derived.Laws.IdiomCopy
import Derived.Laws.BitsLemmas
import GoSem.Claims
import Derived.Test.YtoajkilickakiaaGreatP1
import Derived.Test.YtoajkilickakiaaGreatP2
import Derived.Test.YtoajkilickakiaaGreatP3
import Derived.Test.YtoajkilickakiaaGreatP4
import Derived.Test.YtoajkilickakiaaGreatP5
import Derived.Test.YtoajkilickakiaaGreatP6
import Derived.Test.YtoajkilickakiaaGreatP7
import Derived.Test.YtoajkilickakiaaGreatP8
import Derived.Test.YtoajkilickakiaaGreatP9
import Derived.Test.YtoajkilickakiaaGreatP10
set_option linter.unusedSimpArgs false
set_option linter.unusedVariables false
namespace Go.Proofs.X
open Go.RowKit
set_option maxRecDepth 100000
theorem flatten_setF {k : Nat} {c : Value} : ∀ (es : List (List Value)) (i j : Nat) (e : List Value), (∀ x ∈ es, x.length = k) → es[i]? = some e → j < k → (es.set i (e.set j c)).flatten = es.flatten.set (i * k + j) c
  | [], i, _, _, _, hi, _ => by simp at hi
  | x :: es, 0, j, e, hall, hi, hj => by
    have hx := hall x (by simp)
    cases hi
    simp only [List.set_cons_zero, List.flatten_cons, Nat.zero_mul, Nat.zero_add]
    rw [List.set_append_left _ _ (by omega)]
  | x :: es, i + 1, j, e, hall, hi, hj => by
    have hx := hall x (by simp)
    simp only [List.set_cons_succ, List.flatten_cons]
    rw [flatten_setF es i j e (fun y hy => hall y (by simp [hy])) (by simpa using hi) hj]
    rw [List.set_append_right _ _ (by rw [Nat.add_mul]; omega), show (i + 1) * k + j - x.length = i * k + j by rw [hx, Nat.add_mul]; omega]
theorem Own.storeF {P : Program} {B k e : Nat} {w : World} {v : Value} {es : List (List Value)} {t : TypeId} {i j : Nat} {ce : List Value} {c : Value} (h : Own B k e w v es) (hi : es[i]? = some ce) (hj : j < k) (hs : sizeTy P t 1 = true) (h1 : c.oneCell' = true) :
    ∃ w' b o, partPtr (elemPtr v (i * k)) j = .pointer (some ⟨b, o, none⟩) ∧ (storeVar t ⟨b, o, none⟩ c).run P w = .ok () w' ∧ Own B k e w' v (es.set i (ce.set j c)) ∧ Mv v.ownBlock w w' := by
  have hil := (List.getElem?_eq_some_iff.1 hi).1
  have hce : ce.length = k := h.each ce (List.mem_of_getElem? hi)
  have hcc : c.cells = #[c] := by cases c <;> first | rfl | cases h1
  rcases h.row.2 with ⟨rfl, h0⟩ | ⟨g, cap, cur, fz, rfl, hb, hg, hfz, hnc, hcm, hcs, htake⟩
  · omega
  · have hl := length_flatten_of h.each
    have hik : i * k + k ≤ es.length * k := by
      have : (i + 1) * k ≤ es.length * k := Nat.mul_le_mul_right k hil
      rwa [Nat.add_mul, Nat.one_mul] at this
    have hck : es.length * k ≤ cap * k := Nat.mul_le_mul_right k hnc
    have hst := run_storeCells_G P g (i * k + j) e fz [c] 0 cur w hg hfz (by simp; omega) (by simpa using h1)
    simp only [Nat.add_zero, List.length_cons, List.length_nil, Nat.zero_add] at hst
    have hset : cur.toList.take (i * k + j) ++ [c] ++ cur.toList.drop (i * k + j + 1) = cur.toList.set (i * k + j) c := by
      rw [List.set_eq_take_append_cons_drop, if_pos (by simp; omega)]; simp
    rw [hset] at hst
    obtain ⟨ti, hq, hsz⟩ := info_of (sizeTy_spec hs)
    have hall : ∀ x ∈ es.set i (ce.set j c), x.length = k := by
      intro x hx
      rcases List.mem_or_eq_of_mem_set hx with hx | rfl
      · exact h.each x hx
      · simpa using hce
    refine ⟨w.setRow g (cur.toList.set (i * k + j) c).toArray, g, i * k + j, by simp [elemPtr, partPtr, add_none], ?_, ⟨⟨?_, .inr ⟨g, cap, (cur.toList.set (i * k + j) c).toArray, fz, ?_, hb, setRow_heap w g cur _ e _ hg, ?_, ?_, hcm, ?_, ?_⟩⟩, hall⟩, ⟨rfl, rfl, rfl, by simp, fun k _ hk => setRow_other w g k _ (fun e => hk (by simp [Value.ownBlock, e])), Nat.le_refl _⟩⟩
    · simpa [storeVar, sizeOf, typeInfo, hq, hsz, hcc] using hst
    · rw [length_flatten_of hall]
    · simp
    · simpa using hfz
    · simpa using hnc
    · simpa using hcs
    · rw [flatten_setF es i j ce h.each hi hj, ← htake]
      simp only [List.length_set, List.take_set]
section
variable {P : Program} {ops : Array Oper} {Q : Exit → Act → World → Prop} {w : World} {rest : List Oper} {ts : List Value} {df : List Deferred} {ty : TypeId} {ps : String} {af : Array Edge} {g : Option (Nat × Bool)}
theorem wpl_storeEF {B k e : Nat} {v c : Value} {es : List (List Value)} {ce : List Value} {t ty2 : TypeId} {x y : Operand} {i j : Nat} (hw : Region.wanted (Oper.mk none (.store t x y) ty2 ps af g) (yielded ops ts.toArray) = true)
    (hx : (Act.mk ts.toArray df).eval x = partPtr (elemPtr v (i * k)) j) (hy : (Act.mk ts.toArray df).eval y = c) (h : Own B k e w v es) (hi : es[i]? = some ce) (hj : j < k) (hs : sizeTy P t 1 = true) (h1 : c.oneCell' = true)
    (hk : ∀ w', Own B k e w' v (es.set i (ce.set j c)) → Mv v.ownBlock w w' → wpList P ops Q rest (Act.mk ts.toArray df) w') : wpList P ops Q (Oper.mk none (.store t x y) ty2 ps af g :: rest) (Act.mk ts.toArray df) w := by
  obtain ⟨w', b, o, he, hr, ho, hm⟩ := h.storeF (P := P) hi hj hs h1
  refine wpl_skipper hw (w' := w') ?_ (hk w' ho hm)
  simp [execOp, hx, hy, he, Instr.storeAt, Instr.sureAddr, hr]
end
structure SetsW (B : Nat) (w : World) (css : List (List Value)) (l : List RSet) : Prop where
  len : css.length = l.length
  at' : ∀ (i : Nat) (s : RSet), l[i]? = some s → ∃ x, css[i]? = some [str s.name, .int .i64 s.kind, .int .i64 s.ttl, x] ∧ Own B 1 9 w x (tcells s.data)
theorem SetsW.sets {B : Nat} {w : World} {css : List (List Value)} {l : List RSet} (h : SetsW B w css l) : SetsC w css l :=
  ⟨h.len, fun i s hi => let ⟨x, a, b⟩ := h.at' i s hi; ⟨x, a, b.sl⟩⟩
theorem SetsW.ext {B : Nat} {w w' : World} {css : List (List Value)} {l : List RSet} (h : SetsW B w css l) (hx : Ext w w') : SetsW B w' css l :=
  ⟨h.len, fun i s hi => let ⟨x, a, b⟩ := h.at' i s hi; ⟨x, a, b.ext hx⟩⟩
theorem SetsW.mv {B B' k' e' : Nat} {w w' : World} {css : List (List Value)} {l : List RSet} {v : Value} {es : List (List Value)} (h : SetsW B w css l) (ho : Own B' k' e' w v es) (he : 9 ≠ e') (hm : Mv v.ownBlock w w') : SetsW B w' css l :=
  ⟨h.len, fun i s hi => let ⟨x, a, b⟩ := h.at' i s hi; ⟨x, a, b.mv hm (b.ne ho he)⟩⟩
theorem SetsW.put {B b t : Nat} {w w' : World} {css : List (List Value)} {l : List RSet} {cs : Array Value} {fz : Nat × Nat} {o : Obj} (h : SetsW B w css l) (hb : w.heap[b]? = some (.cells cs t fz)) (ht : t ≠ 9) (hp : Put w w' b o) : SetsW B w' css l :=
  ⟨h.len, fun i s hi => let ⟨x, a, c⟩ := h.at' i s hi; ⟨x, a, c.mv hp.mv (.inr (c.neBlock hb ht))⟩⟩
theorem SetsW.weaken {B C : Nat} {w : World} {css : List (List Value)} {l : List RSet} (h : SetsW B w css l) (hc : C ≤ B) : SetsW C w css l :=
  ⟨h.len, fun i s hi => let ⟨x, a, b⟩ := h.at' i s hi; ⟨x, a, b.weaken hc⟩⟩
theorem SetsW.append {B : Nat} {w : World} {l m : List RSet} {c d : List (List Value)} (h : SetsW B w c l) (k : SetsW B w d m) : SetsW B w (c ++ d) (l ++ m) := by
  refine ⟨by rw [List.length_append, List.length_append, h.len, k.len], fun i s hi => ?_⟩
  rw [List.getElem?_append] at hi ⊢
  rw [h.len]
  split at hi
  · rw [if_pos ‹_›]; exact h.at' i s hi
  · rw [if_neg ‹_›]; exact k.at' _ s hi
theorem SetsW.one {B : Nat} {w : World} {s : RSet} {x : Value} (h : Own B 1 9 w x (tcells s.data)) : SetsW B w [[str s.name, .int .i64 s.kind, .int .i64 s.ttl, x]] [s] :=
  ⟨rfl, fun i t hi => by
    match i, hi with
    | 0, hi => cases hi; exact ⟨x, rfl, h⟩⟩
theorem SetsW.nil (B : Nat) (w : World) : SetsW B w [] [] := ⟨rfl, by simp⟩
theorem SetsW.from' {B C : Nat} {w : World} {css : List (List Value)} {l : List RSet} (h : SetsW B w css l) (hc : C ≤ B) : FromC C css := by
  intro f hf u hu
  obtain ⟨i, hi, rfl⟩ := List.mem_iff_getElem.1 hf
  obtain ⟨x, h1, h2⟩ := h.at' i _ (List.getElem?_eq_getElem (by rw [← h.len]; exact hi))
  rw [List.getElem?_eq_getElem hi] at h1
  rw [Option.some.inj h1] at hu
  exact (FromC.one (h2.from' hc)) _ (List.mem_singleton.2 rfl) u hu
structure SetsV (B : Nat) (w : World) (v : Value) (l : List RSet) : Prop where
  out : ∃ css, Own B 4 55 w v css ∧ SetsW B w css l
theorem SetsV.toO {B C : Nat} {w : World} {v : Value} {l : List RSet} (h : SetsV B w v l) (hc : C ≤ B) : SetsO C w v l := by
  obtain ⟨css, h1, h2⟩ := h
  exact ⟨css, h1.sl, h1.from' hc, h2.sets, h2.from' hc⟩
theorem SetsV.ext {B : Nat} {w w' : World} {v : Value} {l : List RSet} (h : SetsV B w v l) (hx : Ext w w') : SetsV B w' v l := by
  obtain ⟨css, h1, h2⟩ := h
  exact ⟨css, h1.ext hx, h2.ext hx⟩
theorem SetsV.weaken {B C : Nat} {w : World} {v : Value} {l : List RSet} (h : SetsV B w v l) (hc : C ≤ B) : SetsV C w v l := by
  obtain ⟨css, h1, h2⟩ := h
  exact ⟨css, h1.weaken hc, h2.weaken hc⟩
theorem SetsV.put {B b t : Nat} {w w' : World} {v : Value} {l : List RSet} {cs : Array Value} {fz : Nat × Nat} {o : Obj} (h : SetsV B w v l) (hb : w.heap[b]? = some (.cells cs t fz)) (ht : t ≠ 9) (ht2 : t ≠ 55) (hp : Put w w' b o) : SetsV B w' v l := by
  obtain ⟨css, h1, h2⟩ := h
  exact ⟨css, h1.mv hp.mv (.inr (h1.neBlock hb ht2)), h2.put hb ht hp⟩
theorem SetsV.slf {B : Nat} {w : World} {v : Value} {l : List RSet} (h : SetsV B w v l) : ∃ a n c, v = .slice a n c := by
  obtain ⟨css, h1, h2⟩ := h
  exact h1.sl.slf
set_option maxHeartbeats 6000000 in
theorem r7_Copies (v : Value) (l : List RSet) (w : World) (hv : SetsAt w v l) (hl : l.length ≤ 100000) (hb : ∀ s ∈ l, s.data.length ≤ 1000000) : Calls Tryz.prog 73 #[v] w (Ret w fun r w' => SetsV w.heap.size w' r l) := by
  obtain ⟨cv, hv1, hvl⟩ := hv.sl
  have hle := hv1.le
  go_enter Tryz.func73, Tryz.ntmps73
  repeat' (first | ((with_reducible refine o_s ?_); (first | (refine o_1 ?_; refine o_2 ?_) | (refine o_g ?_; first | refine o_u ?_ | refine o_k ?_ | refine o_n ?_ | refine o_v ?_ | ((first | refine o_G ?_ ?_ | refine o_N ?_ ?_) <;> intro hc)))) | ((fail_if_success (with_reducible refine o_s ?_)); go_step))
  go_loopw [3, 4] (fun o i wr => ∃ (k : Nat) (css : List (List Value)), k ≤ l.length ∧ i = .int .i64 k ∧ Ext w wr ∧ Own w.heap.size 4 55 wr o css ∧ SetsW w.heap.size wr css (l.take k)) (fun _ i _ => l.length - (intOf i).toNat)
  case atStart => exact ⟨0, [], Nat.zero_le _, rfl, Ext.refl _, Own.nil _ _ _ _, SetsW.nil _ _⟩
  case round =>
    obtain ⟨k, css, hk, rfl, hx, ho, hs⟩ := hrel
    have hv2 := hv1.ext hx
    have hsl := hs.len
    rw [List.length_take] at hsl
    by_cases hlt : k < l.length
    · obtain ⟨x, h4, h4d⟩ := (hv.ext hx).elem (List.getElem?_eq_getElem hlt)
      repeat' (first | ((with_reducible refine o_s ?_); (first | (refine o_1 ?_; refine o_2 ?_) | (refine o_g ?_; first | refine o_u ?_ | refine o_k ?_ | refine o_n ?_ | refine o_v ?_ | ((first | refine o_G ?_ ?_ | refine o_N ?_ ?_) <;> intro hc)))) | ((fail_if_success (with_reducible refine o_s ?_)); go_step))
      refine wpl_callR (enters_of Tryz.func97 rfl rfl) rfl rfl (r7_Copy l[k] x _ h4d (hb _ (List.getElem_mem hlt))) ?_
      intro r2 w2 x2 hr2
      obtain ⟨y, rfl, oy⟩ := hr2
      have hx2 := hx.trans x2
      have ho2 := ho.ext x2
      have hs2 := hs.ext x2
      have oy := oy.weaken hx.size
      refine gset ?_
      repeat' (first | ((with_reducible refine o_s ?_); (first | (refine o_1 ?_; refine o_2 ?_) | (refine o_g ?_; first | refine o_u ?_ | refine o_k ?_ | refine o_n ?_ | refine o_v ?_ | ((first | refine o_G ?_ ?_ | refine o_N ?_ ?_) <;> intro hc)))) | ((fail_if_success (with_reducible refine o_s ?_)); go_step))
      refine ap1 [str l[k].name, .int .i64 l[k].kind, .int .i64 l[k].ttl, y] hx2 ho2 (by omega) ?_ (by exact ⟨rfl, rfl, rfl, by intro u hu; simp only [List.mem_cons, List.not_mem_nil, or_false] at hu; rcases hu with rfl | rfl | rfl | rfl <;> first | rfl | exact oy.one⟩)
      intro s3 v3 w3 w4 x3 m4 x4 o4
      refine gset ?_
      have oy4 := (oy.ext x3).mv m4 ((oy.ext x3).ne (ho2.ext x3) (by decide))
      have hs4 := (hs2.ext x3).mv (ho2.ext x3) (by decide) m4
      repeat' (first | ((with_reducible refine o_s ?_); (first | (refine o_1 ?_; refine o_2 ?_) | (refine o_g ?_; first | refine o_u ?_ | refine o_k ?_ | refine o_n ?_ | refine o_v ?_ | ((first | refine o_G ?_ ?_ | refine o_N ?_ ?_) <;> intro hc)))) | ((fail_if_success (with_reducible refine o_s ?_)); go_step))
      refine ⟨⟨k + 1, _, by omega, by go_num, x4, o4, ?_⟩, by simp [intOf]; omega⟩
      rw [List.take_add_one, List.getElem?_eq_getElem hlt]
      exact hs4.append (SetsW.one oy4)
    · have : k = l.length := by omega
      subst this
      rw [List.take_length] at hs
      repeat' (first | ((with_reducible refine o_s ?_); (first | (refine o_1 ?_; refine o_2 ?_) | (refine o_g ?_; first | refine o_u ?_ | refine o_k ?_ | refine o_n ?_ | refine o_v ?_ | ((first | refine o_G ?_ ?_ | refine o_N ?_ ?_) <;> intro hc)))) | ((fail_if_success (with_reducible refine o_s ?_)); go_step))
      go_ret
      exact ⟨_, rfl, hx, css, ho, hs⟩
set_option maxHeartbeats 6000000 in
theorem r8_Copy (o : List UInt8) (v : Value) (l : List RSet) (w : World) (hv : SetsAt w v l) (hl : l.length ≤ 100000) (hb : ∀ s ∈ l, s.data.length ≤ 1000000) : Calls Tryz.prog 27 #[.agg #[str o, v]] w (Ret w fun r w' => ∃ y, r = .agg #[str o, y] ∧ SetsV w.heap.size w' y l) := by
  go_enter Tryz.func27, Tryz.ntmps27
  repeat' ((fail_if_success (with_reducible refine o_s ?_)); go_step)
  refine wpl_box (vs := [str o, v]) rfl rfl ?_
  intro p w1 x1 hp
  refine gset ?_
  refine wpl_allocB (z := zzone) rfl (by decide +kernel) ?_
  intro w2 x2 s2 h2
  refine gset ?_
  have hp2 := hp.ext x2
  have hx2 := x1.trans x2
  have hv2 := hv.ext hx2
  have z1 := x1.size
  repeat' (first | ((with_reducible refine o_s ?_); (first | (refine o_1 ?_; refine o_2 ?_) | (refine o_g ?_; first | refine o_u ?_ | refine o_k ?_ | refine o_n ?_ | refine o_v ?_ | ((first | refine o_G ?_ ?_ | refine o_N ?_ ?_) <;> intro hc)))) | ((fail_if_success (with_reducible refine o_s ?_)); go_step))
  refine wph_region (S := fun w' => Ext w1 w') (by decide +kernel) ?_
  intro w3 x3 hh3
  have hp3 := hp2.ext x3
  have hS3 : Ext w1 w3 := x2.trans x3
  refine tk 0 ?_ (hS := hS3) (hy := by intro w9 hS9; exact Runs.fieldTn (hp.ext hS9) (by decide +kernel)); refine gset ?_
  refine tk 1 ?_ (hS := hS3) (hy := by intro w9 hS9; have := hp.ext hS9; exact rn); refine gset ?_
  refine tk 2 ?_ (hS := hS3) (hy := by intro w9 hS9; have := hp.ext hS9; exact rn); refine gset ?_
  refine tk 3 ?_ (hS := hS3) (hy := by intro w9 hS9; have := hp.ext hS9; exact rn); refine gset ?_
  refine wph_one (i := 4) (by decide +kernel) rfl rfl ?_
  refine wpl_callR (enters_of Tryz.func73 rfl rfl) rfl rfl (r7_Copies v l _ (hv2.ext x3) hl hb) ?_
  intro y w4 x4 hy
  refine gset ?_
  have hS4 := hS3.trans x4
  refine wph_nil ⟨hS4, ?_⟩
  obtain ⟨ya, yn, yc, hys⟩ := hy.slf
  have hy1 : y.oneCell' = true := by rw [hys]; rfl
  refine wph_take (i := 5) (v := .agg #[str o, y]) rfl rfl (by decide +kernel) (by decide +kernel) (by decide +kernel) rfl hS4 (fun w' _ => Runs.build (vals := [(0, str o), (1, y)]) rfl (by rw [hys]; kernel_rfl)) (fun _ _ _ h => h) ?_
  refine gset ?_
  refine wph_one (i := 6) (by decide +kernel) rfl rfl ?_
  have h4 := (x3.trans x4).at h2
  refine wpl_storeB (v := .agg #[str o, y]) rfl rfl rfl h4 (show sizeTy Tryz.prog 25 2 = true by decide +kernel) rfl (zone_one hy1) ?_
  intro w5 p5
  have hS5 : Ext w1 w5 := hS4.move p5.mv (by rintro k ⟨⟩; exact Nat.le_refl _)
  have hy5 := hy.put h4 (by decide) (by decide) p5
  refine wph_nil ⟨hS5, ?_⟩
  refine wph_done (by decide +kernel) ?_
  repeat' (first | ((with_reducible refine o_s ?_); (first | (refine o_1 ?_; refine o_2 ?_) | (refine o_g ?_; first | refine o_u ?_ | refine o_k ?_ | refine o_n ?_ | refine o_v ?_ | ((first | refine o_G ?_ ?_ | refine o_N ?_ ?_) <;> intro hc)))) | ((fail_if_success (with_reducible refine o_s ?_)); go_step))
  refine bodyPost_ret (results_cell1 (cs := [str o, y]) rfl rfl p5.this (show aggTy Tryz.prog 25 2 = true by decide +kernel)) rfl ⟨_, rfl, x1.trans hS5, y, rfl, hy5.weaken (Nat.le_trans z1 hS3.size)⟩
set_option maxHeartbeats 6000000 in
theorem p_CloneS (v : Value) (css : List (List Value)) (w : World) (hv : Sl 4 w v css) (h1 : ∀ f ∈ css, ∀ u ∈ f, u.oneCell' = true) (hl : css.length ≤ 1000000) : Calls Tryz.prog 109 #[v] w (Ret w fun v' w' => Own w.heap.size 4 55 w' v' css) := by
  go_enter Tryz.func109, Tryz.ntmps109
  repeat' (first | ((with_reducible refine o_s ?_); (first | (refine o_1 ?_; refine o_2 ?_) | (refine o_g ?_; first | refine o_u ?_ | refine o_k ?_ | refine o_n ?_ | refine o_v ?_ | ((first | refine o_G ?_ ?_ | refine o_N ?_ ?_) <;> intro hc)))) | ((fail_if_success (with_reducible refine o_s ?_)); go_step))
  · have hn := ‹isNil v = true›
    go_ret
    have : css = [] := hv.isNil hn
    refine ⟨_, rfl, Ext.refl _, ?_⟩
    rw [this]
    exact Own.nil _ _ _ _
  · refine wpl_slice0 (t := 23) (e := 55) (k := 4) (bytes := 56) (by decide +kernel) rfl ?_
    intro v2 w2 x2 s2 o2
    refine gset ?_
    repeat' (first | ((with_reducible refine o_s ?_); (first | (refine o_1 ?_; refine o_2 ?_) | (refine o_g ?_; first | refine o_u ?_ | refine o_k ?_ | refine o_n ?_ | refine o_v ?_ | ((first | refine o_G ?_ ?_ | refine o_N ?_ ?_) <;> intro hc)))) | ((fail_if_success (with_reducible refine o_s ?_)); go_step))
    refine wpl_appendO (B := w.heap.size) (e := 55) rfl o2 rfl (hv.ext x2) h1 x2.size (by simp; omega) ?_
    intro v3 w3 o3 m3 _
    have x3 := o2.mvx m3 x2 (Nat.le_refl _)
    refine gset ?_
    repeat' (first | ((with_reducible refine o_s ?_); (first | (refine o_1 ?_; refine o_2 ?_) | (refine o_g ?_; first | refine o_u ?_ | refine o_k ?_ | refine o_n ?_ | refine o_v ?_ | ((first | refine o_G ?_ ?_ | refine o_N ?_ ?_) <;> intro hc)))) | ((fail_if_success (with_reducible refine o_s ?_)); go_step))
    go_ret
    exact ⟨_, rfl, x3, by simpa using o3⟩
def withN (s : SoaR) (n : Int) : SoaR := { s with serial := n }
def renE (o : List UInt8) (l : List RSet) (n : Int) : Int := if zoneR o l = 0 then (if (withN (soaZ o l) n).ok = true then 0 else 1) else zoneR o l
def renD (o : List UInt8) (l : List RSet) (n : Int) : List UInt8 := (withN (soaZ o l) n).data
def renS (d : List UInt8) (s : RSet) : RSet := if s.kind = 6 then ⟨s.name, s.kind, s.ttl, [d]⟩ else s
def renL (o : List UInt8) (l : List RSet) (n : Int) : List RSet := if renE o l n = 0 then l.map (renS (renD o l n)) else []
def renO (o : List UInt8) (l : List RSet) (n : Int) : List UInt8 := if renE o l n = 0 then o else []
def RenU (B : Nat) (o : List UInt8) (l : List RSet) (n : Int) (r : Value) (w' : World) : Prop :=
  ∃ v, r = .tuple #[.agg #[str (renO o l n), v], .int .i64 (renE o l n)] ∧ SetsO B w' v (renL o l n)
theorem RenU.bad {B : Nat} {o : List UInt8} {l : List RSet} {n e : Int} {w' : World} (h : renE o l n = e) (he : e ≠ 0) : RenU B o l n (.tuple #[.agg zzone.toArray, .int .i64 e]) w' := by
  refine ⟨.slice none 0 0, ?_, ?_⟩
  · rw [h, renO, if_neg (by rw [h]; exact he)]; rfl
  · rw [renL, if_neg (by rw [h]; exact he)]; exact SetsO.nil _ _
theorem RenU.good {B : Nat} {o : List UInt8} {l : List RSet} {n : Int} {v : Value} {w' : World} (h : renE o l n = 0) (hv : SetsO B w' v (l.map (renS (renD o l n)))) : RenU B o l n (.tuple #[.agg #[str o, v], .int .i64 0]) w' := by
  refine ⟨v, ?_, ?_⟩
  · rw [renO, if_pos h, h]
  · rw [renL, if_pos h]; exact hv
theorem soaZ_len {o : List UInt8} {l : List RSet} : (soaZ o l).main.length ≤ 4611686018427387904 ∧ (soaZ o l).mail.length ≤ 4611686018427387904 := by
  unfold soaZ
  split
  · rename_i q
    obtain ⟨s, _, _, _, _, _, _, h⟩ := (zone_ok q).soaSet
    obtain ⟨h1, h2⟩ := firstN_len (soaD o l)
    obtain ⟨h3, h4⟩ := firstN_len (firstN (soaD o l)).2.1
    exact ⟨by show (firstN (soaD o l)).1.length ≤ _; omega, by show (firstN (firstN (soaD o l)).2.1).1.length ≤ _; omega⟩
  · exact ⟨by simp [zR], by simp [zR]⟩
theorem ZoneOk.one6 {o : List UInt8} {l : List RSet} (h : ZoneOk o l) {s : RSet} (hs : s ∈ l) (h6 : s.kind = 6) : s.name = o ∧ s.data.length = 1 := by
  have hr := h.right s hs
  simp only [rightR, Bool.and_eq_true, Bool.not_eq_true', h6] at hr
  have := hr.1.1.2
  simp only [decide_true, Bool.true_and, Bool.or_eq_false_iff, decide_eq_false_iff_not, ne_eq, Decidable.not_not] at this
  exact this
theorem renS_no {d : List UInt8} {s : RSet} (h : ¬ s.kind = 6) : renS d s = s := by rw [renS, if_neg h]
theorem renS_yes {d : List UInt8} {s : RSet} (h : s.kind = 6) : renS d s = ⟨s.name, s.kind, s.ttl, [d]⟩ := by rw [renS, if_pos h]
theorem SetsW.set {B : Nat} {w : World} {css : List (List Value)} {l : List RSet} (h : SetsW B w css l) {i : Nat} {s : RSet} {x : Value} (hx : Own B 1 9 w x (tcells s.data)) : SetsW B w (css.set i [str s.name, .int .i64 s.kind, .int .i64 s.ttl, x]) (l.set i s) := by
  refine ⟨by rw [List.length_set, List.length_set, h.len], fun j t hj => ?_⟩
  by_cases e : i = j
  · subst e
    have hlt : i < l.length := by have := (List.getElem?_eq_some_iff.1 hj).1; simpa using this
    rw [List.getElem?_set_self hlt] at hj
    cases hj
    exact ⟨x, List.getElem?_set_self (by rw [h.len]; exact hlt), hx⟩
  · rw [List.getElem?_set_ne e] at hj
    rw [List.getElem?_set_ne e]
    exact h.at' j t hj
structure SetsM (B : Nat) (w0 w : World) (css0 css : List (List Value)) (l : List RSet) (d : List UInt8) (k : Nat) : Prop where
  len : css.length = l.length
  new : ∀ (i : Nat) (s : RSet), l[i]? = some s → i < k → ∃ x, css[i]? = some [str s.name, .int .i64 s.kind, .int .i64 s.ttl, x] ∧ Own B 1 9 w x (tcells (renS d s).data)
  old : ∀ i, k ≤ i → css[i]? = css0[i]?
theorem SetsM.ext {B : Nat} {w0 w w' : World} {css0 css : List (List Value)} {l : List RSet} {d : List UInt8} {k : Nat} (h : SetsM B w0 w css0 css l d k) (hx : Ext w w') : SetsM B w0 w' css0 css l d k :=
  ⟨h.len, fun i s hi hk => let ⟨x, a, b⟩ := h.new i s hi hk; ⟨x, a, b.ext hx⟩, h.old⟩
theorem SetsM.mv {B : Nat} {w0 w w' : World} {css0 css : List (List Value)} {l : List RSet} {d : List UInt8} {k : Nat} {row : Option Nat} (h : SetsM B w0 w css0 css l d k) (hm : Mv row w w') (hne : ∀ x es, Own B 1 9 w x es → x.ownBlock = none ∨ x.ownBlock ≠ row) : SetsM B w0 w' css0 css l d k :=
  ⟨h.len, fun i s hi hk => let ⟨x, a, b⟩ := h.new i s hi hk; ⟨x, a, b.mv hm (hne x _ b)⟩, h.old⟩
theorem SetsM.step {B : Nat} {w0 w : World} {css0 css : List (List Value)} {l : List RSet} {d : List UInt8} {k : Nat} (h : SetsM B w0 w css0 css l d k) (hk : k < l.length) {y : Value} (hy : Own B 1 9 w y (tcells (renS d l[k]).data)) :
    SetsM B w0 w css0 (css.set k [str l[k].name, .int .i64 l[k].kind, .int .i64 l[k].ttl, y]) l d (k + 1) := by
  refine ⟨by rw [List.length_set, h.len], fun i s hi hik => ?_, fun i hi => ?_⟩
  · by_cases e : k = i
    · subst e
      rw [List.getElem?_eq_getElem hk] at hi
      cases hi
      exact ⟨y, List.getElem?_set_self (by rw [h.len]; exact hk), hy⟩
    · obtain ⟨x, a, b⟩ := h.new i s hi (by omega)
      exact ⟨x, by rw [List.getElem?_set_ne e]; exact a, b⟩
  · rw [List.getElem?_set_ne (by omega)]; exact h.old i (by omega)
theorem renS_name {d : List UInt8} {s : RSet} : (renS d s).name = s.name ∧ (renS d s).kind = s.kind ∧ (renS d s).ttl = s.ttl := by
  unfold renS; split <;> exact ⟨rfl, rfl, rfl⟩
theorem SetsM.done {B : Nat} {w0 w : World} {css0 css : List (List Value)} {l : List RSet} {d : List UInt8} (h : SetsM B w0 w css0 css l d l.length) : SetsW B w css (l.map (renS d)) := by
  refine ⟨by rw [List.length_map, h.len], fun i s hi => ?_⟩
  rw [List.getElem?_map] at hi
  cases hq : l[i]? with
  | none => rw [hq] at hi; cases hi
  | some t =>
    rw [hq] at hi
    cases hi
    obtain ⟨x, a, b⟩ := h.new i t hq (List.getElem?_eq_some_iff.1 hq).1
    obtain ⟨e1, e2, e3⟩ := renS_name (d := d) (s := t)
    exact ⟨x, by rw [e1, e2, e3]; exact a, b⟩
set_option maxHeartbeats 6000000 in
theorem p_Renew (o : List UInt8) (v : Value) (l : List RSet) (n : Int) (w : World) (hv : SetsAt w v l) (hl : l.length ≤ 100000) (hb : ∀ s ∈ l, s.data.length ≤ 1000000) (hd : ∀ s ∈ l, ∀ d ∈ s.data, d.length ≤ 4611686018427387904) : Calls Tryz.prog 66 #[.agg #[str o, v], .int .i64 n] w (Ret w (RenU w.heap.size o l n)) := by
  obtain ⟨hm1, hm2⟩ := soaZ_len (o := o) (l := l)
  have hsoa : ∀ w', Calls Tryz.prog 108 #[.agg (withN (soaZ o l) n).cells.toArray] w' (RetV w' (if (withN (soaZ o l) n).ok = true then .tuple #[str (withN (soaZ o l) n).data, .int .i64 0] else .tuple #[str [], .int .i64 1])) := fun w' => t70 (withN (soaZ o l) n) w' hm1 hm2
  clear hm1 hm2
  go_enter Tryz.func66, Tryz.ntmps66
  repeat' ((fail_if_success (with_reducible refine o_s ?_)); go_step)
  refine wpl_boxB (vs := [str o, v]) rfl rfl ?_
  intro w1 x1 s1 hz1
  refine gset ?_
  refine wpl_allocB (z := zzone) rfl (by decide +kernel) ?_
  intro w2 x2 s2 h2
  refine gset ?_
  have hz2 := x2.at hz1
  have hx2 := x1.trans x2
  have hv2 := hv.ext hx2
  have z1 := x1.size
  have hp2 := pts_block hz2
  repeat' (first | ((with_reducible refine o_s ?_); (first | (refine o_1 ?_; refine o_2 ?_) | (refine o_g ?_; first | refine o_u ?_ | refine o_k ?_ | refine o_n ?_ | refine o_v ?_ | ((first | refine o_G ?_ ?_ | refine o_N ?_ ?_) <;> intro hc)))) | ((fail_if_success (with_reducible refine o_s ?_)); go_step))
  refine wpl_callV (enters_of Tryz.func63 rfl rfl) rfl rfl (p_Soa o v l _ hv2 hb hd) ?_; intro w3 x3; refine gset ?_
  have hx3 := hx2.trans x3
  have hz3 := x3.at hz2
  have h3 := x3.at h2
  have hp3 := hp2.ext x3
  repeat' (first | ((with_reducible refine o_s ?_); (first | (refine o_1 ?_; refine o_2 ?_) | (refine o_g ?_; first | refine o_u ?_ | refine o_k ?_ | refine o_n ?_ | refine o_v ?_ | ((first | refine o_G ?_ ?_ | refine o_N ?_ ?_) <;> intro hc)))) | ((fail_if_success (with_reducible refine o_s ?_)); go_step))
  refine wpl_allocB (z := zeroSoa) rfl (by decide +kernel) ?_
  intro w4 x4 s4 h4
  refine gset ?_
  refine wpl_storeB (v := .agg (soaZ o l).cells.toArray) rfl rfl rfl h4 (show sizeTy Tryz.prog 103 7 = true by decide +kernel) rfl (soaR_one _) ?_
  intro w5 p5
  have x5 : Ext w3 w5 := x4.move p5.mv (by rintro k ⟨⟩; exact Nat.le_refl _)
  have hb5 : w5.heap[w3.heap.size]? = some (.cells (soaZ o l).cells.toArray 103 (0, 0)) := p5.this
  have hx5 := hx3.trans x5
  have hp5 := hp3.ext x5
  have h5 := x5.at h3
  have hz5 := x5.at hz3
  have z3 := x3.size
  have z2 := x2.size
  clear p5 h4 x4
  repeat' (first | ((with_reducible refine o_s ?_); (first | (refine o_1 ?_; refine o_2 ?_) | (refine o_g ?_; first | refine o_u ?_ | refine o_k ?_ | refine o_n ?_ | refine o_v ?_ | ((first | refine o_G ?_ ?_ | refine o_N ?_ ?_) <;> intro hc)))) | ((fail_if_success (with_reducible refine o_s ?_)); go_step))
  · have q : ¬ zoneR o l = 0 := by simpa using (by assumption : (!decide (zoneR o l = 0)) = true)
    refine wpl_run (v := .agg zzone.toArray) rfl (Runs.build0 (by kernel_rfl)) ?_
    refine gset ?_
    repeat' (first | ((with_reducible refine o_s ?_); (first | (refine o_1 ?_; refine o_2 ?_) | (refine o_g ?_; first | refine o_u ?_ | refine o_k ?_ | refine o_n ?_ | refine o_v ?_ | ((first | refine o_G ?_ ?_ | refine o_N ?_ ?_) <;> intro hc)))) | ((fail_if_success (with_reducible refine o_s ?_)); go_step))
    refine wpl_storeB (v := .agg zzone.toArray) rfl rfl rfl h5 (by decide +kernel) rfl (by decide +kernel) ?_
    intro w6 p6
    have x6 : Ext w w6 := hx5.move p6.mv (by rintro k ⟨⟩; exact z1)
    repeat' (first | ((with_reducible refine o_s ?_); (first | (refine o_1 ?_; refine o_2 ?_) | (refine o_g ?_; first | refine o_u ?_ | refine o_k ?_ | refine o_n ?_ | refine o_v ?_ | ((first | refine o_G ?_ ?_ | refine o_N ?_ ?_) <;> intro hc)))) | ((fail_if_success (with_reducible refine o_s ?_)); go_step))
    refine bodyPost_ret (results_cellT (cs := zzone) rfl rfl p6.this (by decide +kernel)) rfl ⟨_, rfl, x6, ?_⟩
    exact RenU.bad (by rw [renE, if_neg q]) q
  · have q : zoneR o l = 0 := by simpa using (by assumption : (!decide (zoneR o l = 0)) = false)
    have hone : ∀ s ∈ l, s.kind = 6 → s.data.length = 1 := fun s hs h6 => ((zone_ok q).one6 hs h6).2
    have hp5s := pts_block hb5
    repeat' (first | ((with_reducible refine o_s ?_); (first | (refine o_1 ?_; refine o_2 ?_) | (refine o_g ?_; first | refine o_u ?_ | refine o_k ?_ | refine o_n ?_ | refine o_v ?_ | ((first | refine o_G ?_ ?_ | refine o_N ?_ ?_) <;> intro hc)))) | ((fail_if_success (with_reducible refine o_s ?_)); go_step))
    refine wpl_storeF (n := 2) hb5 rfl rfl rfl (by simp [SoaR.cells]) (by decide +kernel) rfl ?_
    intro w6 p6
    have x6 : Ext w3 w6 := x5.move p6.mv (by rintro k ⟨⟩; exact Nat.le_refl _)
    have hb6 : w6.heap[w3.heap.size]? = some (.cells (withN (soaZ o l) n).cells.toArray 103 (0, 0)) := p6.this
    have hx6 := hx3.trans x6
    have h6 := x6.at h3
    have hz6 := x6.at hz3
    clear p6 hb5 hp5s x5 hp5 h5 hz5
    have hren : renE o l n = if (withN (soaZ o l) n).ok = true then 0 else 1 := by rw [renE, if_pos q]
    have hrd : renD o l n = (withN (soaZ o l) n).data := rfl
    generalize withN (soaZ o l) n = sn at *
    have hp6s := pts_block (cs := [str sn.main, str sn.mail, .int .i64 sn.serial, .int .i64 sn.refresh, .int .i64 sn.retry, .int .i64 sn.expire, .int .i64 sn.minimum]) hb6
    repeat' (first | ((with_reducible refine o_s ?_); (first | (refine o_1 ?_; refine o_2 ?_) | (refine o_g ?_; first | refine o_u ?_ | refine o_k ?_ | refine o_n ?_ | refine o_v ?_ | ((first | refine o_G ?_ ?_ | refine o_N ?_ ?_) <;> intro hc)))) | ((fail_if_success (with_reducible refine o_s ?_)); go_step))
    refine wpl_callV (enters_of Tryz.func108 rfl rfl) rfl rfl (hsoa _) ?_; intro w7 x7; refine gset ?_
    have hx7 := hx6.trans x7
    have hz7 := x7.at hz6
    have h7 := x7.at h6
    cases hok : sn.ok with
    | false =>
      rw [hok] at hren
      repeat' (first | ((with_reducible refine o_s ?_); (first | (refine o_1 ?_; refine o_2 ?_) | (refine o_g ?_; first | refine o_u ?_ | refine o_k ?_ | refine o_n ?_ | refine o_v ?_ | ((first | refine o_G ?_ ?_ | refine o_N ?_ ?_) <;> intro hc)))) | ((fail_if_success (with_reducible refine o_s ?_)); go_step))
      refine wpl_run (v := .agg zzone.toArray) rfl (Runs.build0 (by kernel_rfl)) ?_
      refine gset ?_
      repeat' (first | ((with_reducible refine o_s ?_); (first | (refine o_1 ?_; refine o_2 ?_) | (refine o_g ?_; first | refine o_u ?_ | refine o_k ?_ | refine o_n ?_ | refine o_v ?_ | ((first | refine o_G ?_ ?_ | refine o_N ?_ ?_) <;> intro hc)))) | ((fail_if_success (with_reducible refine o_s ?_)); go_step))
      refine wpl_storeB (v := .agg zzone.toArray) rfl rfl rfl h7 (by decide +kernel) rfl (by decide +kernel) ?_
      intro w8 p8
      have x8 : Ext w w8 := hx7.move p8.mv (by rintro k ⟨⟩; exact z1)
      repeat' (first | ((with_reducible refine o_s ?_); (first | (refine o_1 ?_; refine o_2 ?_) | (refine o_g ?_; first | refine o_u ?_ | refine o_k ?_ | refine o_n ?_ | refine o_v ?_ | ((first | refine o_G ?_ ?_ | refine o_N ?_ ?_) <;> intro hc)))) | ((fail_if_success (with_reducible refine o_s ?_)); go_step))
      refine bodyPost_ret (results_cellT (cs := zzone) rfl rfl p8.this (by decide +kernel)) rfl ⟨_, rfl, x8, ?_⟩
      exact RenU.bad (by rw [hren]; rfl) (by decide)
    | true =>
      rw [hok] at hren
      have hren : renE o l n = 0 := hren
      rw [← hrd]
      generalize hgd : renD o l n = d at *
      clear hsoa hp6s hb6 hrd
      obtain ⟨css0, hv0, hvs⟩ := hv.rows
      have hp7 := pts_block hz7
      have hvs7 := hvs.ext hx7
      repeat' (first | ((with_reducible refine o_s ?_); (first | (refine o_1 ?_; refine o_2 ?_) | (refine o_g ?_; first | refine o_u ?_ | refine o_k ?_ | refine o_n ?_ | refine o_v ?_ | ((first | refine o_G ?_ ?_ | refine o_N ?_ ?_) <;> intro hc)))) | ((fail_if_success (with_reducible refine o_s ?_)); go_step))
      refine wpl_callR (enters_of Tryz.func109 rfl rfl) rfl rfl (p_CloneS v css0 _ (hv0.ext hx7) hvs7.cell (by rw [hvs.len]; omega)) ?_
      intro y w8 x8 ho8
      have hx8 := hx7.trans x8
      have h8 := x8.at h7
      have hz8 := x8.at hz7
      have hp8 := pts_block hz8
      refine gset ?_
      repeat' (first | ((with_reducible refine o_s ?_); (first | (refine o_1 ?_; refine o_2 ?_) | (refine o_g ?_; first | refine o_u ?_ | refine o_k ?_ | refine o_n ?_ | refine o_v ?_ | ((first | refine o_G ?_ ?_ | refine o_N ?_ ?_) <;> intro hc)))) | ((fail_if_success (with_reducible refine o_s ?_)); go_step))
      refine wpl_storeF (n := 1) hz8 rfl rfl rfl (by simp) (by decide +kernel) ho8.one ?_
      intro w9 p9
      have hx9 : Ext w w9 := hx8.move p9.mv (by rintro k ⟨⟩; exact Nat.le_refl _)
      have hz9 : w9.heap[w.heap.size]? = some (.cells [str o, y].toArray 25 (0, 0)) := p9.this
      have h9 := p9.at h8 (by omega)
      have ho9 := ho8.mv p9.mv (.inr (ho8.neBlock hz8 (by decide)))
      have hzB : w1.heap.size < w7.heap.size := by have a1 := x2.size; have a2 := x3.size; have a3 := x6.size; have a4 := x7.size; have a5 := s2; omega
      have hzW := hx7.size
      have hB9 : w7.heap.size ≤ w9.heap.size := by have a1 := x8.size; have a2 := p9.size; omega
      have hne : w.heap.size ≠ w1.heap.size := by omega
      have hsl9 := ho9.sl
      have hlen0 := hvs.len
      have hpz9 := pts_block hz9
      clear p9 hz8 hp8 h8 ho8 hz7 hp7 h7 hz6 h6 hz3 h3 hp3 hp2 hz2 hz1 h2
      repeat' (first | ((with_reducible refine o_s ?_); (first | (refine o_1 ?_; refine o_2 ?_) | (refine o_g ?_; first | refine o_u ?_ | refine o_k ?_ | refine o_n ?_ | refine o_v ?_ | ((first | refine o_G ?_ ?_ | refine o_N ?_ ?_) <;> intro hc)))) | ((fail_if_success (with_reducible refine o_s ?_)); go_step))
      generalize hrb : w1.heap.size = rb at *
      generalize w7.heap.size = B at *
      clear hpz9 hsl9 hvs7
      go_loopw [9, 10, 38] (fun _ _ i wr => ∃ (k : Nat) (css : List (List Value)), k ≤ l.length ∧ i = .int .i64 k ∧ Ext w wr ∧ B ≤ wr.heap.size ∧ wr.heap[w.heap.size]? = some (.cells [str o, y].toArray 25 (0, 0)) ∧ wr.heap[rb]? = some (.cells zzone.toArray 25 (0, 0)) ∧ Own B 4 55 wr y css ∧ SetsM B w wr css0 css l d k) (fun _ _ i _ => l.length - (intOf i).toNat)
      case atStart => exact ⟨0, css0, Nat.zero_le _, rfl, hx9, hB9, hz9, h9, ho9, ⟨hlen0, by omega, fun i _ => rfl⟩⟩
      case round =>
        obtain ⟨k, css, hk, rfl, hx, hBr, hbz, hbr, ho, hs⟩ := hrel
        have hpz := pts_block hbz
        have hsl := ho.sl
        have hlen := hs.len
        by_cases hlt : k < l.length
        · obtain ⟨x, hc0, hxd0⟩ := hvs.at' k _ (List.getElem?_eq_getElem hlt)
          have hc : css[k]? = some [str l[k].name, .int .i64 l[k].kind, .int .i64 l[k].ttl, x] := by rw [hs.old k (Nat.le_refl _)]; exact hc0
          have hxd := hxd0.ext hx
          have hpe := hsl.elem hc
          have hbk := hb _ (List.getElem_mem hlt)
          repeat' (first | ((with_reducible refine o_s ?_); (first | (refine o_1 ?_; refine o_2 ?_) | (refine o_g ?_; first | refine o_u ?_ | refine o_k ?_ | refine o_n ?_ | refine o_v ?_ | ((first | refine o_G ?_ ?_ | refine o_N ?_ ?_) <;> intro hc)))) | ((fail_if_success (with_reducible refine o_s ?_)); go_step))
          refine wpl_allocB (z := zset) rfl (by decide +kernel) ?_
          intro w10 x10 s10 h10
          refine gset ?_
          repeat' (first | ((with_reducible refine o_s ?_); (first | (refine o_1 ?_; refine o_2 ?_) | (refine o_g ?_; first | refine o_u ?_ | refine o_k ?_ | refine o_n ?_ | refine o_v ?_ | ((first | refine o_G ?_ ?_ | refine o_N ?_ ?_) <;> intro hc)))) | ((fail_if_success (with_reducible refine o_s ?_)); go_step))
          refine wpl_storeB (v := .agg #[str l[k].name, .int .i64 l[k].kind, .int .i64 l[k].ttl, x]) rfl rfl rfl h10 (show sizeTy Tryz.prog 55 4 = true by decide +kernel) rfl (all4 rfl rfl rfl hxd.one) ?_
          intro w11 p11
          have x11 : Ext wr w11 := x10.move p11.mv (by rintro k ⟨⟩; exact Nat.le_refl _)
          have hbs : w11.heap[wr.heap.size]? = some (.cells [str l[k].name, .int .i64 l[k].kind, .int .i64 l[k].ttl, x].toArray 55 (0, 0)) := p11.this
          have hx11 := hx.trans x11
          have hbz11 := x11.at hbz
          have hbr11 := x11.at hbr
          have ho11 := ho.ext x11
          have hs11 := hs.ext x11
          have hps := pts_block hbs
          have hpz11 := pts_block hbz11
          have hsl11 := ho11.sl
          have hpe11 := hsl11.elem hc
          have hxd11 := hxd.ext x11
          have hB11 : B ≤ w11.heap.size := Nat.le_trans hBr x11.size
          have hnes : y.ownBlock ≠ some wr.heap.size := fun e => by have := (ho.block _ e).2; omega
          clear p11 h10 x10 hpe hpz hsl
          repeat' (first | ((with_reducible refine o_s ?_); (first | (refine o_1 ?_; refine o_2 ?_) | (refine o_g ?_; first | refine o_u ?_ | refine o_k ?_ | refine o_n ?_ | refine o_v ?_ | ((first | refine o_G ?_ ?_ | refine o_N ?_ ?_) <;> intro hc)))) | ((fail_if_success (with_reducible refine o_s ?_)); go_step))
          refine wpi_region 8 (Ext w11) (by decide +kernel) ?_
          intro w12 x12 _
          refine ⟨x12, ?_⟩
          ((with_reducible apply wpi_take (i := 0)); (rfl); (rfl); (rfl); (decide +kernel); (decide +kernel); (decide +kernel); (decide +kernel); (rfl); (intro _ _; exact rn); (exact fun _ _ _ h => h); (refine gset ?_)); ((with_reducible apply wpi_take (i := 1)); (rfl); (rfl); (rfl); (decide +kernel); (decide +kernel); (decide +kernel); (decide +kernel); (rfl); (intro _ _; exact rn); (exact fun _ _ _ h => h); (refine gset ?_)); ((with_reducible apply wpi_take (i := 2)); (rfl); (rfl); (rfl); (decide +kernel); (decide +kernel); (decide +kernel); (decide +kernel); (rfl); (intro _ _; exact rn); (exact fun _ _ _ h => h); (refine gset ?_)); ((with_reducible apply wpi_take (i := 3)); (rfl); (rfl); (rfl); (decide +kernel); (decide +kernel); (decide +kernel); (decide +kernel); (rfl); (intro _ _; exact rn); (exact fun _ _ _ h => h); (refine gset ?_)); ((with_reducible apply wpi_take (i := 4)); (rfl); (rfl); (rfl); (decide +kernel); (decide +kernel); (decide +kernel); (decide +kernel); (rfl); (intro _ _; exact rn); (exact fun _ _ _ h => h); (refine gset ?_))
          refine wpi_op (i := 5) (by decide +kernel) rfl rfl ?_
          refine wpl_callR (enters_of Tryz.func90 rfl rfl) rfl rfl (t24 x l[k].data _ (hxd11.ext x12) (by omega)) ?_
          intro u w13 x13 ou
          refine gset ?_
          have x1113 := x12.trans x13
          refine wph_nil ⟨till_yes x1113, ?_⟩
          ((with_reducible apply wpi_take (i := 6)); (rfl); (rfl); (rfl); (decide +kernel); (decide +kernel); (decide +kernel); (decide +kernel); (rfl); (intro _ _; exact rn); (exact fun _ _ _ h => h); (refine gset ?_)); ((with_reducible apply wpi_take (i := 7)); (rfl); (rfl); (rfl); (decide +kernel); (decide +kernel); (decide +kernel); (decide +kernel); (rfl); (intro _ _; exact rn); (exact fun _ _ _ h => h); (refine gset ?_))
          refine wpi_op (i := 8) (by decide +kernel) rfl rfl ?_
          have ho13 := ho11.ext x1113
          refine wpl_storeEF (i := k) (j := 3) rfl rfl rfl ho13 hc (by decide) (by decide +kernel) ou.one ?_
          intro w14 o14 m14
          refine wph_nil ⟨till_no rfl, ?_⟩
          refine wpi_done (by decide +kernel) ?_
          have hx13 := hx11.trans x1113
          have x14 : Ext w w14 := ho13.mvx m14 hx13 hzW
          have hbz14 := m14.at (x1113.at hbz11) (fun e => ho13.neBlock (x1113.at hbz11) (by decide) e.symm)
          have hbr14 := m14.at (x1113.at hbr11) (fun e => ho13.neBlock (x1113.at hbr11) (by decide) e.symm)
          have hbs14 := m14.at (x1113.at hbs) (fun e => hnes e.symm)
          have ou14 := ou.mv m14 (ou.ne ho13 (by decide))
          have hs14 := (hs11.ext x1113).mv m14 (fun x es hx => hx.ne ho13 (by decide))
          have hB14 : B ≤ w14.heap.size := by have a1 := x1113.size; have a2 := m14.size; omega
          have h12B : w11.heap.size ≤ w12.heap.size := x12.size
          clear hps hpz11 hsl11 hpe11 m14 hbs hbz11 hbr11 hs11 ho13 ho11 hxd11
          have hps := pts_block hbs14
          have hpz := pts_block hbz14
          have hsl := o14.sl
          repeat' (first | ((with_reducible refine o_s ?_); (first | (refine o_1 ?_; refine o_2 ?_) | (refine o_g ?_; first | refine o_u ?_ | refine o_k ?_ | refine o_n ?_ | refine o_v ?_ | ((first | refine o_G ?_ ?_ | refine o_N ?_ ?_) <;> intro hc)))) | ((fail_if_success (with_reducible refine o_s ?_)); go_step))
          · have h6 : l[k].kind = 6 := by assumption
            have hl1 := hone _ (List.getElem_mem hlt) h6
            have hu1 : (tcells l[k].data).length = 1 := by rw [tcells_length]; exact hl1
            have hck : (css.set k ([str l[k].name, .int .i64 l[k].kind, .int .i64 l[k].ttl, x].set 3 u))[k]? = some [str l[k].name, .int .i64 l[k].kind, .int .i64 l[k].ttl, u] := List.getElem?_set_self (by omega)
            have hlk : k < (css.set k ([str l[k].name, .int .i64 l[k].kind, .int .i64 l[k].ttl, x].set 3 u)).length := by rw [List.length_set]; omega
            have hpe := hsl.elem hck
            have hus := ou14.sl
            repeat' (first | ((with_reducible refine o_s ?_); (first | (refine o_1 ?_; refine o_2 ?_) | (refine o_g ?_; first | refine o_u ?_ | refine o_k ?_ | refine o_n ?_ | refine o_v ?_ | ((first | refine o_G ?_ ?_ | refine o_N ?_ ?_) <;> intro hc)))) | ((fail_if_success (with_reducible refine o_s ?_)); go_step))
            refine wpl_storeE1 (c := str d) (i := 0) rfl rfl rfl ou14 (by omega) (by decide +kernel) rfl ?_
            intro w15 o15 m15
            have hB12 : B ≤ w12.heap.size := by omega
            have hlow : ∀ r, u.ownBlock = some r → w12.heap.size ≤ r := fun r e => (ou14.block r e).1
            have x15 : Ext w w15 := ou14.mvx m15 x14 (Nat.le_trans hzW hB12)
            have hbz15 := m15.at hbz14 (fun e => ou14.neBlock hbz14 (by decide) e.symm)
            have hbr15 := m15.at hbr14 (fun e => ou14.neBlock hbr14 (by decide) e.symm)
            have oy15 := o14.mv m15 (o14.ne ou14 (by decide))
            have hs15 : SetsM B w w15 css0 css l d k := by
              refine ⟨hs14.len, fun i s hi hik => ?_, hs14.old⟩
              obtain ⟨z, a, b⟩ := hs.new i s hi hik
              obtain ⟨z', a', b'⟩ := hs14.new i s hi hik
              rw [a] at a'
              obtain rfl : z = z' := by simpa using a'
              refine ⟨z, a, b'.mv m15 ?_⟩
              cases hzb : z.ownBlock with
              | none => exact .inl rfl
              | some r =>
                refine .inr (fun e => ?_)
                have e1 := hlow r e.symm
                have e2 := (b.block r hzb).2
                have e3 := x11.size
                omega
            have ou15 : Own B 1 9 w15 u (tcells (renS d l[k]).data) := by
              rw [renS_yes h6]
              have e : (tcells l[k].data).set 0 [str d] = tcells [d] := by
                match hq : l[k].data, hl1 with
                | [z], _ => rfl
              rw [e] at o15
              exact o15.weaken hB12
            clear hps hpz hsl hpe hus
            repeat' (first | ((with_reducible refine o_s ?_); (first | (refine o_1 ?_; refine o_2 ?_) | (refine o_g ?_; first | refine o_u ?_ | refine o_k ?_ | refine o_n ?_ | refine o_v ?_ | ((first | refine o_G ?_ ?_ | refine o_N ?_ ?_) <;> intro hc)))) | ((fail_if_success (with_reducible refine o_s ?_)); go_step))
            exact ⟨⟨k + 1, _, by omega, by go_num, x15, by have := m15.size; omega, hbz15, hbr15, oy15, hs15.step hlt ou15⟩, by simp [intOf]; omega⟩
          · have h6 : ¬ l[k].kind = 6 := by assumption
            have ouk : Own B 1 9 w14 u (tcells (renS d l[k]).data) := by
              rw [renS_no h6]
              exact ou14.weaken (by omega)
            exact ⟨⟨k + 1, _, by omega, by go_num, x14, hB14, hbz14, hbr14, o14, hs14.step hlt ouk⟩, by simp [intOf]; omega⟩
        · have : k = l.length := by omega
          subst this
          repeat' (first | ((with_reducible refine o_s ?_); (first | (refine o_1 ?_; refine o_2 ?_) | (refine o_g ?_; first | refine o_u ?_ | refine o_k ?_ | refine o_n ?_ | refine o_v ?_ | ((first | refine o_G ?_ ?_ | refine o_N ?_ ?_) <;> intro hc)))) | ((fail_if_success (with_reducible refine o_s ?_)); go_step))
          refine wpl_storeB (v := .agg #[str o, y]) rfl rfl rfl hbr (show sizeTy Tryz.prog 25 2 = true by decide +kernel) rfl (zone_one ho.one) ?_
          intro w11 p11
          have x11 : Ext w w11 := hx.move p11.mv (by rintro k ⟨⟩; omega)
          have hfin : SetsO w.heap.size w11 y (l.map (renS d)) := by
            have : SetsV B wr y (l.map (renS d)) := ⟨css, ho, hs.done⟩
            exact (this.put hbr (by decide) (by decide) p11).toO hzW
          repeat' (first | ((with_reducible refine o_s ?_); (first | (refine o_1 ?_; refine o_2 ?_) | (refine o_g ?_; first | refine o_u ?_ | refine o_k ?_ | refine o_n ?_ | refine o_v ?_ | ((first | refine o_G ?_ ?_ | refine o_N ?_ ?_) <;> intro hc)))) | ((fail_if_success (with_reducible refine o_s ?_)); go_step))
          refine bodyPost_ret (results_cellT (cs := [str o, y]) rfl rfl p11.this (show aggTy Tryz.prog 25 2 = true by decide +kernel)) rfl ⟨_, rfl, x11, ?_⟩
          exact RenU.good hren (by rw [hgd]; exact hfin)
theorem ZoneOk.only {o : List UInt8} {l : List RSet} (h : ZoneOk o l) {s : RSet} (hs : s ∈ l) (h6 : s.kind = 6) : s.data = [soaD o l] := by
  obtain ⟨t, ht, _, _, _, hd, _⟩ := h.soaSet
  obtain ⟨i, hi, rfl⟩ := List.mem_iff_getElem.1 hs
  have hf := found_all h.chk hi
  rw [h6, (h.one6 hs h6).1, ht] at hf
  rw [← Option.some.inj hf]
  exact hd
theorem ZoneOk.back {o d : List UInt8} {l : List RSet} (h : ZoneOk o l) : (l.map (renS d)).map (renS (soaD o l)) = l := by
  rw [List.map_map]
  conv => rhs; rw [← List.map_id l]
  apply List.map_congr_left
  intro s hs
  simp only [Function.comp, id]
  by_cases h6 : s.kind = 6
  · rw [renS_yes (d := d) h6, renS_yes (by exact h6)]
    have := h.only hs h6
    cases s
    simp only at this
    rw [this]
  · rw [renS_no (d := d) h6, renS_no h6]
theorem ahead_lt {a b : RSet} (h : cmpSet a.name b.name a.kind b.kind < 0) : aheadS a b = true := by
  unfold cmpSet cmpI at h
  unfold aheadS
  simp only [Bool.or_eq_true, Bool.and_eq_true, decide_eq_true_eq]
  split at h
  · exact .inl h
  · rename_i h0
    refine .inr ⟨by omega, ?_⟩
    split at h
    · assumption
    · split at h <;> omega
theorem ahead_self {a b : RSet} (hn : a.name = b.name) (hk : a.kind = b.kind) : aheadS a b = false := by
  unfold aheadS
  rw [hn, hk]
  have h := tpo_cmpN.refl b.name
  simp [h]
theorem ahead_key {a b c : RSet} (hn : b.name = c.name) (hk : b.kind = c.kind) : aheadS a b = aheadS a c := by
  unfold aheadS; rw [hn, hk]
theorem may_less {s : RSet} (h : mayS s = true) {i : Nat} (hi : i + 1 < s.data.length) : s.data[i] < s.data[i + 1] := by
  simp only [mayS, Bool.and_eq_true, List.all_eq_true] at h
  have := h.2 (i + 1) (by simpa using hi)
  simp only [badAt, Bool.not_eq_true', Bool.or_eq_false_iff, Bool.and_eq_false_iff, decide_eq_false_iff_not] at this
  have h2 := this.2.resolve_left (by omega)
  have e1 : s.data.getD (i + 1 - 1) [] = s.data[i] := by simp [show i < s.data.length by omega]
  have e2 : s.data.getD (i + 1) [] = s.data[i + 1] := by simp [hi]
  rw [e1, e2] at h2
  exact bless.1 (by simpa using h2)
theorem may_sorted {s : RSet} (h : mayS s = true) (i : Nat) : ∀ j (hij : i < j) (hj : j < s.data.length), s.data[i] < s.data[j]
  | 0, hij, _ => by omega
  | j + 1, hij, hj => by
    have h1 := may_less h hj
    by_cases e : i = j
    · subst e; exact h1
    · exact Std.lt_trans (may_sorted h i j (by omega) (by omega)) h1
theorem textS_end {x : List UInt8} {l : List (List UInt8)} (h : ∀ y ∈ l, y < x) : textS x l = l ++ [x] := by
  have := textS_take (s := x) (l := l) (k := l.length) (by rw [List.take_length]; exact fun y hy => bless.2 (h y hy))
  rw [this, List.take_length, List.drop_length]
  rfl
theorem putS_end {r : Rec} {gs : List RSet} (h : ∀ g ∈ gs, aheadS g (recSet r) = true) (t : List RSet) : putS r (gs ++ t) = gs ++ putS r t := by
  have := putS_take (r := r) (l := gs ++ t) (k := gs.length) (by rw [List.take_left']; exact h; rfl)
  rw [this, List.take_left' rfl, List.drop_left' rfl]
theorem put_one {s : RSet} (hm : mayS s = true) {gs : List RSet} (hg : ∀ g ∈ gs, aheadS g s = true) : ∀ j, j < s.data.length →
    ((s.data.take (j + 1)).map (recOf s)).foldl (fun gs r => putS r gs) gs = gs ++ [⟨s.name, s.kind, s.ttl, s.data.take (j + 1)⟩]
  | 0, hj => by
    have hf := may_fold hm
    have e : s.data.take 1 = [s.data[0]] := by
      rw [List.take_one, List.head?_eq_getElem?, List.getElem?_eq_getElem hj]; rfl
    rw [e]
    simp only [List.map_cons, List.map_nil, List.foldl_cons, List.foldl_nil]
    have hr : recSet (recOf s s.data[0]) = ⟨s.name, s.kind, s.ttl, [s.data[0]]⟩ := by simp [recSet, recOf, hf]
    have hp := putS_end (r := recOf s s.data[0]) (gs := gs) (fun g hg' => by rw [hr]; exact (ahead_key (a := g) (b := ⟨s.name, s.kind, s.ttl, [s.data[0]]⟩) (c := s) rfl rfl).trans (hg g hg')) []
    rw [List.append_nil] at hp
    rw [hp, putS, hr]
  | j + 1, hj => by
    have ih := put_one hm hg j (by omega)
    have hf := may_fold hm
    have e : s.data.take (j + 1 + 1) = s.data.take (j + 1) ++ [s.data[j + 1]] := List.take_succ_eq_append_getElem hj
    rw [e, List.map_append, List.foldl_append, ih]
    simp only [List.map_cons, List.map_nil, List.foldl_cons, List.foldl_nil]
    have hr : recSet (recOf s s.data[j + 1]) = ⟨s.name, s.kind, s.ttl, [s.data[j + 1]]⟩ := by simp [recSet, recOf, hf]
    rw [putS_end (r := recOf s s.data[j + 1]) (gs := gs) (fun g hg' => by rw [hr]; exact (ahead_key (a := g) (b := ⟨s.name, s.kind, s.ttl, [s.data[j + 1]]⟩) (c := s) rfl rfl).trans (hg g hg')), putS, hr]
    have hs1 : ∀ x y : List (List UInt8), aheadS ⟨s.name, s.kind, s.ttl, x⟩ ⟨s.name, s.kind, s.ttl, y⟩ = false := fun x y => ahead_self rfl rfl
    rw [hs1, if_neg (by decide), hs1, if_neg (by decide)]
    have ht : textS (recOf s s.data[j + 1]).data (s.data.take (j + 1)) = s.data.take (j + 1) ++ [s.data[j + 1]] := by
      refine textS_end fun y hy => ?_
      obtain ⟨i, hi, rfl⟩ := List.mem_iff_getElem.1 hy
      rw [List.length_take] at hi
      rw [List.getElem_take]
      exact may_sorted hm i (j + 1) (by omega) hj
    simp only [ht]
    simp [recOf, hf]
theorem put_recs {l : List RSet} (h : checkS l = 0) : ∀ k, k ≤ l.length → putAll (recsP l k) = l.take k
  | 0, _ => by simp [recsP, putAll]
  | k + 1, hk => by
    have hlt : k < l.length := by omega
    have hm := check_may h hlt
    have hl : 1 ≤ l[k].data.length := by
      simp only [mayS, Bool.and_eq_true, decide_eq_true_eq] at hm
      exact hm.1.1.2
    have ih := put_recs h k (by omega)
    rw [recsP_succ hlt, putAll, List.foldl_append]
    rw [putAll] at ih
    rw [ih]
    have := put_one hm (gs := l.take k) (fun g hg => by
      obtain ⟨i, hi, rfl⟩ := List.mem_iff_getElem.1 hg
      rw [List.length_take] at hi
      rw [List.getElem_take]
      exact ahead_lt (check_sorted h i k (by omega) hlt)) (l[k].data.length - 1) (by omega)
    rw [show l[k].data.length - 1 + 1 = l[k].data.length by omega, List.take_length] at this
    rw [recsOf, this, List.take_succ_eq_append_getElem hlt]
theorem put_own {l : List RSet} (h : checkS l = 0) : putAll (recordsS l) = l := by
  have := put_recs h l.length (Nat.le_refl _)
  rwa [recsP_all, List.take_length] at this
theorem mem_records {l : List RSet} {r : Rec} (h : r ∈ recordsS l) : ∃ s ∈ l, ∃ d ∈ s.data, r = recOf s d := by
  simp only [recordsS, List.mem_flatten, List.mem_map] at h
  obtain ⟨rs, ⟨s, hs, rfl⟩, hr⟩ := h
  simp only [recsOf, List.mem_map] at hr
  obtain ⟨d, hd, rfl⟩ := hr
  exact ⟨s, hs, d, hd, rfl⟩
theorem refE_own {l : List RSet} (h : checkS l = 0) : refE (recordsS l) = 0 := by
  have h1 : (recordsS l).all okR = true := by
    rw [List.all_eq_true]
    intro r hr
    obtain ⟨s, hs, d, hd, rfl⟩ := mem_records hr
    obtain ⟨i, hi, rfl⟩ := List.mem_iff_getElem.1 hs
    obtain ⟨j, hj, rfl⟩ := List.mem_iff_getElem.1 hd
    simp only [okR, decide_eq_true_eq]
    exact may_at (check_may h hi) hj
  have h2 : l.length ≤ 200 := by
    unfold checkS at h
    split at h
    · cases h
    · omega
  have h3 : l.any big = false := by
    rw [List.any_eq_false]
    intro s hs
    obtain ⟨i, hi, rfl⟩ := List.mem_iff_getElem.1 hs
    have hm := check_may h hi
    simp only [mayS, Bool.and_eq_true, decide_eq_true_eq] at hm
    have := hm.1.2
    simp [big]
    omega
  unfold refE
  rw [put_own h, h3, if_neg (by rw [h1]; simp), if_neg (by omega), if_neg (by simp)]
theorem ZoneOk.again {o : List UInt8} {l : List RSet} (h : ZoneOk o l) : loadE o (recordsS l) = 0 ∧ loadO o (recordsS l) = o ∧ loadL o (recordsS l) = l := by
  have e : loadE o (recordsS l) = 0 := by
    rw [loadE, if_pos (refE_own h.chk), put_own h.chk, h.fold]
    exact zone_ok' h
  exact ⟨e, by rw [loadO, if_pos e, h.fold], by rw [loadL, if_pos e, put_own h.chk]⟩
def lessR (a b : List Rec) : List Rec := a.filter fun r => !decide (r ∈ b)
theorem mem_less {a b : List Rec} {r : Rec} : r ∈ lessR a b ↔ r ∈ a ∧ r ∉ b := by simp [lessR]
structure DeltaR where
  fr : Int
  to : Int
  gone : List Rec
  new : List Rec
  deriving DecidableEq, Inhabited
def zeroD : DeltaR := ⟨0, 0, [], []⟩
def mkE (oa : List UInt8) (la : List RSet) (ob : List UInt8) (lb : List RSet) : Int :=
  if zoneR oa la = 0 then (if zoneR ob lb = 0 then (if oa = ob then 0 else 1) else zoneR ob lb) else zoneR oa la
def mkD (oa : List UInt8) (la : List RSet) (ob : List UInt8) (lb : List RSet) : DeltaR :=
  if mkE oa la ob lb = 0 then ⟨(soaZ oa la).serial, (soaZ ob lb).serial, lessR (recordsS la) (recordsS lb), lessR (recordsS lb) (recordsS la)⟩ else zeroD
def goneF : List Rec → List Rec → Option (List Rec)
  | l, [] => some l
  | l, r :: g => if r ∈ l then goneF (l.erase r) g else none
def newF : List Rec → List Rec → Option (List Rec)
  | l, [] => some l
  | l, r :: g => if r ∈ l then none else newF (l ++ [r]) g
def editR (l : List Rec) (d : DeltaR) : Option (List Rec) := (goneF l d.gone).bind fun m => newF m d.new
def endE (o : List UInt8) (m : List Rec) (to : Int) : Int :=
  if loadE o m = 0 then (if (soaZ (loadO o m) (loadL o m)).serial = to ∧ (recordsS (loadL o m)).length = m.length ∧ lessR m (recordsS (loadL o m)) = [] then 0 else 2) else loadE o m
def appE (o : List UInt8) (l : List RSet) (d : DeltaR) : Int :=
  if zoneR o l = 0 then (if (soaZ o l).serial = d.fr then (match editR (recordsS l) d with
    | none => 5
    | some m => endE o m d.to) else 7) else zoneR o l
def appL (o : List UInt8) (l : List RSet) (d : DeltaR) : List RSet := if appE o l d = 0 then loadL o ((editR (recordsS l) d).getD []) else []
def appO (o : List UInt8) (l : List RSet) (d : DeltaR) : List UInt8 := if appE o l d = 0 then loadO o ((editR (recordsS l) d).getD []) else []
def invD (d : DeltaR) : DeltaR := ⟨d.to, d.fr, d.new, d.gone⟩
theorem recOf_inj {s : RSet} {d e : List UInt8} (h : recOf s d = recOf s e) : d = e := by simpa [recOf] using h
theorem ZoneOk.nodup {o : List UInt8} {l : List RSet} (h : ZoneOk o l) : (recordsS l).Nodup := by
  unfold recordsS List.Nodup
  rw [List.pairwise_flatten]
  constructor
  · intro rs hrs
    obtain ⟨s, hs, rfl⟩ := List.mem_map.1 hrs
    unfold recsOf
    rw [List.pairwise_map, List.pairwise_iff_getElem]
    intro i j hi hj hij he
    have h1 := may_sorted (h.may hs) i j hij hj
    rw [recOf_inj he] at h1
    exact Std.lt_irrefl h1
  · rw [List.pairwise_map, List.pairwise_iff_getElem]
    intro i j hi hj hij x hx y hy he
    simp only [recsOf, List.mem_map] at hx hy
    obtain ⟨d, _, rfl⟩ := hx
    obtain ⟨e, _, rfl⟩ := hy
    simp only [recOf, Rec.mk.injEq] at he
    have h1 := check_sorted h.chk i j hij hj
    rw [he.1, he.2.1] at h1
    have h2 := tpo_cmpSet.refl (l[j].name, l[j].kind)
    simp only at h2
    omega
theorem Ch.same {L M : List Rec} {s : RSet} (h : Ch L s) (hm : ∀ r, r ∈ L ↔ r ∈ M) : Ch M s where
  dat d := by
    rw [h.dat]
    constructor
    · rintro ⟨r, h1, h2⟩; exact ⟨r, (hm r).1 h1, h2⟩
    · rintro ⟨r, h1, h2⟩; exact ⟨r, (hm r).2 h1, h2⟩
  ttl := let ⟨r, h1, h2⟩ := h.ttl; ⟨r, (hm r).1 h1, h2⟩
  low r h1 h2 := h.low r ((hm r).2 h1) h2
theorem all_same {a b : List Rec} (hm : ∀ r, r ∈ a ↔ r ∈ b) : a.all okR = b.all okR := by
  rw [Bool.eq_iff_iff, List.all_eq_true, List.all_eq_true]
  exact ⟨fun h r hr => h r ((hm r).2 hr), fun h r hr => h r ((hm r).1 hr)⟩
theorem match_keys {s t : RSet} {r : Rec} (h : match1 s r = true) (k : match1 t r = true) : s.name = t.name ∧ s.kind = t.kind := by
  simp only [match1, Bool.and_eq_true, decide_eq_true_eq] at h k
  exact ⟨h.1.trans k.1.symm, h.2.trans k.2.symm⟩
theorem putAll_sub {a b : List Rec} (ha : a.all okR = true) (hm : ∀ r, r ∈ a ↔ r ∈ b) {s : RSet} (hs : s ∈ putAll a) : s ∈ putAll b := by
  have hb : b.all okR = true := by rw [← all_same hm]; exact ha
  obtain ⟨_, a2, _⟩ := putAll_all ha
  obtain ⟨_, b2, b3⟩ := putAll_all hb
  obtain ⟨c1, c2, _⟩ := a2 s hs
  obtain ⟨r, hr, hmr, _⟩ := c1.ttl
  obtain ⟨t, ht, htm⟩ := b3 r ((hm r).1 hr)
  obtain ⟨d1, d2, _⟩ := b2 t ht
  obtain ⟨e1, e2⟩ := match_keys hmr htm
  rw [(c1.same hm).uniq d1 c2 d2 e1 e2]
  exact ht
theorem so_eq : ∀ {a b : List RSet}, SO a → SO b → (∀ s, s ∈ a ↔ s ∈ b) → a = b
  | [], [], _, _, _ => rfl
  | [], y :: b, _, _, h => by have := (h y).2 (by simp); cases this
  | x :: a, [], _, _, h => by have := (h x).1 (by simp); cases this
  | x :: a, y :: b, ha, hb, h => by
    obtain ⟨a1, a2⟩ := List.pairwise_cons.1 ha
    obtain ⟨b1, b2⟩ := List.pairwise_cons.1 hb
    have irr : ∀ s, ¬ cmpG s s < 0 := fun s => by have := tpoG.refl s; omega
    have asy : ∀ s t, cmpG s t < 0 → ¬ cmpG t s < 0 := fun s t h1 h2 => by have := tpoG.anti s t; omega
    have hxy : x = y := by
      rcases List.mem_cons.1 ((h x).1 (by simp)) with e | hx
      · exact e
      · rcases List.mem_cons.1 ((h y).2 (by simp)) with e | hy
        · exact e.symm
        · exact absurd (a1 y hy) (asy _ _ (b1 x hx))
    subst hxy
    rw [so_eq a2 b2 fun s => ?_]
    constructor
    · intro hs
      rcases List.mem_cons.1 ((h s).1 (by simp [hs])) with rfl | h1
      · exact absurd (a1 s hs) (irr s)
      · exact h1
    · intro hs
      rcases List.mem_cons.1 ((h s).2 (by simp [hs])) with rfl | h1
      · exact absurd (b1 s hs) (irr s)
      · exact h1
theorem putAll_congr {a b : List Rec} (ha : a.all okR = true) (hm : ∀ r, r ∈ a ↔ r ∈ b) : putAll a = putAll b := by
  have hb : b.all okR = true := by rw [← all_same hm]; exact ha
  exact so_eq (putAll_all ha).1 (putAll_all hb).1 fun s => ⟨putAll_sub ha hm, putAll_sub hb (fun r => (hm r).symm)⟩
theorem refE_congr {a b : List Rec} (hm : ∀ r, r ∈ a ↔ r ∈ b) : refE a = refE b := by
  unfold refE
  rw [all_same hm]
  by_cases hb : b.all okR = false
  · rw [if_pos hb, if_pos hb]
  · have ha : a.all okR = true := by rw [all_same hm]; simpa using hb
    rw [putAll_congr ha hm]
theorem load_congr {o : List UInt8} {a b : List Rec} (hm : ∀ r, r ∈ a ↔ r ∈ b) : loadE o a = loadE o b ∧ loadO o a = loadO o b ∧ loadL o a = loadL o b := by
  have e : loadE o a = loadE o b := by
    unfold loadE
    rw [refE_congr hm]
    by_cases h0 : refE b = 0
    · rw [if_pos h0, if_pos h0]
      have ha : a.all okR = true := by
        rw [all_same hm]
        cases hb : b.all okR with
        | true => rfl
        | false => rw [refE, if_pos hb] at h0; cases h0
      rw [putAll_congr ha hm]
    · rw [if_neg h0, if_neg h0]
  refine ⟨e, by unfold loadO; rw [e], ?_⟩
  unfold loadL
  rw [e]
  by_cases h0 : loadE o b = 0
  · rw [if_pos h0, if_pos h0]
    have hr : refE a = 0 := by
      rw [refE_congr hm]
      unfold loadE at h0
      split at h0
      · assumption
      · exact h0
    have ha : a.all okR = true := by
      cases ha : a.all okR with
      | true => rfl
      | false => rw [refE, if_pos ha] at hr; cases hr
    exact putAll_congr ha hm
  · rw [if_neg h0, if_neg h0]
theorem gone_ok : ∀ {g l : List Rec}, l.Nodup → g.Nodup → (∀ r ∈ g, r ∈ l) → goneF l g = some (l.filter fun r => !decide (r ∈ g))
  | [], l, _, _, _ => by
    rw [goneF]
    congr 1
    symm
    rw [List.filter_eq_self]
    intro r _
    simp
  | r :: g, l, hl, hg, hs => by
    obtain ⟨g1, g2⟩ := List.nodup_cons.1 hg
    rw [goneF, if_pos (hs r (by simp)), gone_ok (hl.erase r) g2 (fun q hq => by
      rw [hl.mem_erase_iff]
      exact ⟨fun e => g1 (e ▸ hq), hs q (by simp [hq])⟩), hl.erase_eq_filter, List.filter_filter]
    congr 1
    apply List.filter_congr
    intro q _
    by_cases h1 : q = r <;> by_cases h2 : q ∈ g <;> simp [h1, h2]
theorem new_ok : ∀ {g l : List Rec}, g.Nodup → (∀ r ∈ g, r ∉ l) → newF l g = some (l ++ g)
  | [], l, _, _ => by simp [newF]
  | r :: g, l, hg, hs => by
    obtain ⟨g1, g2⟩ := List.nodup_cons.1 hg
    rw [newF, if_neg (hs r (by simp)), new_ok g2 (fun q hq h => by
      rcases List.mem_append.1 h with h | h
      · exact hs q (by simp [hq]) h
      · obtain rfl := List.mem_singleton.1 h
        exact g1 hq)]
    simp
theorem less_nodup {a b : List Rec} (h : a.Nodup) : (lessR a b).Nodup := h.filter _
theorem apply_ok {o : List UInt8} {la lb : List RSet} (ha : ZoneOk o la) (hb : ZoneOk o lb) {d : DeltaR} (h1 : d.fr = (soaZ o la).serial) (h2 : d.to = (soaZ o lb).serial) (hg : d.gone.Nodup) (hn : d.new.Nodup)
    (mg : ∀ r, r ∈ d.gone ↔ r ∈ recordsS la ∧ r ∉ recordsS lb) (mn : ∀ r, r ∈ d.new ↔ r ∈ recordsS lb ∧ r ∉ recordsS la) : appE o la d = 0 ∧ appL o la d = lb ∧ appO o la d = o := by
  have e1 := gone_ok ha.nodup hg (fun r hr => ((mg r).1 hr).1)
  have e2 := new_ok (l := (recordsS la).filter fun r => !decide (r ∈ d.gone)) hn (fun r hr h => ((mn r).1 hr).2 (List.mem_filter.1 h).1)
  have e3 : editR (recordsS la) d = some (((recordsS la).filter fun r => !decide (r ∈ d.gone)) ++ d.new) := by
    rw [editR, e1]; exact e2
  generalize hmg : ((recordsS la).filter fun r => !decide (r ∈ d.gone)) ++ d.new = m at e3
  have hm : ∀ r, r ∈ m ↔ r ∈ recordsS lb := by
    intro r
    rw [← hmg, List.mem_append, List.mem_filter, mn r]
    simp only [Bool.not_eq_true', decide_eq_false_iff_not, mg r, not_and, Decidable.not_not]
    constructor
    · rintro (⟨h3, h4⟩ | ⟨h3, _⟩)
      · exact h4 h3
      · exact h3
    · intro h3
      by_cases h4 : r ∈ recordsS la
      · exact .inl ⟨h4, fun _ => h3⟩
      · exact .inr ⟨h3, h4⟩
  have hnd : m.Nodup := by
    rw [← hmg, List.nodup_append]
    refine ⟨ha.nodup.filter _, hn, ?_⟩
    intro x hx y hy e
    subst e
    exact ((mn x).1 hy).2 (List.mem_filter.1 hx).1
  have hperm := (List.perm_ext_iff_of_nodup hnd hb.nodup).2 hm
  obtain ⟨c1, c2, c3⟩ := load_congr (o := o) hm
  obtain ⟨b1, b2, b3⟩ := hb.again
  rw [b1] at c1
  rw [b2] at c2
  rw [b3] at c3
  have hend : endE o m d.to = 0 := by
    unfold endE
    rw [if_pos c1, c2, c3, if_pos]
    refine ⟨h2.symm, hperm.length_eq.symm, ?_⟩
    unfold lessR
    rw [List.filter_eq_nil_iff]
    intro r hr
    simp [(hm r).1 hr]
  have hE : appE o la d = 0 := by
    unfold appE
    rw [if_pos (zone_ok' ha), if_pos h1.symm, e3]
    exact hend
  refine ⟨hE, ?_, ?_⟩
  · rw [appL, if_pos hE, e3]; exact c3
  · rw [appO, if_pos hE, e3]; exact c2
theorem mk_ok {oa ob : List UInt8} {la lb : List RSet} (h : mkE oa la ob lb = 0) : ZoneOk oa la ∧ ZoneOk oa lb ∧ oa = ob ∧ mkD oa la ob lb = ⟨(soaZ oa la).serial, (soaZ oa lb).serial, lessR (recordsS la) (recordsS lb), lessR (recordsS lb) (recordsS la)⟩ := by
  have h0 := h
  unfold mkE at h
  split at h
  · rename_i q1
    split at h
    · rename_i q2
      split at h
      · rename_i q3
        subst q3
        exact ⟨zone_ok q1, zone_ok q2, rfl, by rw [mkD, if_pos h0]⟩
      · cases h
    · rename_i q2; exact absurd h q2
  · rename_i q1; exact absurd h q1
theorem back_ok {oa ob : List UInt8} {la lb : List RSet} (h : mkE oa la ob lb = 0) :
    (appE oa la (mkD oa la ob lb) = 0 ∧ appL oa la (mkD oa la ob lb) = lb ∧ appO oa la (mkD oa la ob lb) = oa) ∧
    (appE oa lb (invD (mkD oa la ob lb)) = 0 ∧ appL oa lb (invD (mkD oa la ob lb)) = la ∧ appO oa lb (invD (mkD oa la ob lb)) = oa) := by
  obtain ⟨ha, hb, _, hd⟩ := mk_ok h
  rw [hd]
  exact ⟨apply_ok ha hb rfl rfl (less_nodup ha.nodup) (less_nodup hb.nodup) (fun r => mem_less) (fun r => mem_less),
    apply_ok hb ha rfl rfl (less_nodup hb.nodup) (less_nodup ha.nodup) (fun r => mem_less) (fun r => mem_less)⟩
end Go.Proofs.X
