/- Laws and walks that the proof of the statement is made of (part 10). -/
import Derived.Test.YteofaejlmdplhaaGreatP9
set_option linter.unusedSimpArgs false
set_option linter.unusedVariables false
namespace Go.Proofs.X
open Go.RowKit
set_option maxRecDepth 100000
theorem rU {k : Nat} {c : Value} : ∀ (es : List (List Value)) (i j : Nat) (e : List Value), (∀ x ∈ es, x.length = k) → es[i]? = some e → j < k → (es.set i (e.set j c)).flatten = es.flatten.set (i * k + j) c
 | [], i, _, _, _, hi, _ => by simp at hi
 | x :: es, 0, j, e, hall, hi, hj => by
   have hx := hall x (by simp)
   cases hi
   simp only [List.set_cons_zero, List.flatten_cons, Nat.zero_mul, Nat.zero_add]
   rw [List.set_append_left _ _ (by omega)]
 | x :: es, i + 1, j, e, hall, hi, hj => by
   have hx := hall x (by simp)
   simp only [List.set_cons_succ, List.flatten_cons]
   rw [rU es i j e (fun y hy => hall y (by simp [hy])) (by simpa using hi) hj]
   rw [List.set_append_right _ _ (by rw [Nat.add_mul]; omega), show (i + 1) * k + j - x.length = i * k + j by rw [hx, Nat.add_mul]; omega]
theorem Own.storeF {P : Program} {B k e : Nat} {w : World} {v : Value} {es : List (List Value)} {t : TypeId} {i j : Nat} {ce : List Value} {c : Value} (h : Own B k e w v es) (hi : es[i]? = some ce) (hj : j < k) (hs : aO P t 1 = true) (h1 : c.oneCell' = true) :
 ∃ w' b o, bL (bX v (i * k)) j = .pointer (some ⟨b, o, none⟩) ∧ (storeVar t ⟨b, o, none⟩ c).run P w = .ok () w' ∧ Own B k e w' v (es.set i (ce.set j c)) ∧ Mv v.ownBlock w w' := by
 have hil := (List.getElem?_eq_some_iff.1 hi).1
 have hce : ce.length = k := h.each ce (List.mem_of_getElem? hi)
 have hcc : c.cells = #[c] := by cases c <;> first | rfl | cases h1
 rcases h.row.2 with ⟨rfl, h0⟩ | ⟨g, cap, cur, fz, rfl, hb, hg, hfz, hnc, hcm, hcs, htake⟩
 ·omega
 ·have hl := aY h.each
  have hik : i * k + k ≤ es.length * k := by
   have : (i + 1) * k ≤ es.length * k := Nat.mul_le_mul_right k hil
   rwa [Nat.add_mul, Nat.one_mul] at this
  have hck : es.length * k ≤ cap * k := Nat.mul_le_mul_right k hnc
  have hst := cX P g (i * k + j) e fz [c] 0 cur w hg hfz (by simp; omega) (by simpa using h1)
  simp only [Nat.add_zero, List.length_cons, List.length_nil, Nat.zero_add] at hst
  have hset : cur.toList.take (i * k + j) ++ [c] ++ cur.toList.drop (i * k + j + 1) = cur.toList.set (i * k + j) c := by
   rw [List.set_eq_take_append_cons_drop, if_pos (by simp; omega)]; simp
  rw [hset] at hst
  obtain ⟨ti, hq, hsz⟩ := lT (fQ hs)
  have hall : ∀ x ∈ es.set i (ce.set j c), x.length = k := by
   intro x hx
   rcases List.mem_or_eq_of_mem_set hx with hx | rfl
   ·exact h.each x hx
   ·simpa using hce
  refine ⟨w.setRow g (cur.toList.set (i * k + j) c).toArray, g, i * k + j, by simp [bX, bL, cR], ?_, ⟨⟨?_, .inr ⟨g, cap, (cur.toList.set (i * k + j) c).toArray, fz, ?_, hb, setRow_heap w g cur _ e _ hg, ?_, ?_, hcm, ?_, ?_⟩⟩, hall⟩, ⟨rfl, rfl, rfl, by simp, fun k _ hk => setRow_other w g k _ (fun e => hk (by simp [Value.ownBlock, e])), Nat.le_refl _⟩⟩
  ·simpa [storeVar, sizeOf, typeInfo, hq, hsz, hcc] using hst
  ·rw [aY hall]
  ·simp
  ·simpa using hfz
  ·simpa using hnc
  ·simpa using hcs
  ·rw [rU es i j ce h.each hi hj, ← htake]
   simp only [List.length_set, List.take_set]
section
variable {P : Program} {ops : Array Oper} {Q : Exit → Act → World → Prop} {w : World} {rest : List Oper} {ts : List Value} {df : List Deferred} {ty : TypeId} {ps : String} {af : Array Edge} {g : Option (Nat × Bool)}
theorem kR {B k e : Nat} {v c : Value} {es : List (List Value)} {ce : List Value} {t ty2 : TypeId} {x y : Operand} {i j : Nat} (hw : Region.wanted (Oper.mk none (.store t x y) ty2 ps af g) (yielded ops ts.toArray) = true)
 (hx : (Act.mk ts.toArray df).eval x = bL (bX v (i * k)) j) (hy : (Act.mk ts.toArray df).eval y = c) (h : Own B k e w v es) (hi : es[i]? = some ce) (hj : j < k) (hs : aO P t 1 = true) (h1 : c.oneCell' = true)
 (hk : ∀ w', Own B k e w' v (es.set i (ce.set j c)) → Mv v.ownBlock w w' → wpList P ops Q rest (Act.mk ts.toArray df) w') : wpList P ops Q (Oper.mk none (.store t x y) ty2 ps af g :: rest) (Act.mk ts.toArray df) w := by
 obtain ⟨w', b, o, he, hr, ho, hm⟩ := h.storeF (P := P) hi hj hs h1
 refine fR hw (w' := w') ?_ (hk w' ho hm)
 simp [execOp, hx, hy, he, Instr.storeAt, Instr.sureAddr, hr]
end
structure SetsW (B : Nat) (w : World) (css : List (List Value)) (l : List RSet) : Prop where
 len : css.length = l.length
 at' : ∀ (i : Nat) (s : RSet), l[i]? = some s → ∃ x, css[i]? = some [aI s.name, .int .i64 s.kind, .int .i64 s.ttl, x] ∧ Own B 1 9 w x (aN s.data)
theorem SetsW.sets {B : Nat} {w : World} {css : List (List Value)} {l : List RSet} (h : SetsW B w css l) : SetsC w css l :=
 ⟨h.len, fun i s hi => let ⟨x, a, b⟩ := h.at' i s hi; ⟨x, a, b.sl⟩⟩
theorem SetsW.ext {B : Nat} {w w' : World} {css : List (List Value)} {l : List RSet} (h : SetsW B w css l) (hx : Ext w w') : SetsW B w' css l :=
 ⟨h.len, fun i s hi => let ⟨x, a, b⟩ := h.at' i s hi; ⟨x, a, b.ext hx⟩⟩
theorem SetsW.mv {B B' k' e' : Nat} {w w' : World} {css : List (List Value)} {l : List RSet} {v : Value} {es : List (List Value)} (h : SetsW B w css l) (ho : Own B' k' e' w v es) (he : 9 ≠ e') (hm : Mv v.ownBlock w w') : SetsW B w' css l :=
 ⟨h.len, fun i s hi => let ⟨x, a, b⟩ := h.at' i s hi; ⟨x, a, b.mv hm (b.ne ho he)⟩⟩
theorem SetsW.put {B b t : Nat} {w w' : World} {css : List (List Value)} {l : List RSet} {cs : Array Value} {fz : Nat × Nat} {o : Obj} (h : SetsW B w css l) (hb : w.heap[b]? = some (.cells cs t fz)) (ht : t ≠ 9) (hp : Put w w' b o) : SetsW B w' css l :=
 ⟨h.len, fun i s hi => let ⟨x, a, c⟩ := h.at' i s hi; ⟨x, a, c.mv hp.mv (.inr (c.neBlock hb ht))⟩⟩
theorem SetsW.weaken {B C : Nat} {w : World} {css : List (List Value)} {l : List RSet} (h : SetsW B w css l) (hc : C ≤ B) : SetsW C w css l :=
 ⟨h.len, fun i s hi => let ⟨x, a, b⟩ := h.at' i s hi; ⟨x, a, b.weaken hc⟩⟩
theorem SetsW.append {B : Nat} {w : World} {l m : List RSet} {c d : List (List Value)} (h : SetsW B w c l) (k : SetsW B w d m) : SetsW B w (c ++ d) (l ++ m) := by
 refine ⟨by rw [List.length_append, List.length_append, h.len, k.len], fun i s hi => ?_⟩
 rw [List.getElem?_append] at hi ⊢
 rw [h.len]
 split at hi
 ·rw [if_pos ‹_›]; exact h.at' i s hi
 ·rw [if_neg ‹_›]; exact k.at' _ s hi
theorem SetsW.one {B : Nat} {w : World} {s : RSet} {x : Value} (h : Own B 1 9 w x (aN s.data)) : SetsW B w [[aI s.name, .int .i64 s.kind, .int .i64 s.ttl, x]] [s] :=
 ⟨rfl, fun i t hi => by
  match i, hi with
  | 0, hi => cases hi; exact ⟨x, rfl, h⟩⟩
theorem SetsW.nil (B : Nat) (w : World) : SetsW B w [] [] := ⟨rfl, by simp⟩
theorem SetsW.from' {B C : Nat} {w : World} {css : List (List Value)} {l : List RSet} (h : SetsW B w css l) (hc : C ≤ B) : FromC C css := by
 intro f hf u hu
 obtain ⟨i, hi, rfl⟩ := List.mem_iff_getElem.1 hf
 obtain ⟨x, h1, h2⟩ := h.at' i _ (List.getElem?_eq_getElem (by rw [← h.len]; exact hi))
 rw [List.getElem?_eq_getElem hi] at h1
 rw [Option.some.inj h1] at hu
 exact (FromC.one (h2.from' hc)) _ (List.mem_singleton.2 rfl) u hu
structure SetsV (B : Nat) (w : World) (v : Value) (l : List RSet) : Prop where
 out : ∃ css, Own B 4 119 w v css ∧ SetsW B w css l
theorem SetsV.toO {B C : Nat} {w : World} {v : Value} {l : List RSet} (h : SetsV B w v l) (hc : C ≤ B) : SetsO C w v l := by
 obtain ⟨css, h1, h2⟩ := h
 exact ⟨css, h1.sl, h1.from' hc, h2.sets, h2.from' hc⟩
theorem SetsV.ext {B : Nat} {w w' : World} {v : Value} {l : List RSet} (h : SetsV B w v l) (hx : Ext w w') : SetsV B w' v l := by
 obtain ⟨css, h1, h2⟩ := h
 exact ⟨css, h1.ext hx, h2.ext hx⟩
theorem SetsV.weaken {B C : Nat} {w : World} {v : Value} {l : List RSet} (h : SetsV B w v l) (hc : C ≤ B) : SetsV C w v l := by
 obtain ⟨css, h1, h2⟩ := h
 exact ⟨css, h1.weaken hc, h2.weaken hc⟩
theorem SetsV.put {B b t : Nat} {w w' : World} {v : Value} {l : List RSet} {cs : Array Value} {fz : Nat × Nat} {o : Obj} (h : SetsV B w v l) (hb : w.heap[b]? = some (.cells cs t fz)) (ht : t ≠ 9) (ht2 : t ≠ 119) (hp : Put w w' b o) : SetsV B w' v l := by
 obtain ⟨css, h1, h2⟩ := h
 exact ⟨css, h1.mv hp.mv (.inr (h1.neBlock hb ht2)), h2.put hb ht hp⟩
theorem SetsV.slf {B : Nat} {w : World} {v : Value} {l : List RSet} (h : SetsV B w v l) : ∃ a n c, v = .slice a n c := by
 obtain ⟨css, h1, h2⟩ := h
 exact h1.sl.slf
set_option maxHeartbeats 6000000 in
theorem JP (v : Value) (l : List RSet) (w : World) (hv : SetsAt w v l) (hl : l.length ≤ 100000) (hb : ∀ s ∈ l, s.data.length ≤ 1000000) : Calls Tryz.prog 56 #[v] w (jE w fun r w' => SetsV w.heap.size w' r l) := by
 obtain ⟨cv, hv1, hvl⟩ := hv.sl
 have hle := hv1.le
 go_enter Tryz.func56, Tryz.ntmps56
 refine_lift kL ?_; intro _ _ _
 go_loopw [3, 4] (fun o i wr => ∃ (k : Nat) (css : List (List Value)), k ≤ l.length ∧ i = .int .i64 k ∧ Ext w wr ∧ Own w.heap.size 4 119 wr o css ∧ SetsW w.heap.size wr css (l.take k)) (fun _ i _ => l.length - (intOf i).toNat)
 case atStart => exact ⟨0, [], Nat.zero_le _, rfl, Ext.refl _, Own.nil _ _ _ _, SetsW.nil _ _⟩
 case round =>
  obtain ⟨k, css, hk, rfl, hx, ho, hs⟩ := hrel
  have hv2 := hv1.ext hx
  have hsl := hs.len
  rw [List.length_take] at hsl
  by_cases hlt : k < l.length
  ·obtain ⟨x, h4, h4d⟩ := (hv.ext hx).elem (List.getElem?_eq_getElem hlt)
   refine_lift gV ?_; intro _ _ _ _
   refine aK (enters_of Tryz.func105 rfl rfl) rfl rfl (HU l[k] x _ h4d (hb _ (List.getElem_mem hlt))) ?_
   intro r2 w2 x2 hr2
   obtain ⟨y, rfl, oy⟩ := hr2
   have hx2 := hx.trans x2
   have ho2 := ho.ext x2
   have hs2 := hs.ext x2
   have oy := oy.weaken hx.size
   refine aA ?_
   refine_lift aS ?_
   refine FS [aI l[k].name, .int .i64 l[k].kind, .int .i64 l[k].ttl, y] hx2 ho2 (by omega) ?_ (by exact ⟨rfl, rfl, rfl, by intro u hu; simp only [List.mem_cons, List.not_mem_nil, or_false] at hu; rcases hu with rfl | rfl | rfl | rfl <;> first | rfl | exact oy.one⟩)
   intro s3 v3 w3 w4 x3 m4 x4 o4
   refine aA ?_
   have oy4 := (oy.ext x3).mv m4 ((oy.ext x3).ne (ho2.ext x3) (by decide))
   have hs4 := (hs2.ext x3).mv (ho2.ext x3) (by decide) m4
   refine_lift aS ?_
   refine ⟨⟨k + 1, _, by omega, by go_num, x4, o4, ?_⟩, by simp [intOf]; omega⟩
   rw [List.take_add_one, List.getElem?_eq_getElem hlt]
   exact hs4.append (SetsW.one oy4)
  ·have : k = l.length := by omega
   subst this
   rw [List.take_length] at hs
   refine_lift fP fun _ => ?_
   go_ret
   exact ⟨_, rfl, hx, css, ho, hs⟩
set_option maxHeartbeats 6000000 in
theorem uN (o : List UInt8) (v : Value) (l : List RSet) (w : World) (hv : SetsAt w v l) (hl : l.length ≤ 100000) (hb : ∀ s ∈ l, s.data.length ≤ 1000000) : Calls Tryz.prog 20 #[.agg #[aI o, v]] w (jE w fun r w' => ∃ y, r = .agg #[aI o, y] ∧ SetsV w.heap.size w' y l) := by
 go_enter Tryz.func20, Tryz.ntmps20
 refine_lift uL ?_; intro _ _ _
 refine aZ (vs := [aI o, v]) rfl rfl ?_
 intro p w1 x1 hp
 refine aA ?_
 refine aG (z := aM) rfl (by decide +kernel) ?_
 intro w2 x2 s2 h2
 refine aA ?_
 have hp2 := hp.ext x2
 have hx2 := x1.trans x2
 have hv2 := hv.ext hx2
 have z1 := x1.size
 refine_lift bY fun _ _ => ?_
 refine cC (S := fun w' => Ext w1 w') (by decide +kernel) ?_
 intro w3 x3 hh3
 have hp3 := hp2.ext x3
 have hS3 : Ext w1 w3 := x2.trans x3
 refine tk 0 ?_ (hS := hS3) (hy := by intro w9 hS9; exact Runs.fieldTn (hp.ext hS9) (by decide +kernel)); refine aA ?_
 refine tk 1 ?_ (hS := hS3) (hy := by intro w9 hS9; have := hp.ext hS9; exact rn); refine aA ?_
 refine tk 2 ?_ (hS := hS3) (hy := by intro w9 hS9; have := hp.ext hS9; exact rn); refine aA ?_
 refine tk 3 ?_ (hS := hS3) (hy := by intro w9 hS9; have := hp.ext hS9; exact rn); refine aA ?_
 refine aT (i := 4) (by decide +kernel) rfl rfl ?_
 refine aK (enters_of Tryz.func56 rfl rfl) rfl rfl (JP v l _ (hv2.ext x3) hl hb) ?_
 intro y w4 x4 hy
 refine aA ?_
 have hS4 := hS3.trans x4
 refine aJ ⟨hS4, ?_⟩
 obtain ⟨ya, yn, yc, hys⟩ := hy.slf
 have hy1 : y.oneCell' = true := by rw [hys]; rfl
 refine bP (i := 5) (v := .agg #[aI o, y]) rfl rfl (by decide +kernel) (by decide +kernel) (by decide +kernel) rfl hS4 (fun w' _ => Runs.build (vals := [(0, aI o), (1, y)]) rfl (by rw [hys]; kernel_rfl)) (fun _ _ _ h => h) ?_
 refine aA ?_
 refine aT (i := 6) (by decide +kernel) rfl rfl ?_
 have h4 := (x3.trans x4).at h2
 refine aC (v := .agg #[aI o, y]) rfl rfl rfl h4 (show aO Tryz.prog 25 2 = true by decide +kernel) rfl (bE hy1) ?_
 intro w5 p5
 have hS5 : Ext w1 w5 := hS4.move p5.mv (by rintro k ⟨⟩; exact Nat.le_refl _)
 have hy5 := hy.put h4 (by decide) (by decide) p5
 refine aJ ⟨hS5, ?_⟩
 refine cB (by decide +kernel) ?_
 refine_lift aS ?_
 refine bodyPost_ret (fL (cs := [aI o, y]) rfl rfl p5.this (show dY Tryz.prog 25 2 = true by decide +kernel)) rfl ⟨_, rfl, x1.trans hS5, y, rfl, hy5.weaken (Nat.le_trans z1 hS3.size)⟩
set_option maxHeartbeats 6000000 in
theorem EL (v : Value) (css : List (List Value)) (w : World) (hv : Sl 4 w v css) (h1 : ∀ f ∈ css, ∀ u ∈ f, u.oneCell' = true) (hl : css.length ≤ 1000000) : Calls Tryz.prog 87 #[v] w (jE w fun v' w' => Own w.heap.size 4 119 w' v' css) := by
 go_enter Tryz.func87, Tryz.ntmps87
 (repeat' first | ((with_reducible refine cY ?_); go_step) | ((with_reducible refine bR ?_); first | refine fM ?_ | (refine dN ?_ ?_ <;> intro hc)) | fail)
 ·have hn := ‹uS v = true›
  go_ret
  have : css = [] := hv.isNil hn
  refine ⟨_, rfl, Ext.refl _, ?_⟩
  rw [this]
  exact Own.nil _ _ _ _
 ·refine jX (t := 23) (e := 119) (k := 4) (bytes := 56) (by decide +kernel) rfl ?_
  intro v2 w2 x2 s2 o2
  refine aA ?_
  refine_lift aS ?_
  refine cP (B := w.heap.size) (e := 119) rfl o2 rfl (hv.ext x2) h1 x2.size (by simp; omega) ?_
  intro v3 w3 o3 m3 _
  have x3 := o2.mvx m3 x2 (Nat.le_refl _)
  refine aA ?_
  refine_lift aS ?_
  go_ret
  exact ⟨_, rfl, x3, by simpa using o3⟩
def pV (s : SoaR) (n : Int) : SoaR := { s with serial := n }
def yV (o : List UInt8) (l : List RSet) (n : Int) : Int := if aX o l = 0 then (if (pV (aP o l) n).ok = true then 0 else 1) else aX o l
def OK (o : List UInt8) (l : List RSet) (n : Int) : List UInt8 := (pV (aP o l) n).data
def mH (d : List UInt8) (s : RSet) : RSet := if s.kind = 6 then ⟨s.name, s.kind, s.ttl, [d]⟩ else s
def OL (o : List UInt8) (l : List RSet) (n : Int) : List RSet := if yV o l n = 0 then l.map (mH (OK o l n)) else []
def OM (o : List UInt8) (l : List RSet) (n : Int) : List UInt8 := if yV o l n = 0 then o else []
def RenU (B : Nat) (o : List UInt8) (l : List RSet) (n : Int) (r : Value) (w' : World) : Prop :=
 ∃ v, r = .tuple #[.agg #[aI (OM o l n), v], .int .i64 (yV o l n)] ∧ SetsO B w' v (OL o l n)
theorem RenU.bad {B : Nat} {o : List UInt8} {l : List RSet} {n e : Int} {w' : World} (h : yV o l n = e) (he : e ≠ 0) : RenU B o l n (.tuple #[.agg aM.toArray, .int .i64 e]) w' := by
 refine ⟨.slice none 0 0, ?_, ?_⟩
 ·rw [h, OM, if_neg (by rw [h]; exact he)]; rfl
 ·rw [OL, if_neg (by rw [h]; exact he)]; exact SetsO.nil _ _
theorem RenU.good {B : Nat} {o : List UInt8} {l : List RSet} {n : Int} {v : Value} {w' : World} (h : yV o l n = 0) (hv : SetsO B w' v (l.map (mH (OK o l n)))) : RenU B o l n (.tuple #[.agg #[aI o, v], .int .i64 0]) w' := by
 refine ⟨v, ?_, ?_⟩
 ·rw [OM, if_pos h, h]
 ·rw [OL, if_pos h]; exact hv
theorem LX {o : List UInt8} {l : List RSet} : (aP o l).main.length ≤ 4611686018427387904 ∧ (aP o l).mail.length ≤ 4611686018427387904 := by
 unfold aP
 split
 ·rename_i q
  obtain ⟨s, _, _, _, _, _, _, h⟩ := (gF q).soaSet
  obtain ⟨h1, h2⟩ := mB (iH o l)
  obtain ⟨h3, h4⟩ := mB (bU (iH o l)).2.1
  exact ⟨by show (bU (iH o l)).1.length ≤ _; omega, by show (bU (bU (iH o l)).2.1).1.length ≤ _; omega⟩
 ·exact ⟨by simp [zR], by simp [zR]⟩
theorem ZoneOk.one6 {o : List UInt8} {l : List RSet} (h : ZoneOk o l) {s : RSet} (hs : s ∈ l) (h6 : s.kind = 6) : s.name = o ∧ s.data.length = 1 := by
 have hr := h.right s hs
 simp only [dK, Bool.and_eq_true, Bool.not_eq_true', h6] at hr
 have := hr.1.1.2
 simp only [decide_true, Bool.true_and, Bool.or_eq_false_iff, decide_eq_false_iff_not, ne_eq, Decidable.not_not] at this
 exact this
theorem BZ {d : List UInt8} {s : RSet} (h : ¬ s.kind = 6) : mH d s = s := by rw [mH, if_neg h]
theorem wS {d : List UInt8} {s : RSet} (h : s.kind = 6) : mH d s = ⟨s.name, s.kind, s.ttl, [d]⟩ := by rw [mH, if_pos h]
theorem SetsW.set {B : Nat} {w : World} {css : List (List Value)} {l : List RSet} (h : SetsW B w css l) {i : Nat} {s : RSet} {x : Value} (hx : Own B 1 9 w x (aN s.data)) : SetsW B w (css.set i [aI s.name, .int .i64 s.kind, .int .i64 s.ttl, x]) (l.set i s) := by
 refine ⟨by rw [List.length_set, List.length_set, h.len], fun j t hj => ?_⟩
 by_cases e : i = j
 ·subst e
  have hlt : i < l.length := by have := (List.getElem?_eq_some_iff.1 hj).1; simpa using this
  rw [List.getElem?_set_self hlt] at hj
  cases hj
  exact ⟨x, List.getElem?_set_self (by rw [h.len]; exact hlt), hx⟩
 ·rw [List.getElem?_set_ne e] at hj
  rw [List.getElem?_set_ne e]
  exact h.at' j t hj
structure SetsM (B : Nat) (w0 w : World) (css0 css : List (List Value)) (l : List RSet) (d : List UInt8) (k : Nat) : Prop where
 len : css.length = l.length
 new : ∀ (i : Nat) (s : RSet), l[i]? = some s → i < k → ∃ x, css[i]? = some [aI s.name, .int .i64 s.kind, .int .i64 s.ttl, x] ∧ Own B 1 9 w x (aN (mH d s).data)
 old : ∀ i, k ≤ i → css[i]? = css0[i]?
theorem SetsM.ext {B : Nat} {w0 w w' : World} {css0 css : List (List Value)} {l : List RSet} {d : List UInt8} {k : Nat} (h : SetsM B w0 w css0 css l d k) (hx : Ext w w') : SetsM B w0 w' css0 css l d k :=
 ⟨h.len, fun i s hi hk => let ⟨x, a, b⟩ := h.new i s hi hk; ⟨x, a, b.ext hx⟩, h.old⟩
theorem SetsM.mv {B : Nat} {w0 w w' : World} {css0 css : List (List Value)} {l : List RSet} {d : List UInt8} {k : Nat} {row : Option Nat} (h : SetsM B w0 w css0 css l d k) (hm : Mv row w w') (hne : ∀ x es, Own B 1 9 w x es → x.ownBlock = none ∨ x.ownBlock ≠ row) : SetsM B w0 w' css0 css l d k :=
 ⟨h.len, fun i s hi hk => let ⟨x, a, b⟩ := h.new i s hi hk; ⟨x, a, b.mv hm (hne x _ b)⟩, h.old⟩
theorem SetsM.step {B : Nat} {w0 w : World} {css0 css : List (List Value)} {l : List RSet} {d : List UInt8} {k : Nat} (h : SetsM B w0 w css0 css l d k) (hk : k < l.length) {y : Value} (hy : Own B 1 9 w y (aN (mH d l[k]).data)) :
 SetsM B w0 w css0 (css.set k [aI l[k].name, .int .i64 l[k].kind, .int .i64 l[k].ttl, y]) l d (k + 1) := by
 refine ⟨by rw [List.length_set, h.len], fun i s hi hik => ?_, fun i hi => ?_⟩
 ·by_cases e : k = i
  ·subst e
   rw [List.getElem?_eq_getElem hk] at hi
   cases hi
   exact ⟨y, List.getElem?_set_self (by rw [h.len]; exact hk), hy⟩
  ·obtain ⟨x, a, b⟩ := h.new i s hi (by omega)
   exact ⟨x, by rw [List.getElem?_set_ne e]; exact a, b⟩
 ·rw [List.getElem?_set_ne (by omega)]; exact h.old i (by omega)
theorem JQ {d : List UInt8} {s : RSet} : (mH d s).name = s.name ∧ (mH d s).kind = s.kind ∧ (mH d s).ttl = s.ttl := by
 unfold mH; split <;> exact ⟨rfl, rfl, rfl⟩
theorem SetsM.done {B : Nat} {w0 w : World} {css0 css : List (List Value)} {l : List RSet} {d : List UInt8} (h : SetsM B w0 w css0 css l d l.length) : SetsW B w css (l.map (mH d)) := by
 refine ⟨by rw [List.length_map, h.len], fun i s hi => ?_⟩
 rw [List.getElem?_map] at hi
 cases hq : l[i]? with
 | none => rw [hq] at hi; cases hi
 | some t =>
  rw [hq] at hi
  cases hi
  obtain ⟨x, a, b⟩ := h.new i t hq (List.getElem?_eq_some_iff.1 hq).1
  obtain ⟨e1, e2, e3⟩ := JQ (d := d) (s := t)
  exact ⟨x, by rw [e1, e2, e3]; exact a, b⟩
set_option maxHeartbeats 6000000 in
theorem ON (o : List UInt8) (v : Value) (l : List RSet) (n : Int) (w : World) (hv : SetsAt w v l) (hl : l.length ≤ 100000) (hb : ∀ s ∈ l, s.data.length ≤ 1000000) (hd : ∀ s ∈ l, ∀ d ∈ s.data, d.length ≤ 4611686018427387904) : Calls Tryz.prog 38 #[.agg #[aI o, v], .int .i64 n] w (jE w (RenU w.heap.size o l n)) := by
 obtain ⟨hm1, hm2⟩ := LX (o := o) (l := l)
 have hsoa : ∀ w', Calls Tryz.prog 86 #[.agg (pV (aP o l) n).cells.toArray] w' (bG w' (if (pV (aP o l) n).ok = true then .tuple #[aI (pV (aP o l) n).data, .int .i64 0] else .tuple #[aI [], .int .i64 1])) := fun w' => VU (pV (aP o l) n) w' hm1 hm2
 clear hm1 hm2
 go_enter Tryz.func38, Tryz.ntmps38
 refine_lift hY fun _ _ => ?_
 refine eD (vs := [aI o, v]) rfl rfl ?_
 intro w1 x1 s1 hz1
 refine aA ?_
 refine aG (z := aM) rfl (by decide +kernel) ?_
 intro w2 x2 s2 h2
 refine aA ?_
 have hz2 := x2.at hz1
 have hx2 := x1.trans x2
 have hv2 := hv.ext hx2
 have z1 := x1.size
 have hp2 := aE hz2
 refine_lift bY fun _ _ => ?_
 refine aB (enters_of Tryz.func31 rfl rfl) rfl rfl (pU o v l _ hv2 hb hd) ?_; intro w3 x3; refine aA ?_
 have hx3 := hx2.trans x3
 have hz3 := x3.at hz2
 have h3 := x3.at h2
 have hp3 := hp2.ext x3
 refine_lift aS ?_
 refine aG (z := aV) rfl (by decide +kernel) ?_
 intro w4 x4 s4 h4
 refine aA ?_
 refine aC (v := .agg (aP o l).cells.toArray) rfl rfl rfl h4 (show aO Tryz.prog 67 7 = true by decide +kernel) rfl (dI _) ?_
 intro w5 p5
 have x5 : Ext w3 w5 := x4.move p5.mv (by rintro k ⟨⟩; exact Nat.le_refl _)
 have hb5 : w5.heap[w3.heap.size]? = some (.cells (aP o l).cells.toArray 67 (0, 0)) := p5.this
 have hx5 := hx3.trans x5
 have hp5 := hp3.ext x5
 have h5 := x5.at h3
 have hz5 := x5.at hz3
 have z3 := x3.size
 have z2 := x2.size
 clear p5 h4 x4
 refine_lift rG (fun _ _ _ => ?_) (fun _ _ _ _ _ => ?_)
 ·have q : ¬ aX o l = 0 := by simpa using (by assumption : (!decide (aX o l = 0)) = true)
  refine aQ (v := .agg aM.toArray) rfl (Runs.build0 (by kernel_rfl)) ?_
  refine aA ?_
  refine_lift aS ?_
  refine aC (v := .agg aM.toArray) rfl rfl rfl h5 (by decide +kernel) rfl (by decide +kernel) ?_
  intro w6 p6
  have x6 : Ext w w6 := hx5.move p6.mv (by rintro k ⟨⟩; exact z1)
  refine_lift aS ?_
  refine bodyPost_ret (aH (cs := aM) rfl rfl p6.this (by decide +kernel)) rfl ⟨_, rfl, x6, ?_⟩
  exact RenU.bad (by rw [yV, if_neg q]) q
 ·have q : aX o l = 0 := by simpa using (by assumption : (!decide (aX o l = 0)) = false)
  have hone : ∀ s ∈ l, s.kind = 6 → s.data.length = 1 := fun s hs h6 => ((gF q).one6 hs h6).2
  have hp5s := aE hb5
  refine_lift aS ?_
  refine dP (n := 2) hb5 rfl rfl rfl (by simp [SoaR.cells]) (by decide +kernel) rfl ?_
  intro w6 p6
  have x6 : Ext w3 w6 := x5.move p6.mv (by rintro k ⟨⟩; exact Nat.le_refl _)
  have hb6 : w6.heap[w3.heap.size]? = some (.cells (pV (aP o l) n).cells.toArray 67 (0, 0)) := p6.this
  have hx6 := hx3.trans x6
  have h6 := x6.at h3
  have hz6 := x6.at hz3
  clear p6 hb5 hp5s x5 hp5 h5 hz5
  have hren : yV o l n = if (pV (aP o l) n).ok = true then 0 else 1 := by rw [yV, if_pos q]
  have hrd : OK o l n = (pV (aP o l) n).data := rfl
  generalize pV (aP o l) n = sn at *
  have hp6s := aE (cs := [aI sn.main, aI sn.mail, .int .i64 sn.serial, .int .i64 sn.refresh, .int .i64 sn.retry, .int .i64 sn.expire, .int .i64 sn.minimum]) hb6
  refine_lift bY fun _ _ => ?_
  refine aB (enters_of Tryz.func86 rfl rfl) rfl rfl (hsoa _) ?_; intro w7 x7; refine aA ?_
  have hx7 := hx6.trans x7
  have hz7 := x7.at hz6
  have h7 := x7.at h6
  cases hok : sn.ok with
  | false =>
   rw [hok] at hren
   refine_lift QL fun _ _ _ _ _ => ?_
   refine aQ (v := .agg aM.toArray) rfl (Runs.build0 (by kernel_rfl)) ?_
   refine aA ?_
   refine_lift aS ?_
   refine aC (v := .agg aM.toArray) rfl rfl rfl h7 (by decide +kernel) rfl (by decide +kernel) ?_
   intro w8 p8
   have x8 : Ext w w8 := hx7.move p8.mv (by rintro k ⟨⟩; exact z1)
   refine_lift aS ?_
   refine bodyPost_ret (aH (cs := aM) rfl rfl p8.this (by decide +kernel)) rfl ⟨_, rfl, x8, ?_⟩
   exact RenU.bad (by rw [hren]; rfl) (by decide)
  | true =>
   rw [hok] at hren
   have hren : yV o l n = 0 := hren
   rw [← hrd]
   generalize hgd : OK o l n = d at *
   clear hsoa hp6s hb6 hrd
   obtain ⟨css0, hv0, hvs⟩ := hv.rows
   have hp7 := aE hz7
   have hvs7 := hvs.ext hx7
   refine_lift bY fun _ _ => ?_
   refine aK (enters_of Tryz.func87 rfl rfl) rfl rfl (EL v css0 _ (hv0.ext hx7) hvs7.cell (by rw [hvs.len]; omega)) ?_
   intro y w8 x8 ho8
   have hx8 := hx7.trans x8
   have h8 := x8.at h7
   have hz8 := x8.at hz7
   have hp8 := aE hz8
   refine aA ?_
   refine_lift aS ?_
   refine dP (n := 1) hz8 rfl rfl rfl (by simp) (by decide +kernel) ho8.one ?_
   intro w9 p9
   have hx9 : Ext w w9 := hx8.move p9.mv (by rintro k ⟨⟩; exact Nat.le_refl _)
   have hz9 : w9.heap[w.heap.size]? = some (.cells [aI o, y].toArray 25 (0, 0)) := p9.this
   have h9 := p9.at h8 (by omega)
   have ho9 := ho8.mv p9.mv (.inr (ho8.neBlock hz8 (by decide)))
   have hzB : w1.heap.size < w7.heap.size := by have a1 := x2.size; have a2 := x3.size; have a3 := x6.size; have a4 := x7.size; have a5 := s2; omega
   have hzW := hx7.size
   have hB9 : w7.heap.size ≤ w9.heap.size := by have a1 := x8.size; have a2 := p9.size; omega
   have hne : w.heap.size ≠ w1.heap.size := by omega
   have hsl9 := ho9.sl
   have hlen0 := hvs.len
   have hpz9 := aE hz9
   clear p9 hz8 hp8 h8 ho8 hz7 hp7 h7 hz6 h6 hz3 h3 hp3 hp2 hz2 hz1 h2
   refine_lift bY fun _ _ => ?_
   generalize hrb : w1.heap.size = rb at *
   generalize w7.heap.size = B at *
   clear hpz9 hsl9 hvs7
   go_loopw [9, 10, 38] (fun _ _ i wr => ∃ (k : Nat) (css : List (List Value)), k ≤ l.length ∧ i = .int .i64 k ∧ Ext w wr ∧ B ≤ wr.heap.size ∧ wr.heap[w.heap.size]? = some (.cells [aI o, y].toArray 25 (0, 0)) ∧ wr.heap[rb]? = some (.cells aM.toArray 25 (0, 0)) ∧ Own B 4 119 wr y css ∧ SetsM B w wr css0 css l d k) (fun _ _ i _ => l.length - (intOf i).toNat)
   case atStart => exact ⟨0, css0, Nat.zero_le _, rfl, hx9, hB9, hz9, h9, ho9, ⟨hlen0, by omega, fun i _ => rfl⟩⟩
   case round =>
    obtain ⟨k, css, hk, rfl, hx, hBr, hbz, hbr, ho, hs⟩ := hrel
    have hpz := aE hbz
    have hsl := ho.sl
    have hlen := hs.len
    by_cases hlt : k < l.length
    ·obtain ⟨x, hc0, hxd0⟩ := hvs.at' k _ (List.getElem?_eq_getElem hlt)
     have hc : css[k]? = some [aI l[k].name, .int .i64 l[k].kind, .int .i64 l[k].ttl, x] := by rw [hs.old k (Nat.le_refl _)]; exact hc0
     have hxd := hxd0.ext hx
     have hpe := hsl.elem hc
     have hbk := hb _ (List.getElem_mem hlt)
     refine_lift oM ?_; intro _ _ _ _ _ _
     refine aG (z := gR) rfl (by decide +kernel) ?_
     intro w10 x10 s10 h10
     refine aA ?_
     refine_lift aS ?_
     refine aC (v := .agg #[aI l[k].name, .int .i64 l[k].kind, .int .i64 l[k].ttl, x]) rfl rfl rfl h10 (show aO Tryz.prog 119 4 = true by decide +kernel) rfl (iM rfl rfl rfl hxd.one) ?_
     intro w11 p11
     have x11 : Ext wr w11 := x10.move p11.mv (by rintro k ⟨⟩; exact Nat.le_refl _)
     have hbs : w11.heap[wr.heap.size]? = some (.cells [aI l[k].name, .int .i64 l[k].kind, .int .i64 l[k].ttl, x].toArray 119 (0, 0)) := p11.this
     have hx11 := hx.trans x11
     have hbz11 := x11.at hbz
     have hbr11 := x11.at hbr
     have ho11 := ho.ext x11
     have hs11 := hs.ext x11
     have hps := aE hbs
     have hpz11 := aE hbz11
     have hsl11 := ho11.sl
     have hpe11 := hsl11.elem hc
     have hxd11 := hxd.ext x11
     have hB11 : B ≤ w11.heap.size := Nat.le_trans hBr x11.size
     have hnes : y.ownBlock ≠ some wr.heap.size := fun e => by have := (ho.block _ e).2; omega
     clear p11 h10 x10 hpe hpz hsl
     refine_lift bY fun _ _ => ?_
     refine cG 8 (Ext w11) (by decide +kernel) ?_
     intro w12 x12 _
     refine ⟨x12, ?_⟩
     refine eL 0 ?_; refine eL 1 ?_; refine eL 2 ?_; refine eL 3 ?_; refine eL 4 ?_
     refine bV (i := 5) (by decide +kernel) rfl rfl ?_
     refine aK (enters_of Tryz.func88 rfl rfl) rfl rfl (UN x l[k].data _ (hxd11.ext x12) (by omega)) ?_
     intro u w13 x13 ou
     refine aA ?_
     have x1113 := x12.trans x13
     refine aJ ⟨dF x1113, ?_⟩
     refine eL 6 ?_; refine eL 7 ?_
     refine bV (i := 8) (by decide +kernel) rfl rfl ?_
     have ho13 := ho11.ext x1113
     refine kR (i := k) (j := 3) rfl rfl rfl ho13 hc (by decide) (by decide +kernel) ou.one ?_
     intro w14 o14 m14
     refine aJ ⟨cJ rfl, ?_⟩
     refine cZ (by decide +kernel) ?_
     have hx13 := hx11.trans x1113
     have x14 : Ext w w14 := ho13.mvx m14 hx13 hzW
     have hbz14 := m14.at (x1113.at hbz11) (fun e => ho13.neBlock (x1113.at hbz11) (by decide) e.symm)
     have hbr14 := m14.at (x1113.at hbr11) (fun e => ho13.neBlock (x1113.at hbr11) (by decide) e.symm)
     have hbs14 := m14.at (x1113.at hbs) (fun e => hnes e.symm)
     have ou14 := ou.mv m14 (ou.ne ho13 (by decide))
     have hs14 := (hs11.ext x1113).mv m14 (fun x es hx => hx.ne ho13 (by decide))
     have hB14 : B ≤ w14.heap.size := by have a1 := x1113.size; have a2 := m14.size; omega
     have h12B : w11.heap.size ≤ w12.heap.size := x12.size
     clear hps hpz11 hsl11 hpe11 m14 hbs hbz11 hbr11 hs11 ho13 ho11 hxd11
     have hps := aE hbs14
     have hpz := aE hbz14
     have hsl := o14.sl
     refine_lift rF (fun _ => ?_) (fun _ => ?_)
     ·have h6 : l[k].kind = 6 := by assumption
      have hl1 := hone _ (List.getElem_mem hlt) h6
      have hu1 : (aN l[k].data).length = 1 := by rw [aR]; exact hl1
      have hck : (css.set k ([aI l[k].name, .int .i64 l[k].kind, .int .i64 l[k].ttl, x].set 3 u))[k]? = some [aI l[k].name, .int .i64 l[k].kind, .int .i64 l[k].ttl, u] := List.getElem?_set_self (by omega)
      have hlk : k < (css.set k ([aI l[k].name, .int .i64 l[k].kind, .int .i64 l[k].ttl, x].set 3 u)).length := by rw [List.length_set]; omega
      have hpe := hsl.elem hck
      have hus := ou14.sl
      refine_lift aS ?_
      refine gU (c := aI d) (i := 0) rfl rfl rfl ou14 (by omega) (by decide +kernel) rfl ?_
      intro w15 o15 m15
      have hB12 : B ≤ w12.heap.size := by omega
      have hlow : ∀ r, u.ownBlock = some r → w12.heap.size ≤ r := fun r e => (ou14.block r e).1
      have x15 : Ext w w15 := ou14.mvx m15 x14 (Nat.le_trans hzW hB12)
      have hbz15 := m15.at hbz14 (fun e => ou14.neBlock hbz14 (by decide) e.symm)
      have hbr15 := m15.at hbr14 (fun e => ou14.neBlock hbr14 (by decide) e.symm)
      have oy15 := o14.mv m15 (o14.ne ou14 (by decide))
      have hs15 : SetsM B w w15 css0 css l d k := by
       refine ⟨hs14.len, fun i s hi hik => ?_, hs14.old⟩
       obtain ⟨z, a, b⟩ := hs.new i s hi hik
       obtain ⟨z', a', b'⟩ := hs14.new i s hi hik
       rw [a] at a'
       obtain rfl : z = z' := by simpa using a'
       refine ⟨z, a, b'.mv m15 ?_⟩
       cases hzb : z.ownBlock with
       | none => exact .inl rfl
       | some r =>
        refine .inr (fun e => ?_)
        have e1 := hlow r e.symm
        have e2 := (b.block r hzb).2
        have e3 := x11.size
        omega
      have ou15 : Own B 1 9 w15 u (aN (mH d l[k]).data) := by
       rw [wS h6]
       have e : (aN l[k].data).set 0 [aI d] = aN [d] := by
        match hq : l[k].data, hl1 with
        | [z], _ => rfl
       rw [e] at o15
       exact o15.weaken hB12
      clear hps hpz hsl hpe hus
      refine_lift aS ?_
      exact ⟨⟨k + 1, _, by omega, by go_num, x15, by have := m15.size; omega, hbz15, hbr15, oy15, hs15.step hlt ou15⟩, by simp [intOf]; omega⟩
     ·have h6 : ¬ l[k].kind = 6 := by assumption
      have ouk : Own B 1 9 w14 u (aN (mH d l[k]).data) := by
       rw [BZ h6]
       exact ou14.weaken (by omega)
      exact ⟨⟨k + 1, _, by omega, by go_num, x14, hB14, hbz14, hbr14, o14, hs14.step hlt ouk⟩, by simp [intOf]; omega⟩
    ·have : k = l.length := by omega
     subst this
     refine_lift kL fun _ _ _ => ?_
     refine aC (v := .agg #[aI o, y]) rfl rfl rfl hbr (show aO Tryz.prog 25 2 = true by decide +kernel) rfl (bE ho.one) ?_
     intro w11 p11
     have x11 : Ext w w11 := hx.move p11.mv (by rintro k ⟨⟩; omega)
     have hfin : SetsO w.heap.size w11 y (l.map (mH d)) := by
      have : SetsV B wr y (l.map (mH d)) := ⟨css, ho, hs.done⟩
      exact (this.put hbr (by decide) (by decide) p11).toO hzW
     refine_lift aS ?_
     refine bodyPost_ret (aH (cs := [aI o, y]) rfl rfl p11.this (show dY Tryz.prog 25 2 = true by decide +kernel)) rfl ⟨_, rfl, x11, ?_⟩
     exact RenU.good hren (by rw [hgd]; exact hfin)
theorem LY {d : List UInt8} {s : SoaR} (h : cD d = some s) : s.ok = true := by
 unfold cD at h
 simp only at h
 split at h
 ·rename_i hh; cases h; exact hh.2.2.2
 ·cases h
theorem ZoneOk.only {o : List UInt8} {l : List RSet} (h : ZoneOk o l) {s : RSet} (hs : s ∈ l) (h6 : s.kind = 6) : s.data = [iH o l] := by
 obtain ⟨t, ht, _, _, _, hd, _⟩ := h.soaSet
 obtain ⟨i, hi, rfl⟩ := List.mem_iff_getElem.1 hs
 have hf := AG h.chk hi
 rw [h6, (h.one6 hs h6).1, ht] at hf
 rw [← Option.some.inj hf]
 exact hd
theorem ZoneOk.back {o d : List UInt8} {l : List RSet} (h : ZoneOk o l) : (l.map (mH d)).map (mH (iH o l)) = l := by
 rw [List.map_map]
 conv => rhs; rw [← List.map_id l]
 apply List.map_congr_left
 intro s hs
 simp only [Function.comp, id]
 by_cases h6 : s.kind = 6
 ·rw [wS (d := d) h6, wS (by exact h6)]
  have := h.only hs h6
  cases s
  simp only at this
  rw [this]
 ·rw [BZ (d := d) h6, BZ h6]
theorem LZ {a b : RSet} (h : dQ a.name b.name a.kind b.kind < 0) : dS a b = true := by
 unfold dQ FW at h
 unfold dS
 simp only [Bool.or_eq_true, Bool.and_eq_true, decide_eq_true_eq]
 split at h
 ·exact .inl h
 ·rename_i h0
  refine .inr ⟨by omega, ?_⟩
  split at h
  ·assumption
  ·split at h <;> omega
theorem GN {a b : RSet} (hn : a.name = b.name) (hk : a.kind = b.kind) : dS a b = false := by
 unfold dS
 rw [hn, hk]
 have h := DH.refl b.name
 simp [h]
theorem AR {a b c : RSet} (hn : b.name = c.name) (hk : b.kind = c.kind) : dS a b = dS a c := by
 unfold dS; rw [hn, hk]
theorem MA {s : RSet} (h : fC s = true) {i : Nat} (hi : i + 1 < s.data.length) : s.data[i] < s.data[i + 1] := by
 simp only [fC, Bool.and_eq_true, List.all_eq_true] at h
 have := h.2 (i + 1) (by simpa using hi)
 simp only [jZ, Bool.not_eq_true', Bool.or_eq_false_iff, Bool.and_eq_false_iff, decide_eq_false_iff_not] at this
 have h2 := this.2.resolve_left (by omega)
 have e1 : s.data.getD (i + 1 - 1) [] = s.data[i] := by simp [show i < s.data.length by omega]
 have e2 : s.data.getD (i + 1) [] = s.data[i + 1] := by simp [hi]
 rw [e1, e2] at h2
 exact zN.1 (by simpa using h2)
theorem qT {s : RSet} (h : fC s = true) (i : Nat) : ∀ j (hij : i < j) (hj : j < s.data.length), s.data[i] < s.data[j]
 | 0, hij, _ => by omega
 | j + 1, hij, hj => by
   have h1 := MA h hj
   by_cases e : i = j
   ·subst e; exact h1
   ·exact Std.lt_trans (qT h i j (by omega) (by omega)) h1
theorem JR {x : List UInt8} {l : List (List UInt8)} (h : ∀ y ∈ l, y < x) : eB x l = l ++ [x] := by
 have := qR (s := x) (l := l) (k := l.length) (by rw [List.take_length]; exact fun y hy => zN.2 (h y hy))
 rw [this, List.take_length, List.drop_length]
 rfl
theorem EM {r : Rec} {gs : List RSet} (h : ∀ g ∈ gs, dS g (bN r) = true) (t : List RSet) : fD r (gs ++ t) = gs ++ fD r t := by
 have := sZ (r := r) (l := gs ++ t) (k := gs.length) (by rw [List.take_left']; exact h; rfl)
 rw [this, List.take_left' rfl, List.drop_left' rfl]
theorem HZ {s : RSet} (hm : fC s = true) {gs : List RSet} (hg : ∀ g ∈ gs, dS g s = true) : ∀ j, j < s.data.length →
 ((s.data.take (j + 1)).map (eM s)).foldl (fun gs r => fD r gs) gs = gs ++ [⟨s.name, s.kind, s.ttl, s.data.take (j + 1)⟩]
 | 0, hj => by
   have hf := rP hm
   have e : s.data.take 1 = [s.data[0]] := by
    rw [List.take_one, List.head?_eq_getElem?, List.getElem?_eq_getElem hj]; rfl
   rw [e]
   simp only [List.map_cons, List.map_nil, List.foldl_cons, List.foldl_nil]
   have hr : bN (eM s s.data[0]) = ⟨s.name, s.kind, s.ttl, [s.data[0]]⟩ := by simp [bN, eM, hf]
   have hp := EM (r := eM s s.data[0]) (gs := gs) (fun g hg' => by rw [hr]; exact (AR (a := g) (b := ⟨s.name, s.kind, s.ttl, [s.data[0]]⟩) (c := s) rfl rfl).trans (hg g hg')) []
   rw [List.append_nil] at hp
   rw [hp, fD, hr]
 | j + 1, hj => by
   have ih := HZ hm hg j (by omega)
   have hf := rP hm
   have e : s.data.take (j + 1 + 1) = s.data.take (j + 1) ++ [s.data[j + 1]] := List.take_succ_eq_append_getElem hj
   rw [e, List.map_append, List.foldl_append, ih]
   simp only [List.map_cons, List.map_nil, List.foldl_cons, List.foldl_nil]
   have hr : bN (eM s s.data[j + 1]) = ⟨s.name, s.kind, s.ttl, [s.data[j + 1]]⟩ := by simp [bN, eM, hf]
   rw [EM (r := eM s s.data[j + 1]) (gs := gs) (fun g hg' => by rw [hr]; exact (AR (a := g) (b := ⟨s.name, s.kind, s.ttl, [s.data[j + 1]]⟩) (c := s) rfl rfl).trans (hg g hg')), fD, hr]
   have hs1 : ∀ x y : List (List UInt8), dS ⟨s.name, s.kind, s.ttl, x⟩ ⟨s.name, s.kind, s.ttl, y⟩ = false := fun x y => GN rfl rfl
   rw [hs1, if_neg (by decide), hs1, if_neg (by decide)]
   have ht : eB (eM s s.data[j + 1]).data (s.data.take (j + 1)) = s.data.take (j + 1) ++ [s.data[j + 1]] := by
    refine JR fun y hy => ?_
    obtain ⟨i, hi, rfl⟩ := List.mem_iff_getElem.1 hy
    rw [List.length_take] at hi
    rw [List.getElem_take]
    exact qT hm i (j + 1) (by omega) hj
   simp only [ht]
   simp [eM, hf]
theorem EN {l : List RSet} (h : dC l = 0) : ∀ k, k ≤ l.length → bC (iB l k) = l.take k
 | 0, _ => by simp [iB, bC]
 | k + 1, hk => by
   have hlt : k < l.length := by omega
   have hm := lK h hlt
   have hl : 1 ≤ l[k].data.length := by
    simp only [fC, Bool.and_eq_true, decide_eq_true_eq] at hm
    exact hm.1.1.2
   have ih := EN h k (by omega)
   rw [kE hlt, bC, List.foldl_append]
   rw [bC] at ih
   rw [ih]
   have := HZ hm (gs := l.take k) (fun g hg => by
    obtain ⟨i, hi, rfl⟩ := List.mem_iff_getElem.1 hg
    rw [List.length_take] at hi
    rw [List.getElem_take]
    exact LZ (iE h i k (by omega) hlt)) (l[k].data.length - 1) (by omega)
   rw [show l[k].data.length - 1 + 1 = l[k].data.length by omega, List.take_length] at this
   rw [dZ, this, List.take_succ_eq_append_getElem hlt]
theorem CA {l : List RSet} (h : dC l = 0) : bC (aF l) = l := by
 have := EN h l.length (Nat.le_refl _)
 rwa [sR, List.take_length] at this
theorem nS {l : List RSet} {r : Rec} (h : r ∈ aF l) : ∃ s ∈ l, ∃ d ∈ s.data, r = eM s d := by
 simp only [aF, List.mem_flatten, List.mem_map] at h
 obtain ⟨rs, ⟨s, hs, rfl⟩, hr⟩ := h
 simp only [dZ, List.mem_map] at hr
 obtain ⟨d, hd, rfl⟩ := hr
 exact ⟨s, hs, d, hd, rfl⟩
theorem MB {l : List RSet} (h : dC l = 0) : gK (aF l) = 0 := by
 have h1 : (aF l).all mT = true := by
  rw [List.all_eq_true]
  intro r hr
  obtain ⟨s, hs, d, hd, rfl⟩ := nS hr
  obtain ⟨i, hi, rfl⟩ := List.mem_iff_getElem.1 hs
  obtain ⟨j, hj, rfl⟩ := List.mem_iff_getElem.1 hd
  simp only [mT, decide_eq_true_eq]
  exact BY (lK h hi) hj
 have h2 : l.length ≤ 200 := by
  unfold dC at h
  split at h
  ·cases h
  ·omega
 have h3 : l.any BR = false := by
  rw [List.any_eq_false]
  intro s hs
  obtain ⟨i, hi, rfl⟩ := List.mem_iff_getElem.1 hs
  have hm := lK h hi
  simp only [fC, Bool.and_eq_true, decide_eq_true_eq] at hm
  have := hm.1.2
  simp [BR]
  omega
 unfold gK
 rw [CA h, h3, if_neg (by rw [h1]; simp), if_neg (by omega), if_neg (by simp)]
theorem ZoneOk.again {o : List UInt8} {l : List RSet} (h : ZoneOk o l) : dE o (aF l) = 0 ∧ cH o (aF l) = o ∧ bT o (aF l) = l := by
 have e : dE o (aF l) = 0 := by
  rw [dE, if_pos (MB h.chk), CA h.chk, h.fold]
  exact fW h
 exact ⟨e, by rw [cH, if_pos e, h.fold], by rw [bT, if_pos e, CA h.chk]⟩
def cW (a b : List Rec) : List Rec := a.filter fun r => !decide (r ∈ b)
theorem lL {a b : List Rec} {r : Rec} : r ∈ cW a b ↔ r ∈ a ∧ r ∉ b := by simp [cW]
structure DeltaR where
 fr : Int
 to : Int
 gone : List Rec
 new : List Rec
 deriving DecidableEq, Inhabited
def MC : DeltaR := ⟨0, 0, [], []⟩
def EO (oa : List UInt8) (la : List RSet) (ob : List UInt8) (lb : List RSet) : Int :=
 if aX oa la = 0 then (if aX ob lb = 0 then (if oa = ob then 0 else 1) else aX ob lb) else aX oa la
def uG (oa : List UInt8) (la : List RSet) (ob : List UInt8) (lb : List RSet) : DeltaR :=
 if EO oa la ob lb = 0 then ⟨(aP oa la).serial, (aP ob lb).serial, cW (aF la) (aF lb), cW (aF lb) (aF la)⟩ else MC
def fO : List Rec → List Rec → Option (List Rec)
 | l, [] => some l
 | l, r :: g => if r ∈ l then fO (l.erase r) g else none
def kG : List Rec → List Rec → Option (List Rec)
 | l, [] => some l
 | l, r :: g => if r ∈ l then none else kG (l ++ [r]) g
def mX (l : List Rec) (d : DeltaR) : Option (List Rec) := (fO l d.gone).bind fun m => kG m d.new
def qU (o : List UInt8) (m : List Rec) (to : Int) : Int :=
 if dE o m = 0 then (if (aP (cH o m) (bT o m)).serial = to ∧ (aF (bT o m)).length = m.length ∧ cW m (aF (bT o m)) = [] then 0 else 2) else dE o m
def gL (o : List UInt8) (l : List RSet) (d : DeltaR) : Int :=
 if aX o l = 0 then (if (aP o l).serial = d.fr then (match mX (aF l) d with
  | none => 5
  | some m => qU o m d.to) else 7) else aX o l
def pK (o : List UInt8) (l : List RSet) (d : DeltaR) : List RSet := if gL o l d = 0 then bT o ((mX (aF l) d).getD []) else []
def lM (o : List UInt8) (l : List RSet) (d : DeltaR) : List UInt8 := if gL o l d = 0 then cH o ((mX (aF l) d).getD []) else []
theorem JS {s : RSet} {d e : List UInt8} (h : eM s d = eM s e) : d = e := by simpa [eM] using h
theorem ZoneOk.nodup {o : List UInt8} {l : List RSet} (h : ZoneOk o l) : (aF l).Nodup := by
 unfold aF List.Nodup
 rw [List.pairwise_flatten]
 constructor
 ·intro rs hrs
  obtain ⟨s, hs, rfl⟩ := List.mem_map.1 hrs
  unfold dZ
  rw [List.pairwise_map, List.pairwise_iff_getElem]
  intro i j hi hj hij he
  have h1 := qT (h.may hs) i j hij hj
  rw [JS he] at h1
  exact Std.lt_irrefl h1
 ·rw [List.pairwise_map, List.pairwise_iff_getElem]
  intro i j hi hj hij x hx y hy he
  simp only [dZ, List.mem_map] at hx hy
  obtain ⟨d, _, rfl⟩ := hx
  obtain ⟨e, _, rfl⟩ := hy
  simp only [eM, Rec.mk.injEq] at he
  have h1 := iE h.chk i j hij hj
  rw [he.1, he.2.1] at h1
  have h2 := iO.refl (l[j].name, l[j].kind)
  simp only at h2
  omega
theorem Ch.same {L M : List Rec} {s : RSet} (h : Ch L s) (hm : ∀ r, r ∈ L ↔ r ∈ M) : Ch M s where
 dat d := by
  rw [h.dat]
  constructor
  ·rintro ⟨r, h1, h2⟩; exact ⟨r, (hm r).1 h1, h2⟩
  ·rintro ⟨r, h1, h2⟩; exact ⟨r, (hm r).2 h1, h2⟩
 ttl := let ⟨r, h1, h2⟩ := h.ttl; ⟨r, (hm r).1 h1, h2⟩
 low r h1 h2 := h.low r ((hm r).2 h1) h2
theorem nT {a b : List Rec} (hm : ∀ r, r ∈ a ↔ r ∈ b) : a.all mT = b.all mT := by
 rw [Bool.eq_iff_iff, List.all_eq_true, List.all_eq_true]
 exact ⟨fun h r hr => h r ((hm r).2 hr), fun h r hr => h r ((hm r).1 hr)⟩
theorem GO {s t : RSet} {r : Rec} (h : bI s r = true) (k : bI t r = true) : s.name = t.name ∧ s.kind = t.kind := by
 simp only [bI, Bool.and_eq_true, decide_eq_true_eq] at h k
 exact ⟨h.1.trans k.1.symm, h.2.trans k.2.symm⟩
theorem wT {a b : List Rec} (ha : a.all mT = true) (hm : ∀ r, r ∈ a ↔ r ∈ b) {s : RSet} (hs : s ∈ bC a) : s ∈ bC b := by
 have hb : b.all mT = true := by rw [← nT hm]; exact ha
 obtain ⟨_, a2, _⟩ := iP ha
 obtain ⟨_, b2, b3⟩ := iP hb
 obtain ⟨c1, c2, _⟩ := a2 s hs
 obtain ⟨r, hr, hmr, _⟩ := c1.ttl
 obtain ⟨t, ht, htm⟩ := b3 r ((hm r).1 hr)
 obtain ⟨d1, d2, _⟩ := b2 t ht
 obtain ⟨e1, e2⟩ := GO hmr htm
 rw [(c1.same hm).uniq d1 c2 d2 e1 e2]
 exact ht
theorem PT : ∀ {a b : List RSet}, SO a → SO b → (∀ s, s ∈ a ↔ s ∈ b) → a = b
 | [], [], _, _, _ => rfl
 | [], y :: b, _, _, h => by have := (h y).2 (by simp); cases this
 | x :: a, [], _, _, h => by have := (h x).1 (by simp); cases this
 | x :: a, y :: b, ha, hb, h => by
   obtain ⟨a1, a2⟩ := List.pairwise_cons.1 ha
   obtain ⟨b1, b2⟩ := List.pairwise_cons.1 hb
   have irr : ∀ s, ¬ kM s s < 0 := fun s => by have := tA.refl s; omega
   have asy : ∀ s t, kM s t < 0 → ¬ kM t s < 0 := fun s t h1 h2 => by have := tA.anti s t; omega
   have hxy : x = y := by
    rcases List.mem_cons.1 ((h x).1 (by simp)) with e | hx
    ·exact e
    ·rcases List.mem_cons.1 ((h y).2 (by simp)) with e | hy
     ·exact e.symm
     ·exact absurd (a1 y hy) (asy _ _ (b1 x hx))
   subst hxy
   rw [PT a2 b2 fun s => ?_]
   constructor
   ·intro hs
    rcases List.mem_cons.1 ((h s).1 (by simp [hs])) with rfl | h1
    ·exact absurd (a1 s hs) (irr s)
    ·exact h1
   ·intro hs
    rcases List.mem_cons.1 ((h s).2 (by simp [hs])) with rfl | h1
    ·exact absurd (b1 s hs) (irr s)
    ·exact h1
theorem mI {a b : List Rec} (ha : a.all mT = true) (hm : ∀ r, r ∈ a ↔ r ∈ b) : bC a = bC b := by
 have hb : b.all mT = true := by rw [← nT hm]; exact ha
 exact PT (iP ha).1 (iP hb).1 fun s => ⟨wT ha hm, wT hb (fun r => (hm r).symm)⟩
theorem wU {a b : List Rec} (hm : ∀ r, r ∈ a ↔ r ∈ b) : gK a = gK b := by
 unfold gK
 rw [nT hm]
 by_cases hb : b.all mT = false
 ·rw [if_pos hb, if_pos hb]
 ·have ha : a.all mT = true := by rw [nT hm]; simpa using hb
  rw [mI ha hm]
theorem wV {o : List UInt8} {a b : List Rec} (hm : ∀ r, r ∈ a ↔ r ∈ b) : dE o a = dE o b ∧ cH o a = cH o b ∧ bT o a = bT o b := by
 have e : dE o a = dE o b := by
  unfold dE
  rw [wU hm]
  by_cases h0 : gK b = 0
  ·rw [if_pos h0, if_pos h0]
   have ha : a.all mT = true := by
    rw [nT hm]
    cases hb : b.all mT with
    | true => rfl
    | false => rw [gK, if_pos hb] at h0; cases h0
   rw [mI ha hm]
  ·rw [if_neg h0, if_neg h0]
 refine ⟨e, by unfold cH; rw [e], ?_⟩
 unfold bT
 rw [e]
 by_cases h0 : dE o b = 0
 ·rw [if_pos h0, if_pos h0]
  have hr : gK a = 0 := by
   rw [wU hm]
   unfold dE at h0
   split at h0
   ·assumption
   ·exact h0
  have ha : a.all mT = true := by
   cases ha : a.all mT with
   | true => rfl
   | false => rw [gK, if_pos ha] at hr; cases hr
  exact mI ha hm
 ·rw [if_neg h0, if_neg h0]
theorem IA : ∀ {g l : List Rec}, l.Nodup → g.Nodup → (∀ r ∈ g, r ∈ l) → fO l g = some (l.filter fun r => !decide (r ∈ g))
 | [], l, _, _, _ => by
   rw [fO]
   congr 1
   symm
   rw [List.filter_eq_self]
   intro r _
   simp
 | r :: g, l, hl, hg, hs => by
   obtain ⟨g1, g2⟩ := List.nodup_cons.1 hg
   rw [fO, if_pos (hs r (by simp)), IA (hl.erase r) g2 (fun q hq => by
    rw [hl.mem_erase_iff]
    exact ⟨fun e => g1 (e ▸ hq), hs q (by simp [hq])⟩), hl.erase_eq_filter, List.filter_filter]
   congr 1
   apply List.filter_congr
   intro q _
   by_cases h1 : q = r <;> by_cases h2 : q ∈ g <;> simp [h1, h2]
theorem MD : ∀ {g l : List Rec}, g.Nodup → (∀ r ∈ g, r ∉ l) → kG l g = some (l ++ g)
 | [], l, _, _ => by simp [kG]
 | r :: g, l, hg, hs => by
   obtain ⟨g1, g2⟩ := List.nodup_cons.1 hg
   rw [kG, if_neg (hs r (by simp)), MD g2 (fun q hq h => by
    rcases List.mem_append.1 h with h | h
    ·exact hs q (by simp [hq]) h
    ·obtain rfl := List.mem_singleton.1 h
     exact g1 hq)]
   simp
theorem wW {a b : List Rec} (h : a.Nodup) : (cW a b).Nodup := h.filter _
theorem ME {o : List UInt8} {la lb : List RSet} (ha : ZoneOk o la) (hb : ZoneOk o lb) {d : DeltaR} (h1 : d.fr = (aP o la).serial) (h2 : d.to = (aP o lb).serial) (hg : d.gone.Nodup) (hn : d.new.Nodup)
 (mg : ∀ r, r ∈ d.gone ↔ r ∈ aF la ∧ r ∉ aF lb) (mn : ∀ r, r ∈ d.new ↔ r ∈ aF lb ∧ r ∉ aF la) : gL o la d = 0 ∧ pK o la d = lb ∧ lM o la d = o := by
 have e1 := IA ha.nodup hg (fun r hr => ((mg r).1 hr).1)
 have e2 := MD (l := (aF la).filter fun r => !decide (r ∈ d.gone)) hn (fun r hr h => ((mn r).1 hr).2 (List.mem_filter.1 h).1)
 have e3 : mX (aF la) d = some (((aF la).filter fun r => !decide (r ∈ d.gone)) ++ d.new) := by
  rw [mX, e1]; exact e2
 generalize hmg : ((aF la).filter fun r => !decide (r ∈ d.gone)) ++ d.new = m at e3
 have hm : ∀ r, r ∈ m ↔ r ∈ aF lb := by
  intro r
  rw [← hmg, List.mem_append, List.mem_filter, mn r]
  simp only [Bool.not_eq_true', decide_eq_false_iff_not, mg r, not_and, Decidable.not_not]
  constructor
  ·rintro (⟨h3, h4⟩ | ⟨h3, _⟩)
   ·exact h4 h3
   ·exact h3
  ·intro h3
   by_cases h4 : r ∈ aF la
   ·exact .inl ⟨h4, fun _ => h3⟩
   ·exact .inr ⟨h3, h4⟩
 have hnd : m.Nodup := by
  rw [← hmg, List.nodup_append]
  refine ⟨ha.nodup.filter _, hn, ?_⟩
  intro x hx y hy e
  subst e
  exact ((mn x).1 hy).2 (List.mem_filter.1 hx).1
 have hperm := (List.perm_ext_iff_of_nodup hnd hb.nodup).2 hm
 obtain ⟨c1, c2, c3⟩ := wV (o := o) hm
 obtain ⟨b1, b2, b3⟩ := hb.again
 rw [b1] at c1
 rw [b2] at c2
 rw [b3] at c3
 have hend : qU o m d.to = 0 := by
  unfold qU
  rw [if_pos c1, c2, c3, if_pos]
  refine ⟨h2.symm, hperm.length_eq.symm, ?_⟩
  unfold cW
  rw [List.filter_eq_nil_iff]
  intro r hr
  simp [(hm r).1 hr]
 have hE : gL o la d = 0 := by
  unfold gL
  rw [if_pos (fW ha), if_pos h1.symm, e3]
  exact hend
 refine ⟨hE, ?_, ?_⟩
 ·rw [pK, if_pos hE, e3]; exact c3
 ·rw [lM, if_pos hE, e3]; exact c2
theorem tX {oa ob : List UInt8} {la lb : List RSet} (h : EO oa la ob lb = 0) : ZoneOk oa la ∧ ZoneOk oa lb ∧ oa = ob ∧ uG oa la ob lb = ⟨(aP oa la).serial, (aP oa lb).serial, cW (aF la) (aF lb), cW (aF lb) (aF la)⟩ := by
 have h0 := h
 unfold EO at h
 split at h
 ·rename_i q1
  split at h
  ·rename_i q2
   split at h
   ·rename_i q3
    subst q3
    exact ⟨gF q1, gF q2, rfl, by rw [uG, if_pos h0]⟩
   ·cases h
  ·rename_i q2; exact absurd h q2
 ·rename_i q1; exact absurd h q1
def JT : List Value := [aI [], .int .i64 0, .int .i64 0, aI []]
theorem Runs.eqlRec {r q : Rec} {x y : Operand} {a : Act} {w : World} {d : Option Nat} {u ty : TypeId} {ps : String} {af : Array Edge} {g : Option (Nat × Bool)}
 (hx : a.eval x = .agg #[aI r.name, .int .i64 r.kind, .int .i64 r.ttl, aI r.data]) (hy : a.eval y = .agg #[aI q.name, .int .i64 q.kind, .int .i64 q.ttl, aI q.data]) :
 Runs Tryz.prog (Oper.mk d (.binOp .eql 47 x y u) ty ps af g) a w (.bool (decide (r = q))) := by
 constructor
 have hg := run_eqGuard_agg (P := Tryz.prog) w .eql 47 x y #[aI r.name, .int .i64 r.kind, .int .i64 r.ttl, aI r.data] #[aI q.name, .int .i64 q.kind, .int .i64 q.ttl, aI q.data] (by kernel_rfl)
 simp only [execOp, hx, hy, Sem.run_bind, hg, Result.andThen_ok, run_eql_struct, AE, Sem.run_pure]
theorem rV {l : List Rec} {r : Rec} : l.any (fun q => decide (r = q)) = decide (r ∈ l) := by
 rw [Bool.eq_iff_iff, List.any_eq_true, decide_eq_true_eq]
 constructor
 ·rintro ⟨q, hq, h⟩; rw [decide_eq_true_eq] at h; exact h ▸ hq
 ·intro h; exact ⟨r, h, by simp⟩
set_option maxHeartbeats 3000000 in
theorem IB (v : Value) (l : List Rec) (r : Rec) (w : World) (hv : Sl 4 w v (aD l)) : Calls Tryz.prog 192 #[v, .agg #[aI r.name, .int .i64 r.kind, .int .i64 r.ttl, aI r.data]] w (bG w (.int .i64 (mF (fun q => decide (r = q)) l))) := by
 have hlen := aL l
 have hle := hv.le
 go_enter Tryz.func192, Tryz.ntmps192
 refine_lift uL ?_; intro _ _ _
 refine aZ (vs := [aI r.name, .int .i64 r.kind, .int .i64 r.ttl, aI r.data]) rfl rfl ?_
 intro p w1 x1 hp
 refine aA ?_
 have hv1 := hv.ext x1
 refine_lift bY fun _ _ => ?_
 go_loopw [5, 8] (fun _ i wr => ∃ k : Nat, k ≤ l.length ∧ i = .int .i64 k ∧ Ext w1 wr ∧ (l.take k).any (fun q => decide (r = q)) = false) (fun _ i _ => l.length - (intOf i).toNat)
 case atStart => exact ⟨0, Nat.zero_le _, rfl, Ext.refl _, rfl⟩
 case round =>
  obtain ⟨k, hk, rfl, hx, hall⟩ := hrel
  have hv2 := hv1.ext hx
  have hp2 := hp.ext hx
  by_cases hlt : k < l.length
  ·have hpe := hv2.elem (cT hlt)
   refine_lift oM ?_; intro _ _ _ _ _ _
   refine bB (by decide +kernel) (by decide +kernel) ?_
   refine_lift dX ?_
   refine fU (fun w' _ => Runs.eqlRec (r := r) (q := l[k]) rfl rfl) ?_
   refine aA ?_
   refine_lift dX ?_
   intro w2 x2
   cases he : decide (r = l[k]) with
   | true =>
    refine_lift aS ?_
    go_ret
    exact ⟨by rw [sU hlt hall he]; rfl, (x1.trans hx).trans x2⟩
   | false =>
    refine_lift aS ?_
    exact ⟨⟨k + 1, by omega, by go_num, hx.trans x2, iC hlt hall he⟩, by simp [intOf]; omega⟩
  ·have : k = l.length := by omega
   subst this
   rw [List.take_length] at hall
   refine_lift fP fun _ => ?_
   go_ret
   exact ⟨by rw [sV hall]; rfl, x1.trans hx⟩
theorem wX (v : Value) (l : List Rec) (r : Rec) (w : World) (hv : Sl 4 w v (aD l)) : Calls Tryz.prog 153 #[v, .agg #[aI r.name, .int .i64 r.kind, .int .i64 r.ttl, aI r.data]] w (bG w (.bool (decide (r ∈ l)))) := by
 go_enter Tryz.func153, Tryz.ntmps153
 refine_lift hY fun _ _ => ?_
 refine aZ (vs := [aI r.name, .int .i64 r.kind, .int .i64 r.ttl, aI r.data]) rfl rfl ?_
 intro p w1 x1 hp
 refine aA ?_
 refine_lift bY fun _ _ => ?_
 refine aB (enters_of Tryz.func192 rfl rfl) rfl rfl (IB v l r _ (hv.ext x1)) ?_; intro w2 x2; refine aA ?_
 refine_lift aS ?_
 go_ret
 exact ⟨by rw [← rV, ← rQ]; rfl, x1.trans x2⟩
set_option maxHeartbeats 3000000 in
theorem CB (v : Value) (l : List Rec) (r : Rec) (w : World) (hv : Sl 4 w v (aD l)) : Calls Tryz.prog 158 #[v, .agg #[aI r.name, .int .i64 r.kind, .int .i64 r.ttl, aI r.data]] w (bG w (.bool (decide (r ∈ l)))) := by
 have hlen := aL l
 have hle := hv.le
 go_enter Tryz.func158, Tryz.ntmps158
 refine_lift hY fun _ _ => ?_
 refine aZ (vs := [aI r.name, .int .i64 r.kind, .int .i64 r.ttl, aI r.data]) rfl rfl ?_
 intro p w1 x1 hp
 refine aA ?_
 have hv1 := hv.ext x1
 refine_lift bY fun _ _ => ?_
 go_loopw [5] (fun i wr => ∃ k : Nat, k ≤ l.length ∧ i = .int .i64 k ∧ Ext w1 wr ∧ (l.take k).any (fun q => decide (r = q)) = false) (fun i _ => l.length - (intOf i).toNat)
 case atStart => exact ⟨0, Nat.zero_le _, rfl, Ext.refl _, rfl⟩
 case round =>
  obtain ⟨k, hk, rfl, hx, hall⟩ := hrel
  have hv2 := hv1.ext hx
  have hp2 := hp.ext hx
  by_cases hlt : k < l.length
  ·have hpe := hv2.elem (cT hlt)
   refine_lift oM ?_; intro _ _ _ _ _ _
   refine bB (by decide +kernel) (by decide +kernel) ?_
   refine_lift dX ?_
   refine fU (fun w' _ => Runs.eqlRec (r := l[k]) (q := r) rfl rfl) ?_
   refine aA ?_
   refine_lift dX ?_
   intro w2 x2
   have hsw : decide (l[k] = r) = decide (r = l[k]) := by rw [Bool.eq_iff_iff]; simp [eq_comm]
   rw [hsw]
   cases he : decide (r = l[k]) with
   | true =>
    refine_lift aS ?_
    go_ret
    exact ⟨by rw [← rV, BS hlt he]; rfl, (x1.trans hx).trans x2⟩
   | false =>
    refine_lift aS ?_
    exact ⟨⟨k + 1, by omega, by go_num, hx.trans x2, iC hlt hall he⟩, by simp [intOf]; omega⟩
  ·have : k = l.length := by omega
   subst this
   rw [List.take_length] at hall
   refine_lift fP fun _ => ?_
   go_ret
   exact ⟨by rw [← rV, hall]; rfl, x1.trans hx⟩
theorem AS {a b : List Rec} {k : Nat} (h : k < a.length) : cW (a.take (k + 1)) b = cW (a.take k) b ++ (if a[k] ∈ b then [] else [a[k]]) := by
 unfold cW
 rw [List.take_succ_eq_append_getElem h, List.filter_append]
 congr 1
 by_cases hm : a[k] ∈ b <;> simp [hm]
theorem EP (a b : List Rec) : (cW a b).length ≤ a.length := List.length_filter_le _ _
theorem lN {ts : List Value} {df : List Deferred} {x : Operand} {r : Rec} (h : (Act.mk ts.toArray df).eval x = .agg #[aI r.name, .int .i64 r.kind, .int .i64 r.ttl, aI r.data]) : ElemIs (Act.mk ts.toArray df) x 4 [aI r.name, .int .i64 r.kind, .int .i64 r.ttl, aI r.data] :=
 ⟨h, rfl, rfl, by intro u hu; simp only [List.mem_cons, List.not_mem_nil, or_false] at hu; rcases hu with rfl | rfl | rfl | rfl <;> rfl⟩
set_option maxHeartbeats 3000000 in
theorem GP (u v : Value) (a b : List Rec) (w : World) (hu : Sl 4 w u (aD a)) (hv : Sl 4 w v (aD b)) (hl : a.length ≤ 100000) : Calls Tryz.prog 97 #[u, v] w (jE w fun r w' => Own w.heap.size 4 47 w' r (aD (cW a b))) := by
 have hlen := aL a
 go_enter Tryz.func97, Tryz.ntmps97
 refine_lift kL ?_; intro _ _ _
 go_loopw [5, 7, 10] (fun o _ i wr => ∃ k : Nat, k ≤ a.length ∧ i = .int .i64 k ∧ Ext w wr ∧ Own w.heap.size 4 47 wr o (aD (cW (a.take k) b))) (fun _ _ i _ => a.length - (intOf i).toNat)
 case atStart => exact ⟨0, Nat.zero_le _, rfl, Ext.refl _, by simpa [cW, aD] using Own.nil _ _ _ _⟩
 case round =>
  obtain ⟨k, hk, rfl, hx, ho⟩ := hrel
  have hu2 := hu.ext hx
  by_cases hlt : k < a.length
  ·have hpe := hu2.elem (cT hlt)
   have hst := AS (b := b) hlt
   have hll := EP (a.take k) b
   rw [List.length_take] at hll
   have hcl := aL (cW (a.take k) b)
   refine_lift oM ?_; intro _ _ _ _ _ _
   refine aG (z := JT) rfl (by decide +kernel) ?_
   intro w2 x2 s2 h2
   refine aA ?_
   refine aC (v := .agg #[aI a[k].name, .int .i64 a[k].kind, .int .i64 a[k].ttl, aI a[k].data]) rfl rfl rfl h2 (show aO Tryz.prog 47 4 = true by decide +kernel) rfl (iM rfl rfl rfl rfl) ?_
   intro w3 p3
   have x3 : Ext wr w3 := x2.move p3.mv (by rintro k ⟨⟩; exact Nat.le_refl _)
   have hp3 := aE (cs := [aI a[k].name, .int .i64 a[k].kind, .int .i64 a[k].ttl, aI a[k].data]) p3.this
   have hx3 := hx.trans x3
   have ho3 := ho.ext x3
   clear p3 h2 x2
   refine_lift bY fun _ _ => ?_
   refine aB (enters_of Tryz.func153 rfl rfl) rfl rfl (wX v b a[k] _ (hv.ext hx3)) ?_; intro w4 x4; refine aA ?_
   have hx4 := hx3.trans x4
   have ho4 := ho3.ext x4
   have hp4 := hp3.ext x4
   by_cases hm : a[k] ∈ b
   ·rw [decide_eq_true hm]
    rw [if_pos hm, List.append_nil] at hst
    refine_lift aS ?_
    exact ⟨⟨k + 1, by omega, by go_num, hx4, by rw [hst]; exact ho4⟩, by simp [intOf]; omega⟩
   ·rw [decide_eq_false hm]
    rw [if_neg hm] at hst
    refine_lift aS ?_
    refine FS [aI a[k].name, .int .i64 a[k].kind, .int .i64 a[k].ttl, aI a[k].data] hx4 ho4 (by omega) ?_ (lN rfl)
    intro s5 v5 w5 w6 x5 m6 x6 o6
    refine aA ?_
    refine_lift aS ?_
    refine ⟨⟨k + 1, by omega, by go_num, x6, ?_⟩, by simp [intOf]; omega⟩
    rw [hst]
    simpa [aD, Rec.cells] using o6
  ·have : k = a.length := by omega
   subst this
   rw [List.take_length] at ho
   refine_lift fP fun _ => ?_
   go_ret
   exact ⟨_, rfl, hx, ho⟩
set_option maxHeartbeats 3000000 in
theorem MF (u v : Value) (a b : List Rec) (w : World) (hu : Sl 4 w u (aD a)) (hv : Sl 4 w v (aD b)) (hl : a.length ≤ 100000) : Calls Tryz.prog 100 #[u, v] w (jE w fun r w' => Own w.heap.size 4 47 w' r (aD (cW a b))) := by
 have hlen := aL a
 go_enter Tryz.func100, Tryz.ntmps100
 refine_lift kL ?_; intro _ _ _
 go_loopw [5, 6] (fun o i wr => ∃ k : Nat, k ≤ a.length ∧ i = .int .i64 k ∧ Ext w wr ∧ Own w.heap.size 4 47 wr o (aD (cW (a.take k) b))) (fun _ i _ => a.length - (intOf i).toNat)
 case atStart => exact ⟨0, Nat.zero_le _, rfl, Ext.refl _, by simpa [cW, aD] using Own.nil _ _ _ _⟩
 case round =>
  obtain ⟨k, hk, rfl, hx, ho⟩ := hrel
  have hu2 := hu.ext hx
  by_cases hlt : k < a.length
  ·have hpe := hu2.elem (cT hlt)
   have hst := AS (b := b) hlt
   have hll := EP (a.take k) b
   rw [List.length_take] at hll
   have hcl := aL (cW (a.take k) b)
   refine_lift oM ?_; intro _ _ _ _ _ _
   refine aB (enters_of Tryz.func158 rfl rfl) rfl rfl (CB v b a[k] _ (hv.ext hx)) ?_; intro w4 x4; refine aA ?_
   have hx4 := hx.trans x4
   have ho4 := ho.ext x4
   have hu4 := hu2.ext x4
   have hpe4 := hpe.ext x4
   by_cases hm : a[k] ∈ b
   ·rw [decide_eq_true hm]
    rw [if_pos hm, List.append_nil] at hst
    refine_lift aS ?_
    exact ⟨⟨k + 1, by omega, by go_num, hx4, by rw [hst]; exact ho4⟩, by simp [intOf]; omega⟩
   ·rw [decide_eq_false hm]
    rw [if_neg hm] at hst
    refine_lift aS ?_
    refine FS [aI a[k].name, .int .i64 a[k].kind, .int .i64 a[k].ttl, aI a[k].data] hx4 ho4 (by omega) ?_ (lN rfl)
    intro s5 v5 w5 w6 x5 m6 x6 o6
    refine aA ?_
    refine_lift aS ?_
    refine ⟨⟨k + 1, by omega, by go_num, x6, ?_⟩, by simp [intOf]; omega⟩
    rw [hst]
    simpa [aD, Rec.cells] using o6
  ·have : k = a.length := by omega
   subst this
   rw [List.take_length] at ho
   refine_lift fP fun _ => ?_
   go_ret
   exact ⟨_, rfl, hx, ho⟩
set_option maxHeartbeats 3000000 in
theorem nU (v : Value) (l : List Rec) (w : World) (hv : Sl 4 w v (aD l)) (hl : l.length ≤ 1000000) : Calls Tryz.prog 52 #[v] w (jE w fun v' w' => Own w.heap.size 4 47 w' v' (aD l)) := by
 have hlen := aL l
 go_enter Tryz.func52, Tryz.ntmps52
 (repeat' first | ((with_reducible refine cY ?_); go_step) | ((with_reducible refine bR ?_); first | refine fM ?_ | (refine dN ?_ ?_ <;> intro hc)) | fail)
 ·have hn := ‹uS v = true›
  go_ret
  have : aD l = [] := hv.isNil hn
  refine ⟨_, rfl, Ext.refl _, ?_⟩
  rw [this]
  exact Own.nil _ _ _ _
 ·refine jX (t := 31) (e := 47) (k := 4) (bytes := 48) (by decide +kernel) rfl ?_
  intro v2 w2 x2 s2 o2
  refine aA ?_
  refine_lift aS ?_
  refine cP (B := w.heap.size) (e := 47) rfl o2 rfl (hv.ext x2) (by intro f hf u hu; obtain ⟨r, _, rfl⟩ := List.mem_map.1 hf; simp only [Rec.cells, List.mem_cons, List.not_mem_nil, or_false] at hu; rcases hu with rfl | rfl | rfl | rfl <;> rfl) x2.size (by simp; omega) ?_
  intro v3 w3 o3 m3 _
  have x3 := o2.mvx m3 x2 (Nat.le_refl _)
  refine aA ?_
  refine_lift aS ?_
  go_ret
  exact ⟨_, rfl, x3, by simpa using o3⟩
set_option maxHeartbeats 3000000 in
theorem EQ (v : Value) (l : List Rec) (r : Rec) (w : World) (hv : Sl 4 w v (aD l)) (hl : l.length ≤ 100000) : Calls Tryz.prog 173 #[v, .agg #[aI r.name, .int .i64 r.kind, .int .i64 r.ttl, aI r.data]] w (jE w fun u w' => Own w.heap.size 4 47 w' u (aD (l.erase r))) := by
 have hlen := aL l
 go_enter Tryz.func173, Tryz.ntmps173
 refine_lift uL ?_; intro _ _ _
 refine aZ (vs := [aI r.name, .int .i64 r.kind, .int .i64 r.ttl, aI r.data]) rfl rfl ?_
 intro p w1 x1 hp
 refine aA ?_
 have hv1 := hv.ext x1
 refine_lift bY fun _ _ => ?_
 go_loopw [5, 6] (fun o i wr => ∃ k : Nat, k ≤ l.length ∧ i = .int .i64 k ∧ Ext w1 wr ∧ r ∉ l.take k ∧ Own w1.heap.size 4 47 wr o (aD (l.take k))) (fun _ i _ => l.length - (intOf i).toNat)
 case atStart => exact ⟨0, Nat.zero_le _, rfl, Ext.refl _, by simp, by simpa [aD] using Own.nil _ _ _ _⟩
 case round =>
  obtain ⟨k, hk, rfl, hx, hnot, ho⟩ := hrel
  have hv2 := hv1.ext hx
  have hp2 := hp.ext hx
  by_cases hlt : k < l.length
  ·have hpe := hv2.elem (cT hlt)
   refine_lift UD ?_; intro _ _ _ _ _ _ _ _
   refine bB (by decide +kernel) (by decide +kernel) ?_
   refine_lift dX ?_
   refine fU (fun w' _ => Runs.eqlRec (r := l[k]) (q := r) rfl rfl) ?_
   refine aA ?_
   refine_lift dX ?_
   intro w2 x2
   have hx2 := hx.trans x2
   have ho2 := ho.ext x2
   have hv3 := hv2.ext x2
   have hpe3 := hpe.ext x2
   by_cases he : l[k] = r
   ·rw [decide_eq_true he]
    refine_lift bY fun _ _ => ?_
    have hcut := hv3.cut (m := k + 1) (n := (aD l).length) (by omega) (Nat.le_refl _)
    rw [List.take_length] at hcut
    refine cP (B := w1.heap.size) (e := 47) rfl ho2 rfl hcut (by intro f hf u hu; obtain ⟨r, _, rfl⟩ := List.mem_map.1 (List.mem_of_mem_drop hf); simp only [Rec.cells, List.mem_cons, List.not_mem_nil, or_false] at hu; rcases hu with rfl | rfl | rfl | rfl <;> rfl) hx2.size (by simp [aL]; omega) ?_
    intro v4 w4 o4 m4 _
    have x4 := ho2.mvx m4 hx2 (Nat.le_refl _)
    refine aA ?_
    refine_lift aS ?_
    go_ret
    refine ⟨_, rfl, x1.trans x4, ?_⟩
    have hee : l.erase r = l.take k ++ l.drop (k + 1) := by
     conv => lhs; rw [← List.take_append_drop k l, List.drop_eq_getElem_cons hlt]
     rw [List.erase_append_right _ hnot, he, List.erase_cons_head]
    have e1 : aD (l.take k) ++ (aD l).drop (k + 1) = aD (l.erase r) := by rw [hee]; simp [aD, List.map_drop]
    rw [← e1]
    exact o4.weaken x1.size
   ·rw [decide_eq_false he]
    refine_lift aS ?_
    refine FS [aI l[k].name, .int .i64 l[k].kind, .int .i64 l[k].ttl, aI l[k].data] hx2 ho2 (by rw [aL, List.length_take]; omega) ?_ (lN rfl)
    intro s5 v5 w5 w6 x5 m6 x6 o6
    refine aA ?_
    refine_lift aS ?_
    refine ⟨⟨k + 1, by omega, by go_num, x6, ?_, ?_⟩, by simp [intOf]; omega⟩
    ·rw [List.take_succ_eq_append_getElem hlt, List.mem_append]
     rintro (h | h)
     ·exact hnot h
     ·exact he (List.mem_singleton.1 h).symm
    ·have e1 : aD (l.take (k + 1)) = aD (l.take k) ++ [l[k].cells] := by rw [List.take_succ_eq_append_getElem hlt, aD, List.map_append]; rfl
     rw [e1]
     exact o6
  ·have : k = l.length := by omega
   subst this
   rw [List.take_length] at hnot ho
   refine_lift fP fun _ => ?_
   go_ret
   refine ⟨_, rfl, x1.trans hx, ?_⟩
   rw [List.erase_of_not_mem hnot]
   exact ho.weaken x1.size
def pL : List Value := [.int .i64 0, .int .i64 0, .slice none 0 0, .slice none 0 0]
def DelA (d : DeltaR) (r : Value) (w : World) : Prop := ∃ g n, r = .agg #[.int .i64 d.fr, .int .i64 d.to, g, n] ∧ Sl 4 w g (aD d.gone) ∧ Sl 4 w n (aD d.new)
def DelO (B : Nat) (d : DeltaR) (r : Value) (w : World) : Prop := ∃ g n, r = .agg #[.int .i64 d.fr, .int .i64 d.to, g, n] ∧ Own B 4 47 w g (aD d.gone) ∧ Own B 4 47 w n (aD d.new)
theorem DelO.a {B : Nat} {d : DeltaR} {r : Value} {w : World} (h : DelO B d r w) : DelA d r w := let ⟨g, n, e, a, b⟩ := h; ⟨g, n, e, a.sl, b.sl⟩
def DelU (B : Nat) (d : DeltaR) (e : Int) (r : Value) (w : World) : Prop := ∃ y, r = .tuple #[y, .int .i64 e] ∧ DelO B d y w
theorem DelU.bad {B : Nat} {d : DeltaR} {e : Int} {w : World} (h : d = MC) : DelU B d e (.tuple #[.agg pL.toArray, .int .i64 e]) w := by
 subst h
 exact ⟨_, rfl, _, _, rfl, Own.nil _ _ _ _, Own.nil _ _ _ _⟩
theorem CC {oa ob : List UInt8} {la lb : List RSet} (h : EO oa la ob lb ≠ 0) : uG oa la ob lb = MC := if_neg h
set_option maxHeartbeats 6000000 in
theorem QY (oa : List UInt8) (u : Value) (la : List RSet) (ob : List UInt8) (v : Value) (lb : List RSet) (w : World) (hu : SetsAt w u la) (hv : SetsAt w v lb)
 (ba : ∀ s ∈ la, s.data.length ≤ 1000000) (da : ∀ s ∈ la, ∀ d ∈ s.data, d.length ≤ 4611686018427387904) (bb : ∀ s ∈ lb, s.data.length ≤ 1000000) (db : ∀ s ∈ lb, ∀ d ∈ s.data, d.length ≤ 4611686018427387904)
 (h1 : (aF la).length ≤ 100000) (h2 : (aF lb).length ≤ 100000) : Calls Tryz.prog 46 #[.agg #[aI oa, u], .agg #[aI ob, v]] w (jE w (DelU w.heap.size (uG oa la ob lb) (EO oa la ob lb))) := by
 go_enter Tryz.func46, Tryz.ntmps46
 refine_lift hY fun _ _ => ?_
 refine aZ (vs := [aI oa, u]) rfl rfl ?_
 intro p w1 x1 hp
 refine aA ?_
 refine aZ (vs := [aI ob, v]) rfl rfl ?_
 intro q w2 x2 hq
 refine aA ?_
 refine aG (z := pL) rfl (by decide +kernel) ?_
 intro w3 x3 s3 h3
 refine aA ?_
 have hx3 := (x1.trans x2).trans x3
 have zz := (x1.trans x2).size
 have hp3 := (hp.ext x2).ext x3
 have hq3 := hq.ext x3
 refine_lift bY fun _ _ => ?_
 refine aB (enters_of Tryz.func31 rfl rfl) rfl rfl (pU oa u la _ (hu.ext hx3) ba da) ?_; intro w4 x4; refine aA ?_
 have hx4 := hx3.trans x4
 refine_lift aS ?_
 refine aG (z := aV) rfl (by decide +kernel) ?_
 intro w5 x5 s5 h5
 refine aA ?_
 refine aC (v := .agg (aP oa la).cells.toArray) rfl rfl rfl h5 (show aO Tryz.prog 67 7 = true by decide +kernel) rfl (dI _) ?_
 intro w6 p6
 have x46 : Ext w4 w6 := x5.move p6.mv (by rintro k ⟨⟩; exact Nat.le_refl _)
 have b6 : w6.heap[w4.heap.size]? = some (.cells (aP oa la).cells.toArray 67 (0, 0)) := p6.this
 have x36 := x4.trans x46
 have hx6 := hx3.trans x36
 clear p6 h5 x5
 have h6 := x36.at h3
 have hp6 := hp3.ext x36
 have hq6 := hq3.ext x36
 refine_lift rG (fun _ _ _ => ?_) (fun _ _ _ _ _ => ?_)
 ·have q0 : ¬ aX oa la = 0 := by simpa using (by assumption : (!decide (aX oa la = 0)) = true)
  refine aQ (v := .agg pL.toArray) rfl (Runs.build0 (by kernel_rfl)) ?_
  refine aA ?_
  refine_lift aS ?_
  refine aC (v := .agg pL.toArray) rfl rfl rfl h6 (by decide +kernel) rfl (by decide +kernel) ?_
  intro w7 p7
  have x7 : Ext w w7 := hx6.move p7.mv (by rintro k ⟨⟩; exact zz)
  refine_lift aS ?_
  refine bodyPost_ret (aH (cs := pL) rfl rfl p7.this (by decide +kernel)) rfl ⟨_, rfl, x7, ?_⟩
  have he : EO oa la ob lb = aX oa la := by rw [EO, if_neg q0]
  rw [CC (by rw [he]; exact q0), he]
  exact DelU.bad rfl
 ·have q0 : aX oa la = 0 := by simpa using (by assumption : (!decide (aX oa la = 0)) = false)
  refine aB (enters_of Tryz.func31 rfl rfl) rfl rfl (pU ob v lb _ (hv.ext hx6) bb db) ?_; intro w7 x7; refine aA ?_
  have hx7 := hx6.trans x7
  refine_lift aS ?_
  refine aG (z := aV) rfl (by decide +kernel) ?_
  intro w8 x8 s8 h8
  refine aA ?_
  refine aC (v := .agg (aP ob lb).cells.toArray) rfl rfl rfl h8 (show aO Tryz.prog 67 7 = true by decide +kernel) rfl (dI _) ?_
  intro w9 p9
  have x79 : Ext w7 w9 := x8.move p9.mv (by rintro k ⟨⟩; exact Nat.le_refl _)
  have c9 : w9.heap[w7.heap.size]? = some (.cells (aP ob lb).cells.toArray 67 (0, 0)) := p9.this
  have x69 := x7.trans x79
  have hx9 := hx6.trans x69
  clear p9 h8 x8
  have h9 := x69.at h6
  have b9 := x69.at b6
  have hp9 := hp6.ext x69
  have hq9 := hq6.ext x69
  refine_lift SI (fun _ _ _ _ _ _ => ?_) (fun _ _ _ _ => ?_) (fun _ _ _ _ _ => ?_)
  ·have q1 : ¬ aX ob lb = 0 := by simpa using (by assumption : (!decide (aX ob lb = 0)) = true)
   refine aQ (v := .agg pL.toArray) rfl (Runs.build0 (by kernel_rfl)) ?_
   refine aA ?_
   refine_lift aS ?_
   refine aC (v := .agg pL.toArray) rfl rfl rfl h9 (by decide +kernel) rfl (by decide +kernel) ?_
   intro wz pz
   have xz : Ext w wz := hx9.move pz.mv (by rintro k ⟨⟩; exact zz)
   refine_lift aS ?_
   refine bodyPost_ret (aH (cs := pL) rfl rfl pz.this (by decide +kernel)) rfl ⟨_, rfl, xz, ?_⟩
   have he : EO oa la ob lb = aX ob lb := by rw [EO, if_pos q0, if_neg q1]
   rw [CC (by rw [he]; exact q1), he]
   exact DelU.bad rfl
  ·have q1 : aX ob lb = 0 := by simpa using (by assumption : (!decide (aX ob lb = 0)) = false)
   ·have q2 : ¬ oa = ob := by simpa using (by assumption : (!decide (oa = ob)) = true)
    refine aQ (v := .agg pL.toArray) rfl (Runs.build0 (by kernel_rfl)) ?_
    refine aA ?_
    refine_lift aS ?_
    refine aC (v := .agg pL.toArray) rfl rfl rfl h9 (by decide +kernel) rfl (by decide +kernel) ?_
    intro wz pz
    have xz : Ext w wz := hx9.move pz.mv (by rintro k ⟨⟩; exact zz)
    refine_lift aS ?_
    refine bodyPost_ret (aH (cs := pL) rfl rfl pz.this (by decide +kernel)) rfl ⟨_, rfl, xz, ?_⟩
    have he : EO oa la ob lb = 1 := by rw [EO, if_pos q0, if_pos q1, if_neg q2]
    rw [CC (by rw [he]; decide), he]
    exact DelU.bad rfl
  ·have q1 : aX ob lb = 0 := by simpa using (by assumption : (!decide (aX ob lb = 0)) = false)
   have q2 : oa = ob := by simpa using (by assumption : (!decide (oa = ob)) = false)
   have he : EO oa la ob lb = 0 := by rw [EO, if_pos q0, if_pos q1, if_pos q2]
   refine cC (S := fun w' => Ext w9 w') (by decide +kernel) ?_
   intro w10 x10 hh10
   refine tk 0 ?_; refine aA ?_; refine tk 1 ?_; refine aA ?_; refine tk 3 ?_; refine aA ?_; refine tk 4 ?_; refine aA ?_
   refine aT (i := 2) (by decide +kernel) rfl rfl ?_
   refine aK (enters_of Tryz.func40 rfl rfl) rfl rfl (SX u la _ (hu.ext (hx9.trans x10)) (by omega)) ?_
   intro r1 w11 x11 o11
   refine aA ?_
   have x911 := x10.trans x11
   refine aJ ⟨x911, ?_⟩
   refine aT (i := 5) (by decide +kernel) rfl rfl ?_
   refine aK (enters_of Tryz.func40 rfl rfl) rfl rfl (SX v lb _ (hv.ext (hx9.trans x911)) (by omega)) ?_
   intro r2 w12 x12 o12
   refine aA ?_
   have x912 := x911.trans x12
   refine aJ ⟨x912, ?_⟩
   refine tk 6 ?_; refine aA ?_; refine tk 7 ?_; refine aA ?_
   refine cB (by decide +kernel) ?_
   have hx12 := hx9.trans x912
   have h12 := x912.at h9
   have sr1 := (o11.ext x12).sl
   have sr2 := o12.sl
   have pb12 := aE (x912.at b9)
   have pc12 := aE (x912.at c9)
   refine_lift bY fun _ _ => ?_
   refine cG 11 (Ext w12) (by decide +kernel) ?_
   intro w13 x13 _
   refine ⟨x13, ?_⟩
   refine eL 0 ?_; refine eL 1 ?_; refine eL 2 ?_; refine eL 3 ?_; refine eL 4 ?_; refine eL 5 ?_; refine eL 7 ?_; refine eL 8 ?_
   refine bV (i := 6) (by decide +kernel) rfl rfl ?_
   refine aK (enters_of Tryz.func97 rfl rfl) rfl rfl (GP r1 r2 _ _ _ (sr1.ext x13) (sr2.ext x13) (by omega)) ?_
   intro g w14 x14 og
   refine aA ?_
   have x1214 := x13.trans x14
   refine aJ ⟨dF x1214, ?_⟩
   refine bV (i := 9) (by decide +kernel) rfl rfl ?_
   refine aK (enters_of Tryz.func97 rfl rfl) rfl rfl (GP r2 r1 _ _ _ (sr2.ext x1214) (sr1.ext x1214) (by omega)) ?_
   intro n w15 x15 on
   refine aA ?_
   have x1215 := x1214.trans x15
   refine aJ ⟨dF x1215, ?_⟩
   have sg := (og.ext x15).sl
   have sn := on.sl
   refine bQ (i := 10) (v := .agg #[.int .i64 (aP oa la).serial, .int .i64 (aP ob lb).serial, g, n]) rfl rfl rfl (by decide +kernel) (by decide +kernel) (by decide +kernel) (by decide +kernel) rfl (fun w' _ => Runs.build rfl (by obtain ⟨_, _, _, rfl⟩ := sg.slf; obtain ⟨_, _, _, rfl⟩ := sn.slf; kernel_rfl)) (fun _ _ _ h => h) ?_
   refine aA ?_
   refine bV (i := 11) (by decide +kernel) rfl rfl ?_
   have h15 := x1215.at h12
   refine aC (v := .agg #[.int .i64 (aP oa la).serial, .int .i64 (aP ob lb).serial, g, n]) rfl rfl rfl h15 (show aO Tryz.prog 90 4 = true by decide +kernel) rfl (iM rfl rfl sg.one sn.one) ?_
   intro w16 p16
   refine aJ ⟨cJ rfl, ?_⟩
   refine iN 12 ?_
   refine cZ (by decide +kernel) ?_
   have x16 : Ext w w16 := (hx12.trans x1215).move p16.mv (by rintro k ⟨⟩; exact zz)
   refine_lift aS ?_
   refine bodyPost_ret (aH (cs := [.int .i64 (aP oa la).serial, .int .i64 (aP ob lb).serial, g, n]) rfl rfl p16.this (show dY Tryz.prog 90 4 = true by decide +kernel)) rfl ⟨_, rfl, x16, ?_⟩
   have hd : uG oa la ob lb = ⟨(aP oa la).serial, (aP ob lb).serial, cW (aF la) (aF lb), cW (aF lb) (aF la)⟩ := by rw [uG, if_pos he]
   rw [hd, he]
   exact ⟨_, rfl, g, n, rfl, (og.ext x15).mv p16.mv (.inr ((og.ext x15).neBlock h15 (by decide))) |>.weaken (hx12.trans x13).size, on.mv p16.mv (.inr (on.neBlock h15 (by decide))) |>.weaken (hx12.trans x1214).size⟩
end Go.Proofs.X
