/- Laws and walks that the proof of the statement is made of (part 10). -/
import Derived.Test.YteofaejlmdplhaaGreatP9
set_option linter.unusedSimpArgs false
set_option linter.unusedVariables false
namespace Go.Proofs.X
open Go.RowKit
set_option maxRecDepth 100000
theorem qR {k : Nat} {c : Value} : ∀ (es : List (List Value)) (i j : Nat) (e : List Value), (∀ x ∈ es, x.length = k) → es[i]? = some e → j < k → (es.set i (e.set j c)).flatten = es.flatten.set (i * k + j) c
 | [], i, _, _, _, hi, _ => by simp at hi
 | x :: es, 0, j, e, hall, hi, hj => by
   have hx := hall x (by simp)
   cases hi
   simp only [List.set_cons_zero, List.flatten_cons, Nat.zero_mul, Nat.zero_add]
   rw [List.set_append_left _ _ (by omega)]
 | x :: es, i + 1, j, e, hall, hi, hj => by
   have hx := hall x (by simp)
   simp only [List.set_cons_succ, List.flatten_cons]
   rw [qR es i j e (fun y hy => hall y (by simp [hy])) (by simpa using hi) hj]
   rw [List.set_append_right _ _ (by rw [Nat.add_mul]; omega), show (i + 1) * k + j - x.length = i * k + j by rw [hx, Nat.add_mul]; omega]
theorem Own.storeF {P : Program} {B k e : Nat} {w : World} {v : Value} {es : List (List Value)} {t : TypeId} {i j : Nat} {ce : List Value} {c : Value} (h : Own B k e w v es) (hi : es[i]? = some ce) (hj : j < k) (hs : aO P t 1 = true) (h1 : c.oneCell' = true) :
 ∃ w' b o, bR (bW v (i * k)) j = .pointer (some ⟨b, o, none⟩) ∧ (storeVar t ⟨b, o, none⟩ c).run P w = .ok () w' ∧ Own B k e w' v (es.set i (ce.set j c)) ∧ Mv v.ownBlock w w' := by
 have hil := (List.getElem?_eq_some_iff.1 hi).1
 have hce : ce.length = k := h.each ce (List.mem_of_getElem? hi)
 have hcc : c.cells = #[c] := by cases c <;> first | rfl | cases h1
 rcases h.row.2 with ⟨rfl, h0⟩ | ⟨g, cap, cur, fz, rfl, hb, hg, hfz, hnc, hcm, hcs, htake⟩
 ·omega
 ·have hl := aV h.each
  have hik : i * k + k ≤ es.length * k := by
   have : (i + 1) * k ≤ es.length * k := Nat.mul_le_mul_right k hil
   rwa [Nat.add_mul, Nat.one_mul] at this
  have hck : es.length * k ≤ cap * k := Nat.mul_le_mul_right k hnc
  have hst := cU P g (i * k + j) e fz [c] 0 cur w hg hfz (by simp; omega) (by simpa using h1)
  simp only [Nat.add_zero, List.length_cons, List.length_nil, Nat.zero_add] at hst
  have hset : cur.toList.take (i * k + j) ++ [c] ++ cur.toList.drop (i * k + j + 1) = cur.toList.set (i * k + j) c := by
   rw [List.set_eq_take_append_cons_drop, if_pos (by simp; omega)]; simp
  rw [hset] at hst
  obtain ⟨ti, hq, hsz⟩ := lD (fI hs)
  have hall : ∀ x ∈ es.set i (ce.set j c), x.length = k := by
   intro x hx
   rcases List.mem_or_eq_of_mem_set hx with hx | rfl
   ·exact h.each x hx
   ·simpa using hce
  refine ⟨w.setRow g (cur.toList.set (i * k + j) c).toArray, g, i * k + j, by simp [bW, bR, cO], ?_, ⟨⟨?_, .inr ⟨g, cap, (cur.toList.set (i * k + j) c).toArray, fz, ?_, hb, setRow_heap w g cur _ e _ hg, ?_, ?_, hcm, ?_, ?_⟩⟩, hall⟩, ⟨rfl, rfl, rfl, by simp, fun k _ hk => setRow_other w g k _ (fun e => hk (by simp [Value.ownBlock, e])), Nat.le_refl _⟩⟩
  ·simpa [storeVar, sizeOf, typeInfo, hq, hsz, hcc] using hst
  ·rw [aV hall]
  ·simp
  ·simpa using hfz
  ·simpa using hnc
  ·simpa using hcs
  ·rw [qR es i j ce h.each hi hj, ← htake]
   simp only [List.length_set, List.take_set]
section
variable {P : Program} {ops : Array Oper} {Q : Exit → Act → World → Prop} {w : World} {rest : List Oper} {ts : List Value} {df : List Deferred} {ty : TypeId} {ps : String} {af : Array Edge} {g : Option (Nat × Bool)}
theorem kH {B k e : Nat} {v c : Value} {es : List (List Value)} {ce : List Value} {t ty2 : TypeId} {x y : Operand} {i j : Nat} (hw : Region.wanted (Oper.mk none (.store t x y) ty2 ps af g) (yielded ops ts.toArray) = true)
 (hx : (Act.mk ts.toArray df).eval x = bR (bW v (i * k)) j) (hy : (Act.mk ts.toArray df).eval y = c) (h : Own B k e w v es) (hi : es[i]? = some ce) (hj : j < k) (hs : aO P t 1 = true) (h1 : c.oneCell' = true)
 (hk : ∀ w', Own B k e w' v (es.set i (ce.set j c)) → Mv v.ownBlock w w' → wpList P ops Q rest (Act.mk ts.toArray df) w') : wpList P ops Q (Oper.mk none (.store t x y) ty2 ps af g :: rest) (Act.mk ts.toArray df) w := by
 obtain ⟨w', b, o, he, hr, ho, hm⟩ := h.storeF (P := P) hi hj hs h1
 refine fJ hw (w' := w') ?_ (hk w' ho hm)
 simp [execOp, hx, hy, he, Instr.storeAt, Instr.sureAddr, hr]
end
structure SetsW (B : Nat) (w : World) (css : List (List Value)) (l : List RSet) : Prop where
 len : css.length = l.length
 at' : ∀ (i : Nat) (s : RSet), l[i]? = some s → ∃ x, css[i]? = some [aH s.name, .int .i64 s.kind, .int .i64 s.ttl, x] ∧ Own B 1 9 w x (aM s.data)
theorem SetsW.sets {B : Nat} {w : World} {css : List (List Value)} {l : List RSet} (h : SetsW B w css l) : SetsC w css l :=
 ⟨h.len, fun i s hi => let ⟨x, a, b⟩ := h.at' i s hi; ⟨x, a, b.sl⟩⟩
theorem SetsW.ext {B : Nat} {w w' : World} {css : List (List Value)} {l : List RSet} (h : SetsW B w css l) (hx : Ext w w') : SetsW B w' css l :=
 ⟨h.len, fun i s hi => let ⟨x, a, b⟩ := h.at' i s hi; ⟨x, a, b.ext hx⟩⟩
theorem SetsW.mv {B B' k' e' : Nat} {w w' : World} {css : List (List Value)} {l : List RSet} {v : Value} {es : List (List Value)} (h : SetsW B w css l) (ho : Own B' k' e' w v es) (he : 9 ≠ e') (hm : Mv v.ownBlock w w') : SetsW B w' css l :=
 ⟨h.len, fun i s hi => let ⟨x, a, b⟩ := h.at' i s hi; ⟨x, a, b.mv hm (b.ne ho he)⟩⟩
theorem SetsW.put {B b t : Nat} {w w' : World} {css : List (List Value)} {l : List RSet} {cs : Array Value} {fz : Nat × Nat} {o : Obj} (h : SetsW B w css l) (hb : w.heap[b]? = some (.cells cs t fz)) (ht : t ≠ 9) (hp : Put w w' b o) : SetsW B w' css l :=
 ⟨h.len, fun i s hi => let ⟨x, a, c⟩ := h.at' i s hi; ⟨x, a, c.mv hp.mv (.inr (c.neBlock hb ht))⟩⟩
theorem SetsW.weaken {B C : Nat} {w : World} {css : List (List Value)} {l : List RSet} (h : SetsW B w css l) (hc : C ≤ B) : SetsW C w css l :=
 ⟨h.len, fun i s hi => let ⟨x, a, b⟩ := h.at' i s hi; ⟨x, a, b.weaken hc⟩⟩
theorem SetsW.append {B : Nat} {w : World} {l m : List RSet} {c d : List (List Value)} (h : SetsW B w c l) (k : SetsW B w d m) : SetsW B w (c ++ d) (l ++ m) := by
 refine ⟨by rw [List.length_append, List.length_append, h.len, k.len], fun i s hi => ?_⟩
 rw [List.getElem?_append] at hi ⊢
 rw [h.len]
 split at hi
 ·rw [if_pos ‹_›]; exact h.at' i s hi
 ·rw [if_neg ‹_›]; exact k.at' _ s hi
theorem SetsW.one {B : Nat} {w : World} {s : RSet} {x : Value} (h : Own B 1 9 w x (aM s.data)) : SetsW B w [[aH s.name, .int .i64 s.kind, .int .i64 s.ttl, x]] [s] :=
 ⟨rfl, fun i t hi => by
  match i, hi with
  | 0, hi => cases hi; exact ⟨x, rfl, h⟩⟩
theorem SetsW.nil (B : Nat) (w : World) : SetsW B w [] [] := ⟨rfl, by simp⟩
theorem SetsW.from' {B C : Nat} {w : World} {css : List (List Value)} {l : List RSet} (h : SetsW B w css l) (hc : C ≤ B) : FromC C css := by
 intro f hf u hu
 obtain ⟨i, hi, rfl⟩ := List.mem_iff_getElem.1 hf
 obtain ⟨x, h1, h2⟩ := h.at' i _ (List.getElem?_eq_getElem (by rw [← h.len]; exact hi))
 rw [List.getElem?_eq_getElem hi] at h1
 rw [Option.some.inj h1] at hu
 exact (FromC.one (h2.from' hc)) _ (List.mem_singleton.2 rfl) u hu
structure SetsV (B : Nat) (w : World) (v : Value) (l : List RSet) : Prop where
 out : ∃ css, Own B 4 119 w v css ∧ SetsW B w css l
theorem SetsV.toO {B C : Nat} {w : World} {v : Value} {l : List RSet} (h : SetsV B w v l) (hc : C ≤ B) : SetsO C w v l := by
 obtain ⟨css, h1, h2⟩ := h
 exact ⟨css, h1.sl, h1.from' hc, h2.sets, h2.from' hc⟩
theorem SetsV.ext {B : Nat} {w w' : World} {v : Value} {l : List RSet} (h : SetsV B w v l) (hx : Ext w w') : SetsV B w' v l := by
 obtain ⟨css, h1, h2⟩ := h
 exact ⟨css, h1.ext hx, h2.ext hx⟩
theorem SetsV.weaken {B C : Nat} {w : World} {v : Value} {l : List RSet} (h : SetsV B w v l) (hc : C ≤ B) : SetsV C w v l := by
 obtain ⟨css, h1, h2⟩ := h
 exact ⟨css, h1.weaken hc, h2.weaken hc⟩
theorem SetsV.put {B b t : Nat} {w w' : World} {v : Value} {l : List RSet} {cs : Array Value} {fz : Nat × Nat} {o : Obj} (h : SetsV B w v l) (hb : w.heap[b]? = some (.cells cs t fz)) (ht : t ≠ 9) (ht2 : t ≠ 119) (hp : Put w w' b o) : SetsV B w' v l := by
 obtain ⟨css, h1, h2⟩ := h
 exact ⟨css, h1.mv hp.mv (.inr (h1.neBlock hb ht2)), h2.put hb ht hp⟩
theorem SetsV.slf {B : Nat} {w : World} {v : Value} {l : List RSet} (h : SetsV B w v l) : ∃ a n c, v = .slice a n c := by
 obtain ⟨css, h1, h2⟩ := h
 exact h1.sl.slf
set_option maxHeartbeats 6000000 in
theorem HN (v : Value) (l : List RSet) (w : World) (hv : SetsAt w v l) (hl : l.length ≤ 100000) (hb : ∀ s ∈ l, s.data.length ≤ 1000000) : Calls Tryz.prog 56 #[v] w (jI w fun r w' => SetsV w.heap.size w' r l) := by
 obtain ⟨cv, hv1, hvl⟩ := hv.sl
 have hle := hv1.le
 go_enter Tryz.func56, Tryz.ntmps56
 refine_lift jY ?_; intro _ _ _
 go_loopw [3, 4] (fun o i wr => ∃ (k : Nat) (css : List (List Value)), k ≤ l.length ∧ i = .int .i64 k ∧ Ext w wr ∧ Own w.heap.size 4 119 wr o css ∧ SetsW w.heap.size wr css (l.take k)) (fun _ i _ => l.length - (intOf i).toNat)
 case atStart => exact ⟨0, [], Nat.zero_le _, rfl, Ext.refl _, Own.nil _ _ _ _, SetsW.nil _ _⟩
 case round =>
  obtain ⟨k, css, hk, rfl, hx, ho, hs⟩ := hrel
  have hv2 := hv1.ext hx
  have hsl := hs.len
  rw [List.length_take] at hsl
  by_cases hlt : k < l.length
  ·obtain ⟨x, h4, h4d⟩ := (hv.ext hx).elem (List.getElem?_eq_getElem hlt)
   refine_lift gO ?_; intro _ _ _ _
   refine aL (enters_of Tryz.func105 rfl rfl) rfl rfl (FP l[k] x _ h4d (hb _ (List.getElem_mem hlt))) ?_
   intro r2 w2 x2 hr2
   obtain ⟨y, rfl, oy⟩ := hr2
   have hx2 := hx.trans x2
   have ho2 := ho.ext x2
   have hs2 := hs.ext x2
   have oy := oy.weaken hx.size
   refine aA ?_
   refine_lift aR ?_
   refine DY [aH l[k].name, .int .i64 l[k].kind, .int .i64 l[k].ttl, y] hx2 ho2 (by omega) ?_ (by exact ⟨rfl, rfl, rfl, by intro u hu; simp only [List.mem_cons, List.not_mem_nil, or_false] at hu; rcases hu with rfl | rfl | rfl | rfl <;> first | rfl | exact oy.one⟩)
   intro s3 v3 w3 w4 x3 m4 x4 o4
   refine aA ?_
   have oy4 := (oy.ext x3).mv m4 ((oy.ext x3).ne (ho2.ext x3) (by decide))
   have hs4 := (hs2.ext x3).mv (ho2.ext x3) (by decide) m4
   refine_lift aR ?_
   refine ⟨⟨k + 1, _, by omega, by go_num, x4, o4, ?_⟩, by simp [intOf]; omega⟩
   rw [List.take_add_one, List.getElem?_eq_getElem hlt]
   exact hs4.append (SetsW.one oy4)
  ·have : k = l.length := by omega
   subst this
   rw [List.take_length] at hs
   refine_lift fH fun _ => ?_
   go_ret
   exact ⟨_, rfl, hx, css, ho, hs⟩
set_option maxHeartbeats 6000000 in
theorem tH (o : List UInt8) (v : Value) (l : List RSet) (w : World) (hv : SetsAt w v l) (hl : l.length ≤ 100000) (hb : ∀ s ∈ l, s.data.length ≤ 1000000) : Calls Tryz.prog 20 #[.agg #[aH o, v]] w (jI w fun r w' => ∃ y, r = .agg #[aH o, y] ∧ SetsV w.heap.size w' y l) := by
 go_enter Tryz.func20, Tryz.ntmps20
 refine_lift tC ?_; intro _ _ _
 refine aZ (vs := [aH o, v]) rfl rfl ?_
 intro p w1 x1 hp
 refine aA ?_
 refine aG (z := aN) rfl (by decide +kernel) ?_
 intro w2 x2 s2 h2
 refine aA ?_
 have hp2 := hp.ext x2
 have hx2 := x1.trans x2
 have hv2 := hv.ext hx2
 have z1 := x1.size
 refine_lift bX fun _ _ => ?_
 refine cL (S := fun w' => Ext w1 w') (by decide +kernel) ?_
 intro w3 x3 hh3
 have hp3 := hp2.ext x3
 have hS3 : Ext w1 w3 := x2.trans x3
 refine tk 0 ?_ (hS := hS3) (hy := by intro w9 hS9; exact Runs.fieldTn (hp.ext hS9) (by decide +kernel)); refine aA ?_
 refine tk 1 ?_ (hS := hS3) (hy := by intro w9 hS9; have := hp.ext hS9; exact rn); refine aA ?_
 refine tk 2 ?_ (hS := hS3) (hy := by intro w9 hS9; have := hp.ext hS9; exact rn); refine aA ?_
 refine tk 3 ?_ (hS := hS3) (hy := by intro w9 hS9; have := hp.ext hS9; exact rn); refine aA ?_
 refine aT (i := 4) (by decide +kernel) rfl rfl ?_
 refine aL (enters_of Tryz.func56 rfl rfl) rfl rfl (HN v l _ (hv2.ext x3) hl hb) ?_
 intro y w4 x4 hy
 refine aA ?_
 have hS4 := hS3.trans x4
 refine aI ⟨hS4, ?_⟩
 obtain ⟨ya, yn, yc, hys⟩ := hy.slf
 have hy1 : y.oneCell' = true := by rw [hys]; rfl
 refine bO (i := 5) (v := .agg #[aH o, y]) rfl rfl (by decide +kernel) (by decide +kernel) (by decide +kernel) rfl hS4 (fun w' _ => Runs.build (vals := [(0, aH o), (1, y)]) rfl (by rw [hys]; kernel_rfl)) (fun _ _ _ h => h) ?_
 refine aA ?_
 refine aT (i := 6) (by decide +kernel) rfl rfl ?_
 have h4 := (x3.trans x4).at h2
 refine aC (v := .agg #[aH o, y]) rfl rfl rfl h4 (show aO Tryz.prog 25 2 = true by decide +kernel) rfl (bM hy1) ?_
 intro w5 p5
 have hS5 : Ext w1 w5 := hS4.move p5.mv (by rintro k ⟨⟩; exact Nat.le_refl _)
 have hy5 := hy.put h4 (by decide) (by decide) p5
 refine aI ⟨hS5, ?_⟩
 refine cS (by decide +kernel) ?_
 refine_lift aR ?_
 refine bodyPost_ret (fC (cs := [aH o, y]) rfl rfl p5.this (show dQ Tryz.prog 25 2 = true by decide +kernel)) rfl ⟨_, rfl, x1.trans hS5, y, rfl, hy5.weaken (Nat.le_trans z1 hS3.size)⟩
set_option maxHeartbeats 6000000 in
theorem CU (v : Value) (css : List (List Value)) (w : World) (hv : Sl 4 w v css) (h1 : ∀ f ∈ css, ∀ u ∈ f, u.oneCell' = true) (hl : css.length ≤ 1000000) : Calls Tryz.prog 87 #[v] w (jI w fun v' w' => Own w.heap.size 4 119 w' v' css) := by
 go_enter Tryz.func87, Tryz.ntmps87
 (repeat' first | ((with_reducible refine cW ?_); go_step) | ((with_reducible refine bQ ?_); first | refine fD ?_ | (refine dH ?_ ?_ <;> intro hc)) | fail)
 ·have hn := ‹tO v = true›
  go_ret
  have : css = [] := hv.isNil hn
  refine ⟨_, rfl, Ext.refl _, ?_⟩
  rw [this]
  exact Own.nil _ _ _ _
 ·refine jQ (t := 23) (e := 119) (k := 4) (bytes := 56) (by decide +kernel) rfl ?_
  intro v2 w2 x2 s2 o2
  refine aA ?_
  refine_lift aR ?_
  refine cK (B := w.heap.size) (e := 119) rfl o2 rfl (hv.ext x2) h1 x2.size (by simp; omega) ?_
  intro v3 w3 o3 m3 _
  have x3 := o2.mvx m3 x2 (Nat.le_refl _)
  refine aA ?_
  refine_lift aR ?_
  go_ret
  exact ⟨_, rfl, x3, by simpa using o3⟩
def oR (s : SoaR) (n : Int) : SoaR := { s with serial := n }
def wW (o : List UInt8) (l : List RSet) (n : Int) : Int := if aW o l = 0 then (if (oR (aS o l) n).ok = true then 0 else 1) else aW o l
def MF (o : List UInt8) (l : List RSet) (n : Int) : List UInt8 := (oR (aS o l) n).data
def lT (d : List UInt8) (s : RSet) : RSet := if s.kind = 6 then ⟨s.name, s.kind, s.ttl, [d]⟩ else s
def MG (o : List UInt8) (l : List RSet) (n : Int) : List RSet := if wW o l n = 0 then l.map (lT (MF o l n)) else []
def MH (o : List UInt8) (l : List RSet) (n : Int) : List UInt8 := if wW o l n = 0 then o else []
def RenU (B : Nat) (o : List UInt8) (l : List RSet) (n : Int) (r : Value) (w' : World) : Prop :=
 ∃ v, r = .tuple #[.agg #[aH (MH o l n), v], .int .i64 (wW o l n)] ∧ SetsO B w' v (MG o l n)
theorem RenU.bad {B : Nat} {o : List UInt8} {l : List RSet} {n e : Int} {w' : World} (h : wW o l n = e) (he : e ≠ 0) : RenU B o l n (.tuple #[.agg aN.toArray, .int .i64 e]) w' := by
 refine ⟨.slice none 0 0, ?_, ?_⟩
 ·rw [h, MH, if_neg (by rw [h]; exact he)]; rfl
 ·rw [MG, if_neg (by rw [h]; exact he)]; exact SetsO.nil _ _
theorem RenU.good {B : Nat} {o : List UInt8} {l : List RSet} {n : Int} {v : Value} {w' : World} (h : wW o l n = 0) (hv : SetsO B w' v (l.map (lT (MF o l n)))) : RenU B o l n (.tuple #[.agg #[aH o, v], .int .i64 0]) w' := by
 refine ⟨v, ?_, ?_⟩
 ·rw [MH, if_pos h, h]
 ·rw [MG, if_pos h]; exact hv
theorem JY {o : List UInt8} {l : List RSet} : (aS o l).main.length ≤ 4611686018427387904 ∧ (aS o l).mail.length ≤ 4611686018427387904 := by
 unfold aS
 split
 ·rename_i q
  obtain ⟨s, _, _, _, _, _, _, h⟩ := (gF q).soaSet
  obtain ⟨h1, h2⟩ := lM (gZ o l)
  obtain ⟨h3, h4⟩ := lM (bS (gZ o l)).2.1
  exact ⟨by show (bS (gZ o l)).1.length ≤ _; omega, by show (bS (bS (gZ o l)).2.1).1.length ≤ _; omega⟩
 ·exact ⟨by simp [zR], by simp [zR]⟩
theorem ZoneOk.one6 {o : List UInt8} {l : List RSet} (h : ZoneOk o l) {s : RSet} (hs : s ∈ l) (h6 : s.kind = 6) : s.name = o ∧ s.data.length = 1 := by
 have hr := h.right s hs
 simp only [dC, Bool.and_eq_true, Bool.not_eq_true', h6] at hr
 have := hr.1.1.2
 simp only [decide_true, Bool.true_and, Bool.or_eq_false_iff, decide_eq_false_iff_not, ne_eq, Decidable.not_not] at this
 exact this
theorem AI {d : List UInt8} {s : RSet} (h : ¬ s.kind = 6) : lT d s = s := by rw [lT, if_neg h]
theorem vE {d : List UInt8} {s : RSet} (h : s.kind = 6) : lT d s = ⟨s.name, s.kind, s.ttl, [d]⟩ := by rw [lT, if_pos h]
theorem SetsW.set {B : Nat} {w : World} {css : List (List Value)} {l : List RSet} (h : SetsW B w css l) {i : Nat} {s : RSet} {x : Value} (hx : Own B 1 9 w x (aM s.data)) : SetsW B w (css.set i [aH s.name, .int .i64 s.kind, .int .i64 s.ttl, x]) (l.set i s) := by
 refine ⟨by rw [List.length_set, List.length_set, h.len], fun j t hj => ?_⟩
 by_cases e : i = j
 ·subst e
  have hlt : i < l.length := by have := (List.getElem?_eq_some_iff.1 hj).1; simpa using this
  rw [List.getElem?_set_self hlt] at hj
  cases hj
  exact ⟨x, List.getElem?_set_self (by rw [h.len]; exact hlt), hx⟩
 ·rw [List.getElem?_set_ne e] at hj
  rw [List.getElem?_set_ne e]
  exact h.at' j t hj
structure SetsM (B : Nat) (w0 w : World) (css0 css : List (List Value)) (l : List RSet) (d : List UInt8) (k : Nat) : Prop where
 len : css.length = l.length
 new : ∀ (i : Nat) (s : RSet), l[i]? = some s → i < k → ∃ x, css[i]? = some [aH s.name, .int .i64 s.kind, .int .i64 s.ttl, x] ∧ Own B 1 9 w x (aM (lT d s).data)
 old : ∀ i, k ≤ i → css[i]? = css0[i]?
theorem SetsM.ext {B : Nat} {w0 w w' : World} {css0 css : List (List Value)} {l : List RSet} {d : List UInt8} {k : Nat} (h : SetsM B w0 w css0 css l d k) (hx : Ext w w') : SetsM B w0 w' css0 css l d k :=
 ⟨h.len, fun i s hi hk => let ⟨x, a, b⟩ := h.new i s hi hk; ⟨x, a, b.ext hx⟩, h.old⟩
theorem SetsM.mv {B : Nat} {w0 w w' : World} {css0 css : List (List Value)} {l : List RSet} {d : List UInt8} {k : Nat} {row : Option Nat} (h : SetsM B w0 w css0 css l d k) (hm : Mv row w w') (hne : ∀ x es, Own B 1 9 w x es → x.ownBlock = none ∨ x.ownBlock ≠ row) : SetsM B w0 w' css0 css l d k :=
 ⟨h.len, fun i s hi hk => let ⟨x, a, b⟩ := h.new i s hi hk; ⟨x, a, b.mv hm (hne x _ b)⟩, h.old⟩
theorem SetsM.step {B : Nat} {w0 w : World} {css0 css : List (List Value)} {l : List RSet} {d : List UInt8} {k : Nat} (h : SetsM B w0 w css0 css l d k) (hk : k < l.length) {y : Value} (hy : Own B 1 9 w y (aM (lT d l[k]).data)) :
 SetsM B w0 w css0 (css.set k [aH l[k].name, .int .i64 l[k].kind, .int .i64 l[k].ttl, y]) l d (k + 1) := by
 refine ⟨by rw [List.length_set, h.len], fun i s hi hik => ?_, fun i hi => ?_⟩
 ·by_cases e : k = i
  ·subst e
   rw [List.getElem?_eq_getElem hk] at hi
   cases hi
   exact ⟨y, List.getElem?_set_self (by rw [h.len]; exact hk), hy⟩
  ·obtain ⟨x, a, b⟩ := h.new i s hi (by omega)
   exact ⟨x, by rw [List.getElem?_set_ne e]; exact a, b⟩
 ·rw [List.getElem?_set_ne (by omega)]; exact h.old i (by omega)
theorem HO {d : List UInt8} {s : RSet} : (lT d s).name = s.name ∧ (lT d s).kind = s.kind ∧ (lT d s).ttl = s.ttl := by
 unfold lT; split <;> exact ⟨rfl, rfl, rfl⟩
theorem SetsM.done {B : Nat} {w0 w : World} {css0 css : List (List Value)} {l : List RSet} {d : List UInt8} (h : SetsM B w0 w css0 css l d l.length) : SetsW B w css (l.map (lT d)) := by
 refine ⟨by rw [List.length_map, h.len], fun i s hi => ?_⟩
 rw [List.getElem?_map] at hi
 cases hq : l[i]? with
 | none => rw [hq] at hi; cases hi
 | some t =>
  rw [hq] at hi
  cases hi
  obtain ⟨x, a, b⟩ := h.new i t hq (List.getElem?_eq_some_iff.1 hq).1
  obtain ⟨e1, e2, e3⟩ := HO (d := d) (s := t)
  exact ⟨x, by rw [e1, e2, e3]; exact a, b⟩
set_option maxHeartbeats 6000000 in
theorem MI (o : List UInt8) (v : Value) (l : List RSet) (n : Int) (w : World) (hv : SetsAt w v l) (hl : l.length ≤ 100000) (hb : ∀ s ∈ l, s.data.length ≤ 1000000) (hd : ∀ s ∈ l, ∀ d ∈ s.data, d.length ≤ 4611686018427387904) : Calls Tryz.prog 38 #[.agg #[aH o, v], .int .i64 n] w (jI w (RenU w.heap.size o l n)) := by
 obtain ⟨hm1, hm2⟩ := JY (o := o) (l := l)
 have hsoa : ∀ w', Calls Tryz.prog 86 #[.agg (oR (aS o l) n).cells.toArray] w' (bE w' (if (oR (aS o l) n).ok = true then .tuple #[aH (oR (aS o l) n).data, .int .i64 0] else .tuple #[aH [], .int .i64 1])) := fun w' => TN (oR (aS o l) n) w' hm1 hm2
 clear hm1 hm2
 go_enter Tryz.func38, Tryz.ntmps38
 refine_lift hY fun _ _ => ?_
 refine eD (vs := [aH o, v]) rfl rfl ?_
 intro w1 x1 s1 hz1
 refine aA ?_
 refine aG (z := aN) rfl (by decide +kernel) ?_
 intro w2 x2 s2 h2
 refine aA ?_
 have hz2 := x2.at hz1
 have hx2 := x1.trans x2
 have hv2 := hv.ext hx2
 have z1 := x1.size
 have hp2 := aE hz2
 refine_lift bX fun _ _ => ?_
 refine aB (enters_of Tryz.func31 rfl rfl) rfl rfl (qO o v l _ hv2 hb hd) ?_; intro w3 x3; refine aA ?_
 have hx3 := hx2.trans x3
 have hz3 := x3.at hz2
 have h3 := x3.at h2
 have hp3 := hp2.ext x3
 refine_lift aR ?_
 refine aG (z := aU) rfl (by decide +kernel) ?_
 intro w4 x4 s4 h4
 refine aA ?_
 refine aC (v := .agg (aS o l).cells.toArray) rfl rfl rfl h4 (show aO Tryz.prog 67 7 = true by decide +kernel) rfl (dG _) ?_
 intro w5 p5
 have x5 : Ext w3 w5 := x4.move p5.mv (by rintro k ⟨⟩; exact Nat.le_refl _)
 have hb5 : w5.heap[w3.heap.size]? = some (.cells (aS o l).cells.toArray 67 (0, 0)) := p5.this
 have hx5 := hx3.trans x5
 have hp5 := hp3.ext x5
 have h5 := x5.at h3
 have hz5 := x5.at hz3
 have z3 := x3.size
 have z2 := x2.size
 clear p5 h4 x4
 refine_lift qE (fun _ _ _ => ?_) (fun _ _ _ _ _ => ?_)
 ·have q : ¬ aW o l = 0 := by simpa using (by assumption : (!decide (aW o l = 0)) = true)
  refine aQ (v := .agg aN.toArray) rfl (Runs.build0 (by kernel_rfl)) ?_
  refine aA ?_
  refine_lift aR ?_
  refine aC (v := .agg aN.toArray) rfl rfl rfl h5 (by decide +kernel) rfl (by decide +kernel) ?_
  intro w6 p6
  have x6 : Ext w w6 := hx5.move p6.mv (by rintro k ⟨⟩; exact z1)
  refine_lift aR ?_
  refine bodyPost_ret (aF (cs := aN) rfl rfl p6.this (by decide +kernel)) rfl ⟨_, rfl, x6, ?_⟩
  exact RenU.bad (by rw [wW, if_neg q]) q
 ·have q : aW o l = 0 := by simpa using (by assumption : (!decide (aW o l = 0)) = false)
  have hone : ∀ s ∈ l, s.kind = 6 → s.data.length = 1 := fun s hs h6 => ((gF q).one6 hs h6).2
  have hp5s := aE hb5
  refine_lift aR ?_
  refine dF (n := 2) hb5 rfl rfl rfl (by simp [SoaR.cells]) (by decide +kernel) rfl ?_
  intro w6 p6
  have x6 : Ext w3 w6 := x5.move p6.mv (by rintro k ⟨⟩; exact Nat.le_refl _)
  have hb6 : w6.heap[w3.heap.size]? = some (.cells (oR (aS o l) n).cells.toArray 67 (0, 0)) := p6.this
  have hx6 := hx3.trans x6
  have h6 := x6.at h3
  have hz6 := x6.at hz3
  clear p6 hb5 hp5s x5 hp5 h5 hz5
  have hren : wW o l n = if (oR (aS o l) n).ok = true then 0 else 1 := by rw [wW, if_pos q]
  have hrd : MF o l n = (oR (aS o l) n).data := rfl
  generalize oR (aS o l) n = sn at *
  have hp6s := aE (cs := [aH sn.main, aH sn.mail, .int .i64 sn.serial, .int .i64 sn.refresh, .int .i64 sn.retry, .int .i64 sn.expire, .int .i64 sn.minimum]) hb6
  refine_lift bX fun _ _ => ?_
  refine aB (enters_of Tryz.func86 rfl rfl) rfl rfl (hsoa _) ?_; intro w7 x7; refine aA ?_
  have hx7 := hx6.trans x7
  have hz7 := x7.at hz6
  have h7 := x7.at h6
  cases hok : sn.ok with
  | false =>
   rw [hok] at hren
   refine_lift OE fun _ _ _ _ _ => ?_
   refine aQ (v := .agg aN.toArray) rfl (Runs.build0 (by kernel_rfl)) ?_
   refine aA ?_
   refine_lift aR ?_
   refine aC (v := .agg aN.toArray) rfl rfl rfl h7 (by decide +kernel) rfl (by decide +kernel) ?_
   intro w8 p8
   have x8 : Ext w w8 := hx7.move p8.mv (by rintro k ⟨⟩; exact z1)
   refine_lift aR ?_
   refine bodyPost_ret (aF (cs := aN) rfl rfl p8.this (by decide +kernel)) rfl ⟨_, rfl, x8, ?_⟩
   exact RenU.bad (by rw [hren]; rfl) (by decide)
  | true =>
   rw [hok] at hren
   have hren : wW o l n = 0 := hren
   rw [← hrd]
   generalize hgd : MF o l n = d at *
   clear hsoa hp6s hb6 hrd
   obtain ⟨css0, hv0, hvs⟩ := hv.rows
   have hp7 := aE hz7
   have hvs7 := hvs.ext hx7
   refine_lift bX fun _ _ => ?_
   refine aL (enters_of Tryz.func87 rfl rfl) rfl rfl (CU v css0 _ (hv0.ext hx7) hvs7.cell (by rw [hvs.len]; omega)) ?_
   intro y w8 x8 ho8
   have hx8 := hx7.trans x8
   have h8 := x8.at h7
   have hz8 := x8.at hz7
   have hp8 := aE hz8
   refine aA ?_
   refine_lift aR ?_
   refine dF (n := 1) hz8 rfl rfl rfl (by simp) (by decide +kernel) ho8.one ?_
   intro w9 p9
   have hx9 : Ext w w9 := hx8.move p9.mv (by rintro k ⟨⟩; exact Nat.le_refl _)
   have hz9 : w9.heap[w.heap.size]? = some (.cells [aH o, y].toArray 25 (0, 0)) := p9.this
   have h9 := p9.at h8 (by omega)
   have ho9 := ho8.mv p9.mv (.inr (ho8.neBlock hz8 (by decide)))
   have hzB : w1.heap.size < w7.heap.size := by have a1 := x2.size; have a2 := x3.size; have a3 := x6.size; have a4 := x7.size; have a5 := s2; omega
   have hzW := hx7.size
   have hB9 : w7.heap.size ≤ w9.heap.size := by have a1 := x8.size; have a2 := p9.size; omega
   have hne : w.heap.size ≠ w1.heap.size := by omega
   have hsl9 := ho9.sl
   have hlen0 := hvs.len
   have hpz9 := aE hz9
   clear p9 hz8 hp8 h8 ho8 hz7 hp7 h7 hz6 h6 hz3 h3 hp3 hp2 hz2 hz1 h2
   refine_lift bX fun _ _ => ?_
   generalize hrb : w1.heap.size = rb at *
   generalize w7.heap.size = B at *
   clear hpz9 hsl9 hvs7
   go_loopw [9, 10, 38] (fun _ _ i wr => ∃ (k : Nat) (css : List (List Value)), k ≤ l.length ∧ i = .int .i64 k ∧ Ext w wr ∧ B ≤ wr.heap.size ∧ wr.heap[w.heap.size]? = some (.cells [aH o, y].toArray 25 (0, 0)) ∧ wr.heap[rb]? = some (.cells aN.toArray 25 (0, 0)) ∧ Own B 4 119 wr y css ∧ SetsM B w wr css0 css l d k) (fun _ _ i _ => l.length - (intOf i).toNat)
   case atStart => exact ⟨0, css0, Nat.zero_le _, rfl, hx9, hB9, hz9, h9, ho9, ⟨hlen0, by omega, fun i _ => rfl⟩⟩
   case round =>
    obtain ⟨k, css, hk, rfl, hx, hBr, hbz, hbr, ho, hs⟩ := hrel
    have hpz := aE hbz
    have hsl := ho.sl
    have hlen := hs.len
    by_cases hlt : k < l.length
    ·obtain ⟨x, hc0, hxd0⟩ := hvs.at' k _ (List.getElem?_eq_getElem hlt)
     have hc : css[k]? = some [aH l[k].name, .int .i64 l[k].kind, .int .i64 l[k].ttl, x] := by rw [hs.old k (Nat.le_refl _)]; exact hc0
     have hxd := hxd0.ext hx
     have hpe := hsl.elem hc
     have hbk := hb _ (List.getElem_mem hlt)
     refine_lift nK ?_; intro _ _ _ _ _ _
     refine aG (z := gK) rfl (by decide +kernel) ?_
     intro w10 x10 s10 h10
     refine aA ?_
     refine_lift aR ?_
     refine aC (v := .agg #[aH l[k].name, .int .i64 l[k].kind, .int .i64 l[k].ttl, x]) rfl rfl rfl h10 (show aO Tryz.prog 119 4 = true by decide +kernel) rfl (iE rfl rfl rfl hxd.one) ?_
     intro w11 p11
     have x11 : Ext wr w11 := x10.move p11.mv (by rintro k ⟨⟩; exact Nat.le_refl _)
     have hbs : w11.heap[wr.heap.size]? = some (.cells [aH l[k].name, .int .i64 l[k].kind, .int .i64 l[k].ttl, x].toArray 119 (0, 0)) := p11.this
     have hx11 := hx.trans x11
     have hbz11 := x11.at hbz
     have hbr11 := x11.at hbr
     have ho11 := ho.ext x11
     have hs11 := hs.ext x11
     have hps := aE hbs
     have hpz11 := aE hbz11
     have hsl11 := ho11.sl
     have hpe11 := hsl11.elem hc
     have hxd11 := hxd.ext x11
     have hB11 : B ≤ w11.heap.size := Nat.le_trans hBr x11.size
     have hnes : y.ownBlock ≠ some wr.heap.size := fun e => by have := (ho.block _ e).2; omega
     clear p11 h10 x10 hpe hpz hsl
     refine_lift bX fun _ _ => ?_
     refine cE 8 (Ext w11) (by decide +kernel) ?_
     intro w12 x12 _
     refine ⟨x12, ?_⟩
     refine eG 0 ?_; refine eG 1 ?_; refine eG 2 ?_; refine eG 3 ?_; refine eG 4 ?_
     refine bT (i := 5) (by decide +kernel) rfl rfl ?_
     refine aL (enters_of Tryz.func88 rfl rfl) rfl rfl (SD x l[k].data _ (hxd11.ext x12) (by omega)) ?_
     intro u w13 x13 ou
     refine aA ?_
     have x1113 := x12.trans x13
     refine aI ⟨cX x1113, ?_⟩
     refine eG 6 ?_; refine eG 7 ?_
     refine bT (i := 8) (by decide +kernel) rfl rfl ?_
     have ho13 := ho11.ext x1113
     refine kH (i := k) (j := 3) rfl rfl rfl ho13 hc (by decide) (by decide +kernel) ou.one ?_
     intro w14 o14 m14
     refine aI ⟨cG rfl, ?_⟩
     refine cV (by decide +kernel) ?_
     have hx13 := hx11.trans x1113
     have x14 : Ext w w14 := ho13.mvx m14 hx13 hzW
     have hbz14 := m14.at (x1113.at hbz11) (fun e => ho13.neBlock (x1113.at hbz11) (by decide) e.symm)
     have hbr14 := m14.at (x1113.at hbr11) (fun e => ho13.neBlock (x1113.at hbr11) (by decide) e.symm)
     have hbs14 := m14.at (x1113.at hbs) (fun e => hnes e.symm)
     have ou14 := ou.mv m14 (ou.ne ho13 (by decide))
     have hs14 := (hs11.ext x1113).mv m14 (fun x es hx => hx.ne ho13 (by decide))
     have hB14 : B ≤ w14.heap.size := by have a1 := x1113.size; have a2 := m14.size; omega
     have h12B : w11.heap.size ≤ w12.heap.size := x12.size
     clear hps hpz11 hsl11 hpe11 m14 hbs hbz11 hbr11 hs11 ho13 ho11 hxd11
     have hps := aE hbs14
     have hpz := aE hbz14
     have hsl := o14.sl
     refine_lift qD (fun _ => ?_) (fun _ => ?_)
     ·have h6 : l[k].kind = 6 := by assumption
      have hl1 := hone _ (List.getElem_mem hlt) h6
      have hu1 : (aM l[k].data).length = 1 := by rw [aP]; exact hl1
      have hck : (css.set k ([aH l[k].name, .int .i64 l[k].kind, .int .i64 l[k].ttl, x].set 3 u))[k]? = some [aH l[k].name, .int .i64 l[k].kind, .int .i64 l[k].ttl, u] := List.getElem?_set_self (by omega)
      have hlk : k < (css.set k ([aH l[k].name, .int .i64 l[k].kind, .int .i64 l[k].ttl, x].set 3 u)).length := by rw [List.length_set]; omega
      have hpe := hsl.elem hck
      have hus := ou14.sl
      refine_lift aR ?_
      refine gM (c := aH d) (i := 0) rfl rfl rfl ou14 (by omega) (by decide +kernel) rfl ?_
      intro w15 o15 m15
      have hB12 : B ≤ w12.heap.size := by omega
      have hlow : ∀ r, u.ownBlock = some r → w12.heap.size ≤ r := fun r e => (ou14.block r e).1
      have x15 : Ext w w15 := ou14.mvx m15 x14 (Nat.le_trans hzW hB12)
      have hbz15 := m15.at hbz14 (fun e => ou14.neBlock hbz14 (by decide) e.symm)
      have hbr15 := m15.at hbr14 (fun e => ou14.neBlock hbr14 (by decide) e.symm)
      have oy15 := o14.mv m15 (o14.ne ou14 (by decide))
      have hs15 : SetsM B w w15 css0 css l d k := by
       refine ⟨hs14.len, fun i s hi hik => ?_, hs14.old⟩
       obtain ⟨z, a, b⟩ := hs.new i s hi hik
       obtain ⟨z', a', b'⟩ := hs14.new i s hi hik
       rw [a] at a'
       obtain rfl : z = z' := by simpa using a'
       refine ⟨z, a, b'.mv m15 ?_⟩
       cases hzb : z.ownBlock with
       | none => exact .inl rfl
       | some r =>
        refine .inr (fun e => ?_)
        have e1 := hlow r e.symm
        have e2 := (b.block r hzb).2
        have e3 := x11.size
        omega
      have ou15 : Own B 1 9 w15 u (aM (lT d l[k]).data) := by
       rw [vE h6]
       have e : (aM l[k].data).set 0 [aH d] = aM [d] := by
        match hq : l[k].data, hl1 with
        | [z], _ => rfl
       rw [e] at o15
       exact o15.weaken hB12
      clear hps hpz hsl hpe hus
      refine_lift aR ?_
      exact ⟨⟨k + 1, _, by omega, by go_num, x15, by have := m15.size; omega, hbz15, hbr15, oy15, hs15.step hlt ou15⟩, by simp [intOf]; omega⟩
     ·have h6 : ¬ l[k].kind = 6 := by assumption
      have ouk : Own B 1 9 w14 u (aM (lT d l[k]).data) := by
       rw [AI h6]
       exact ou14.weaken (by omega)
      exact ⟨⟨k + 1, _, by omega, by go_num, x14, hB14, hbz14, hbr14, o14, hs14.step hlt ouk⟩, by simp [intOf]; omega⟩
    ·have : k = l.length := by omega
     subst this
     refine_lift jY fun _ _ _ => ?_
     refine aC (v := .agg #[aH o, y]) rfl rfl rfl hbr (show aO Tryz.prog 25 2 = true by decide +kernel) rfl (bM ho.one) ?_
     intro w11 p11
     have x11 : Ext w w11 := hx.move p11.mv (by rintro k ⟨⟩; omega)
     have hfin : SetsO w.heap.size w11 y (l.map (lT d)) := by
      have : SetsV B wr y (l.map (lT d)) := ⟨css, ho, hs.done⟩
      exact (this.put hbr (by decide) (by decide) p11).toO hzW
     refine_lift aR ?_
     refine bodyPost_ret (aF (cs := [aH o, y]) rfl rfl p11.this (show dQ Tryz.prog 25 2 = true by decide +kernel)) rfl ⟨_, rfl, x11, ?_⟩
     exact RenU.good hren (by rw [hgd]; exact hfin)
theorem JZ {d : List UInt8} {s : SoaR} (h : cB d = some s) : s.ok = true := by
 unfold cB at h
 simp only at h
 split at h
 ·rename_i hh; cases h; exact hh.2.2.2
 ·cases h
theorem ZoneOk.only {o : List UInt8} {l : List RSet} (h : ZoneOk o l) {s : RSet} (hs : s ∈ l) (h6 : s.kind = 6) : s.data = [gZ o l] := by
 obtain ⟨t, ht, _, _, _, hd, _⟩ := h.soaSet
 obtain ⟨i, hi, rfl⟩ := List.mem_iff_getElem.1 hs
 have hf := yT h.chk hi
 rw [h6, (h.one6 hs h6).1, ht] at hf
 rw [← Option.some.inj hf]
 exact hd
theorem ZoneOk.back {o d : List UInt8} {l : List RSet} (h : ZoneOk o l) : (l.map (lT d)).map (lT (gZ o l)) = l := by
 rw [List.map_map]
 conv => rhs; rw [← List.map_id l]
 apply List.map_congr_left
 intro s hs
 simp only [Function.comp, id]
 by_cases h6 : s.kind = 6
 ·rw [vE (d := d) h6, vE (by exact h6)]
  have := h.only hs h6
  cases s
  simp only at this
  rw [this]
 ·rw [AI (d := d) h6, AI h6]
theorem KA {s : RSet} (h : fE s = true) {i : Nat} (hi : i + 1 < s.data.length) : s.data[i] < s.data[i + 1] := by
 simp only [fE, Bool.and_eq_true, List.all_eq_true] at h
 have := h.2 (i + 1) (by simpa using hi)
 simp only [jS, Bool.not_eq_true', Bool.or_eq_false_iff, Bool.and_eq_false_iff, decide_eq_false_iff_not] at this
 have h2 := this.2.resolve_left (by omega)
 have e1 : s.data.getD (i + 1 - 1) [] = s.data[i] := by simp [show i < s.data.length by omega]
 have e2 : s.data.getD (i + 1) [] = s.data[i + 1] := by simp [hi]
 rw [e1, e2] at h2
 exact BO.1 (by simpa using h2)
theorem vF {s : RSet} (h : fE s = true) (i : Nat) : ∀ j (hij : i < j) (hj : j < s.data.length), s.data[i] < s.data[j]
 | 0, hij, _ => by omega
 | j + 1, hij, hj => by
   have h1 := KA h hj
   by_cases e : i = j
   ·subst e; exact h1
   ·exact Std.lt_trans (vF h i j (by omega) (by omega)) h1
theorem CV {l : List RSet} {r : Rec} (h : r ∈ aK l) : ∃ s ∈ l, ∃ d ∈ s.data, r = gN s d := by
 simp only [aK, List.mem_flatten, List.mem_map] at h
 obtain ⟨rs, ⟨s, hs, rfl⟩, hr⟩ := h
 simp only [dU, List.mem_map] at hr
 obtain ⟨d, hd, rfl⟩ := hr
 exact ⟨s, hs, d, hd, rfl⟩
def eH (a b : List Rec) : List Rec := a.filter fun r => !decide (r ∈ b)
structure DeltaR where
 fr : Int
 to : Int
 gone : List Rec
 new : List Rec
 deriving DecidableEq, Inhabited
def KB : DeltaR := ⟨0, 0, [], []⟩
def CW (oa : List UInt8) (la : List RSet) (ob : List UInt8) (lb : List RSet) : Int :=
 if aW oa la = 0 then (if aW ob lb = 0 then (if oa = ob then 0 else 1) else aW ob lb) else aW oa la
def BA (oa : List UInt8) (la : List RSet) (ob : List UInt8) (lb : List RSet) : DeltaR :=
 if CW oa la ob lb = 0 then ⟨(aS oa la).serial, (aS ob lb).serial, eH (aK la) (aK lb), eH (aK lb) (aK la)⟩ else KB
def gD : List Rec → List Rec → Option (List Rec)
 | l, [] => some l
 | l, r :: g => if r ∈ l then gD (l.erase r) g else none
def kV : List Rec → List Rec → Option (List Rec)
 | l, [] => some l
 | l, r :: g => if r ∈ l then none else kV (l ++ [r]) g
def oS (l : List Rec) (d : DeltaR) : Option (List Rec) := (gD l d.gone).bind fun m => kV m d.new
def rN (o : List UInt8) (m : List Rec) (to : Int) : Int :=
 if dZ o m = 0 then (if (aS (cQ o m) (bV o m)).serial = to ∧ (aK (bV o m)).length = m.length ∧ eH m (aK (bV o m)) = [] then 0 else 2) else dZ o m
def gX (o : List UInt8) (l : List RSet) (d : DeltaR) : Int :=
 if aW o l = 0 then (if (aS o l).serial = d.fr then (match oS (aK l) d with
  | none => 5
  | some m => rN o m d.to) else 7) else aW o l
def qS (o : List UInt8) (l : List RSet) (d : DeltaR) : List RSet := if gX o l d = 0 then bV o ((oS (aK l) d).getD []) else []
def mG (o : List UInt8) (l : List RSet) (d : DeltaR) : List UInt8 := if gX o l d = 0 then cQ o ((oS (aK l) d).getD []) else []
theorem HP {s : RSet} {d e : List UInt8} (h : gN s d = gN s e) : d = e := by simpa [gN] using h
theorem ZoneOk.nodup {o : List UInt8} {l : List RSet} (h : ZoneOk o l) : (aK l).Nodup := by
 unfold aK List.Nodup
 rw [List.pairwise_flatten]
 constructor
 ·intro rs hrs
  obtain ⟨s, hs, rfl⟩ := List.mem_map.1 hrs
  unfold dU
  rw [List.pairwise_map, List.pairwise_iff_getElem]
  intro i j hi hj hij he
  have h1 := vF (h.may hs) i j hij hj
  rw [HP he] at h1
  exact Std.lt_irrefl h1
 ·rw [List.pairwise_map, List.pairwise_iff_getElem]
  intro i j hi hj hij x hx y hy he
  simp only [dU, List.mem_map] at hx hy
  obtain ⟨d, _, rfl⟩ := hx
  obtain ⟨e, _, rfl⟩ := hy
  simp only [gN, Rec.mk.injEq] at he
  have h1 := jL h.chk i j hij hj
  rw [he.1, he.2.1] at h1
  have h2 := iG.refl (l[j].name, l[j].kind)
  simp only at h2
  omega
theorem Ch.same {L M : List Rec} {s : RSet} (h : Ch L s) (hm : ∀ r, r ∈ L ↔ r ∈ M) : Ch M s where
 dat d := by
  rw [h.dat]
  constructor
  ·rintro ⟨r, h1, h2⟩; exact ⟨r, (hm r).1 h1, h2⟩
  ·rintro ⟨r, h1, h2⟩; exact ⟨r, (hm r).2 h1, h2⟩
 ttl := let ⟨r, h1, h2⟩ := h.ttl; ⟨r, (hm r).1 h1, h2⟩
 low r h1 h2 := h.low r ((hm r).2 h1) h2
theorem NN {oa ob : List UInt8} {la lb : List RSet} (h : CW oa la ob lb = 0) : ZoneOk oa la ∧ ZoneOk oa lb ∧ oa = ob ∧ BA oa la ob lb = ⟨(aS oa la).serial, (aS oa lb).serial, eH (aK la) (aK lb), eH (aK lb) (aK la)⟩ := by
 have h0 := h
 unfold CW at h
 split at h
 ·rename_i q1
  split at h
  ·rename_i q2
   split at h
   ·rename_i q3
    subst q3
    exact ⟨gF q1, gF q2, rfl, by rw [BA, if_pos h0]⟩
   ·cases h
  ·rename_i q2; exact absurd h q2
 ·rename_i q1; exact absurd h q1
def HQ : List Value := [aH [], .int .i64 0, .int .i64 0, aH []]
theorem Runs.eqlRec {r q : Rec} {x y : Operand} {a : Act} {w : World} {d : Option Nat} {u ty : TypeId} {ps : String} {af : Array Edge} {g : Option (Nat × Bool)}
 (hx : a.eval x = .agg #[aH r.name, .int .i64 r.kind, .int .i64 r.ttl, aH r.data]) (hy : a.eval y = .agg #[aH q.name, .int .i64 q.kind, .int .i64 q.ttl, aH q.data]) :
 Runs Tryz.prog (Oper.mk d (.binOp .eql 47 x y u) ty ps af g) a w (.bool (decide (r = q))) := by
 constructor
 have hg := run_eqGuard_agg (P := Tryz.prog) w .eql 47 x y #[aH r.name, .int .i64 r.kind, .int .i64 r.ttl, aH r.data] #[aH q.name, .int .i64 q.kind, .int .i64 q.ttl, aH q.data] (by kernel_rfl)
 simp only [execOp, hx, hy, Sem.run_bind, hg, Result.andThen_ok, run_eql_struct, yQ, Sem.run_pure]
theorem qT {l : List Rec} {r : Rec} : l.any (fun q => decide (r = q)) = decide (r ∈ l) := by
 rw [Bool.eq_iff_iff, List.any_eq_true, decide_eq_true_eq]
 constructor
 ·rintro ⟨q, hq, h⟩; rw [decide_eq_true_eq] at h; exact h ▸ hq
 ·intro h; exact ⟨r, h, by simp⟩
set_option maxHeartbeats 3000000 in
theorem FV (v : Value) (l : List Rec) (r : Rec) (w : World) (hv : Sl 4 w v (aD l)) : Calls Tryz.prog 192 #[v, .agg #[aH r.name, .int .i64 r.kind, .int .i64 r.ttl, aH r.data]] w (bE w (.int .i64 (lQ (fun q => decide (r = q)) l))) := by
 have hlen := aJ l
 have hle := hv.le
 go_enter Tryz.func192, Tryz.ntmps192
 refine_lift tC ?_; intro _ _ _
 refine aZ (vs := [aH r.name, .int .i64 r.kind, .int .i64 r.ttl, aH r.data]) rfl rfl ?_
 intro p w1 x1 hp
 refine aA ?_
 have hv1 := hv.ext x1
 refine_lift bX fun _ _ => ?_
 go_loopw [5, 8] (fun _ i wr => ∃ k : Nat, k ≤ l.length ∧ i = .int .i64 k ∧ Ext w1 wr ∧ (l.take k).any (fun q => decide (r = q)) = false) (fun _ i _ => l.length - (intOf i).toNat)
 case atStart => exact ⟨0, Nat.zero_le _, rfl, Ext.refl _, rfl⟩
 case round =>
  obtain ⟨k, hk, rfl, hx, hall⟩ := hrel
  have hv2 := hv1.ext hx
  have hp2 := hp.ext hx
  by_cases hlt : k < l.length
  ·have hpe := hv2.elem (cR hlt)
   refine_lift nK ?_; intro _ _ _ _ _ _
   refine bD (by decide +kernel) (by decide +kernel) ?_
   refine_lift dP ?_
   refine gS (fun w' _ => Runs.eqlRec (r := r) (q := l[k]) rfl rfl) ?_
   refine aA ?_
   refine_lift dP ?_
   intro w2 x2
   cases he : decide (r = l[k]) with
   | true =>
    refine_lift aR ?_
    go_ret
    exact ⟨by rw [rJ hlt hall he]; rfl, (x1.trans hx).trans x2⟩
   | false =>
    refine_lift aR ?_
    exact ⟨⟨k + 1, by omega, by go_num, hx.trans x2, gU hlt hall he⟩, by simp [intOf]; omega⟩
  ·have : k = l.length := by omega
   subst this
   rw [List.take_length] at hall
   refine_lift fH fun _ => ?_
   go_ret
   exact ⟨by rw [rK hall]; rfl, x1.trans hx⟩
theorem vG (v : Value) (l : List Rec) (r : Rec) (w : World) (hv : Sl 4 w v (aD l)) : Calls Tryz.prog 153 #[v, .agg #[aH r.name, .int .i64 r.kind, .int .i64 r.ttl, aH r.data]] w (bE w (.bool (decide (r ∈ l)))) := by
 go_enter Tryz.func153, Tryz.ntmps153
 refine_lift hY fun _ _ => ?_
 refine aZ (vs := [aH r.name, .int .i64 r.kind, .int .i64 r.ttl, aH r.data]) rfl rfl ?_
 intro p w1 x1 hp
 refine aA ?_
 refine_lift bX fun _ _ => ?_
 refine aB (enters_of Tryz.func192 rfl rfl) rfl rfl (FV v l r _ (hv.ext x1)) ?_; intro w2 x2; refine aA ?_
 refine_lift aR ?_
 go_ret
 exact ⟨by rw [← qT, ← qN]; rfl, x1.trans x2⟩
set_option maxHeartbeats 3000000 in
theorem AJ (v : Value) (l : List Rec) (r : Rec) (w : World) (hv : Sl 4 w v (aD l)) : Calls Tryz.prog 158 #[v, .agg #[aH r.name, .int .i64 r.kind, .int .i64 r.ttl, aH r.data]] w (bE w (.bool (decide (r ∈ l)))) := by
 have hlen := aJ l
 have hle := hv.le
 go_enter Tryz.func158, Tryz.ntmps158
 refine_lift hY fun _ _ => ?_
 refine aZ (vs := [aH r.name, .int .i64 r.kind, .int .i64 r.ttl, aH r.data]) rfl rfl ?_
 intro p w1 x1 hp
 refine aA ?_
 have hv1 := hv.ext x1
 refine_lift bX fun _ _ => ?_
 go_loopw [5] (fun i wr => ∃ k : Nat, k ≤ l.length ∧ i = .int .i64 k ∧ Ext w1 wr ∧ (l.take k).any (fun q => decide (r = q)) = false) (fun i _ => l.length - (intOf i).toNat)
 case atStart => exact ⟨0, Nat.zero_le _, rfl, Ext.refl _, rfl⟩
 case round =>
  obtain ⟨k, hk, rfl, hx, hall⟩ := hrel
  have hv2 := hv1.ext hx
  have hp2 := hp.ext hx
  by_cases hlt : k < l.length
  ·have hpe := hv2.elem (cR hlt)
   refine_lift nK ?_; intro _ _ _ _ _ _
   refine bD (by decide +kernel) (by decide +kernel) ?_
   refine_lift dP ?_
   refine gS (fun w' _ => Runs.eqlRec (r := l[k]) (q := r) rfl rfl) ?_
   refine aA ?_
   refine_lift dP ?_
   intro w2 x2
   have hsw : decide (l[k] = r) = decide (r = l[k]) := by rw [Bool.eq_iff_iff]; simp [eq_comm]
   rw [hsw]
   cases he : decide (r = l[k]) with
   | true =>
    refine_lift aR ?_
    go_ret
    exact ⟨by rw [← qT, AC hlt he]; rfl, (x1.trans hx).trans x2⟩
   | false =>
    refine_lift aR ?_
    exact ⟨⟨k + 1, by omega, by go_num, hx.trans x2, gU hlt hall he⟩, by simp [intOf]; omega⟩
  ·have : k = l.length := by omega
   subst this
   rw [List.take_length] at hall
   refine_lift fH fun _ => ?_
   go_ret
   exact ⟨by rw [← qT, hall]; rfl, x1.trans hx⟩
theorem zF {a b : List Rec} {k : Nat} (h : k < a.length) : eH (a.take (k + 1)) b = eH (a.take k) b ++ (if a[k] ∈ b then [] else [a[k]]) := by
 unfold eH
 rw [List.take_succ_eq_append_getElem h, List.filter_append]
 congr 1
 by_cases hm : a[k] ∈ b <;> simp [hm]
theorem CX (a b : List Rec) : (eH a b).length ≤ a.length := List.length_filter_le _ _
theorem kW {ts : List Value} {df : List Deferred} {x : Operand} {r : Rec} (h : (Act.mk ts.toArray df).eval x = .agg #[aH r.name, .int .i64 r.kind, .int .i64 r.ttl, aH r.data]) : ElemIs (Act.mk ts.toArray df) x 4 [aH r.name, .int .i64 r.kind, .int .i64 r.ttl, aH r.data] :=
 ⟨h, rfl, rfl, by intro u hu; simp only [List.mem_cons, List.not_mem_nil, or_false] at hu; rcases hu with rfl | rfl | rfl | rfl <;> rfl⟩
set_option maxHeartbeats 3000000 in
theorem ER (u v : Value) (a b : List Rec) (w : World) (hu : Sl 4 w u (aD a)) (hv : Sl 4 w v (aD b)) (hl : a.length ≤ 100000) : Calls Tryz.prog 97 #[u, v] w (jI w fun r w' => Own w.heap.size 4 47 w' r (aD (eH a b))) := by
 have hlen := aJ a
 go_enter Tryz.func97, Tryz.ntmps97
 refine_lift jY ?_; intro _ _ _
 go_loopw [5, 7, 10] (fun o _ i wr => ∃ k : Nat, k ≤ a.length ∧ i = .int .i64 k ∧ Ext w wr ∧ Own w.heap.size 4 47 wr o (aD (eH (a.take k) b))) (fun _ _ i _ => a.length - (intOf i).toNat)
 case atStart => exact ⟨0, Nat.zero_le _, rfl, Ext.refl _, by simpa [eH, aD] using Own.nil _ _ _ _⟩
 case round =>
  obtain ⟨k, hk, rfl, hx, ho⟩ := hrel
  have hu2 := hu.ext hx
  by_cases hlt : k < a.length
  ·have hpe := hu2.elem (cR hlt)
   have hst := zF (b := b) hlt
   have hll := CX (a.take k) b
   rw [List.length_take] at hll
   have hcl := aJ (eH (a.take k) b)
   refine_lift nK ?_; intro _ _ _ _ _ _
   refine aG (z := HQ) rfl (by decide +kernel) ?_
   intro w2 x2 s2 h2
   refine aA ?_
   refine aC (v := .agg #[aH a[k].name, .int .i64 a[k].kind, .int .i64 a[k].ttl, aH a[k].data]) rfl rfl rfl h2 (show aO Tryz.prog 47 4 = true by decide +kernel) rfl (iE rfl rfl rfl rfl) ?_
   intro w3 p3
   have x3 : Ext wr w3 := x2.move p3.mv (by rintro k ⟨⟩; exact Nat.le_refl _)
   have hp3 := aE (cs := [aH a[k].name, .int .i64 a[k].kind, .int .i64 a[k].ttl, aH a[k].data]) p3.this
   have hx3 := hx.trans x3
   have ho3 := ho.ext x3
   clear p3 h2 x2
   refine_lift bX fun _ _ => ?_
   refine aB (enters_of Tryz.func153 rfl rfl) rfl rfl (vG v b a[k] _ (hv.ext hx3)) ?_; intro w4 x4; refine aA ?_
   have hx4 := hx3.trans x4
   have ho4 := ho3.ext x4
   have hp4 := hp3.ext x4
   by_cases hm : a[k] ∈ b
   ·rw [decide_eq_true hm]
    rw [if_pos hm, List.append_nil] at hst
    refine_lift aR ?_
    exact ⟨⟨k + 1, by omega, by go_num, hx4, by rw [hst]; exact ho4⟩, by simp [intOf]; omega⟩
   ·rw [decide_eq_false hm]
    rw [if_neg hm] at hst
    refine_lift aR ?_
    refine DY [aH a[k].name, .int .i64 a[k].kind, .int .i64 a[k].ttl, aH a[k].data] hx4 ho4 (by omega) ?_ (kW rfl)
    intro s5 v5 w5 w6 x5 m6 x6 o6
    refine aA ?_
    refine_lift aR ?_
    refine ⟨⟨k + 1, by omega, by go_num, x6, ?_⟩, by simp [intOf]; omega⟩
    rw [hst]
    simpa [aD, Rec.cells] using o6
  ·have : k = a.length := by omega
   subst this
   rw [List.take_length] at ho
   refine_lift fH fun _ => ?_
   go_ret
   exact ⟨_, rfl, hx, ho⟩
set_option maxHeartbeats 3000000 in
theorem KC (u v : Value) (a b : List Rec) (w : World) (hu : Sl 4 w u (aD a)) (hv : Sl 4 w v (aD b)) (hl : a.length ≤ 100000) : Calls Tryz.prog 100 #[u, v] w (jI w fun r w' => Own w.heap.size 4 47 w' r (aD (eH a b))) := by
 have hlen := aJ a
 go_enter Tryz.func100, Tryz.ntmps100
 refine_lift jY ?_; intro _ _ _
 go_loopw [5, 6] (fun o i wr => ∃ k : Nat, k ≤ a.length ∧ i = .int .i64 k ∧ Ext w wr ∧ Own w.heap.size 4 47 wr o (aD (eH (a.take k) b))) (fun _ i _ => a.length - (intOf i).toNat)
 case atStart => exact ⟨0, Nat.zero_le _, rfl, Ext.refl _, by simpa [eH, aD] using Own.nil _ _ _ _⟩
 case round =>
  obtain ⟨k, hk, rfl, hx, ho⟩ := hrel
  have hu2 := hu.ext hx
  by_cases hlt : k < a.length
  ·have hpe := hu2.elem (cR hlt)
   have hst := zF (b := b) hlt
   have hll := CX (a.take k) b
   rw [List.length_take] at hll
   have hcl := aJ (eH (a.take k) b)
   refine_lift nK ?_; intro _ _ _ _ _ _
   refine aB (enters_of Tryz.func158 rfl rfl) rfl rfl (AJ v b a[k] _ (hv.ext hx)) ?_; intro w4 x4; refine aA ?_
   have hx4 := hx.trans x4
   have ho4 := ho.ext x4
   have hu4 := hu2.ext x4
   have hpe4 := hpe.ext x4
   by_cases hm : a[k] ∈ b
   ·rw [decide_eq_true hm]
    rw [if_pos hm, List.append_nil] at hst
    refine_lift aR ?_
    exact ⟨⟨k + 1, by omega, by go_num, hx4, by rw [hst]; exact ho4⟩, by simp [intOf]; omega⟩
   ·rw [decide_eq_false hm]
    rw [if_neg hm] at hst
    refine_lift aR ?_
    refine DY [aH a[k].name, .int .i64 a[k].kind, .int .i64 a[k].ttl, aH a[k].data] hx4 ho4 (by omega) ?_ (kW rfl)
    intro s5 v5 w5 w6 x5 m6 x6 o6
    refine aA ?_
    refine_lift aR ?_
    refine ⟨⟨k + 1, by omega, by go_num, x6, ?_⟩, by simp [intOf]; omega⟩
    rw [hst]
    simpa [aD, Rec.cells] using o6
  ·have : k = a.length := by omega
   subst this
   rw [List.take_length] at ho
   refine_lift fH fun _ => ?_
   go_ret
   exact ⟨_, rfl, hx, ho⟩
set_option maxHeartbeats 3000000 in
theorem mZ (v : Value) (l : List Rec) (w : World) (hv : Sl 4 w v (aD l)) (hl : l.length ≤ 1000000) : Calls Tryz.prog 52 #[v] w (jI w fun v' w' => Own w.heap.size 4 47 w' v' (aD l)) := by
 have hlen := aJ l
 go_enter Tryz.func52, Tryz.ntmps52
 (repeat' first | ((with_reducible refine cW ?_); go_step) | ((with_reducible refine bQ ?_); first | refine fD ?_ | (refine dH ?_ ?_ <;> intro hc)) | fail)
 ·have hn := ‹tO v = true›
  go_ret
  have : aD l = [] := hv.isNil hn
  refine ⟨_, rfl, Ext.refl _, ?_⟩
  rw [this]
  exact Own.nil _ _ _ _
 ·refine jQ (t := 31) (e := 47) (k := 4) (bytes := 48) (by decide +kernel) rfl ?_
  intro v2 w2 x2 s2 o2
  refine aA ?_
  refine_lift aR ?_
  refine cK (B := w.heap.size) (e := 47) rfl o2 rfl (hv.ext x2) (by intro f hf u hu; obtain ⟨r, _, rfl⟩ := List.mem_map.1 hf; simp only [Rec.cells, List.mem_cons, List.not_mem_nil, or_false] at hu; rcases hu with rfl | rfl | rfl | rfl <;> rfl) x2.size (by simp; omega) ?_
  intro v3 w3 o3 m3 _
  have x3 := o2.mvx m3 x2 (Nat.le_refl _)
  refine aA ?_
  refine_lift aR ?_
  go_ret
  exact ⟨_, rfl, x3, by simpa using o3⟩
set_option maxHeartbeats 3000000 in
theorem CY (v : Value) (l : List Rec) (r : Rec) (w : World) (hv : Sl 4 w v (aD l)) (hl : l.length ≤ 100000) : Calls Tryz.prog 173 #[v, .agg #[aH r.name, .int .i64 r.kind, .int .i64 r.ttl, aH r.data]] w (jI w fun u w' => Own w.heap.size 4 47 w' u (aD (l.erase r))) := by
 have hlen := aJ l
 go_enter Tryz.func173, Tryz.ntmps173
 refine_lift tC ?_; intro _ _ _
 refine aZ (vs := [aH r.name, .int .i64 r.kind, .int .i64 r.ttl, aH r.data]) rfl rfl ?_
 intro p w1 x1 hp
 refine aA ?_
 have hv1 := hv.ext x1
 refine_lift bX fun _ _ => ?_
 go_loopw [5, 6] (fun o i wr => ∃ k : Nat, k ≤ l.length ∧ i = .int .i64 k ∧ Ext w1 wr ∧ r ∉ l.take k ∧ Own w1.heap.size 4 47 wr o (aD (l.take k))) (fun _ i _ => l.length - (intOf i).toNat)
 case atStart => exact ⟨0, Nat.zero_le _, rfl, Ext.refl _, by simp, by simpa [aD] using Own.nil _ _ _ _⟩
 case round =>
  obtain ⟨k, hk, rfl, hx, hnot, ho⟩ := hrel
  have hv2 := hv1.ext hx
  have hp2 := hp.ext hx
  by_cases hlt : k < l.length
  ·have hpe := hv2.elem (cR hlt)
   refine_lift RR ?_; intro _ _ _ _ _ _ _ _
   refine bD (by decide +kernel) (by decide +kernel) ?_
   refine_lift dP ?_
   refine gS (fun w' _ => Runs.eqlRec (r := l[k]) (q := r) rfl rfl) ?_
   refine aA ?_
   refine_lift dP ?_
   intro w2 x2
   have hx2 := hx.trans x2
   have ho2 := ho.ext x2
   have hv3 := hv2.ext x2
   have hpe3 := hpe.ext x2
   by_cases he : l[k] = r
   ·rw [decide_eq_true he]
    refine_lift bX fun _ _ => ?_
    have hcut := hv3.cut (m := k + 1) (n := (aD l).length) (by omega) (Nat.le_refl _)
    rw [List.take_length] at hcut
    refine cK (B := w1.heap.size) (e := 47) rfl ho2 rfl hcut (by intro f hf u hu; obtain ⟨r, _, rfl⟩ := List.mem_map.1 (List.mem_of_mem_drop hf); simp only [Rec.cells, List.mem_cons, List.not_mem_nil, or_false] at hu; rcases hu with rfl | rfl | rfl | rfl <;> rfl) hx2.size (by simp [aJ]; omega) ?_
    intro v4 w4 o4 m4 _
    have x4 := ho2.mvx m4 hx2 (Nat.le_refl _)
    refine aA ?_
    refine_lift aR ?_
    go_ret
    refine ⟨_, rfl, x1.trans x4, ?_⟩
    have hee : l.erase r = l.take k ++ l.drop (k + 1) := by
     conv => lhs; rw [← List.take_append_drop k l, List.drop_eq_getElem_cons hlt]
     rw [List.erase_append_right _ hnot, he, List.erase_cons_head]
    have e1 : aD (l.take k) ++ (aD l).drop (k + 1) = aD (l.erase r) := by rw [hee]; simp [aD, List.map_drop]
    rw [← e1]
    exact o4.weaken x1.size
   ·rw [decide_eq_false he]
    refine_lift aR ?_
    refine DY [aH l[k].name, .int .i64 l[k].kind, .int .i64 l[k].ttl, aH l[k].data] hx2 ho2 (by rw [aJ, List.length_take]; omega) ?_ (kW rfl)
    intro s5 v5 w5 w6 x5 m6 x6 o6
    refine aA ?_
    refine_lift aR ?_
    refine ⟨⟨k + 1, by omega, by go_num, x6, ?_, ?_⟩, by simp [intOf]; omega⟩
    ·rw [List.take_succ_eq_append_getElem hlt, List.mem_append]
     rintro (h | h)
     ·exact hnot h
     ·exact he (List.mem_singleton.1 h).symm
    ·have e1 : aD (l.take (k + 1)) = aD (l.take k) ++ [l[k].cells] := by rw [List.take_succ_eq_append_getElem hlt, aD, List.map_append]; rfl
     rw [e1]
     exact o6
  ·have : k = l.length := by omega
   subst this
   rw [List.take_length] at hnot ho
   refine_lift fH fun _ => ?_
   go_ret
   refine ⟨_, rfl, x1.trans hx, ?_⟩
   rw [List.erase_of_not_mem hnot]
   exact ho.weaken x1.size
def oE : List Value := [.int .i64 0, .int .i64 0, .slice none 0 0, .slice none 0 0]
def DelA (d : DeltaR) (r : Value) (w : World) : Prop := ∃ g n, r = .agg #[.int .i64 d.fr, .int .i64 d.to, g, n] ∧ Sl 4 w g (aD d.gone) ∧ Sl 4 w n (aD d.new)
def DelO (B : Nat) (d : DeltaR) (r : Value) (w : World) : Prop := ∃ g n, r = .agg #[.int .i64 d.fr, .int .i64 d.to, g, n] ∧ Own B 4 47 w g (aD d.gone) ∧ Own B 4 47 w n (aD d.new)
theorem DelO.a {B : Nat} {d : DeltaR} {r : Value} {w : World} (h : DelO B d r w) : DelA d r w := let ⟨g, n, e, a, b⟩ := h; ⟨g, n, e, a.sl, b.sl⟩
def DelU (B : Nat) (d : DeltaR) (e : Int) (r : Value) (w : World) : Prop := ∃ y, r = .tuple #[y, .int .i64 e] ∧ DelO B d y w
theorem DelU.bad {B : Nat} {d : DeltaR} {e : Int} {w : World} (h : d = KB) : DelU B d e (.tuple #[.agg oE.toArray, .int .i64 e]) w := by
 subst h
 exact ⟨_, rfl, _, _, rfl, Own.nil _ _ _ _, Own.nil _ _ _ _⟩
theorem AK {oa ob : List UInt8} {la lb : List RSet} (h : CW oa la ob lb ≠ 0) : BA oa la ob lb = KB := if_neg h
set_option maxHeartbeats 6000000 in
theorem OT (oa : List UInt8) (u : Value) (la : List RSet) (ob : List UInt8) (v : Value) (lb : List RSet) (w : World) (hu : SetsAt w u la) (hv : SetsAt w v lb)
 (ba : ∀ s ∈ la, s.data.length ≤ 1000000) (da : ∀ s ∈ la, ∀ d ∈ s.data, d.length ≤ 4611686018427387904) (bb : ∀ s ∈ lb, s.data.length ≤ 1000000) (db : ∀ s ∈ lb, ∀ d ∈ s.data, d.length ≤ 4611686018427387904)
 (h1 : (aK la).length ≤ 100000) (h2 : (aK lb).length ≤ 100000) : Calls Tryz.prog 46 #[.agg #[aH oa, u], .agg #[aH ob, v]] w (jI w (DelU w.heap.size (BA oa la ob lb) (CW oa la ob lb))) := by
 go_enter Tryz.func46, Tryz.ntmps46
 refine_lift hY fun _ _ => ?_
 refine aZ (vs := [aH oa, u]) rfl rfl ?_
 intro p w1 x1 hp
 refine aA ?_
 refine aZ (vs := [aH ob, v]) rfl rfl ?_
 intro q w2 x2 hq
 refine aA ?_
 refine aG (z := oE) rfl (by decide +kernel) ?_
 intro w3 x3 s3 h3
 refine aA ?_
 have hx3 := (x1.trans x2).trans x3
 have zz := (x1.trans x2).size
 have hp3 := (hp.ext x2).ext x3
 have hq3 := hq.ext x3
 refine_lift bX fun _ _ => ?_
 refine aB (enters_of Tryz.func31 rfl rfl) rfl rfl (qO oa u la _ (hu.ext hx3) ba da) ?_; intro w4 x4; refine aA ?_
 have hx4 := hx3.trans x4
 refine_lift aR ?_
 refine aG (z := aU) rfl (by decide +kernel) ?_
 intro w5 x5 s5 h5
 refine aA ?_
 refine aC (v := .agg (aS oa la).cells.toArray) rfl rfl rfl h5 (show aO Tryz.prog 67 7 = true by decide +kernel) rfl (dG _) ?_
 intro w6 p6
 have x46 : Ext w4 w6 := x5.move p6.mv (by rintro k ⟨⟩; exact Nat.le_refl _)
 have b6 : w6.heap[w4.heap.size]? = some (.cells (aS oa la).cells.toArray 67 (0, 0)) := p6.this
 have x36 := x4.trans x46
 have hx6 := hx3.trans x36
 clear p6 h5 x5
 have h6 := x36.at h3
 have hp6 := hp3.ext x36
 have hq6 := hq3.ext x36
 refine_lift qE (fun _ _ _ => ?_) (fun _ _ _ _ _ => ?_)
 ·have q0 : ¬ aW oa la = 0 := by simpa using (by assumption : (!decide (aW oa la = 0)) = true)
  refine aQ (v := .agg oE.toArray) rfl (Runs.build0 (by kernel_rfl)) ?_
  refine aA ?_
  refine_lift aR ?_
  refine aC (v := .agg oE.toArray) rfl rfl rfl h6 (by decide +kernel) rfl (by decide +kernel) ?_
  intro w7 p7
  have x7 : Ext w w7 := hx6.move p7.mv (by rintro k ⟨⟩; exact zz)
  refine_lift aR ?_
  refine bodyPost_ret (aF (cs := oE) rfl rfl p7.this (by decide +kernel)) rfl ⟨_, rfl, x7, ?_⟩
  have he : CW oa la ob lb = aW oa la := by rw [CW, if_neg q0]
  rw [AK (by rw [he]; exact q0), he]
  exact DelU.bad rfl
 ·have q0 : aW oa la = 0 := by simpa using (by assumption : (!decide (aW oa la = 0)) = false)
  refine aB (enters_of Tryz.func31 rfl rfl) rfl rfl (qO ob v lb _ (hv.ext hx6) bb db) ?_; intro w7 x7; refine aA ?_
  have hx7 := hx6.trans x7
  refine_lift aR ?_
  refine aG (z := aU) rfl (by decide +kernel) ?_
  intro w8 x8 s8 h8
  refine aA ?_
  refine aC (v := .agg (aS ob lb).cells.toArray) rfl rfl rfl h8 (show aO Tryz.prog 67 7 = true by decide +kernel) rfl (dG _) ?_
  intro w9 p9
  have x79 : Ext w7 w9 := x8.move p9.mv (by rintro k ⟨⟩; exact Nat.le_refl _)
  have c9 : w9.heap[w7.heap.size]? = some (.cells (aS ob lb).cells.toArray 67 (0, 0)) := p9.this
  have x69 := x7.trans x79
  have hx9 := hx6.trans x69
  clear p9 h8 x8
  have h9 := x69.at h6
  have b9 := x69.at b6
  have hp9 := hp6.ext x69
  have hq9 := hq6.ext x69
  refine_lift PY (fun _ _ _ _ _ _ => ?_) (fun _ _ _ _ => ?_) (fun _ _ _ _ _ => ?_)
  ·have q1 : ¬ aW ob lb = 0 := by simpa using (by assumption : (!decide (aW ob lb = 0)) = true)
   refine aQ (v := .agg oE.toArray) rfl (Runs.build0 (by kernel_rfl)) ?_
   refine aA ?_
   refine_lift aR ?_
   refine aC (v := .agg oE.toArray) rfl rfl rfl h9 (by decide +kernel) rfl (by decide +kernel) ?_
   intro wz pz
   have xz : Ext w wz := hx9.move pz.mv (by rintro k ⟨⟩; exact zz)
   refine_lift aR ?_
   refine bodyPost_ret (aF (cs := oE) rfl rfl pz.this (by decide +kernel)) rfl ⟨_, rfl, xz, ?_⟩
   have he : CW oa la ob lb = aW ob lb := by rw [CW, if_pos q0, if_neg q1]
   rw [AK (by rw [he]; exact q1), he]
   exact DelU.bad rfl
  ·have q1 : aW ob lb = 0 := by simpa using (by assumption : (!decide (aW ob lb = 0)) = false)
   ·have q2 : ¬ oa = ob := by simpa using (by assumption : (!decide (oa = ob)) = true)
    refine aQ (v := .agg oE.toArray) rfl (Runs.build0 (by kernel_rfl)) ?_
    refine aA ?_
    refine_lift aR ?_
    refine aC (v := .agg oE.toArray) rfl rfl rfl h9 (by decide +kernel) rfl (by decide +kernel) ?_
    intro wz pz
    have xz : Ext w wz := hx9.move pz.mv (by rintro k ⟨⟩; exact zz)
    refine_lift aR ?_
    refine bodyPost_ret (aF (cs := oE) rfl rfl pz.this (by decide +kernel)) rfl ⟨_, rfl, xz, ?_⟩
    have he : CW oa la ob lb = 1 := by rw [CW, if_pos q0, if_pos q1, if_neg q2]
    rw [AK (by rw [he]; decide), he]
    exact DelU.bad rfl
  ·have q1 : aW ob lb = 0 := by simpa using (by assumption : (!decide (aW ob lb = 0)) = false)
   have q2 : oa = ob := by simpa using (by assumption : (!decide (oa = ob)) = false)
   have he : CW oa la ob lb = 0 := by rw [CW, if_pos q0, if_pos q1, if_pos q2]
   refine cL (S := fun w' => Ext w9 w') (by decide +kernel) ?_
   intro w10 x10 hh10
   refine tk 0 ?_; refine aA ?_; refine tk 1 ?_; refine aA ?_; refine tk 3 ?_; refine aA ?_; refine tk 4 ?_; refine aA ?_
   refine aT (i := 2) (by decide +kernel) rfl rfl ?_
   refine aL (enters_of Tryz.func40 rfl rfl) rfl rfl (QJ u la _ (hu.ext (hx9.trans x10)) (by omega)) ?_
   intro r1 w11 x11 o11
   refine aA ?_
   have x911 := x10.trans x11
   refine aI ⟨x911, ?_⟩
   refine aT (i := 5) (by decide +kernel) rfl rfl ?_
   refine aL (enters_of Tryz.func40 rfl rfl) rfl rfl (QJ v lb _ (hv.ext (hx9.trans x911)) (by omega)) ?_
   intro r2 w12 x12 o12
   refine aA ?_
   have x912 := x911.trans x12
   refine aI ⟨x912, ?_⟩
   refine tk 6 ?_; refine aA ?_; refine tk 7 ?_; refine aA ?_
   refine cS (by decide +kernel) ?_
   have hx12 := hx9.trans x912
   have h12 := x912.at h9
   have sr1 := (o11.ext x12).sl
   have sr2 := o12.sl
   have pb12 := aE (x912.at b9)
   have pc12 := aE (x912.at c9)
   refine_lift bX fun _ _ => ?_
   refine cE 11 (Ext w12) (by decide +kernel) ?_
   intro w13 x13 _
   refine ⟨x13, ?_⟩
   refine eG 0 ?_; refine eG 1 ?_; refine eG 2 ?_; refine eG 3 ?_; refine eG 4 ?_; refine eG 5 ?_; refine eG 7 ?_; refine eG 8 ?_
   refine bT (i := 6) (by decide +kernel) rfl rfl ?_
   refine aL (enters_of Tryz.func97 rfl rfl) rfl rfl (ER r1 r2 _ _ _ (sr1.ext x13) (sr2.ext x13) (by omega)) ?_
   intro g w14 x14 og
   refine aA ?_
   have x1214 := x13.trans x14
   refine aI ⟨cX x1214, ?_⟩
   refine bT (i := 9) (by decide +kernel) rfl rfl ?_
   refine aL (enters_of Tryz.func97 rfl rfl) rfl rfl (ER r2 r1 _ _ _ (sr2.ext x1214) (sr1.ext x1214) (by omega)) ?_
   intro n w15 x15 on
   refine aA ?_
   have x1215 := x1214.trans x15
   refine aI ⟨cX x1215, ?_⟩
   have sg := (og.ext x15).sl
   have sn := on.sl
   refine bP (i := 10) (v := .agg #[.int .i64 (aS oa la).serial, .int .i64 (aS ob lb).serial, g, n]) rfl rfl rfl (by decide +kernel) (by decide +kernel) (by decide +kernel) (by decide +kernel) rfl (fun w' _ => Runs.build rfl (by obtain ⟨_, _, _, rfl⟩ := sg.slf; obtain ⟨_, _, _, rfl⟩ := sn.slf; kernel_rfl)) (fun _ _ _ h => h) ?_
   refine aA ?_
   refine bT (i := 11) (by decide +kernel) rfl rfl ?_
   have h15 := x1215.at h12
   refine aC (v := .agg #[.int .i64 (aS oa la).serial, .int .i64 (aS ob lb).serial, g, n]) rfl rfl rfl h15 (show aO Tryz.prog 90 4 = true by decide +kernel) rfl (iE rfl rfl sg.one sn.one) ?_
   intro w16 p16
   refine aI ⟨cG rfl, ?_⟩
   refine iF 12 ?_
   refine cV (by decide +kernel) ?_
   have x16 : Ext w w16 := (hx12.trans x1215).move p16.mv (by rintro k ⟨⟩; exact zz)
   refine_lift aR ?_
   refine bodyPost_ret (aF (cs := [.int .i64 (aS oa la).serial, .int .i64 (aS ob lb).serial, g, n]) rfl rfl p16.this (show dQ Tryz.prog 90 4 = true by decide +kernel)) rfl ⟨_, rfl, x16, ?_⟩
   have hd : BA oa la ob lb = ⟨(aS oa la).serial, (aS ob lb).serial, eH (aK la) (aK lb), eH (aK lb) (aK la)⟩ := by rw [BA, if_pos he]
   rw [hd, he]
   exact ⟨_, rfl, g, n, rfl, (og.ext x15).mv p16.mv (.inr ((og.ext x15).neBlock h15 (by decide))) |>.weaken (hx12.trans x13).size, on.mv p16.mv (.inr (on.neBlock h15 (by decide))) |>.weaken (hx12.trans x1214).size⟩
structure OwnOff (B k : Nat) (e : TypeId) (w : World) (v : Value) (es : List (List Value)) : Prop where
 row : (v = .slice none 0 0 ∧ es = []) ∨ ∃ g o cap cur fz, v = .slice (some ⟨g, o * k, none⟩) es.length cap ∧ B ≤ g ∧ w.heap[g]? = some (.cells cur e fz) ∧ (fz.2 ≤ fz.1 ∨ cur.size ≤ fz.1) ∧ es.length ≤ cap ∧ cap ≤ maxLen ∧ (o + cap) * k ≤ cur.size ∧ (cur.toList.drop (o * k)).take (es.length * k) = es.flatten
 each : ∀ x ∈ es, x.length = k
theorem Own.off {B k e : Nat} {w : World} {v : Value} {es : List (List Value)} (h : Own B k e w v es) : OwnOff B k e w v es := by
 refine ⟨?_, h.each⟩
 rcases h.row.2 with ⟨rfl, h0⟩ | ⟨g, cap, cur, fz, rfl, hb, hg, hfz, hnc, hcm, hcs, htake⟩
 ·exact .inl ⟨rfl, List.eq_nil_of_length_eq_zero h0⟩
 ·exact .inr ⟨g, 0, cap, cur, fz, by simp, hb, hg, hfz, hnc, hcm, by rw [Nat.zero_add]; exact Nat.le_of_eq hcs.symm, by simpa using htake⟩
theorem OwnOff.nil (B k : Nat) (e : TypeId) (w : World) : OwnOff B k e w (.slice none 0 0) [] := (Own.nil B k e w).off
theorem OwnOff.type {B k e : Nat} {w : World} {v : Value} {es : List (List Value)} (h : OwnOff B k e w v es) {r : Nat} (hr : v.ownBlock = some r) : B ≤ r ∧ r < w.heap.size ∧ ∃ cur fz, w.heap[r]? = some (.cells cur e fz) := by
 rcases h.row with ⟨rfl, _⟩ | ⟨g, o, cap, cur, fz, rfl, hb, hg, _⟩
 ·simp [Value.ownBlock] at hr
 ·simp [Value.ownBlock] at hr; subst hr; exact ⟨hb, (Array.getElem?_eq_some_iff.1 hg).1, cur, fz, hg⟩
theorem OwnOff.neBlock {B k e t b : Nat} {w : World} {v : Value} {es : List (List Value)} {cs : Array Value} {fz : Nat × Nat} (h : OwnOff B k e w v es) (hb : w.heap[b]? = some (.cells cs t fz)) (ht : t ≠ e) : v.ownBlock ≠ some b := fun e' => by
 obtain ⟨_, _, cur, fz', h'⟩ := h.type e'
 rw [hb] at h'
 simp only [Option.some.injEq, Obj.cells.injEq] at h'
 exact ht h'.2.1
theorem OwnOff.neOwn {B k e B' k' e' : Nat} {w : World} {v v' : Value} {es es' : List (List Value)} (h : OwnOff B k e w v es) (h' : Own B' k' e' w v' es') (he : e ≠ e') : v'.ownBlock = none ∨ v'.ownBlock ≠ v.ownBlock := by
 cases hv : v'.ownBlock with
 | none => exact .inl rfl
 | some r =>
  obtain ⟨cur, fz, h1⟩ := h'.type hv
  exact .inr fun e2 => h.neBlock h1 (fun e3 => he e3.symm) e2.symm
theorem OwnOff.mv {B k e : Nat} {w w' : World} {v : Value} {es : List (List Value)} {row : Option Nat} (h : OwnOff B k e w v es) (hm : Mv row w w') (hne : v.ownBlock = none ∨ v.ownBlock ≠ row) : OwnOff B k e w' v es := by
 refine ⟨h.row.imp id ?_, h.each⟩
 rintro ⟨g, o, cap, cur, fz, rfl, hb, hg, r⟩
 refine ⟨g, o, cap, cur, fz, rfl, hb, hm.at hg ?_, r⟩
 rcases hne with hne | hne
 ·simp [Value.ownBlock] at hne
 ·simpa [Value.ownBlock] using hne
theorem OwnOff.ext {B k e : Nat} {w w' : World} {v : Value} {es : List (List Value)} (h : OwnOff B k e w v es) (hx : Ext w w') : OwnOff B k e w' v es := by
 refine ⟨h.row.imp id ?_, h.each⟩
 rintro ⟨g, o, cap, cur, fz, rfl, hb, hg, r⟩
 exact ⟨g, o, cap, cur, fz, rfl, hb, hx.at hg, r⟩
theorem OwnOff.weaken {B C k e : Nat} {w : World} {v : Value} {es : List (List Value)} (h : OwnOff B k e w v es) (hc : C ≤ B) : OwnOff C k e w v es :=
 ⟨h.row.imp id fun ⟨g, o, cap, cur, fz, a, b, r⟩ => ⟨g, o, cap, cur, fz, a, Nat.le_trans hc b, r⟩, h.each⟩
theorem OwnOff.sl {B k e : Nat} {w : World} {v : Value} {es : List (List Value)} (h : OwnOff B k e w v es) : Sl k w v es := by
 rcases h.row with ⟨rfl, rfl⟩ | ⟨g, o, cap, cur, fz, rfl, hb, hg, hfz, hnc, hcm, hcs, htake⟩
 ·exact Sl.nil _ _
 ·refine ⟨_, cap, rfl, hnc, by unfold maxLen at hcm; omega, h.each, (fun e => by cases e), fun _ => ⟨g, o * k, rfl, ?_⟩⟩
  intro i ce j x hi hj
  have hfl := iC h.each hi hj
  rw [← htake, List.getElem?_take] at hfl
  split at hfl
  ·rw [List.getElem?_drop] at hfl
   have hlt : o * k + (i * k + j) < cur.size := by
    have := (List.getElem?_eq_some_iff.1 hfl).1
    simpa using this
   simp only [World.cell?, hg]
   rw [← Nat.add_assoc] at hfl
   simpa [Array.getElem?_toList] using hfl
  ·cases hfl
theorem OwnOff.drop {B k e : Nat} {w : World} {v : Value} {es : List (List Value)} (h : OwnOff B k e w v es) {m : Nat} (hm : m ≤ es.length) : OwnOff B k e w (cT v k m es.length) (es.drop m) := by
 refine ⟨?_, fun x hx => h.each x (List.mem_of_mem_drop hx)⟩
 rcases h.row with ⟨rfl, rfl⟩ | ⟨g, o, cap, cur, fz, rfl, hb, hg, hfz, hnc, hcm, hcs, htake⟩
 ·have : m = 0 := by simpa using hm
  subst this
  exact .inl ⟨by simp [cT], rfl⟩
 ·have hfl := aV h.each
  by_cases hc : cap = m
  ·have hlm : es.length = m := by omega
   refine .inr ⟨g, o, 0, cur, fz, ?_, hb, hg, hfz, ?_, by unfold maxLen; omega, ?_, ?_⟩
   ·simp [cT, hc, hlm]
   ·simp [hlm]
   ·have : (o + 0) * k ≤ (o + cap) * k := Nat.mul_le_mul_right k (by omega)
    omega
   ·have h0 : es.drop m = [] := by rw [← hlm, List.drop_length]
    rw [h0]
    simp
  ·refine .inr ⟨g, o + m, cap - m, cur, fz, ?_, hb, hg, hfz, ?_, by omega, ?_, ?_⟩
   ·simp [cT, hc, cO, Nat.add_mul]
   ·simp; omega
   ·rw [show o + m + (cap - m) = o + cap by omega]; exact hcs
   ·have hd := lI es m h.each
    rw [hd, ← htake, List.drop_take, List.drop_drop, List.length_drop, Nat.add_mul, ← Nat.sub_mul]
theorem wX {P : Program} {w : World} {t e k bytes B : Nat} {ty : TypeId} {v x : Value} {es fs : List (List Value)} (ht : jE P t e k bytes = true) (h : OwnOff B k e w v es) (hx : Sl k w x fs) (hne : fs ≠ []) (h1 : ∀ f ∈ fs, ∀ u ∈ f, u.oneCell' = true)
 (hB : B ≤ w.heap.size) (hb : (es.length + fs.length) * bytes ≤ 140737488355328) (hm : es.length + fs.length ≤ 140737488355328) :
 ∃ v' w', (Builtin.append_ #[t, t] ty #[v, x]).run P w = .ok v' w' ∧ OwnOff B k e w' v' (es ++ fs) ∧ Mv v.ownBlock w w' ∧ (v'.ownBlock = v.ownBlock ∨ v'.ownBlock = some w.heap.size) := by
 obtain ⟨hu, i, z, hi, hz, hzc, hs, hby, hk⟩ := fK ht
 rcases h.row with ⟨rfl, rfl⟩ | ⟨g, o, cap, cur, fz, rfl, hbg, hg, hfz, hnc, hcm, hcs, htake⟩
 ·obtain ⟨v', w', hr, ho, hmv, hkin⟩ := mI (ty := ty) ht (Own.nil B k e w) hx h1 hB hb hm
  exact ⟨v', w', hr, ho.off, hmv, hkin⟩
 ·have hxs := hx
  obtain ⟨ad, xcap, rfl, h2, h3, h4, h5, h6⟩ := hx
  obtain ⟨b, bo, he, hc⟩ := h6 hne
  subst he
  have hnews := hxs.news hk
  have hlf := aV h4
  have hle := aV h.each
  have hall : ∀ y ∈ es ++ fs, y.length = k := fun y hy => by
   rcases List.mem_append.1 hy with hy | hy
   ·exact h.each y hy
   ·exact h4 y hy
  have hokc : (o + cap) * k = o * k + cap * k := Nat.add_mul _ _ _
  have hf1 : ∀ u ∈ fs.flatten, u.oneCell' = true := fun u hu' => by obtain ⟨f, hf, hfu⟩ := List.mem_flatten.1 hu'; exact h1 f hf u hfu
  by_cases hroom : es.length + fs.length ≤ cap
  ·have hfit : o * k + es.length * k + fs.flatten.length ≤ cur.size := by
    have : (es.length + fs.length) * k ≤ cap * k := Nat.mul_le_mul_right k hroom
    rw [Nat.add_mul] at this
    omega
   have hf := run_firstCells_some (P := P) w i.size fs.length ⟨b, bo, none⟩ fs.length xcap fs.flatten (by rw [hlf, hs]) hnews
   have hst := cU P g (o * k + es.length * k) e fz fs.flatten 0 cur w hg hfz (by simpa using hfit) hf1
   simp only [Nat.add_zero] at hst
   have hr : (Builtin.append_ #[t, t] ty #[.slice (some ⟨g, o * k, none⟩) es.length cap, .slice (some ⟨b, bo, none⟩) fs.length xcap]).run P w =
    .ok (.slice (some ⟨g, o * k, none⟩) (es.length + fs.length) cap) (w.setRow g (cur.toList.take (o * k + es.length * k) ++ fs.flatten ++ cur.toList.drop (o * k + es.length * k + fs.flatten.length)).toArray) := by
    simp [Builtin.append_, run_underlying hu, sizeOf, typeInfo, hi, Builtin.lenOf, hroom, hf, cO, hs]
    rw [hs] at hf
    simp [hf, hst]
   refine ⟨_, _, hr, ⟨.inr ⟨g, o, cap, _, fz, by rw [List.length_append], hbg, setRow_heap w g cur _ e _ hg, ?_, by rw [List.length_append]; exact hroom, hcm, ?_, ?_⟩, hall⟩, ⟨rfl, rfl, rfl, by simp, fun k _ hk => setRow_other w g k _ (fun e => hk (by simp [Value.ownBlock, e])), Nat.le_refl _⟩, .inl rfl⟩
   ·simp only [List.size_toArray, List.length_append, List.length_take, List.length_drop, Array.length_toList]
    omega
   ·simp only [List.size_toArray, List.length_append, List.length_take, List.length_drop, Array.length_toList]
    omega
   ·have e1 : cur.toList.take (o * k + es.length * k) = cur.toList.take (o * k) ++ es.flatten := by
     rw [List.take_add, htake]
    have hok : (cur.toList.take (o * k)).length = o * k := by simp; omega
    rw [e1, List.toList_toArray, List.append_assoc, List.append_assoc, List.drop_append, hok, Nat.sub_self, List.drop_zero, List.drop_of_length_le (by omega), List.nil_append, List.flatten_append, ← List.append_assoc]
    have e2 : (es ++ fs).length * k = (es.flatten ++ fs.flatten).length := by rw [List.length_append, List.length_append, Nat.add_mul, hle, hlf]
    rw [e2]
    exact List.take_left
  ·have holds : ∀ j u, es.flatten[j]? = some u → w.cell? ((⟨g, o * k, none⟩ : Addr).add j) = some u := by
    intro j u hj
    rw [← htake, List.getElem?_take] at hj
    split at hj
    ·rw [List.getElem?_drop] at hj
     rw [cO]
     simp only [World.cell?, hg]
     simpa [Array.getElem?_toList] using hj
    ·cases hj
   have hr := run_append_grow (P := P) (ty := ty) w t e i z hu hi hz ⟨g, o * k, none⟩ es.length cap es.flatten (by rw [hle, hs]) holds ⟨b, bo, none⟩ fs.length xcap fs.flatten (by rw [hlf, hs]) hnews (by omega) (by omega) (growslice_fits (by omega) (by rw [hby]; exact hb))
   have hge := grownCap_ge w (es.length + fs.length) cap e
   have hcm' : grownCap w (es.length + fs.length) cap e ≤ maxLen := grownCap_le_maxLen w (es.length + fs.length) cap e (by unfold maxLen; omega)
   have hlen : (es ++ fs).flatten.length = (es ++ fs).length * k := aV hall
   refine ⟨_, _, hr, (show Own B k e _ _ (es ++ fs) from ⟨⟨hlen, .inr ⟨w.heap.size, _, _, (0, 0), by rw [List.length_append], hB, heap_alloc_new w.drew _, .inl (Nat.le_refl _), by rw [List.length_append]; exact hge, hcm', ?_, ?_⟩⟩, hall⟩).off, ⟨rfl, rfl, rfl, by simp, fun k hk _ => (Ext.alloc w.drew _).block k hk, Nat.le_succ _⟩, .inr rfl⟩
   ·simp only [Array.size_append, List.size_toArray, size_zeroCells, hzc, hle, hlf, ← Nat.add_mul]
    congr 1
    omega
   ·simp only [Array.toList_append, List.append_assoc]
    rw [← List.append_assoc, ← List.flatten_append, ← hlen]
    exact List.take_left
section
variable {P : Program} {ops : Array Oper} {Q : Exit → Act → World → Prop} {w : World} {rest : List Oper} {ts : List Value} {df : List Deferred} {ty : TypeId} {ps : String} {af : Array Edge}
theorem wY {t e k B d : Nat} {x0 y : Operand} {v0 x : Value} {es fs : List (List Value)} (h0 : (Act.mk ts.toArray df).eval x0 = v0)
 (h : OwnOff B k e w v0 es) (hy : (Act.mk ts.toArray df).eval y = x) (hx : Sl k w x fs) (hne : fs ≠ []) (h1 : ∀ f ∈ fs, ∀ u ∈ f, u.oneCell' = true)
 (hB : B ≤ w.heap.size) (hm : es.length + fs.length ≤ 1000000)
 (hk : ∀ v' w', OwnOff B k e w' v' (es ++ fs) → Mv v0.ownBlock w w' → (v'.ownBlock = v0.ownBlock ∨ v'.ownBlock = some w.heap.size) → wpList P ops Q rest (Act.mk (ts.set d v').toArray df) w')
 (ht : jE P t e k (dA P e) = true := by decide +kernel) (hby : dA P e ≤ 1000000 := by decide +kernel) :
 wpList P ops Q (Oper.mk (some d) (.call ⟨.builtin .append, #[x0, y], #[t, t]⟩) ty ps af none :: rest) (Act.mk ts.toArray df) w := by
 have hb : (es.length + fs.length) * dA P e ≤ 140737488355328 :=
  calc (es.length + fs.length) * dA P e ≤ 1000000 * 1000000 := Nat.mul_le_mul hm hby
   _ ≤ _ := by decide
 obtain ⟨v', w', hr, ho, hmv, hkin⟩ := wX (ty := ty) ht h hx hne h1 hB hb (by omega)
 refine kF rfl ?_ (hk v' w' ho hmv hkin)
 simp [execOp, resolve, invoke, builtin, h0, hy, hr]
end
theorem Pts.front {w : World} {p : Value} {vs : List Value} (h : Pts w p vs) (n : Nat) : Pts w p (vs.take n) := by
 obtain ⟨b, o, e, hc⟩ := h
 refine ⟨b, o, e, fun j x hx => hc j x ?_⟩
 rw [List.getElem?_take] at hx
 split at hx
 ·exact hx
 ·cases hx
section
variable {P : Program} {w : World} {ts : List Value} {df : List Deferred} {d : Option Nat} {ty : TypeId} {ps : String} {af : Array Edge} {g : Option (Nat × Bool)}
theorem Runs.fieldJ {s : TypeId} {m n off : Nat} {ad : Addr} (hx : ts.getD m undef = .pointer (some ad)) (hf : jF P s n off = true) :
 Runs P (Oper.mk d (.fieldAddr s (.tmp m) n) ty ps af g) (Act.mk ts.toArray df) w (bR (.pointer (some ad)) off) := by
 obtain ⟨fs, f, i, ht, hf, ho, hie, hz⟩ := jH hf
 have hx' : (Act.mk ts.toArray df).eval (.tmp m) = .pointer (some ad) := by rw [eP]; exact hx
 constructor
 simp [execOp, hx', Instr.fieldAt, Instr.sureAddr, run_underlying ht, hf, fieldPlace, sizeOf, typeInfo, hie, hz, bR, ho]
end
end Go.Proofs.X
