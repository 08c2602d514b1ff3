/- Laws and walks that the proof of the statement is made of (part 9). -/
import Derived.Test.YtcabalnocddidaaGreatP8
set_option linter.unusedSimpArgs false
set_option linter.unusedVariables false
namespace Go.Proofs.X
open Go.RowKit
set_option maxRecDepth 100000
theorem yE {B : Nat} {l : List Rec} {r : Value} {w' : World} (h : GroupO B l r w') : ∃ v, r = .tuple #[v, .int .i64 (jM l)] ∧ SetsO B w' v (if jM l = 0 then bJ l else []) := by
 by_cases h0 : jM l = 0
 ·obtain ⟨v, hv, hs⟩ := h.uni
  exact ⟨v, hv, by rw [if_pos h0]; exact hs h0⟩
 ·unfold GroupO at h
  rw [← AL, if_neg h0] at h
  exact ⟨_, h, by rw [if_neg h0]; exact SetsO.nil _ _⟩
theorem Sl.lt_block {k : Nat} {w : World} {a o n c : Nat} {s : Option Nat} {es : List (List Value)} (h : Sl (k + 1) w (.slice (some ⟨a, o, s⟩) n c) es) (hne : es ≠ []) : a < w.heap.size := by
 obtain ⟨a', cap, h1, h2, h3, h4, h5, h6⟩ := h
 obtain ⟨b, o', e1, hc⟩ := h6 hne
 rw [e1] at h1
 simp only [Value.slice.injEq, Option.some.injEq, Addr.mk.injEq] at h1
 cases es with
 | nil => exact absurd rfl hne
 | cons e es =>
  cases e with
  | nil => exact absurd (h4 [] (by simp)) (by simp)
  | cons x xs =>
   have := World.block_lt_of_cell? w _ (hc 0 (x :: xs) 0 x rfl rfl)
   rw [h1.1.1]
   exact this
def lJ (s : LrnR) (x : Value) : List Value := [aF s.set.name, .int .i64 s.set.kind, .int .i64 s.set.ttl, x, .int .i64 s.rank]
def mP (x v : Value) : Prop := ∀ a o s n c, x = .slice (some ⟨a, o, s⟩) n c → v.ownBlock ≠ some a
structure LrnsV (B : Nat) (w : World) (v : Value) (l : List LrnR) : Prop where
 out : ∃ css, Own B 5 61 w v css ∧ css.length = l.length ∧ ∀ (i : Nat) (s : LrnR), l[i]? = some s → ∃ x, css[i]? = some (lJ s x) ∧ Sl 1 w x (aI s.set.data) ∧ From B x ∧ (s.set.data ≠ [] → mP x v)
theorem LrnsV.nil (B : Nat) (w : World) : LrnsV B w (.slice none 0 0) [] := ⟨[], Own.nil _ _ _ _, rfl, by simp⟩
theorem LrnsV.ext {B : Nat} {w w' : World} {v : Value} {l : List LrnR} (h : LrnsV B w v l) (hx : Ext w w') : LrnsV B w' v l := by
 obtain ⟨css, h1, h2, h3⟩ := h
 exact ⟨css, h1.ext hx, h2, fun i s hi => let ⟨x, a, b, c, d⟩ := h3 i s hi; ⟨x, a, b.ext hx, c, d⟩⟩
def wA (l : List Rec) : List RSet := if jM l = 0 then bJ l else []
theorem wB (l : List Rec) (rank : Int) : cD l rank = (wA l).map fun s => ⟨s, rank⟩ := by
 unfold cD wA
 split <;> rfl
set_option maxHeartbeats 2000000 in
theorem kS (v : Value) (l : List Rec) (rank : Int) (w : World) (hv : Sl 4 w v (aE l)) (hl : l.length ≤ 10000) : Calls Tryz.prog 47 #[v, .int .i64 rank] w (uT w fun r w' => LrnsV w.heap.size w' r (cD l rank)) := by
 rw [wB]
 have hG := GA v l
 go_enter Tryz.func47, Tryz.ntmps47
 (repeat' first | ((with_reducible refine aJ ?_); go_step) | ((with_reducible refine aG ?_); first | refine aL ?_ | (refine aK ?_ ?_ <;> intro hc)) | fail)
 refine aO (enters_of Tryz.func99 rfl rfl) rfl rfl (hG _ hv hl) ?_
 intro r w1 x1 hr
 obtain ⟨y, rfl, css, hs, hf, hc, hfc⟩ := yE hr
 refine aA ?_
 have hB := x1.size
 change SetsC w1 css (wA l) at hc
 have hLl : (wA l).length ≤ l.length := by
  unfold wA
  split
  ·have := (fP l l.length (Nat.le_refl _)).1
   rw [List.take_length] at this
   exact this
  ·exact Nat.zero_le _
 generalize hLq : wA l = L at *
 have hcl := hc.len
 (repeat' first | ((with_reducible refine aJ ?_); go_step) | ((with_reducible refine aG ?_); first | refine aL ?_ | (refine aK ?_ ?_ <;> intro hc)) | fail)
 go_loopw [7, 17] (fun o i wr => ∃ k : Nat, k ≤ css.length ∧ i = .int .i64 k ∧ Ext w1 wr ∧ Own w1.heap.size 5 61 wr o ((css.take k).map fun f => f ++ [.int .i64 rank])) (fun _ i _ => css.length - (intOf i).toNat)
 case atStart => exact ⟨0, Nat.zero_le _, rfl, Ext.refl _, by simpa using Own.nil _ _ _ _⟩
 case round =>
  obtain ⟨k, hk, rfl, hx, ho⟩ := hrel
  have hu2 := hs.ext hx
  by_cases hlt : k < css.length
  ·have hLk : k < L.length := by rw [← hc.len]; exact hlt
   obtain ⟨x, hx1, hsx⟩ := hc.at' k L[k] (List.getElem?_eq_getElem hLk)
   have hpe := hu2.elem hx1
   have hxo := hsx.one
   have hst : (css.take (k + 1)).map (fun f => f ++ [.int .i64 rank]) = (css.take k).map (fun f => f ++ [.int .i64 rank]) ++ [[aF L[k].name, .int .i64 L[k].kind, .int .i64 L[k].ttl, x, .int .i64 rank]] := by
    rw [List.take_succ_eq_append_getElem hlt, List.map_append]
    congr 1
    rw [List.getElem?_eq_getElem hlt] at hx1
    simp [Option.some.inj hx1]
   have hll : ((css.take k).map fun f => f ++ [Value.int .i64 rank]).length + 1 ≤ 1000000 := by
    rw [List.length_map, List.length_take]
    omega
   (repeat' first | ((with_reducible refine aJ ?_); go_step) | ((with_reducible refine aG ?_); first | refine aL ?_ | (refine aK ?_ ?_ <;> intro hc)) | fail)
   refine aH (z := DW) rfl (by decide +kernel) ?_
   intro w2 x2 s2 h2
   refine aA ?_
   refine aD (v := .agg #[aF L[k].name, .int .i64 L[k].kind, .int .i64 L[k].ttl, x]) rfl rfl rfl h2 (show aP Tryz.prog 59 4 = true by decide +kernel) rfl (nG rfl rfl rfl hxo) ?_
   intro w3 p3
   have x3 : Ext wr w3 := x2.move p3.mv (by rintro k ⟨⟩; exact Nat.le_refl _)
   have hp3 := aC (cs := [aF L[k].name, .int .i64 L[k].kind, .int .i64 L[k].ttl, x]) p3.this
   have ho3 := ho.ext x3
   have sz3 := (hx.trans x3).size
   clear p3 h2 x2 hpe
   (repeat' first | ((with_reducible refine aJ ?_); go_step) | ((with_reducible refine aG ?_); first | refine aL ?_ | (refine aK ?_ ?_ <;> intro hc)) | fail)
   refine bB (v := .agg (lJ ⟨L[k], rank⟩ x).toArray) (Runs.build (vals := [(0, .agg #[aF L[k].name, .int .i64 L[k].kind, .int .i64 L[k].ttl, x]), (1, .int .i64 rank)]) rfl (by obtain ⟨_, _, _, rfl⟩ := hsx.slf; kernel_rfl)) ?_
   refine aA ?_
   refine CC (lJ ⟨L[k], rank⟩ x) (hx.trans x3) ho3 hll ?_ (ElemIs.mk rfl rfl rfl (by simp [lJ, hxo, show ∀ s, (aF s).oneCell' = true from fun _ => rfl, show ∀ n, (Value.int .i64 n).oneCell' = true from fun _ => rfl]))
   intro s5 v5 w5 w6 x5 m6 x6 o6
   refine aA ?_
   (repeat' first | ((with_reducible refine aJ ?_); go_step) | ((with_reducible refine aG ?_); first | refine aL ?_ | (refine aK ?_ ?_ <;> intro hc)) | fail)
   refine ⟨⟨k + 1, by omega, by go_num, x6, ?_⟩, by simp [intOf]; omega⟩
   rw [hst]
   exact o6
  ·have : k = css.length := by omega
   subst this
   rw [List.take_length] at ho
   (repeat' first | ((with_reducible refine aJ ?_); go_step) | ((with_reducible refine aG ?_); first | refine aL ?_ | (refine aK ?_ ?_ <;> intro hc)) | fail)
   go_ret
   refine ⟨_, rfl, x1.trans hx, ?_⟩
   rw [hLq]
   refine ⟨_, ho.weaken hB, by simp [hc.len], ?_⟩
   intro i s hi
   rw [List.getElem?_map] at hi
   obtain ⟨q, hq, rfl⟩ := Option.map_eq_some_iff.1 hi
   obtain ⟨x, hx1, hsx⟩ := hc.at' i q hq
   refine ⟨x, by rw [List.getElem?_map, hx1]; rfl, hsx.ext hx, hfc _ (List.mem_of_getElem? hx1) x (by simp), fun hne a o' s' n c e h2 => ?_⟩
   obtain ⟨h3, h4⟩ := ho.block a h2
   subst e
   have h5 := Sl.lt_block hsx (by simpa [aI] using hne)
   omega
def yT (n : List UInt8) (k : Int) (r : Rec) : Bool := decide (r.name = fold n) && (decide (r.kind = k) || decide (k = 255))
def AQ (w : List Rec) (n : List UInt8) (k : Int) : List Rec := (w.map dU).filter (yT n k)
theorem AR (t : TaskR) (l : List Rec) (n : List UInt8) (k : Int) : t.of l n k = AQ (aN l t.zone) n k := rfl
theorem zU {l : List Rec} {n : List UInt8} {q : Int} {k : Nat} (h : k < l.length) : AQ (l.take (k + 1)) n q = AQ (l.take k) n q ++ if yT n q (dU l[k]) = true then [dU l[k]] else [] := by
 rw [AQ, List.take_succ_eq_append_getElem h, List.map_append, List.filter_append]
 congr 1
 simp only [List.map_cons, List.map_nil, List.filter_cons, List.filter_nil]
theorem yF (l : List Rec) (n : List UInt8) (k : Int) : (AQ l n k).length ≤ l.length := by
 refine Nat.le_trans (List.length_filter_le _ _) ?_
 rw [List.length_map]
 exact Nat.le_refl _
set_option maxHeartbeats 2000000 in
theorem wC {w0 w : World} {b : Nat} {t : TaskR} (h : TaskAt w0 w b t) (v : Value) (l : List Rec) (n : List UInt8) (k : Int) (hv : Sl 4 w v (aE l)) (hl : l.length ≤ 100000) :
 Calls Tryz.prog 45 #[.pointer (some ⟨b, 0, none⟩), v, aF n, .int .i64 k] w (uT w fun r w' => Own w.heap.size 4 64 w' r (aE (t.of l n k))) := by
 obtain ⟨rv, sv, gv, ev, h⟩ := h
 have hp := aC (cs := bM t rv sv gv ev) h.blk
 rw [AR]
 have hwl := eC l t.zone
 go_enter Tryz.func45, Tryz.ntmps45
 (repeat' first | ((with_reducible refine aJ ?_); go_step) | ((with_reducible refine aG ?_); first | refine aL ?_ | (refine aK ?_ ?_ <;> intro hc)) | fail)
 refine aO (enters_of Tryz.func26 rfl rfl) rfl rfl (gD v l t.zone _ hv hl) ?_
 intro lv w1 x1 o1
 refine aA ?_
 have hs1 := o1.sl
 generalize hL : aN l t.zone = L at *
 have hlen := aM L
 have hx1 := x1
 (repeat' first | ((with_reducible refine aJ ?_); go_step) | ((with_reducible refine aG ?_); first | refine aL ?_ | (refine aK ?_ ?_ <;> intro hc)) | fail)
 go_loopw [9, 19] (fun o i wr => ∃ j : Nat, j ≤ L.length ∧ i = .int .i64 j ∧ Ext w1 wr ∧ Own w1.heap.size 4 64 wr o (aE (AQ (L.take j) n k))) (fun _ i _ => L.length - (intOf i).toNat)
 case atStart => exact ⟨0, Nat.zero_le _, rfl, Ext.refl _, by simpa [AQ, aE] using Own.nil _ _ _ _⟩
 case round =>
  obtain ⟨j, hj, rfl, hx, ho⟩ := hrel
  have hu2 := hs1.ext hx
  have hx0 := x1.trans hx
  by_cases hlt : j < L.length
  ·have hpe := hu2.elem (cX hlt)
   have hst := zU (n := n) (q := k) hlt
   have hll := yF (L.take j) n k
   rw [List.length_take] at hll
   have hcl := aM (AQ (L.take j) n k)
   (repeat' first | ((with_reducible refine aJ ?_); go_step) | ((with_reducible refine aG ?_); first | refine aL ?_ | (refine aK ?_ ?_ <;> intro hc)) | fail)
   refine aH (z := dX) rfl (by decide +kernel) ?_
   intro w2 x2 s2 h2
   refine aA ?_
   refine aD (v := .agg #[aF L[j].name, .int .i64 L[j].kind, .int .i64 L[j].ttl, aF L[j].data]) rfl rfl rfl h2 (show aP Tryz.prog 64 4 = true by decide +kernel) rfl (nG rfl rfl rfl rfl) ?_
   intro w3 p3
   have x3 : Ext wr w3 := x2.move p3.mv (by rintro k ⟨⟩; exact Nat.le_refl _)
   have hb3 : w3.heap[wr.heap.size]? = some (.cells [aF L[j].name, .int .i64 L[j].kind, .int .i64 L[j].ttl, aF L[j].data].toArray 64 (0, 0)) := p3.this
   have hp3 := aC hb3
   have ho3 := ho.ext x3
   have sx := hx0.size
   clear p3 h2 x2
   (repeat' first | ((with_reducible refine aJ ?_); go_step) | ((with_reducible refine aG ?_); first | refine aL ?_ | (refine aK ?_ ?_ <;> intro hc)) | fail)
   refine aB (enters_of Tryz.func57 rfl rfl) rfl rfl (uI L[j].name _) ?_; intro w4 x4; refine aA ?_
   have hb4 := x4.at hb3
   (repeat' first | ((with_reducible refine aJ ?_); go_step) | ((with_reducible refine aG ?_); first | refine aL ?_ | (refine aK ?_ ?_ <;> intro hc)) | fail)
   refine bC (n := 0) (v := aF (fold L[j].name)) hb4 rfl rfl rfl (by simp) (by decide +kernel) rfl ?_
   intro w5 p5
   have x5 : Ext wr w5 := (x3.trans x4).move p5.mv (by rintro k ⟨⟩; exact Nat.le_refl _)
   have hb5 : w5.heap[wr.heap.size]? = some (.cells [aF (fold L[j].name), .int .i64 L[j].kind, .int .i64 L[j].ttl, aF L[j].data].toArray 64 (0, 0)) := p5.this
   have hp5 := aC hb5
   have ho5 := ho.ext x5
   clear p5 hb3 hb4 hp3 hp
   (repeat' first | ((with_reducible refine aJ ?_); go_step) | ((with_reducible refine aG ?_); first | refine aL ?_ | (refine aK ?_ ?_ <;> intro hc)) | fail)
   all_goals first
    | (exfalso; omega)
    | skip
   refine cN (S := fun w' => Ext w5 w') (by decide +kernel) ?_
   intro w6 x6 _
   refine fK 0 ?_; refine aA ?_; refine fK 1 ?_; refine aA ?_; refine fK 2 ?_; refine aA ?_
   refine bR (i := 3) (by decide +kernel) rfl rfl ?_
   refine aB (enters_of Tryz.func57 rfl rfl) rfl rfl (uI n _) ?_
   intro w7 x7
   refine aA ?_
   have x57 := x6.trans x7
   refine aQ ⟨x57, ?_⟩
   refine fK 4 ?_; refine aA ?_; refine fK 5 ?_; refine aA ?_
   have x7' : Ext wr w7 := x5.trans x57
   have ho7 := ho5.ext x57
   have sz7 := (hx.trans x7').size
   by_cases ha : fold L[j].name = fold n
   ·rw [decide_eq_true ha]
    refine fK 6 ?_; refine aA ?_; refine fK 7 ?_; refine aA ?_; refine fK 8 ?_; refine aA ?_; refine fK 9 ?_; refine aA ?_; refine fK 10 ?_; refine aA ?_
    by_cases hk : L[j].kind = k
    ·have hP : yT n k (dU L[j]) = true := by simp [yT, dU, ha, hk]
     rw [decide_eq_true hk]
     refine tsk 11 ?_; refine aA ?_; refine tsk 12 ?_; refine aA ?_
     refine fK 13 ?_; refine aA ?_; refine fK 14 ?_; refine aA ?_
     rw [hP, if_pos rfl] at hst
     refine cK (by decide +kernel) ?_
     have hp7 := hp5.ext x57
     (repeat' first | ((with_reducible refine aJ ?_); go_step) | ((with_reducible refine aG ?_); first | refine aL ?_ | (refine aK ?_ ?_ <;> intro hc)) | fail)
     refine CC [aF (fold L[j].name), .int .i64 L[j].kind, .int .i64 L[j].ttl, aF L[j].data] (hx.trans x7') ho7 (by omega) ?_ (lI (r := dU L[j]) rfl)
     intro s8 v8 w8 w9 x8 m8 x9 o9
     refine aA ?_
     (repeat' first | ((with_reducible refine aJ ?_); go_step) | ((with_reducible refine aG ?_); first | refine aL ?_ | (refine aK ?_ ?_ <;> intro hc)) | fail)
     refine ⟨⟨j + 1, by omega, by go_num, x9, ?_⟩, by simp [intOf]; omega⟩
     rw [hst]
     simpa [aE, Rec.cells, dU] using o9
    ·rw [decide_eq_false hk]
     refine fK 11 ?_; refine aA ?_; refine fK 12 ?_; refine aA ?_; refine fK 13 ?_; refine aA ?_; refine fK 14 ?_; refine aA ?_
     by_cases hq : k = 255
     ·have hP : yT n k (dU L[j]) = true := by simp [yT, dU, ha, hq]
      rw [hP, if_pos rfl] at hst
      refine cK (by decide +kernel) ?_
      have hp7 := hp5.ext x57
      (repeat' first | ((with_reducible refine aJ ?_); go_step) | ((with_reducible refine aG ?_); first | refine aL ?_ | (refine aK ?_ ?_ <;> intro hc)) | fail)
      refine CC [aF (fold L[j].name), .int .i64 L[j].kind, .int .i64 L[j].ttl, aF L[j].data] (hx.trans x7') ho7 (by omega) ?_ (lI (r := dU L[j]) rfl)
      intro s8 v8 w8 w9 x8 m8 x9 o9
      refine aA ?_
      (repeat' first | ((with_reducible refine aJ ?_); go_step) | ((with_reducible refine aG ?_); first | refine aL ?_ | (refine aK ?_ ?_ <;> intro hc)) | fail)
      refine ⟨⟨j + 1, by omega, by go_num, x9, ?_⟩, by simp [intOf]; omega⟩
      rw [hst]
      simpa [aE, Rec.cells, dU] using o9
     ·have hP : yT n k (dU L[j]) = false := by simp [yT, dU, hk, hq]
      rw [hP, if_neg (by decide), List.append_nil] at hst
      refine cK (by decide +kernel) ?_
      have hp7 := hp5.ext x57
      (repeat' first | ((with_reducible refine aJ ?_); go_step) | ((with_reducible refine aG ?_); first | refine aL ?_ | (refine aK ?_ ?_ <;> intro hc)) | fail)
      exact ⟨⟨j + 1, by omega, by go_num, hx.trans x7', by rw [hst]; exact ho7⟩, by simp [intOf]; omega⟩
   ·have hP : yT n k (dU L[j]) = false := by simp [yT, dU, ha]
    rw [decide_eq_false ha]
    refine tsk 6 ?_; refine aA ?_; refine tsk 7 ?_; refine aA ?_; refine tsk 8 ?_; refine aA ?_; refine tsk 9 ?_; refine aA ?_; refine tsk 10 ?_; refine aA ?_; refine tsk 11 ?_; refine aA ?_; refine tsk 12 ?_; refine aA ?_; refine tsk 13 ?_; refine aA ?_
    refine fK 14 ?_; refine aA ?_
    rw [hP, if_neg (by decide), List.append_nil] at hst
    refine cK (by decide +kernel) ?_
    have hp7 := hp5.ext x57
    (repeat' first | ((with_reducible refine aJ ?_); go_step) | ((with_reducible refine aG ?_); first | refine aL ?_ | (refine aK ?_ ?_ <;> intro hc)) | fail)
    exact ⟨⟨j + 1, by omega, by go_num, hx.trans x7', by rw [hst]; exact ho7⟩, by simp [intOf]; omega⟩
  ·have : j = L.length := by omega
   subst this
   rw [List.take_length] at ho
   (repeat' first | ((with_reducible refine aJ ?_); go_step) | ((with_reducible refine aG ?_); first | refine aL ?_ | (refine aK ?_ ?_ <;> intro hc)) | fail)
   go_ret
   exact ⟨_, rfl, hx0, by rw [hL]; exact ho.weaken x1.size⟩
theorem Sl.mvR {k : Nat} {w w' : World} {v : Value} {es : List (List Value)} {row : Option Nat} (h : Sl k w v es) (hm : Mv row w w') (hne : es ≠ [] → ∀ a o s n c, v = .slice (some ⟨a, o, s⟩) n c → row ≠ some a) : Sl k w' v es := by
 obtain ⟨a, cap, h1, h2, h3, h4, h5, h6⟩ := h
 refine ⟨a, cap, h1, h2, h3, h4, h5, fun hn => ?_⟩
 obtain ⟨g, o, e, hc⟩ := h6 hn
 refine ⟨g, o, e, fun i e' j x q1 q2 => ?_⟩
 have h7 := hc i e' j x q1 q2
 exact (World.cell?_of_block (hm.block g (World.block_lt_of_cell? w _ h7) (fun e9 => hne hn g o none _ _ (by rw [h1, e]) e9.symm))).trans h7
theorem LrnsV.one {B : Nat} {w : World} {v : Value} {l : List LrnR} (h : LrnsV B w v l) : v.oneCell' = true := by
 obtain ⟨css, h1, _⟩ := h
 exact h1.one
theorem LrnsV.weaken {B C : Nat} {w : World} {v : Value} {l : List LrnR} (h : LrnsV B w v l) (hc : C ≤ B) : LrnsV C w v l := by
 obtain ⟨css, h1, h2, h3⟩ := h
 exact ⟨css, h1.weaken hc, h2, fun i s hi => let ⟨x, a, b, c, d⟩ := h3 i s hi; ⟨x, a, b, c.weaken hc, d⟩⟩
theorem LrnsV.mvb {B b : Nat} {w w' : World} {v : Value} {l : List LrnR} (h : LrnsV B w v l) (hm : Mv (some b) w w') (hb : b < B) : LrnsV B w' v l := by
 obtain ⟨css, h1, h2, h3⟩ := h
 have hv : v.ownBlock = none ∨ v.ownBlock ≠ some b := by
  by_cases e : v.ownBlock = some b
  ·have := (h1.block b e).1; omega
  ·exact .inr e
 refine ⟨css, h1.mv hm hv, h2, fun i s hi => ?_⟩
 obtain ⟨x, a, c, d, e⟩ := h3 i s hi
 refine ⟨x, a, c.mvR hm ?_, d, e⟩
 intro _ g o s' n c' e1 e2
 have := d g o s' n c' e1
 have := Option.some.inj e2
 omega
structure LrnsU (B : Nat) (w : World) (v : Value) (l : List LrnR) (u : Value) : Prop where
 out : ∃ css, Own B 5 61 w v css ∧ css.length = l.length ∧ ∀ (i : Nat) (s : LrnR), l[i]? = some s → ∃ x, css[i]? = some (lJ s x) ∧ Sl 1 w x (aI s.set.data) ∧ From B x ∧ (s.set.data ≠ [] → mP x v ∧ mP x u)
theorem LrnsU.lrns {B : Nat} {w : World} {v u : Value} {l : List LrnR} (h : LrnsU B w v l u) : LrnsV B w v l := by
 obtain ⟨css, h1, h2, h3⟩ := h
 exact ⟨css, h1, h2, fun i s hi => let ⟨x, a, b, c, d⟩ := h3 i s hi; ⟨x, a, b, c, fun hd => (d hd).1⟩⟩
theorem LrnsV.apart {B : Nat} {w : World} {v : Value} {l : List LrnR} (h : LrnsV B w v l) : LrnsU B w v l (.slice none 0 0) := by
 obtain ⟨css, h1, h2, h3⟩ := h
 exact ⟨css, h1, h2, fun i s hi => let ⟨x, a, b, c, d⟩ := h3 i s hi; ⟨x, a, b, c, fun hd => ⟨d hd, fun a o s n c _ e => by cases e⟩⟩⟩
theorem LrnsU.ext {B : Nat} {w w' : World} {v u : Value} {l : List LrnR} (h : LrnsU B w v l u) (hx : Ext w w') : LrnsU B w' v l u := by
 obtain ⟨css, h1, h2, h3⟩ := h
 exact ⟨css, h1.ext hx, h2, fun i s hi => let ⟨x, a, b, c, d⟩ := h3 i s hi; ⟨x, a, b.ext hx, c, d⟩⟩
theorem LrnsU.mvb {B b : Nat} {w w' : World} {v u : Value} {l : List LrnR} (h : LrnsU B w v l u) (hm : Mv (some b) w w') (hb : b < B) : LrnsU B w' v l u := by
 obtain ⟨css, h1, h2, h3⟩ := h
 have hv : v.ownBlock = none ∨ v.ownBlock ≠ some b := by
  by_cases e : v.ownBlock = some b
  ·have := (h1.block b e).1; omega
  ·exact .inr e
 refine ⟨css, h1.mv hm hv, h2, fun i s hi => ?_⟩
 obtain ⟨x, a, c, d, e⟩ := h3 i s hi
 refine ⟨x, a, c.mvR hm ?_, d, e⟩
 intro _ g o s' n c' e1 e2
 have := d g o s' n c' e1
 have := Option.some.inj e2
 omega
theorem LrnsU.mvo {B : Nat} {w w' : World} {v u : Value} {l : List LrnR} {c : Nat} {o : Obj} (h : LrnsU B w v l u) (hm : Mv (some c) w w') (hc : w.heap[c]? = some o) (ho : ∀ cs t fz, o ≠ .cells cs t fz) : LrnsU B w' v l u := by
 obtain ⟨css, h1, h2, h3⟩ := h
 have hv : v.ownBlock = none ∨ v.ownBlock ≠ some c := by
  by_cases e : v.ownBlock = some c
  ·rcases h1.row.2 with e1 | ⟨gg, cap, cur, fz, rfl, hb, hg, r⟩
   ·exact .inl (by rw [e1.1]; rfl)
   ·exfalso
    simp only [Value.ownBlock, Option.some.injEq] at e
    rw [e, hc] at hg
    exact ho _ _ _ (Option.some.inj hg)
  ·exact .inr e
 refine ⟨css, h1.mv hm hv, h2, fun i s hi => ?_⟩
 obtain ⟨x, a, b, d, e⟩ := h3 i s hi
 refine ⟨x, a, b.mvR hm ?_, d, e⟩
 intro hn g o' s' n c' e1 e2
 have e3 := Option.some.inj e2
 subst e3
 obtain ⟨a', cap, h1', h2', h3', h4', h5', h6'⟩ := b
 obtain ⟨b', o'', e4, hcell⟩ := h6' hn
 rw [e4, e1] at h1'
 simp only [Value.slice.injEq, Option.some.injEq, Addr.mk.injEq] at h1'
 cases hd : s.set.data with
 | nil => rw [hd] at hn; exact hn rfl
 | cons d0 dl =>
  have h7 := hcell 0 [aF d0] 0 (aF d0) (by rw [hd]; rfl) rfl
  rw [← h1'.1.1] at h7
  unfold World.cell? at h7
  rw [hc] at h7
  cases o with
  | cells cs t fz => exact ho _ _ _ rfl
  | map _ _ => cases h7
  | _ => cases h7
theorem LrnsU.append {B B2 : Nat} {w w' : World} {v u v3 y : Value} {l m : List LrnR} {css css2 : List (List Value)} (hB : B ≤ B2)
 (h1 : Own B 5 61 w v css) (h2 : css.length = l.length) (h3 : ∀ (i : Nat) (s : LrnR), l[i]? = some s → ∃ x, css[i]? = some (lJ s x) ∧ Sl 1 w x (aI s.set.data) ∧ From B x ∧ (s.set.data ≠ [] → mP x v ∧ mP x y))
 (k2 : css2.length = m.length) (k3 : ∀ (i : Nat) (s : LrnR), m[i]? = some s → ∃ x, css2[i]? = some (lJ s x) ∧ Sl 1 w x (aI s.set.data) ∧ From B2 x ∧ (s.set.data ≠ [] → mP x u))
 (hv : ∀ r, v.ownBlock = some r → r < B2) (hy : ∀ r, y.ownBlock = some r → r < B2) (o3 : Own B 5 61 w' v3 (css ++ css2)) (hm : Mv v.ownBlock w w') (hk : v3.ownBlock = v.ownBlock ∨ v3.ownBlock = some w.heap.size) : LrnsU B w' v3 (l ++ m) y := by
 have far : ∀ x (d : List (List UInt8)), d ≠ [] → Sl 1 w x (aI d) → mP x v → mP x v3 := by
  intro x d hd hs ha a o s n c e e2
  rcases hk with e1 | e1
  ·exact ha a o s n c e (e1 ▸ e2)
  ·subst e
   have := Sl.lt_block hs (by simpa [aI] using hd)
   rw [e1] at e2
   have := Option.some.inj e2
   omega
 have kept : ∀ x (d : List (List UInt8)), Sl 1 w x (aI d) → (d ≠ [] → mP x v) → Sl 1 w' x (aI d) := by
  intro x d hs ha
  refine hs.mvR hm fun hn a o s n c e e2 => ?_
  exact ha (by rintro rfl; exact hn rfl) a o s n c e e2
 refine ⟨_, o3, by simp [h2, k2], fun i s hi => ?_⟩
 by_cases hlt : i < l.length
 ·rw [List.getElem?_append_left hlt] at hi
  obtain ⟨x, a, b, c, d⟩ := h3 i s hi
  exact ⟨x, by rw [List.getElem?_append_left (by omega)]; exact a, kept x _ b fun hd => (d hd).1, c, fun hd => ⟨far x _ hd b (d hd).1, (d hd).2⟩⟩
 ·rw [List.getElem?_append_right (by omega)] at hi
  obtain ⟨x, a, b, c, d⟩ := k3 _ s hi
  have hfar : mP x v := by
   intro a' o s' n c' e e2
   have q1 := c a' o s' n c' e
   have q2 := hv a' e2
   omega
  have hfar2 : mP x y := by
   intro a' o s' n c' e e2
   have q1 := c a' o s' n c' e
   have q2 := hy a' e2
   omega
  exact ⟨x, by rw [List.getElem?_append_right (by omega), h2]; exact a, kept x _ b fun _ => hfar, c.weaken hB, fun hd => ⟨far x _ hd b hfar, hfar2⟩⟩
theorem LrnsU.grow {B : Nat} {w w' : World} {v y y3 : Value} {l : List LrnR} (h : LrnsU B w v l y) (hm : Mv y.ownBlock w w') (hk : y3.ownBlock = y.ownBlock ∨ y3.ownBlock = some w.heap.size) (hv : v.ownBlock = none ∨ v.ownBlock ≠ y.ownBlock) : LrnsU B w' v l y3 := by
 obtain ⟨css, h1, h2, h3⟩ := h
 refine ⟨css, h1.mv hm hv, h2, fun i s hi => ?_⟩
 obtain ⟨x, a, b, c, d⟩ := h3 i s hi
 refine ⟨x, a, b.mvR hm fun hn a o s' n c e e2 => (d (by rintro h9; rw [h9] at hn; exact hn rfl)).2 a o s' n c e e2, c, fun hd => ⟨(d hd).1, ?_⟩⟩
 intro a' o s' n c' e e2
 rcases hk with e1 | e1
 ·exact (d hd).2 a' o s' n c' e (e1 ▸ e2)
 ·subst e
  have := Sl.lt_block b (by simpa [aI] using hd)
  rw [e1] at e2
  have := Option.some.inj e2
  omega
theorem wD (k : Int) (d : List UInt8) : (fold (bN k d).1).length ≤ 254 := by
 have h0 : (fold []).length ≤ 254 := kI [] rfl
 unfold bN
 split
 ·exact h0
 ·split
  ·exact h0
  ·split
   ·exact h0
   ·rename_i n hn
    unfold fV at hn
    split at hn
    ·rename_i hh
     cases hn
     exact kI _ hh.2
    ·cases hn
def iK (ns : List (List UInt8)) : List (Value × Value) := ns.map fun n => (aF n, .bool true)
theorem wE {ns : List (List UInt8)} {n : List UInt8} {i : Nat} {v : Value} (h : (iK ns)[i]? = some (aF n, v)) : n ∈ ns ∧ v = .bool true := by
 rw [iK, List.getElem?_map] at h
 cases hi : ns[i]? with
 | none => rw [hi] at h; cases h
 | some m =>
  rw [hi] at h
  simp only [Option.map_some, Option.some.injEq, Prod.mk.injEq, aF, Value.string.injEq, ByteArray.mk.injEq] at h
  have : m = n := by simpa using h.1
  exact ⟨this ▸ List.mem_of_getElem? hi, h.2.symm⟩
theorem yG {ns : List (List UInt8)} {n : List UInt8} (h : ∀ (i : Nat) (e : Value × Value), (iK ns)[i]? = some e → e.1 ≠ aF n) : n ∉ ns := by
 intro hm
 obtain ⟨i, hi, rfl⟩ := List.mem_iff_getElem.1 hm
 exact h i (aF ns[i], .bool true) (by simp [iK, hi]) rfl
theorem uQ : WideMaps.KeyLaw Tryz.prog 29 := WideMaps.string_law Tryz.underlying29
theorem zV (n : List UInt8) (hn : n.length ≤ 1000000) : ∃ l, keyOf Tryz.prog 29 (aF n) = some l :=
 ⟨_, WideMaps.keyOf_string_mk Tryz.underlying29 (by rw [cQ]; unfold maxLen; omega)⟩
def bZ (t : TaskR) (ex : List Rec) (ns : List Rec) (k : Nat) : RfrR := (ns.take k).foldl (t.refStep ex) ⟨[], [], cD ns 2⟩
theorem oP {t : TaskR} {ex ns : List Rec} {k : Nat} (h : k < ns.length) : bZ t ex ns (k + 1) = t.refStep ex (bZ t ex ns k) ns[k] := by
 rw [bZ, List.take_succ_eq_append_getElem h, List.foldl_append]; rfl
theorem tR {s : List Int} {l : List Rec} {k : Nat} (h : k < l.length) : dV s (l.take (k + 1)) = (match gW l[k].data with | none => dV s (l.take k) | some n => if n ∈ dV s (l.take k) then dV s (l.take k) else dV s (l.take k) ++ [n]) := by
 rw [dV, List.take_succ_eq_append_getElem h, List.foldl_append]; rfl
theorem qD (s : List Int) (l : List Rec) : (dV s l).length ≤ s.length + l.length := by
 induction l generalizing s with
 | nil => exact Nat.le_refl _
 | cons r l ih =>
  have e : dV s (r :: l) = dV (match gW r.data with | none => s | some n => if n ∈ s then s else s ++ [n]) l := rfl
  rw [e]
  refine Nat.le_trans (ih _) ?_
  rw [List.length_cons]
  split
  ·omega
  ·split
   ·omega
   ·rw [List.length_append]; simp; omega
theorem jQ (l : List Rec) (rank : Int) : (cD l rank).length ≤ l.length := by
 unfold cD
 split
 ·rw [List.length_map]
  have := (fP l l.length (Nat.le_refl _)).1
  rw [List.take_length] at this
  exact this
 ·exact Nat.zero_le _
theorem fJ (t : TaskR) (l : List Rec) (n : List UInt8) (k : Int) : (t.of l n k).length ≤ l.length := by
 rw [AR]
 exact Nat.le_trans (yF _ _ _) (eC _ _)
theorem qE (t : TaskR) (ex ns : List Rec) : ∀ k, k ≤ ns.length → (bZ t ex ns k).servers.length ≤ k * ex.length ∧ (bZ t ex ns k).learnt.length ≤ ns.length + k * ex.length ∧ (bZ t ex ns k).seen.length ≤ k
 | 0, _ => ⟨Nat.zero_le _, Nat.le_trans (jQ _ _) (Nat.le_add_right ..), Nat.zero_le _⟩
 | k + 1, h => by
   rw [oP (by omega)]
   obtain ⟨h1, h2, h3⟩ := qE t ex ns k (by omega)
   unfold TaskR.refStep
   have e : (k + 1) * ex.length = k * ex.length + ex.length := Nat.succ_mul ..
   dsimp only
   split
   ·exact ⟨by omega, by omega, by omega⟩
   ·have a1 := fJ t ex (fold (bN 2 ns[k].data).1) 1
    have a2 := qD (bZ t ex ns k).servers (t.of ex (fold (bN 2 ns[k].data).1) 1)
    have a3 := jQ (t.of ex (fold (bN 2 ns[k].data).1) 1) 1
    rw [e]
    simp only [List.length_append, List.length_cons, List.length_nil]
    exact ⟨by omega, by omega, by omega⟩
theorem sP (t : TaskR) (m : MsgR) (z : List UInt8) : t.refer m z = ({ t with servers := (bZ t m.ex (t.of m.au z 2) (t.of m.au z 2).length).servers, zone := z }, (bZ t m.ex (t.of m.au z 2) (t.of m.au z 2).length).learnt) := by
 unfold TaskR.refer bZ
 rw [List.take_length]
theorem mG {qn : List UInt8} {qt : Int} {m : MsgR} {z : List UInt8} (h : (cF qn qt m z).1 ≠ 0) : bO qn z = true ∧ (cF qn qt m z) = (let j : JudR := ⟨qn, qt, z, m.rcode, aN m.an z, aN m.au z⟩
 if j.answer.1 ≠ 0 then j.answer else if j.alias.1 ≠ 0 then j.alias else if j.denial.1 ≠ 0 then j.denial else j.referral) := by
 unfold cF at h ⊢
 split at h
 ·exact absurd rfl h
 ·rename_i c
  rw [if_neg c]
  refine ⟨?_, rfl⟩
  cases hu : bO qn z with
  | true => rfl
  | false => exact absurd (.inl hu) c
theorem mH (j : JudR) : j.answer.1 = 0 ∨ j.answer.1 = 1 := by unfold JudR.answer; split <;> simp
theorem tS (j : JudR) : j.alias.1 = 0 ∨ j.alias.1 = 5 := by unfold JudR.alias; split <;> simp
theorem sQ (j : JudR) : j.denial.1 = 0 ∨ j.denial.1 = 3 ∨ j.denial.1 = 2 := by unfold JudR.denial; split; simp; split <;> simp
theorem iU (j : JudR) : j.referral.1 = 6 ∨ j.referral.1 = 4 := by unfold JudR.referral; split <;> simp
theorem sR {qn : List UInt8} {qt : Int} {m : MsgR} {z : List UInt8} (h : (cF qn qt m z).1 = 5) : ∃ r ∈ aN m.an z, fold r.name = fold qn ∧ r.kind = 5 := by
 obtain ⟨_, e⟩ := mG (by rw [h]; decide)
 rw [e] at h
 dsimp only at h
 generalize hj : (⟨qn, qt, z, m.rcode, aN m.an z, aN m.au z⟩ : JudR) = j at *
 have han : j.an = aN m.an z := by rw [← hj]
 have hqn : j.qn = qn := by rw [← hj]
 rw [← han, ← hqn]
 split at h
 ·rcases mH j with e1 | e1 <;> rw [e1] at h <;> cases h
 ·split at h
  ·unfold JudR.alias at h
   split at h
   ·cases h
   ·rename_i r hr
    have h1 := List.find?_some hr
    unfold JudR.aliP kR at h1
    simp only [Bool.and_eq_true, decide_eq_true_eq] at h1
    exact ⟨r, List.mem_of_find?_eq_some hr, h1⟩
  ·split at h
   ·rcases sQ j with e1 | e1 | e1 <;> rw [e1] at h <;> cases h
   ·rcases iU j with e1 | e1 <;> rw [e1] at h <;> cases h
theorem qW {qn : List UInt8} {qt : Int} {m : MsgR} {z : List UInt8} (h : (cF qn qt m z).1 = 2 ∨ (cF qn qt m z).1 = 3) : ∃ r ∈ aN m.au z, (cF qn qt m z).2 = fold r.name ∧ r.kind = 6 := by
 obtain ⟨_, e⟩ := mG (by rcases h with h | h <;> rw [h] <;> decide)
 rw [e] at h ⊢
 dsimp only at h ⊢
 generalize hj : (⟨qn, qt, z, m.rcode, aN m.an z, aN m.au z⟩ : JudR) = j at *
 have hau : j.au = aN m.au z := by rw [← hj]
 rw [← hau]
 split at h
 ·rcases mH j with e1 | e1 <;> rw [e1] at h <;> rcases h with h | h <;> cases h
 ·rename_i c1
  rw [if_neg c1]
  split at h
  ·rcases tS j with e1 | e1 <;> rw [e1] at h <;> rcases h with h | h <;> cases h
  ·rename_i c2
   rw [if_neg c2]
   split at h
   ·rename_i c3
    rw [if_pos c3]
    unfold JudR.denial at h ⊢
    split at h
    ·rcases h with h | h <;> cases h
    ·rename_i r hr
     have h1 := List.find?_some hr
     unfold JudR.denP at h1
     simp only [Bool.and_eq_true, decide_eq_true_eq] at h1
     refine ⟨r, List.mem_of_find?_eq_some hr, ?_, h1.1⟩
     split <;> rfl
   ·rcases iU j with e1 | e1 <;> rw [e1] at h <;> rcases h with h | h <;> cases h
theorem AS {t : TaskR} {l : List Rec} {n : List UInt8} {k : Int} {r : Rec} (hr : r ∈ aN l t.zone) (h1 : fold r.name = fold n) (h2 : r.kind = k) : t.of l n k ≠ [] := by
 intro e
 have : dU r ∈ t.of l n k := by
  unfold TaskR.of
  refine List.mem_filter.2 ⟨List.mem_map_of_mem hr, ?_⟩
  simp [dU, h1, h2]
 rw [e] at this
 cases this
theorem yH {t : TaskR} {m : MsgR} (h : (cF t.qn t.qt m t.zone).1 = 5) : 1 ≤ (t.of m.an t.qn 5).length := by
 obtain ⟨r, h1, h2, h3⟩ := sR h
 exact List.length_pos_iff.2 (AS h1 h2 h3)
theorem qF {t : TaskR} {m : MsgR} (h : (cF t.qn t.qt m t.zone).1 = 2 ∨ (cF t.qn t.qt m t.zone).1 = 3) : 1 ≤ (t.of m.au (cF t.qn t.qt m t.zone).2 6).length := by
 obtain ⟨r, h1, h2, h3⟩ := qW h
 exact List.length_pos_iff.2 (AS h1 (by rw [h2, qC]) h3)
structure TaskB (t : TaskR) (n : Nat) : Prop where
 l0 : 0 ≤ t.left
 l1 : t.left ≤ 1000
 c0 : 0 ≤ t.chain
 c1 : t.chain ≤ 8
 got : t.got.length ≤ n
 stop : ∀ a, t.stop = some a → a.ans.length ≤ n ∧ a.auth.length ≤ 1
theorem TaskB.weaken {t : TaskR} {n n' : Nat} (h : TaskB t n) (hn : n ≤ n') : TaskB t n' := ⟨h.l0, h.l1, h.c0, h.c1, Nat.le_trans h.got hn, fun a ha => ⟨Nat.le_trans (h.stop a ha).1 hn, (h.stop a ha).2⟩⟩
theorem TaskB.fin {t : TaskR} {n : Nat} (h : TaskB t n) (c : Int) {x y : List Rec} (hx : x.length ≤ n) (hy : y.length ≤ 1) : TaskB (t.done c x y).1 n :=
 ⟨h.l0, h.l1, h.c0, h.c1, h.got, fun a ha => by cases ha; exact ⟨hx, hy⟩⟩
theorem TaskB.on {t : TaskR} {n : Nat} (h : TaskB t n) (hs : t.stop = none) : TaskB t.on.1 n := by
 unfold TaskR.on
 split
 ·exact h.fin 2 (Nat.zero_le _) (Nat.zero_le _)
 ·split
  ·exact h.fin 2 (Nat.zero_le _) (Nat.zero_le _)
  ·rename_i c
   have := h.l0
   have := h.l1
   exact ⟨by dsimp only; omega, by dsimp only; omega, h.c0, h.c1, h.got, fun a ha => h.stop a ha⟩
theorem TaskB.timeout {t : TaskR} {n : Nat} (h : TaskB t n) : TaskB t.timeout.1 n := by
 unfold TaskR.timeout
 split
 ·exact h
 ·rename_i hs; exact h.on hs
theorem TaskB.follow {t : TaskR} {n : Nat} (h : TaskB t n) (hs : t.stop = none) (x : List UInt8) : TaskB (t.follow x).1 n := by
 unfold TaskR.follow
 have := h.c0
 have := h.c1
 split
 ·exact h.fin 2 (Nat.zero_le _) (Nat.zero_le _)
 ·rename_i c
  refine TaskB.on ⟨h.l0, h.l1, ?_, ?_, h.got, h.stop⟩ hs
  ·show 0 ≤ t.chain + 1; omega
  ·show t.chain + 1 ≤ 8; omega
theorem lK (l : List Rec) : (l.take 1).length ≤ 1 := by rw [List.length_take]; omega
theorem TaskB.reply {t : TaskR} {n c : Nat} (h : TaskB t n) (m : MsgR) (hm : m.an.length ≤ c) (hc : 1 ≤ c) : TaskB (t.reply m).1 (n + c) := by
 have h' : TaskB t (n + c) := h.weaken (Nat.le_add_right ..)
 unfold TaskR.reply
 split
 ·exact h'
 ·rename_i hs
  have hg := h.got
  dsimp only
  split
  ·have a1 := fJ t m.an t.qn t.qt
   have hg2 : (t.got ++ t.of m.an t.qn t.qt).length ≤ n + c := by rw [List.length_append]; omega
   exact TaskB.fin (t := { t with got := t.got ++ t.of m.an t.qn t.qt }) ⟨h.l0, h.l1, h.c0, h.c1, hg2, fun a ha => by rw [show t.stop = none from hs] at ha; cases ha⟩ 0 hg2 (Nat.zero_le _)
  ·split
   ·have a1 := lK (t.of m.an t.qn 5)
    have hg2 : (t.got ++ (t.of m.an t.qn 5).take 1).length ≤ n + c := by rw [List.length_append]; omega
    exact TaskB.follow (t := { t with got := t.got ++ (t.of m.an t.qn 5).take 1 }) ⟨h.l0, h.l1, h.c0, h.c1, hg2, fun a ha => by rw [show t.stop = none from hs] at ha; cases ha⟩ hs _
   ·split
    ·exact h'.fin 3 h'.got (lK _)
    ·split
     ·exact h'.fin 0 h'.got (lK _)
     ·split
      ·exact TaskB.on (t := (t.refer m (cF t.qn t.qt m t.zone).2).1) ⟨h'.l0, h'.l1, h'.c0, h'.c1, h'.got, fun a ha => h'.stop a ha⟩ hs
      ·exact h'.on hs
theorem yI {d : List UInt8} (h : Lib.hasPrefix d [10, 0, 0] = true) : ∃ t, d = 10 :: 0 :: 0 :: t ∧ Lib.trimPrefix d [10, 0, 0] = t := by
 have h2 := h
 unfold Lib.hasPrefix at h2
 rw [List.isPrefixOf_iff_prefix] at h2
 obtain ⟨t, rfl⟩ := h2
 refine ⟨t, rfl, ?_⟩
 rw [Lib.trimPrefix, if_pos h]
 rfl
theorem wF {d : List UInt8} (h : Lib.hasPrefix d [10, 0, 0] = false) : gW d = none := by
 rw [gW, if_neg]
 intro h2
 unfold Lib.hasPrefix at h
 rw [← Bool.not_eq_true, List.isPrefixOf_iff_prefix] at h
 exact h ⟨d.drop 3, by rw [← h2, List.take_append_drop]⟩
theorem CY (s p : List UInt8) (w : World) : Calls Tryz.prog 51 #[aF s, aF p] w (bS w (.tuple #[aF (Lib.trimPrefix s p), .bool (Lib.hasPrefix s p)])) := by
 refine (Tryz.strings_CutPrefix ⟨s.toArray⟩ ⟨p.toArray⟩ w).mono ?_
 rintro e w' ⟨rfl, rfl⟩
 exact ⟨rfl, Ext.refl _⟩
theorem tT (t : List UInt8) : gW (10 :: 0 :: 0 :: t) = match t with | [x] => if 99 < x.toNat then none else some (x.toNat : Nat) | _ => none := by
 unfold gW
 exact if_pos (show List.take 3 (10 :: 0 :: 0 :: t) = [10, 0, 0] from rfl)
set_option maxHeartbeats 1000000 in
theorem BQ (d : List UInt8) (w : World) (hl : d.length ≤ 9223372036854775807) : Calls Tryz.prog 17 #[aF d] w (bS w (.tuple #[.int .i64 ((gW d).getD 0), .bool (gW d).isSome])) := by
 have hcu := fun w => CY d [10, 0, 0] w
 go_enter Tryz.func17, Tryz.ntmps17
 cases hh : Lib.hasPrefix d [10, 0, 0] with
 | false =>
  have hE := wF hh
  rw [hh] at hcu
  generalize Lib.trimPrefix d [10, 0, 0] = t at hcu
  (repeat' first | ((with_reducible refine aJ ?_); go_step) | ((with_reducible refine aG ?_); first | refine aL ?_ | (refine aK ?_ ?_ <;> intro hc)) | fail)
  refine aB (enters_of Tryz.func51 rfl rfl) rfl rfl (hcu _) ?_; intro w1 x1; refine aA ?_
  (repeat' first | ((with_reducible refine aJ ?_); go_step) | ((with_reducible refine aG ?_); first | refine aL ?_ | (refine aK ?_ ?_ <;> intro hc)) | fail)
  go_ret2
  exact ⟨by rw [hE]; rfl, x1⟩
 | true =>
  obtain ⟨t, rfl, ht⟩ := yI hh
  rw [hh, ht] at hcu
  have hE := tT t
  clear ht hh
  cases t with
  | nil =>
   (repeat' first | ((with_reducible refine aJ ?_); go_step) | ((with_reducible refine aG ?_); first | refine aL ?_ | (refine aK ?_ ?_ <;> intro hc)) | fail)
   refine aB (enters_of Tryz.func51 rfl rfl) rfl rfl (hcu _) ?_; intro w1 x1; refine aA ?_
   (repeat' first | ((with_reducible refine aJ ?_); go_step) | ((with_reducible refine aG ?_); first | refine aL ?_ | (refine aK ?_ ?_ <;> intro hc)) | fail)
   go_ret2
   exact ⟨by rw [hE]; rfl, x1⟩
  | cons x t =>
   cases t with
   | nil =>
    (repeat' first | ((with_reducible refine aJ ?_); go_step) | ((with_reducible refine aG ?_); first | refine aL ?_ | (refine aK ?_ ?_ <;> intro hc)) | fail)
    refine aB (enters_of Tryz.func51 rfl rfl) rfl rfl (hcu _) ?_; intro w1 x1; refine aA ?_
    by_cases c : 99 < x.toNat
    ·have hN : gW (10 :: 0 :: 0 :: [x]) = none := by rw [hE]; exact if_pos c
     (repeat' first | ((with_reducible refine aJ ?_); go_step) | ((with_reducible refine aG ?_); first | refine aL ?_ | (refine aK ?_ ?_ <;> intro hc)) | fail)
     all_goals first
      | (exfalso; omega)
      | (exfalso; simp at hc; done)
      | skip
     go_ret2
     exact ⟨by rw [hN]; rfl, x1⟩
    ·have hN : gW (10 :: 0 :: 0 :: [x]) = some (x.toNat : Nat) := by rw [hE]; exact if_neg c
     (repeat' first | ((with_reducible refine aJ ?_); go_step) | ((with_reducible refine aG ?_); first | refine aL ?_ | (refine aK ?_ ?_ <;> intro hc)) | fail)
     all_goals first
      | (exfalso; omega)
      | (exfalso; simp at hc; done)
      | skip
     go_ret2
     exact ⟨by rw [hN]; rfl, x1⟩
   | cons y t =>
    (repeat' first | ((with_reducible refine aJ ?_); go_step) | ((with_reducible refine aG ?_); first | refine aL ?_ | (refine aK ?_ ?_ <;> intro hc)) | fail)
    refine aB (enters_of Tryz.func51 rfl rfl) rfl rfl (hcu _) ?_; intro w1 x1; refine aA ?_
    (repeat' first | ((with_reducible refine aJ ?_); go_step) | ((with_reducible refine aG ?_); first | refine aL ?_ | (refine aK ?_ ?_ <;> intro hc)) | fail)
    all_goals first
     | (exfalso; simp only [List.length_cons] at *; omega)
     | skip
    go_ret2
    exact ⟨by rw [hE]; rfl, x1⟩
theorem BR (v : Value) (l : List Int) (x : Int) (w : World) (hv : Sl 1 w v (aY l)) : Calls Tryz.prog 102 #[v, .int .i64 x] w (bS w (.bool (decide (x ∈ l)))) := by
 have hlen : (aY l).length = l.length := List.length_map ..
 have hle := hv.le
 obtain ⟨a, cap, h1, h2, h3, h4, h5, h6⟩ := hv
 subst h1
 cases l with
 | nil =>
  refine (Tryz.slices_Contains_int_empty a cap x w).mono ?_
  rintro e w' ⟨rfl, rfl⟩
  exact ⟨rfl, Ext.refl _⟩
 | cons y l =>
  obtain ⟨b, o, rfl, hc⟩ := h6 (by simp [aY])
  rw [hlen]
  refine (Tryz.slices_Contains_int b o (y :: l).length cap (y :: l) x w (Nat.le_refl _) (by omega) ?_).mono ?_
  ·intro j hj
   have := hc j [.int .i64 ((y :: l).getD j 0)] 0 (.int .i64 ((y :: l).getD j 0)) (by rw [aY, List.getElem?_map, List.getElem?_eq_getElem hj]; simp [List.getD_eq_getElem?_getD, List.getElem?_eq_getElem hj]) rfl
   simpa using this
  ·rintro e w' ⟨rfl, rfl⟩
   exact ⟨by rw [List.take_length, List.contains_eq_mem], Ext.refl _⟩
theorem TaskV.away {w0 w w' : World} {b : Nat} {t : TaskR} {rv sv gv ev : Value} {row : Option Nat} (h : TaskV w0 w b t rv sv gv ev) (hs : t.stop = none) (hm : Mv row w w') (hg : ∀ c, row = some c → w0.heap.size ≤ c ∧ c ≠ b)
 (h1 : rv.ownBlock = none ∨ rv.ownBlock ≠ row) (h2 : gv.ownBlock = none ∨ gv.ownBlock ≠ row) (h3 : OwnOff w0.heap.size 1 3 w' sv (aY t.servers)) : TaskV w0 w' b t rv sv gv ev := by
 refine ⟨h.ge, h.ext.move hm (fun k hk => (hg k hk).1), hm.at h.blk (fun e => (hg b e.symm).2 rfl), h.rs.mv hm h1, h3, h.gs.mv hm h2, ?_⟩
 have he := h.es
 rw [hs] at he ⊢
 exact he
theorem TaskV.swap {w0 w w1 w2 : World} {b : Nat} {t : TaskR} {rv sv sv' gv ev : Value} {row : Option Nat} {l : List Int} (h : TaskV w0 w b t rv sv gv ev) (hs : t.stop = none) (hm : Mv row w w1) (hg : ∀ c, row = some c → w0.heap.size ≤ c ∧ c ≠ b)
 (h1 : rv.ownBlock = none ∨ rv.ownBlock ≠ row) (h2 : gv.ownBlock = none ∨ gv.ownBlock ≠ row) (h3 : OwnOff w0.heap.size 1 3 w1 sv' (aY l))
 (hp : Put w1 w2 b (.cells (bM { t with servers := l } rv sv' gv ev).toArray 99 (0, 0))) : TaskV w0 w2 b { t with servers := l } rv sv' gv ev := by
 have b1 := hm.at h.blk (fun e => (hg b e.symm).2 rfl)
 have r1 := h.rs.mv hm h1
 have g1 := h.gs.mv hm h2
 refine ⟨h.ge, (h.ext.move hm (fun k hk => (hg k hk).1)).move hp.mv (by rintro k ⟨⟩; exact h.ge), hp.this, r1.mv hp.mv (.inr (r1.neBlock b1 (by decide))), h3.mv hp.mv (.inr (h3.neBlock b1 (by decide))), g1.mv hp.mv (.inr (g1.neBlock b1 (by decide))), ?_⟩
 have he := h.es
 rw [hs] at he
 show StopV w0.heap.size w2 ev t.stop
 rw [hs]
 exact he
theorem mX {B k e : Nat} {w : World} {v u : Value} {es : List (List Value)} (h : Own B k e w v es) (hu : ∀ r, u.ownBlock = some r → w.heap.size ≤ r) : v.ownBlock = none ∨ v.ownBlock ≠ u.ownBlock := by
 cases hv : v.ownBlock with
 | none => exact .inl rfl
 | some r =>
  refine .inr fun e => ?_
  have := (h.block r hv).2
  have := hu r e.symm
  omega
theorem zW {css : List (List Value)} {w : World} {B : Nat} {u : Value} {m : List LrnR} (h2 : css.length = m.length) (h3 : ∀ (i : Nat) (s : LrnR), m[i]? = some s → ∃ x, css[i]? = some (lJ s x) ∧ Sl 1 w x (aI s.set.data) ∧ From B x ∧ (s.set.data ≠ [] → mP x u)) : ∀ f ∈ css, ∀ u ∈ f, u.oneCell' = true := by
 intro f hf u hu
 obtain ⟨i, hi, rfl⟩ := List.mem_iff_getElem.1 hf
 obtain ⟨x, a, b, _⟩ := h3 i m[i] (List.getElem?_eq_getElem (by omega))
 rw [List.getElem?_eq_getElem hi] at a
 rw [Option.some.inj a] at hu
 simp only [lJ, List.mem_cons, List.not_mem_nil, or_false] at hu
 rcases hu with rfl | rfl | rfl | rfl | rfl
 all_goals first | rfl | exact b.one
theorem Mv.fresh' {row row2 : Option Nat} {w w1 w2 : World} (h : Mv row w w1) (k : Mv row2 w1 w2) (hc : ∀ c, row2 = some c → w.heap.size ≤ c) : Mv row w w2 :=
 ⟨k.os.trans h.os, k.tape.trans h.tape, k.output.trans h.output, Nat.le_trans h.size k.size,
  fun j hj hn => by rw [k.block j (Nat.lt_of_lt_of_le hj h.size) (by intro e; have := hc j e.symm; omega), h.block j hj hn], Nat.le_trans h.drawn k.drawn⟩
theorem MapAt.mvr {P : Program} {kt : TypeId} {w w' : World} {m : Nat} {ents : List (Value × Value)} {row : Option Nat} {B k e : Nat} {v : Value} {es : List (List Value)} (h : MapAt P kt w m ents) (hm : Mv row w w') (ho : Own B k e w v es) (hr : row = v.ownBlock) : MapAt P kt w' m ents := by
 obtain ⟨es', ck, h1, _⟩ := h.out
 exact h.at fun o hh => hm.at hh (by rw [hr]; exact fun e => ho.neMap h1 e.symm)
structure RefIn (w0 w w1 w2 w5 : World) (M b : Nat) (t : TaskR) (m : MsgR) (q a u e nv rv gv ev : Value) (ns : List Rec) (s : RfrR) (lv : Value) (wr : World) : Prop where
 mv : Mv (some b) w wr
 tsk : ∃ sv, TaskV w0 wr b { t with servers := s.servers } rv sv gv ev ∧ Own w5.heap.size 1 3 wr sv (aY s.servers) ∧ LrnsU w2.heap.size wr lv s.learnt sv
 seen : MapAt Tryz.prog 29 wr M (iK s.seen)
 ns : Own w1.heap.size 4 64 wr nv (aE ns)
 msg : wr.heap[w.heap.size]? = some (.cells (cY m q a u e).toArray 25 (0, 0))
 sz : w5.heap.size ≤ wr.heap.size
theorem RefIn.ext {w0 w w1 w2 w5 wr w' : World} {M b : Nat} {t : TaskR} {m : MsgR} {q a u e nv rv gv ev lv : Value} {ns : List Rec} {s : RfrR} (h : RefIn w0 w w1 w2 w5 M b t m q a u e nv rv gv ev ns s lv wr) (hx : Ext wr w') : RefIn w0 w w1 w2 w5 M b t m q a u e nv rv gv ev ns s lv w' := by
 obtain ⟨h1, ⟨sv, h2, h3, h4⟩, h5, h6, h7, h8⟩ := h
 exact ⟨h1.trans (hx.mv _), ⟨sv, h2.grow hx, h3.ext hx, h4.ext hx⟩, h5.at fun o ho => hx.at ho, h6.ext hx, hx.at h7, Nat.le_trans h8 hx.size⟩
set_option maxHeartbeats 2000000 in
theorem zX {w0 w : World} {b : Nat} {t : TaskR} (h : TaskAt w0 w b t) (m : MsgR) (q a u e : Value) (z : List UInt8) (hm : ∀ w', Mv (some b) w w' → MsgV w' m q a u e) (hs : t.stop = none) (h1 : m.au.length ≤ 300) (h2 : m.ex.length ≤ 300) (hd : ∀ r ∈ t.of m.au z 2, r.data.length ≤ 9223372036854775807) (he : ∀ n, ∀ r ∈ t.of m.ex n 1, r.data.length ≤ 9223372036854775807) :
 Calls Tryz.prog 49 #[.pointer (some ⟨b, 0, none⟩), .agg (cY m q a u e).toArray, aF z] w fun r w' => ∃ l, r = .returned l ∧ LrnsV w.heap.size w' l (t.refer m z).2 ∧ TaskAt w0 w' b (t.refer m z).1 ∧ Mv (some b) w w' := by
 obtain ⟨rv, sv, gv, ev, h⟩ := h
 rw [sP]
 go_enter Tryz.func49, Tryz.ntmps49
 repeat' (first | ((with_reducible refine aJ ?_); go_step) | fail)
 refine cW (vs := cY m q a u e) rfl rfl ?_
 intro w1 x1 s1 hb1
 refine aA ?_
 have hp1 := aC (cs := cY m q a u e) hb1
 have hT1 := h.grow x1
 (repeat' first | ((with_reducible refine aJ ?_); go_step) | ((with_reducible refine aG ?_); first | refine aL ?_ | (refine aK ?_ ?_ <;> intro hc)) | fail)
 have hm1 := hm _ (x1.mv _)
 refine aO (enters_of Tryz.func45 rfl rfl) rfl rfl (wC ⟨_, _, _, _, hT1⟩ u m.au z 2 hm1.au (by omega)) ?_
 intro nv w2 x2 o2
 refine aA ?_
 have hns := fJ t m.au z 2
 generalize hN : t.of m.au z 2 = ns at *
 have hT2 := hT1.grow x2
 have hb2 := x2.at hb1
 have s2 := o2.sl
 (repeat' first | ((with_reducible refine aJ ?_); go_step) | ((with_reducible refine aG ?_); first | refine aL ?_ | (refine aK ?_ ?_ <;> intro hc)) | fail)
 refine aO (enters_of Tryz.func47 rfl rfl) rfl rfl (kS nv ns 2 _ s2 (by omega)) ?_
 intro lv w3 x3 l3
 refine aA ?_
 have hT3 := hT2.grow x3
 have hb3 := x3.at hb2
 have o3 := o2.ext x3
 (repeat' first | ((with_reducible refine aJ ?_); go_step) | ((with_reducible refine aG ?_); first | refine aL ?_ | (refine aK ?_ ?_ <;> intro hc)) | fail)
 refine bC (n := 4) (v := .slice none 0 0) hT3.blk rfl rfl rfl (by simp [bM]) (by decide +kernel) rfl ?_
 intro w4 p4
 have p4' : Put w3 w4 b (.cells (bM { t with servers := [] } rv (.slice none 0 0) gv ev).toArray 99 (0, 0)) := p4
 obtain ⟨k1, k2, k3, k4⟩ := hT3.kept p4
 have hT4 := hT3.put p4' k1 (OwnOff.nil _ _ _ _) k3 k4
 clear p4'
 (repeat' first | ((with_reducible refine aJ ?_); go_step) | ((with_reducible refine aG ?_); first | refine aL ?_ | (refine aK ?_ ?_ <;> intro hc)) | fail)
 refine lR (kt := 29) rfl ?_
 intro w5 x5 s5 hm5
 refine aA ?_
 have hT5 := hT4.grow x5
 have hbw := (Array.getElem?_eq_some_iff.1 h.blk).1
 have z1 := x1.size
 have z2 := x2.size
 have z3 := x3.size
 have z4 := p4.size
 have z5 := x5.size
 have o5 : Own w1.heap.size 4 64 w5 nv (aE ns) := (o3.mv p4.mv (.inr (o3.neBlock hT3.blk (by decide)))).ext x5
 have b5 := x5.at (p4.mv.at hb3 (by intro e; have := Option.some.inj e; omega))
 have l5 : LrnsV w2.heap.size w5 lv (cD ns 2) := (l3.mvb p4.mv (by omega)).ext x5
 have m5 : Mv (some b) w w5 := (x1.mv _).trans ((x2.mv _).trans ((x3.mv _).trans (p4.mv.trans (x5.mv _))))
 have hnl := aM ns
 have hs5 := o5.sl
 have hT5' : TaskV w0 w5 b { t with servers := (bZ t m.ex ns 0).servers } rv (.slice none 0 0) gv ev := hT5
 clear hT5 hT4 hT3 hT2 hT1 k1 k2 k3 k4 l3 o2 o3 hb1 hb2 hb3 hp1 s2
 (repeat' first | ((with_reducible refine aJ ?_); go_step) | ((with_reducible refine aG ?_); first | refine aL ?_ | (refine aK ?_ ?_ <;> intro hc)) | fail)
 have hI5 : RefIn w0 w w1 w2 w5 w4.heap.size b t m q a u e nv rv gv ev ns (bZ t m.ex ns 0) lv w5 :=
  ⟨m5, ⟨_, hT5', Own.nil _ _ _ _, l5.apart⟩, hm5, o5, b5, Nat.le_refl _⟩
 go_loopw [8, 11, 12, 13, 14, 16, 17, 18, 32] (fun l _ _ _ _ _ _ _ i wr => ∃ k : Nat, k ≤ ns.length ∧ i = .int .i64 k ∧ RefIn w0 w w1 w2 w5 w4.heap.size b t m q a u e nv rv gv ev ns (bZ t m.ex ns k) l wr) (fun _ _ _ _ _ _ _ _ i _ => ns.length - (intOf i).toNat)
 case atStart => exact ⟨0, Nat.zero_le _, rfl, hI5⟩
 case round =>
  obtain ⟨k, hk, rfl, hI⟩ := hrel
  have hsn := hI.ns.sl
  by_cases hlt : k < ns.length
  ·have hpe := hsn.elem (cX hlt)
   (repeat' first | ((with_reducible refine aJ ?_); go_step) | ((with_reducible refine aG ?_); first | refine aL ?_ | (refine aK ?_ ?_ <;> intro hc)) | fail)
   refine aH (z := dX) rfl (by decide +kernel) ?_
   intro w6 x6 s6 h6
   refine aA ?_
   refine aD (v := .agg #[aF ns[k].name, .int .i64 ns[k].kind, .int .i64 ns[k].ttl, aF ns[k].data]) rfl rfl rfl h6 (show aP Tryz.prog 64 4 = true by decide +kernel) rfl (nG rfl rfl rfl rfl) ?_
   intro w7 p7
   have x7 : Ext wr w7 := x6.move p7.mv (by rintro k ⟨⟩; exact Nat.le_refl _)
   have hp7 := aC (cs := [aF ns[k].name, .int .i64 ns[k].kind, .int .i64 ns[k].ttl, aF ns[k].data]) p7.this
   have hI7 := hI.ext x7
   clear p7 h6 x6 hpe hsn
   (repeat' first | ((with_reducible refine aJ ?_); go_step) | ((with_reducible refine aG ?_); first | refine aL ?_ | (refine aK ?_ ?_ <;> intro hc)) | fail)
   refine aB (enters_of Tryz.func101 rfl rfl) rfl rfl (DU 2 ns[k].data _ (hd _ (List.getElem_mem hlt))) ?_; intro w8 x8; refine aA ?_
   have hI8 := hI7.ext x8
   (repeat' first | ((with_reducible refine aJ ?_); go_step) | ((with_reducible refine aG ?_); first | refine aL ?_ | (refine aK ?_ ?_ <;> intro hc)) | fail)
   refine aB (enters_of Tryz.func57 rfl rfl) rfl rfl (uI (bN 2 ns[k].data).1 _) ?_; intro w9 x9; refine aA ?_
   have hI9 := hI8.ext x9
   have hst := oP (t := t) (ex := m.ex) hlt
   have hlen := wD 2 ns[k].data
   have hol := qE t m.ex ns k hk
   unfold TaskR.refStep at hst
   dsimp only at hst
   generalize hnn : fold (bN 2 ns[k].data).1 = n at *
   clear hI hI7 hI8
   (repeat' first | ((with_reducible refine aJ ?_); go_step) | ((with_reducible refine aG ?_); first | refine aL ?_ | (refine aK ?_ ?_ <;> intro hc)) | fail)
   obtain ⟨lx, hlx⟩ := zV n (by omega)
   have hzv : ∀ w, (zeroValue 4).run Tryz.prog w = .ok (.bool false) w := fun w => by kernel_rfl
   obtain ⟨bv, bb, hrl, hcase⟩ := eU uQ (show jW Tryz.prog 165 29 4 = true by decide +kernel) hzv hI9.seen hlx false
   simp only [Bool.false_eq_true, if_false] at hrl
   refine bW rfl (Runs.lookup rfl rfl hrl) ?_
   refine aA ?_
   rcases hcase with ⟨i, hie, rfl⟩ | ⟨hno, rfl, rfl⟩
   ·obtain ⟨hin, rfl⟩ := wE hie
    have hst' : bZ t m.ex ns (k + 1) = bZ t m.ex ns k := by rw [hst, if_pos hin]
    (repeat' first | ((with_reducible refine aJ ?_); go_step) | ((with_reducible refine aG ?_); first | refine aL ?_ | (refine aK ?_ ?_ <;> intro hc)) | fail)
    exact ⟨⟨k + 1, by omega, by go_num, by rw [hst']; exact hI9⟩, by simp [intOf]; omega⟩
   ·have hni := yG hno
    rw [if_neg hni] at hst
    (repeat' first | ((with_reducible refine aJ ?_); go_step) | ((with_reducible refine aG ?_); first | refine aL ?_ | (refine aK ?_ ?_ <;> intro hc)) | fail)
    obtain ⟨w10, o10, hr10, p10, hm10⟩ := gZ uQ (show jW Tryz.prog 165 29 4 = true by decide +kernel) hI9.seen hlx (v := .bool true) hno
    refine iP rfl rfl rfl rfl hr10 ?_
    obtain ⟨es, ck, hme, _⟩ := hI9.seen.out
    obtain ⟨g1, ⟨sv9, g2, g3, g4⟩, g5, g6, g7, g8⟩ := hI9
    have hne9 : some w.heap.size ≠ some w4.heap.size := by intro e; have := Option.some.inj e; omega
    have hT10 : TaskV w0 w10 b { t with servers := (bZ t m.ex ns k).servers } rv sv9 gv ev := g2.away hs p10.mv (by rintro c ⟨⟩; have := h.ext.size; exact ⟨by omega, by omega⟩) (.inr (g2.rs.neMap hme)) (.inr (g2.gs.neMap hme)) ((g3.mv p10.mv (.inr (g3.neMap hme))).off.weaken (by have := h.ext.size; omega))
    have hI10 : RefIn w0 w w1 w2 w5 w4.heap.size b t m q a u e nv rv gv ev ns ⟨(bZ t m.ex ns k).seen ++ [n], (bZ t m.ex ns k).servers, (bZ t m.ex ns k).learnt⟩ u8 w10 :=
     ⟨g1.fresh p10.mv (by omega), ⟨sv9, hT10, g3.mv p10.mv (.inr (g3.neMap hme)), g4.mvo p10.mv hme (by intro _ _ _ e; cases e)⟩, by simpa [iK] using hm10, g6.mv p10.mv (.inr (g6.neMap hme)), p10.mv.at g7 hne9, Nat.le_trans g8 p10.mv.size⟩
    clear g1 g2 g3 g4 g5 g6 g7 g8 hT10 hm10 hme hrl hno
    have hb10 := hI10.msg
    have hp10 := aC (cs := cY m q a u e) hb10
    have hm10 := hm _ hI10.mv
    obtain ⟨sv10, hT10, _, _⟩ := hI10.tsk
    (repeat' first | ((with_reducible refine aJ ?_); go_step) | ((with_reducible refine aG ?_); first | refine aL ?_ | (refine aK ?_ ?_ <;> intro hc)) | fail)
    refine aO (enters_of Tryz.func45 rfl rfl) rfl rfl (wC ⟨_, _, _, _, hT10⟩ e m.ex n 1 hm10.ex (by omega)) ?_
    intro av w11 x11 o11
    refine aA ?_
    change Own w10.heap.size 4 64 w11 av (aE (t.of m.ex n 1)) at o11
    have hAl := fJ t m.ex n 1
    have hda := he n
    generalize hA : t.of m.ex n 1 = A at *
    have hI11 := hI10.ext x11
    have s11 := o11.sl
    (repeat' first | ((with_reducible refine aJ ?_); go_step) | ((with_reducible refine aG ?_); first | refine aL ?_ | (refine aK ?_ ?_ <;> intro hc)) | fail)
    refine aO (enters_of Tryz.func47 rfl rfl) rfl rfl (kS av A 1 _ s11 (by omega)) ?_
    intro lw w12 x12 l12
    refine aA ?_
    have o12 := o11.ext x12
    obtain ⟨g1, ⟨sv12, g2, g3, g4⟩, g5, g6, g7, g8⟩ := hI11
    have hz11 : w5.heap.size ≤ w11.heap.size := g8
    have hsv : ∀ r, sv12.ownBlock = some r → r < w11.heap.size := fun r hr => (g3.block r hr).2
    have hu8 : ∀ r, u8.ownBlock = some r → w2.heap.size ≤ r ∧ r < w11.heap.size := fun r hr => by
     obtain ⟨cs', i5, _⟩ := g4
     exact i5.block r hr
    have g1 := g1.trans (x12.mv _)
    have g2 := g2.grow x12
    have g3 := g3.ext x12
    have g4 := g4.ext x12
    have g5 := g5.at (fun o ho => x12.at ho)
    have g6 := g6.ext x12
    have g7 := x12.at g7
    have g8 := Nat.le_trans g8 x12.size
    obtain ⟨css, c1, c2, c3⟩ := g4
    obtain ⟨css2, d1, d2, d3⟩ := l12
    have hl3 := jQ A 1
    have hkm : k * m.ex.length ≤ 300 * 300 := Nat.mul_le_mul (by omega) h2
    dsimp only at c2
    refine cU (v0 := u8) (es := css) (fs := css2) rfl c1 rfl d1.sl (zW d2 d3) (by omega) (by omega) ?_
    intro v13 w13 o13 m13 hk13
    refine aA ?_
    have hU13 : LrnsU w2.heap.size w13 v13 ((bZ t m.ex ns k).learnt ++ cD A 1) sv12 := LrnsU.append (by omega) c1 c2 c3 d2 d3 (fun r hr => (hu8 r hr).2) hsv o13 m13 hk13
    have hT13 : TaskV w0 w13 b { t with servers := (bZ t m.ex ns k).servers } rv sv12 gv ev := g2.away hs m13 (by intro c hc; have := hu8 c hc; have := h.ext.size; exact ⟨by omega, by omega⟩) (mX h.rs (fun r hr => by have := hu8 r hr; omega)) (mX h.gs (fun r hr => by have := hu8 r hr; omega)) ((g3.mv m13 (g3.ne c1 (by decide))).off.weaken (by have := h.ext.size; omega))
    have hI13 : RefIn w0 w w1 w2 w5 w4.heap.size b t m q a u e nv rv gv ev ns ⟨(bZ t m.ex ns k).seen ++ [n], (bZ t m.ex ns k).servers, (bZ t m.ex ns k).learnt ++ cD A 1⟩ v13 w13 :=
     ⟨g1.fresh' m13 (fun c hc => by have := hu8 c hc; omega), ⟨sv12, hT13, g3.mv m13 (g3.ne c1 (by decide)), hU13⟩, g5.mvr m13 c1 rfl, g6.mv m13 (g6.ne c1 (by decide)), m13.at g7 (by intro e; have := hu8 _ e.symm; omega), Nat.le_trans g8 m13.size⟩
    have o13' := o12.mv m13 (o12.ne c1 (by decide))
    have s13 := o13'.sl
    clear g1 g2 g3 g5 g6 g7 g8 c1 c2 c3 d1 d2 d3 hU13 hT13 o12 o11 s11 hI10 hT10 hm10 hp10 hb10 o13 m13 hk13 hu8 hsv
    have hcA := aM A
    (repeat' first | ((with_reducible refine aJ ?_); go_step) | ((with_reducible refine aG ?_); first | refine aL ?_ | (refine aK ?_ ?_ <;> intro hc)) | fail)
    go_loopw [16, 17, 18, 60] (fun _ _ _ i wr => ∃ j : Nat, j ≤ A.length ∧ i = .int .i64 j ∧ RefIn w0 w w1 w2 w5 w4.heap.size b t m q a u e nv rv gv ev ns ⟨(bZ t m.ex ns k).seen ++ [n], dV (bZ t m.ex ns k).servers (A.take j), (bZ t m.ex ns k).learnt ++ cD A 1⟩ v13 wr ∧ Own w10.heap.size 4 64 wr av (aE A)) (fun _ _ _ i _ => A.length - (intOf i).toNat)
    case atStart => exact ⟨0, Nat.zero_le _, rfl, hI13, o13'⟩
    case round =>
     obtain ⟨j, hj, rfl, hJ, ho⟩ := hrel
     have hsa := ho.sl
     by_cases hlt2 : j < A.length
     ·have hpe := hsa.elem (cX hlt2)
      (repeat' first | ((with_reducible refine aJ ?_); go_step) | ((with_reducible refine aG ?_); first | refine aL ?_ | (refine aK ?_ ?_ <;> intro hc)) | fail)
      refine aH (z := dX) rfl (by decide +kernel) ?_
      intro w14 x14 s14 h14
      refine aA ?_
      refine aD (v := .agg #[aF A[j].name, .int .i64 A[j].kind, .int .i64 A[j].ttl, aF A[j].data]) rfl rfl rfl h14 (show aP Tryz.prog 64 4 = true by decide +kernel) rfl (nG rfl rfl rfl rfl) ?_
      intro w15 p15
      have x15 : Ext wr w15 := x14.move p15.mv (by rintro k ⟨⟩; exact Nat.le_refl _)
      have hp15 := aC (cs := [aF A[j].name, .int .i64 A[j].kind, .int .i64 A[j].ttl, aF A[j].data]) p15.this
      have hJ15 := hJ.ext x15
      have ho15 := ho.ext x15
      clear p15 h14 x14 hpe hsa hJ ho
      (repeat' first | ((with_reducible refine aJ ?_); go_step) | ((with_reducible refine aG ?_); first | refine aL ?_ | (refine aK ?_ ?_ <;> intro hc)) | fail)
      have hN := fun w => BQ A[j].data w (hda _ (List.getElem_mem hlt2))
      have hnt := tR (s := (bZ t m.ex ns k).servers) hlt2
      cases hnd : gW A[j].data with
      | none =>
       rw [hnd] at hnt hN
       dsimp only at hnt
       simp only [Option.getD_none, Option.isSome_none] at hN
       refine aB (enters_of Tryz.func17 rfl rfl) rfl rfl (hN _) ?_; intro w16 x16; refine aA ?_
       have hJ16 := hJ15.ext x16
       have ho16 := ho15.ext x16
       clear hJ15 ho15 hp15
       (repeat' first | ((with_reducible refine aJ ?_); go_step) | ((with_reducible refine aG ?_); first | refine aL ?_ | (refine aK ?_ ?_ <;> intro hc)) | fail)
       exact ⟨⟨j + 1, by omega, by go_num, by rw [hnt]; exact hJ16, ho16⟩, by simp [intOf]; omega⟩
      | some x =>
       rw [hnd] at hnt hN
       dsimp only at hnt
       simp only [Option.getD_some, Option.isSome_some] at hN
       refine aB (enters_of Tryz.func17 rfl rfl) rfl rfl (hN _) ?_; intro w16 x16; refine aA ?_
       have hJ16 := hJ15.ext x16
       have ho16 := ho15.ext x16
       clear hJ15 ho15 hp15
       obtain ⟨g1, ⟨sv16, g2, g3, g4⟩, g5, g6, g7, g8⟩ := hJ16
       have hp16 := aC (cs := bM { t with servers := dV (bZ t m.ex ns k).servers (A.take j) } rv sv16 gv ev) g2.blk
       dsimp only at g2 g3 g4 g5 g6 g7
       have hsv16 := g3.sl
       have hcon := fun w (h : Sl 1 w sv16 (aY (dV (bZ t m.ex ns k).servers (A.take j)))) => BR sv16 _ x w h
       have hnl2 := qD (bZ t m.ex ns k).servers (A.take j)
       rw [List.length_take] at hnl2
       have hkm2 : k * m.ex.length ≤ 300 * 300 := Nat.mul_le_mul (by omega) h2
       generalize dV (bZ t m.ex ns k).servers (A.take j) = S at *
       by_cases hin : x ∈ S
       ·rw [if_pos hin] at hnt
        rw [decide_eq_true hin] at hcon
        (repeat' first | ((with_reducible refine aJ ?_); go_step) | ((with_reducible refine aG ?_); first | refine aL ?_ | (refine aK ?_ ?_ <;> intro hc)) | fail)
        refine aB (enters_of Tryz.func102 rfl rfl) rfl rfl (hcon _ hsv16) ?_; intro w17 x17; refine aA ?_
        (repeat' first | ((with_reducible refine aJ ?_); go_step) | ((with_reducible refine aG ?_); first | refine aL ?_ | (refine aK ?_ ?_ <;> intro hc)) | fail)
        exact ⟨⟨j + 1, by omega, by go_num, by rw [hnt]; exact RefIn.ext ⟨g1, ⟨sv16, g2, g3, g4⟩, g5, g6, g7, g8⟩ x17, ho16.ext x17⟩, by simp [intOf]; omega⟩
       ·rw [if_neg hin] at hnt
        rw [decide_eq_false hin] at hcon
        (repeat' first | ((with_reducible refine aJ ?_); go_step) | ((with_reducible refine aG ?_); first | refine aL ?_ | (refine aK ?_ ?_ <;> intro hc)) | fail)
        refine aB (enters_of Tryz.func102 rfl rfl) rfl rfl (hcon _ hsv16) ?_; intro w17 x17; refine aA ?_
        have hp17 := hp16.ext x17
        obtain ⟨g1, g2, g3, g4, g5, g6, g7, g8⟩ : _ ∧ _ ∧ _ ∧ _ ∧ _ ∧ _ ∧ _ ∧ _ := ⟨g1.trans (x17.mv _), g2.grow x17, g3.ext x17, g4.ext x17, g5.at (fun o ho => x17.at ho), g6.ext x17, x17.at g7, Nat.le_trans g8 x17.size⟩
        have ho17 := ho16.ext x17
        clear hp16 hsv16
        have hcs : (aY S).length = S.length := List.length_map ..
        (repeat' first | ((with_reducible refine aJ ?_); go_step) | ((with_reducible refine aG ?_); first | refine aL ?_ | (refine aK ?_ ?_ <;> intro hc)) | fail)
        refine bY (k := 1) (e := 3) (bytes := 8) (xs := [.int .i64 x]) (parts := [(0, .tmp 85)]) rfl rfl rfl (by simp [Value.cells]) (by decide +kernel) (by simp) ?_
        intro s18 w18 x18 _ sl18 _
        refine aA ?_
        obtain ⟨g1, g2, g3, g4, g5, g6, g7, g8⟩ : _ ∧ _ ∧ _ ∧ _ ∧ _ ∧ _ ∧ _ ∧ _ := ⟨g1.trans (x18.mv _), g2.grow x18, g3.ext x18, g4.ext x18, g5.at (fun o ho => x18.at ho), g6.ext x18, x18.at g7, Nat.le_trans g8 x18.size⟩
        have ho18 := ho17.ext x18
        refine cU (v0 := sv16) (es := aY S) (fs := [[.int .i64 x]]) rfl g3 rfl sl18 (by intro f hf u hu; simp at hf; subst hf; simp at hu; subst hu; rfl) g8 (by simp [aY]; omega) ?_
        intro sv19 w19 o19 m19 hk19
        refine aA ?_
        have hsvb : ∀ r, sv16.ownBlock = some r → w5.heap.size ≤ r := fun r hr => (g3.block r hr).1
        have o19' : Own w5.heap.size 1 3 w19 sv19 (aY (S ++ [x])) := by simpa [aY] using o19
        have hgc : ∀ c, sv16.ownBlock = some c → w0.heap.size ≤ c ∧ c ≠ b := by intro c hc; have := hsvb c hc; have := h.ext.size; exact ⟨by omega, by omega⟩
        have b19 := m19.at g2.blk (fun e => (hgc b e.symm).2 rfl)
        (repeat' first | ((with_reducible refine aJ ?_); go_step) | ((with_reducible refine aG ?_); first | refine aL ?_ | (refine aK ?_ ?_ <;> intro hc)) | fail)
        refine bC (n := 4) (v := sv19) b19 rfl rfl rfl (by simp [bM]) (by decide +kernel) o19'.one ?_
        intro w20 p20
        have hT20 := g2.swap (l := S ++ [x]) hs m19 hgc (mX h.rs (fun r hr => by have := hsvb r hr; omega)) (mX h.gs (fun r hr => by have := hsvb r hr; omega)) (o19'.off.weaken (by have := h.ext.size; omega)) p20
        have z19 := m19.size
        have o20 := o19'.mv p20.mv (.inr (o19'.neBlock b19 (by decide)))
        have hl4 : v13.ownBlock = none ∨ v13.ownBlock ≠ sv16.ownBlock := by
         obtain ⟨cs', i5, _⟩ := g4
         exact i5.ne g3 (by decide)
        have hJ20 : RefIn w0 w w1 w2 w5 w4.heap.size b t m q a u e nv rv gv ev ns ⟨(bZ t m.ex ns k).seen ++ [n], S ++ [x], (bZ t m.ex ns k).learnt ++ cD A 1⟩ v13 w20 :=
         ⟨(g1.fresh' m19 (fun c hc => by have := hsvb c hc; omega)).trans p20.mv, ⟨sv19, hT20, o20, (g4.grow m19 hk19 hl4).mvb p20.mv (by omega)⟩, (g5.mvr m19 g3 rfl).at (fun o ho => p20.mv.at ho (by intro e; have := Option.some.inj e; omega)), (g6.mv m19 (g6.ne g3 (by decide))).mv p20.mv (.inr ((g6.mv m19 (g6.ne g3 (by decide))).neBlock b19 (by decide))), p20.mv.at (m19.at g7 (by intro e; have := hsvb _ e.symm; omega)) (by intro e; have := Option.some.inj e; omega), by have := p20.size; omega⟩
        have ho19 := ho18.mv m19 (ho18.ne g3 (by decide))
        have ho20 := ho19.mv p20.mv (.inr (ho19.neBlock b19 (by decide)))
        (repeat' first | ((with_reducible refine aJ ?_); go_step) | ((with_reducible refine aG ?_); first | refine aL ?_ | (refine aK ?_ ?_ <;> intro hc)) | fail)
        exact ⟨⟨j + 1, by omega, by go_num, by rw [hnt]; exact hJ20, ho20⟩, by simp [intOf]; omega⟩
     ·have : j = A.length := by omega
      subst this
      rw [List.take_length] at hJ
      (repeat' first | ((with_reducible refine aJ ?_); go_step) | ((with_reducible refine aG ?_); first | refine aL ?_ | (refine aK ?_ ?_ <;> intro hc)) | fail)
      exact ⟨⟨k + 1, by omega, by go_num, by rw [hst]; exact hJ⟩, by simp [intOf]; omega⟩
  ·have : k = ns.length := by omega
   subst this
   obtain ⟨g1, ⟨svz, g2, g3, g4⟩, g5, g6, g7, g8⟩ := hI
   (repeat' first | ((with_reducible refine aJ ?_); go_step) | ((with_reducible refine aG ?_); first | refine aL ?_ | (refine aK ?_ ?_ <;> intro hc)) | fail)
   refine bC (n := 3) (v := aF z) g2.blk rfl rfl rfl (by simp [bM]) (by decide +kernel) rfl ?_
   intro w20 p20
   have p20' : Put wr w20 b (.cells (bM { t with servers := (bZ t m.ex ns ns.length).servers, zone := z } rv svz gv ev).toArray 99 (0, 0)) := p20
   obtain ⟨k1, k2, k3, k4⟩ := g2.kept p20
   have hT20 := g2.put p20' k1 k2 k3 k4
   have hl20 := (g4.mvb p20.mv (by omega)).lrns.weaken (show w.heap.size ≤ w2.heap.size by omega)
   have hm20 := g1.trans p20.mv
   clear p20' k1 k2 k3 k4 g4
   (repeat' first | ((with_reducible refine aJ ?_); go_step) | ((with_reducible refine aG ?_); first | refine aL ?_ | (refine aK ?_ ?_ <;> intro hc)) | fail)
   go_ret
   exact ⟨_, rfl, by rw [hN]; exact hl20, by rw [hN]; exact ⟨_, _, _, _, hT20⟩, hm20⟩
end Go.Proofs.X
