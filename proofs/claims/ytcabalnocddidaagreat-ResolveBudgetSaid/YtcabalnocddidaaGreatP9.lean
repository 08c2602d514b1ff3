/- Laws and walks that the proof of the statement is made of (part 9). -/
import Derived.Test.YtcabalnocddidaaGreatP8
set_option linter.unusedSimpArgs false
set_option linter.unusedVariables false
namespace Go.Proofs.X
open Go.RowKit
set_option maxRecDepth 100000
def bG (a : ActR) (v1 v2 : Value) : List Value := [.int .i64 a.kind, .int .i64 a.to, aF a.qn, .int .i64 a.qt, .int .i64 a.code, v1, v2]
def bT : List Value := [.int .i64 0, .int .i64 0, aF [], .int .i64 0, .int .i64 0, .slice none 0 0, .slice none 0 0]
theorem cY {a : ActR} {v1 v2 : Value} (h1 : v1.oneCell' = true) (h2 : v2.oneCell' = true) : (Value.agg (bG a v1 v2).toArray).cells.all (·.oneCell') = true := by
 have k1 : ∀ s, (aF s).oneCell' = true := fun _ => rfl
 have k2 : ∀ n, (Value.int .i64 n).oneCell' = true := fun _ => rfl
 simp [bG, Value.cells, h1, h2, k1, k2]
structure ActV (w : World) (v : Value) (a : ActR) : Prop where
 out : ∃ v1 v2, v = .agg (bG a v1 v2).toArray ∧ Own 0 4 64 w v1 (aI a.ans) ∧ Own 0 4 64 w v2 (aI a.auth)
theorem ActV.ext {w w' : World} {v : Value} {a : ActR} (h : ActV w v a) (hx : Ext w w') : ActV w' v a := by
 obtain ⟨v1, v2, h1, h2, h3⟩ := h.out
 exact ⟨v1, v2, h1, h2.ext hx, h3.ext hx⟩
def StopV (B : Nat) (w : World) (v : Value) : Option ActR → Prop
 | none => v = .pointer none
 | some a => ∃ c v1 v2, v = .pointer (some ⟨c, 0, none⟩) ∧ B ≤ c ∧ w.heap[c]? = some (.cells (bG a v1 v2).toArray 33 (0, 0)) ∧ Own B 4 64 w v1 (aI a.ans) ∧ Own B 4 64 w v2 (aI a.auth) ∧ a.kind = 2
theorem StopV.ext {B : Nat} {w w' : World} {v : Value} {s : Option ActR} (h : StopV B w v s) (hx : Ext w w') : StopV B w' v s := by
 cases s with
 | none => exact h
 | some a =>
  obtain ⟨c, v1, v2, h1, h2, h3, h4, h5, h6⟩ := h
  exact ⟨c, v1, v2, h1, h2, hx.at h3, h4.ext hx, h5.ext hx, h6⟩
theorem StopV.put {B b t : Nat} {w w' : World} {v : Value} {s : Option ActR} {cs : Array Value} {fz : Nat × Nat} {o : Obj} (h : StopV B w v s) (hb : w.heap[b]? = some (.cells cs t fz)) (h1 : t ≠ 33) (h2 : t ≠ 64) (hp : Put w w' b o) : StopV B w' v s := by
 cases s with
 | none => exact h
 | some a =>
  obtain ⟨c, v1, v2, g1, g2, g3, g4, g5, g6⟩ := h
  refine ⟨c, v1, v2, g1, g2, hp.mv.at g3 ?_, g4.mv hp.mv (.inr (g4.neBlock hb h2)), g5.mv hp.mv (.inr (g5.neBlock hb h2)), g6⟩
  intro e
  cases e
  rw [hb] at g3
  simp only [Option.some.injEq, Obj.cells.injEq] at g3
  exact h1 g3.2.1
def bN (t : TaskR) (rv sv gv ev : Value) : List Value := [aF t.qn, .int .i64 t.qt, rv, aF t.zone, sv, gv, .int .i64 t.chain, .int .i64 t.left, ev]
structure TaskV (w0 w : World) (b : Nat) (t : TaskR) (rv sv gv ev : Value) : Prop where
 ge : w0.heap.size ≤ b
 ext : Ext w0 w
 blk : w.heap[b]? = some (.cells (bN t rv sv gv ev).toArray 99 (0, 0))
 rs : Own w0.heap.size 1 3 w rv (aZ t.roots)
 ss : OwnOff w0.heap.size 1 3 w sv (aZ t.servers)
 gs : Own w0.heap.size 4 64 w gv (aI t.got)
 es : StopV w0.heap.size w ev t.stop
def TaskAt (w0 w : World) (b : Nat) (t : TaskR) : Prop := ∃ rv sv gv ev, TaskV w0 w b t rv sv gv ev
theorem TaskV.grow {w0 w w' : World} {b : Nat} {t : TaskR} {rv sv gv ev : Value} (h : TaskV w0 w b t rv sv gv ev) (hx : Ext w w') : TaskV w0 w' b t rv sv gv ev :=
 ⟨h.ge, h.ext.trans hx, hx.at h.blk, h.rs.ext hx, h.ss.ext hx, h.gs.ext hx, h.es.ext hx⟩
theorem TaskAt.grow {w0 w w' : World} {b : Nat} {t : TaskR} (h : TaskAt w0 w b t) (hx : Ext w w') : TaskAt w0 w' b t := by
 obtain ⟨rv, sv, gv, ev, h⟩ := h
 exact ⟨rv, sv, gv, ev, h.grow hx⟩
theorem TaskV.put {w0 w w' : World} {b : Nat} {t t' : TaskR} {rv sv gv ev rv' sv' gv' ev' : Value} (h : TaskV w0 w b t rv sv gv ev) (hp : Put w w' b (.cells (bN t' rv' sv' gv' ev').toArray 99 (0, 0)))
 (h1 : Own w0.heap.size 1 3 w' rv' (aZ t'.roots)) (h2 : OwnOff w0.heap.size 1 3 w' sv' (aZ t'.servers)) (h3 : Own w0.heap.size 4 64 w' gv' (aI t'.got)) (h4 : StopV w0.heap.size w' ev' t'.stop) : TaskV w0 w' b t' rv' sv' gv' ev' :=
 ⟨h.ge, h.ext.move hp.mv (by rintro k ⟨⟩; exact h.ge), hp.this, h1, h2, h3, h4⟩
theorem TaskV.kept {w0 w w' : World} {b : Nat} {t : TaskR} {rv sv gv ev : Value} {o : Obj} (h : TaskV w0 w b t rv sv gv ev) (hp : Put w w' b o) :
 Own w0.heap.size 1 3 w' rv (aZ t.roots) ∧ OwnOff w0.heap.size 1 3 w' sv (aZ t.servers) ∧ Own w0.heap.size 4 64 w' gv (aI t.got) ∧ StopV w0.heap.size w' ev t.stop :=
 ⟨h.rs.mv hp.mv (.inr (h.rs.neBlock h.blk (by decide))), h.ss.mv hp.mv (.inr (h.ss.neBlock h.blk (by decide))), h.gs.mv hp.mv (.inr (h.gs.neBlock h.blk (by decide))), h.es.put h.blk (by decide) (by decide) hp⟩
theorem Mv.fresh {row : Option Nat} {w w1 w2 : World} {c : Nat} (h : Mv row w w1) (k : Mv (some c) w1 w2) (hc : w.heap.size ≤ c) : Mv row w w2 :=
 ⟨k.os.trans h.os, k.tape.trans h.tape, k.output.trans h.output, Nat.le_trans h.size k.size,
  fun j hj hn => by rw [k.block j (Nat.lt_of_lt_of_le hj h.size) (by intro e; have := Option.some.inj e; omega), h.block j hj hn], Nat.le_trans h.drawn k.drawn⟩
theorem ActV.one {w : World} {v : Value} {a : ActR} (h : ActV w v a) : v.cells.all (·.oneCell') = true := by
 obtain ⟨v1, v2, rfl, h2, h3⟩ := h.out
 exact cY h2.one h3.one
theorem ActV.size {w : World} {v : Value} {a : ActR} (h : ActV w v a) : v.cells.size = 7 := by
 obtain ⟨v1, v2, rfl, h2, h3⟩ := h.out
 rfl
theorem ActV.put {w w' : World} {v : Value} {a : ActR} {c t : Nat} {cs : Array Value} {fz : Nat × Nat} {o : Obj} (h : ActV w v a) (hp : Put w w' c o) (hc : w.heap[c]? = some (.cells cs t fz)) (ht : t ≠ 64) : ActV w' v a := by
 obtain ⟨v1, v2, h1, h2, h3⟩ := h.out
 exact ⟨v1, v2, h1, h2.mv hp.mv (.inr (h2.neBlock hc ht)), h3.mv hp.mv (.inr (h3.neBlock hc ht))⟩
theorem TaskV.other {w0 w w' : World} {b c : Nat} {t : TaskR} {rv sv gv ev : Value} {fz : Nat × Nat} {o : Obj} (h : TaskV w0 w b t rv sv gv ev) (hp : Put w w' c o) (hc : w.heap[c]? = some (.cells bT.toArray 33 fz)) (hg : w0.heap.size ≤ c) : TaskV w0 w' b t rv sv gv ev := by
 refine ⟨h.ge, h.ext.move hp.mv (by rintro k ⟨⟩; exact hg), hp.mv.at h.blk ?_, h.rs.mv hp.mv (.inr (h.rs.neBlock hc (by decide))), h.ss.mv hp.mv (.inr (h.ss.neBlock hc (by decide))), h.gs.mv hp.mv (.inr (h.gs.neBlock hc (by decide))), ?_⟩
 ·intro e
  have e2 := h.blk
  rw [Option.some.inj e, hc] at e2
  simp only [Option.some.injEq, Obj.cells.injEq] at e2
  exact absurd e2.2.1 (by decide)
 ·have he := h.es
  generalize hst : t.stop = s at he
  cases s with
  | none => exact he
  | some a =>
   obtain ⟨k, v1, v2, g1, g2, g3, g4, g5, g6⟩ := he
   refine ⟨k, v1, v2, g1, g2, hp.mv.at g3 (fun e => ?_), g4.mv hp.mv (.inr (g4.neBlock hc (by decide))), g5.mv hp.mv (.inr (g5.neBlock hc (by decide))), g6⟩
   rw [Option.some.inj e, hc] at g3
   simp only [Option.some.injEq, Obj.cells.injEq] at g3
   have e3 := congrArg (fun q => q[0]?) g3.1
   simp [bT, bG, g6] at e3
def ActRet (w0 : World) (b : Nat) (r : TaskR × ActR) (v : Value) (w' : World) : Prop := ActV w' v r.2 ∧ TaskAt w0 w' b r.1
theorem iI {w0 w : World} {b : Nat} {t : TaskR} (h : TaskAt w0 w b t) : Calls Tryz.prog 22 #[.pointer (some ⟨b, 0, none⟩)] w (bU w (aF t.zone)) := by
 obtain ⟨rv, sv, gv, ev, h⟩ := h
 have hp := aC (cs := bN t rv sv gv ev) h.blk
 go_enter Tryz.func22, Tryz.ntmps22
 (repeat' first | ((with_reducible refine aG ?_); go_step) | ((with_reducible refine aE ?_); first | refine aL ?_ | (refine aJ ?_ ?_ <;> intro hc)) | fail)
 go_ret
 exact ⟨rfl, Ext.refl _⟩
set_option maxHeartbeats 1000000 in
theorem kW {w0 w : World} {b : Nat} {t : TaskR} {a : ActR} (h : TaskAt w0 w b t) (hs : t.stop = some a) (h1' : a.ans.length ≤ 1000000) (h2' : a.auth.length ≤ 1000000) : Calls Tryz.prog 43 #[.pointer (some ⟨b, 0, none⟩)] w (tG w (ActRet w0 b (t, a))) := by
 obtain ⟨rv, sv, gv, ev, h⟩ := h
 have hp := aC (cs := bN t rv sv gv ev) h.blk
 have he := h.es
 rw [hs] at he
 obtain ⟨c, v1, v2, rfl, hc, hcb, o1, o2, -⟩ := he
 have hpc := aC (cs := bG a v1 v2) hcb
 go_enter Tryz.func43, Tryz.ntmps43
 (repeat' first | ((with_reducible refine aG ?_); go_step) | ((with_reducible refine aE ?_); first | refine aL ?_ | (refine aJ ?_ ?_ <;> intro hc)) | fail)
 refine aH (z := bT) rfl (by decide +kernel) ?_
 intro w1 x1 s1 h1
 refine aA ?_
 have hp1 := hp.ext x1
 have hpc1 := hpc.ext x1
 (repeat' first | ((with_reducible refine aG ?_); go_step) | ((with_reducible refine aE ?_); first | refine aL ?_ | (refine aJ ?_ ?_ <;> intro hc)) | fail)
 refine bD (Runs.loadN hpc1 rfl (show bK Tryz.prog 33 7 = true by decide +kernel)) ?_
 refine aA ?_
 refine aH (z := bT) rfl (by decide +kernel) ?_
 intro w2 x2 s2 h2
 refine aA ?_
 refine aD (v := .agg (bG a v1 v2).toArray) rfl rfl rfl h2 (show aN Tryz.prog 33 7 = true by decide +kernel) rfl (cY o1.one o2.one) ?_
 intro w3 p3
 have x3 : Ext w1 w3 := x2.move p3.mv (by rintro k ⟨⟩; exact Nat.le_refl _)
 have hp3 := aC (cs := bG a v1 v2) p3.this
 have hb3 := p3.this
 have o13 := (o1.ext x1).ext x3
 have o23 := (o2.ext x1).ext x3
 have hx3 := x1.trans x3
 clear p3 h2 x2
 (repeat' first | ((with_reducible refine aG ?_); go_step) | ((with_reducible refine aE ?_); first | refine aL ?_ | (refine aJ ?_ ?_ <;> intro hc)) | fail)
 have sz3 := hx3.size
 have sz1 := x1.size
 refine cZ 7 (Ext w3) (by decide +kernel) ?_
 intro w4 x4 _
 refine ⟨x4, ?_⟩
 refine iV 0 ?_; refine iV 1 ?_; refine iV 3 ?_; refine iV 4 ?_
 refine cE (i := 2) (by decide +kernel) rfl rfl ?_
 refine aM (enters_of Tryz.func94 rfl rfl) rfl rfl (sQ v1 a.ans _ (o13.sl.ext x4) h1') ?_
 intro u1 w5 x5 n1
 refine aA ?_
 have x35 := x4.trans x5
 refine aS ⟨dV x35, ?_⟩
 refine iV 6 ?_
 refine cE (i := 5) (by decide +kernel) rfl rfl ?_
 refine aM (enters_of Tryz.func94 rfl rfl) rfl rfl (sQ v2 a.auth _ (o23.sl.ext x35) h2') ?_
 intro u2 w6 x6 n2
 refine aA ?_
 have x36 := x35.trans x6
 refine aS ⟨dV x36, ?_⟩
 have n16 := n1.ext x6
 have hb6 : w6.heap[w1.heap.size]? = some (.cells (bG a v1 v2).toArray 33 (0, 0)) := x36.at hb3
 refine cE (i := 7) (by decide +kernel) rfl rfl ?_
 refine bF (n := 5) (v := u1) hb6 rfl rfl rfl (by simp [bG]) (by decide +kernel) n16.one ?_
 intro w7 p7
 refine aS ⟨cO rfl, ?_⟩
 refine cE (i := 8) (by decide +kernel) rfl rfl ?_
 ((with_reducible refine aE ?_); (first | (refine lC ?_; refine iR ?_) | (refine mS ?_; refine pI ?_; (with_reducible refine aE ?_); refine lC ?_; refine iR ?_)))
 refine aS ⟨cO rfl, ?_⟩
 refine cE (i := 9) (by decide +kernel) rfl rfl ?_
 refine bF (n := 6) (v := u2) p7.this rfl rfl rfl (by simp [bG]) (by decide +kernel) n2.one ?_
 intro w8 p8
 refine aS ⟨cO rfl, ?_⟩
 refine eF (by decide +kernel) ?_
 have hm := p7.mv.trans p8.mv
 have x8 : Ext w w8 := (hx3.trans x36).move hm (by rintro k ⟨⟩; omega)
 have hb8 : w8.heap[w1.heap.size]? = some (.cells (bG a u1 u2).toArray 33 (0, 0)) := p8.this
 have hp8 := aC (cs := bG a u1 u2) hb8
 have m1 := n16.mv hm (.inr (n16.neBlock hb6 (by decide)))
 have m2 := n2.mv hm (.inr (n2.neBlock hb6 (by decide)))
 (repeat' first | ((with_reducible refine aG ?_); go_step) | ((with_reducible refine aE ?_); first | refine aL ?_ | (refine aJ ?_ ?_ <;> intro hc)) | fail)
 refine bD (Runs.loadN hp8 rfl (show bK Tryz.prog 33 7 = true by decide +kernel)) ?_
 refine aA ?_
 have h18 := hm.at ((x3.trans x36).at h1) (by intro e; have := Option.some.inj e; omega)
 refine aD (v := .agg (bG a u1 u2).toArray) rfl rfl rfl h18 (show aN Tryz.prog 33 7 = true by decide +kernel) rfl (cY m1.one m2.one) ?_
 intro w9 p9
 have x9 : Ext w w9 := x8.move p9.mv (by rintro k ⟨⟩; exact Nat.le_refl _)
 have k1 := m1.mv p9.mv (.inr (m1.neBlock h18 (by decide)))
 have k2 := m2.mv p9.mv (.inr (m2.neBlock h18 (by decide)))
 (repeat' first | ((with_reducible refine aG ?_); go_step) | ((with_reducible refine aE ?_); first | refine aL ?_ | (refine aJ ?_ ?_ <;> intro hc)) | fail)
 refine bodyPost_ret (bV (cs := bG a u1 u2) rfl rfl p9.this (show bK Tryz.prog 33 7 = true by decide +kernel)) rfl ⟨_, rfl, x9, ⟨⟨u1, u2, rfl, k1.weaken (Nat.zero_le _), k2.weaken (Nat.zero_le _)⟩⟩, _, _, _, _, h.grow x9⟩
theorem yW {B : Nat} {l : List Rec} {r : Value} {w' : World} (h : GroupO B l r w') : ∃ v, r = .tuple #[v, .int .i64 (kO l)] ∧ SetsO B w' v (if kO l = 0 then bM l else []) := by
 by_cases h0 : kO l = 0
 ·obtain ⟨v, hv, hs⟩ := h.uni
  exact ⟨v, hv, by rw [if_pos h0]; exact hs h0⟩
 ·unfold GroupO at h
  rw [← BC, if_neg h0] at h
  exact ⟨_, h, by rw [if_neg h0]; exact SetsO.nil _ _⟩
theorem Sl.lt_block {k : Nat} {w : World} {a o n c : Nat} {s : Option Nat} {es : List (List Value)} (h : Sl (k + 1) w (.slice (some ⟨a, o, s⟩) n c) es) (hne : es ≠ []) : a < w.heap.size := by
 obtain ⟨a', cap, h1, h2, h3, h4, h5, h6⟩ := h
 obtain ⟨b, o', e1, hc⟩ := h6 hne
 rw [e1] at h1
 simp only [Value.slice.injEq, Option.some.injEq, Addr.mk.injEq] at h1
 cases es with
 | nil => exact absurd rfl hne
 | cons e es =>
  cases e with
  | nil => exact absurd (h4 [] (by simp)) (by simp)
  | cons x xs =>
   have := World.block_lt_of_cell? w _ (hc 0 (x :: xs) 0 x rfl rfl)
   rw [h1.1.1]
   exact this
def oW (s : LrnR) (x : Value) : List Value := [aF s.set.name, .int .i64 s.set.kind, .int .i64 s.set.ttl, x, .int .i64 s.rank]
def mV (x v : Value) : Prop := ∀ a o s n c, x = .slice (some ⟨a, o, s⟩) n c → v.ownBlock ≠ some a
structure LrnsV (B : Nat) (w : World) (v : Value) (l : List LrnR) : Prop where
 out : ∃ css, Own B 5 61 w v css ∧ css.length = l.length ∧ ∀ (i : Nat) (s : LrnR), l[i]? = some s → ∃ x, css[i]? = some (oW s x) ∧ Sl 1 w x (aK s.set.data) ∧ From B x ∧ (s.set.data ≠ [] → mV x v)
theorem LrnsV.nil (B : Nat) (w : World) : LrnsV B w (.slice none 0 0) [] := ⟨[], Own.nil _ _ _ _, rfl, by simp⟩
theorem LrnsV.ext {B : Nat} {w w' : World} {v : Value} {l : List LrnR} (h : LrnsV B w v l) (hx : Ext w w') : LrnsV B w' v l := by
 obtain ⟨css, h1, h2, h3⟩ := h
 exact ⟨css, h1.ext hx, h2, fun i s hi => let ⟨x, a, b, c, d⟩ := h3 i s hi; ⟨x, a, b.ext hx, c, d⟩⟩
def wU (l : List Rec) : List RSet := if kO l = 0 then bM l else []
theorem wV (l : List Rec) (rank : Int) : cJ l rank = (wU l).map fun s => ⟨s, rank⟩ := by
 unfold cJ wU
 split <;> rfl
set_option maxHeartbeats 2000000 in
theorem kX (v : Value) (l : List Rec) (rank : Int) (w : World) (hv : Sl 4 w v (aI l)) (hl : l.length ≤ 10000) : Calls Tryz.prog 47 #[v, .int .i64 rank] w (tG w fun r w' => LrnsV w.heap.size w' r (cJ l rank)) := by
 rw [wV]
 have hG := GT v l
 go_enter Tryz.func47, Tryz.ntmps47
 (repeat' first | ((with_reducible refine aG ?_); go_step) | ((with_reducible refine aE ?_); first | refine aL ?_ | (refine aJ ?_ ?_ <;> intro hc)) | fail)
 refine aM (enters_of Tryz.func99 rfl rfl) rfl rfl (hG _ hv hl) ?_
 intro r w1 x1 hr
 obtain ⟨y, rfl, css, hs, hf, hc, hfc⟩ := yW hr
 refine aA ?_
 have hB := x1.size
 change SetsC w1 css (wU l) at hc
 have hLl : (wU l).length ≤ l.length := by
  unfold wU
  split
  ·have := (fM l l.length (Nat.le_refl _)).1
   rw [List.take_length] at this
   exact this
  ·exact Nat.zero_le _
 generalize hLq : wU l = L at *
 have hcl := hc.len
 (repeat' first | ((with_reducible refine aG ?_); go_step) | ((with_reducible refine aE ?_); first | refine aL ?_ | (refine aJ ?_ ?_ <;> intro hc)) | fail)
 go_loopw [7, 17] (fun o i wr => ∃ k : Nat, k ≤ css.length ∧ i = .int .i64 k ∧ Ext w1 wr ∧ Own w1.heap.size 5 61 wr o ((css.take k).map fun f => f ++ [.int .i64 rank])) (fun _ i _ => css.length - (intOf i).toNat)
 case atStart => exact ⟨0, Nat.zero_le _, rfl, Ext.refl _, by simpa using Own.nil _ _ _ _⟩
 case round =>
  obtain ⟨k, hk, rfl, hx, ho⟩ := hrel
  have hu2 := hs.ext hx
  by_cases hlt : k < css.length
  ·have hLk : k < L.length := by rw [← hc.len]; exact hlt
   obtain ⟨x, hx1, hsx⟩ := hc.at' k L[k] (List.getElem?_eq_getElem hLk)
   have hpe := hu2.elem hx1
   have hxo := hsx.one
   have hst : (css.take (k + 1)).map (fun f => f ++ [.int .i64 rank]) = (css.take k).map (fun f => f ++ [.int .i64 rank]) ++ [[aF L[k].name, .int .i64 L[k].kind, .int .i64 L[k].ttl, x, .int .i64 rank]] := by
    rw [List.take_succ_eq_append_getElem hlt, List.map_append]
    congr 1
    rw [List.getElem?_eq_getElem hlt] at hx1
    simp [Option.some.inj hx1]
   have hll : ((css.take k).map fun f => f ++ [Value.int .i64 rank]).length + 1 ≤ 1000000 := by
    rw [List.length_map, List.length_take]
    omega
   (repeat' first | ((with_reducible refine aG ?_); go_step) | ((with_reducible refine aE ?_); first | refine aL ?_ | (refine aJ ?_ ?_ <;> intro hc)) | fail)
   refine aH (z := EK) rfl (by decide +kernel) ?_
   intro w2 x2 s2 h2
   refine aA ?_
   refine aD (v := .agg #[aF L[k].name, .int .i64 L[k].kind, .int .i64 L[k].ttl, x]) rfl rfl rfl h2 (show aN Tryz.prog 59 4 = true by decide +kernel) rfl (nN rfl rfl rfl hxo) ?_
   intro w3 p3
   have x3 : Ext wr w3 := x2.move p3.mv (by rintro k ⟨⟩; exact Nat.le_refl _)
   have hp3 := aC (cs := [aF L[k].name, .int .i64 L[k].kind, .int .i64 L[k].ttl, x]) p3.this
   have ho3 := ho.ext x3
   have sz3 := (hx.trans x3).size
   clear p3 h2 x2 hpe
   (repeat' first | ((with_reducible refine aG ?_); go_step) | ((with_reducible refine aE ?_); first | refine aL ?_ | (refine aJ ?_ ?_ <;> intro hc)) | fail)
   refine bD (v := .agg (oW ⟨L[k], rank⟩ x).toArray) (Runs.build (vals := [(0, .agg #[aF L[k].name, .int .i64 L[k].kind, .int .i64 L[k].ttl, x]), (1, .int .i64 rank)]) rfl (by obtain ⟨_, _, _, rfl⟩ := hsx.slf; kernel_rfl)) ?_
   refine aA ?_
   refine CS (oW ⟨L[k], rank⟩ x) (hx.trans x3) ho3 hll ?_ (ElemIs.mk rfl rfl rfl (by simp [oW, hxo, show ∀ s, (aF s).oneCell' = true from fun _ => rfl, show ∀ n, (Value.int .i64 n).oneCell' = true from fun _ => rfl]))
   intro s5 v5 w5 w6 x5 m6 x6 o6
   refine aA ?_
   (repeat' first | ((with_reducible refine aG ?_); go_step) | ((with_reducible refine aE ?_); first | refine aL ?_ | (refine aJ ?_ ?_ <;> intro hc)) | fail)
   refine ⟨⟨k + 1, by omega, by go_num, x6, ?_⟩, by simp [intOf]; omega⟩
   rw [hst]
   exact o6
  ·have : k = css.length := by omega
   subst this
   rw [List.take_length] at ho
   (repeat' first | ((with_reducible refine aG ?_); go_step) | ((with_reducible refine aE ?_); first | refine aL ?_ | (refine aJ ?_ ?_ <;> intro hc)) | fail)
   go_ret
   refine ⟨_, rfl, x1.trans hx, ?_⟩
   rw [hLq]
   refine ⟨_, ho.weaken hB, by simp [hc.len], ?_⟩
   intro i s hi
   rw [List.getElem?_map] at hi
   obtain ⟨q, hq, rfl⟩ := Option.map_eq_some_iff.1 hi
   obtain ⟨x, hx1, hsx⟩ := hc.at' i q hq
   refine ⟨x, by rw [List.getElem?_map, hx1]; rfl, hsx.ext hx, hfc _ (List.mem_of_getElem? hx1) x (by simp), fun hne a o' s' n c e h2 => ?_⟩
   obtain ⟨h3, h4⟩ := ho.block a h2
   subst e
   have h5 := Sl.lt_block hsx (by simpa [aK] using hne)
   omega
def zN (n : List UInt8) (k : Int) (r : Rec) : Bool := decide (r.name = fold n) && (decide (r.kind = k) || decide (k = 255))
def BH (w : List Rec) (n : List UInt8) (k : Int) : List Rec := (w.map dY).filter (zN n k)
theorem BI (t : TaskR) (l : List Rec) (n : List UInt8) (k : Int) : t.of l n k = BH (aT l t.zone) n k := rfl
theorem AL {l : List Rec} {n : List UInt8} {q : Int} {k : Nat} (h : k < l.length) : BH (l.take (k + 1)) n q = BH (l.take k) n q ++ if zN n q (dY l[k]) = true then [dY l[k]] else [] := by
 rw [BH, List.take_succ_eq_append_getElem h, List.map_append, List.filter_append]
 congr 1
 simp only [List.map_cons, List.map_nil, List.filter_cons, List.filter_nil]
theorem yX (l : List Rec) (n : List UInt8) (k : Int) : (BH l n k).length ≤ l.length := by
 refine Nat.le_trans (List.length_filter_le _ _) ?_
 rw [List.length_map]
 exact Nat.le_refl _
set_option maxHeartbeats 2000000 in
theorem wW {w0 w : World} {b : Nat} {t : TaskR} (h : TaskAt w0 w b t) (v : Value) (l : List Rec) (n : List UInt8) (k : Int) (hv : Sl 4 w v (aI l)) (hl : l.length ≤ 100000) :
 Calls Tryz.prog 45 #[.pointer (some ⟨b, 0, none⟩), v, aF n, .int .i64 k] w (tG w fun r w' => Own w.heap.size 4 64 w' r (aI (t.of l n k))) := by
 obtain ⟨rv, sv, gv, ev, h⟩ := h
 have hp := aC (cs := bN t rv sv gv ev) h.blk
 rw [BI]
 have hwl := jR l t.zone
 go_enter Tryz.func45, Tryz.ntmps45
 (repeat' first | ((with_reducible refine aG ?_); go_step) | ((with_reducible refine aE ?_); first | refine aL ?_ | (refine aJ ?_ ?_ <;> intro hc)) | fail)
 refine aM (enters_of Tryz.func26 rfl rfl) rfl rfl (oV v l t.zone _ hv hl) ?_
 intro lv w1 x1 o1
 refine aA ?_
 have hs1 := o1.sl
 generalize hL : aT l t.zone = L at *
 have hlen := aU L
 have hx1 := x1
 (repeat' first | ((with_reducible refine aG ?_); go_step) | ((with_reducible refine aE ?_); first | refine aL ?_ | (refine aJ ?_ ?_ <;> intro hc)) | fail)
 go_loopw [9, 19] (fun o i wr => ∃ j : Nat, j ≤ L.length ∧ i = .int .i64 j ∧ Ext w1 wr ∧ Own w1.heap.size 4 64 wr o (aI (BH (L.take j) n k))) (fun _ i _ => L.length - (intOf i).toNat)
 case atStart => exact ⟨0, Nat.zero_le _, rfl, Ext.refl _, by simpa [BH, aI] using Own.nil _ _ _ _⟩
 case round =>
  obtain ⟨j, hj, rfl, hx, ho⟩ := hrel
  have hu2 := hs1.ext hx
  have hx0 := x1.trans hx
  by_cases hlt : j < L.length
  ·have hpe := hu2.elem (dE hlt)
   have hst := AL (n := n) (q := k) hlt
   have hll := yX (L.take j) n k
   rw [List.length_take] at hll
   have hcl := aU (BH (L.take j) n k)
   (repeat' first | ((with_reducible refine aG ?_); go_step) | ((with_reducible refine aE ?_); first | refine aL ?_ | (refine aJ ?_ ?_ <;> intro hc)) | fail)
   refine aH (z := dZ) rfl (by decide +kernel) ?_
   intro w2 x2 s2 h2
   refine aA ?_
   refine aD (v := .agg #[aF L[j].name, .int .i64 L[j].kind, .int .i64 L[j].ttl, aF L[j].data]) rfl rfl rfl h2 (show aN Tryz.prog 64 4 = true by decide +kernel) rfl (nN rfl rfl rfl rfl) ?_
   intro w3 p3
   have x3 : Ext wr w3 := x2.move p3.mv (by rintro k ⟨⟩; exact Nat.le_refl _)
   have hb3 : w3.heap[wr.heap.size]? = some (.cells [aF L[j].name, .int .i64 L[j].kind, .int .i64 L[j].ttl, aF L[j].data].toArray 64 (0, 0)) := p3.this
   have hp3 := aC hb3
   have ho3 := ho.ext x3
   have sx := hx0.size
   clear p3 h2 x2
   (repeat' first | ((with_reducible refine aG ?_); go_step) | ((with_reducible refine aE ?_); first | refine aL ?_ | (refine aJ ?_ ?_ <;> intro hc)) | fail)
   refine aB (enters_of Tryz.func57 rfl rfl) rfl rfl (uY L[j].name _) ?_; intro w4 x4; refine aA ?_
   have hb4 := x4.at hb3
   (repeat' first | ((with_reducible refine aG ?_); go_step) | ((with_reducible refine aE ?_); first | refine aL ?_ | (refine aJ ?_ ?_ <;> intro hc)) | fail)
   refine bF (n := 0) (v := aF (fold L[j].name)) hb4 rfl rfl rfl (by simp) (by decide +kernel) rfl ?_
   intro w5 p5
   have x5 : Ext wr w5 := (x3.trans x4).move p5.mv (by rintro k ⟨⟩; exact Nat.le_refl _)
   have hb5 : w5.heap[wr.heap.size]? = some (.cells [aF (fold L[j].name), .int .i64 L[j].kind, .int .i64 L[j].ttl, aF L[j].data].toArray 64 (0, 0)) := p5.this
   have hp5 := aC hb5
   have ho5 := ho.ext x5
   clear p5 hb3 hb4 hp3 hp
   (repeat' first | ((with_reducible refine aG ?_); go_step) | ((with_reducible refine aE ?_); first | refine aL ?_ | (refine aJ ?_ ?_ <;> intro hc)) | fail)
   all_goals first
    | (exfalso; omega)
    | skip
   refine cW (S := fun w' => Ext w5 w') (by decide +kernel) ?_
   intro w6 x6 _
   refine fI 0 ?_; refine aA ?_; refine fI 1 ?_; refine aA ?_; refine fI 2 ?_; refine aA ?_
   refine cF (i := 3) (by decide +kernel) rfl rfl ?_
   refine aB (enters_of Tryz.func57 rfl rfl) rfl rfl (uY n _) ?_
   intro w7 x7
   refine aA ?_
   have x57 := x6.trans x7
   refine aS ⟨x57, ?_⟩
   refine fI 4 ?_; refine aA ?_; refine fI 5 ?_; refine aA ?_
   have x7' : Ext wr w7 := x5.trans x57
   have ho7 := ho5.ext x57
   have sz7 := (hx.trans x7').size
   by_cases ha : fold L[j].name = fold n
   ·rw [decide_eq_true ha]
    refine fI 6 ?_; refine aA ?_; refine fI 7 ?_; refine aA ?_; refine fI 8 ?_; refine aA ?_; refine fI 9 ?_; refine aA ?_; refine fI 10 ?_; refine aA ?_
    by_cases hk : L[j].kind = k
    ·have hP : zN n k (dY L[j]) = true := by simp [zN, dY, ha, hk]
     rw [decide_eq_true hk]
     refine tsk 11 ?_; refine aA ?_; refine tsk 12 ?_; refine aA ?_
     refine fI 13 ?_; refine aA ?_; refine fI 14 ?_; refine aA ?_
     rw [hP, if_pos rfl] at hst
     refine cS (by decide +kernel) ?_
     have hp7 := hp5.ext x57
     (repeat' first | ((with_reducible refine aG ?_); go_step) | ((with_reducible refine aE ?_); first | refine aL ?_ | (refine aJ ?_ ?_ <;> intro hc)) | fail)
     refine CS [aF (fold L[j].name), .int .i64 L[j].kind, .int .i64 L[j].ttl, aF L[j].data] (hx.trans x7') ho7 (by omega) ?_ (lR (r := dY L[j]) rfl)
     intro s8 v8 w8 w9 x8 m8 x9 o9
     refine aA ?_
     (repeat' first | ((with_reducible refine aG ?_); go_step) | ((with_reducible refine aE ?_); first | refine aL ?_ | (refine aJ ?_ ?_ <;> intro hc)) | fail)
     refine ⟨⟨j + 1, by omega, by go_num, x9, ?_⟩, by simp [intOf]; omega⟩
     rw [hst]
     simpa [aI, Rec.cells, dY] using o9
    ·rw [decide_eq_false hk]
     refine fI 11 ?_; refine aA ?_; refine fI 12 ?_; refine aA ?_; refine fI 13 ?_; refine aA ?_; refine fI 14 ?_; refine aA ?_
     by_cases hq : k = 255
     ·have hP : zN n k (dY L[j]) = true := by simp [zN, dY, ha, hq]
      rw [hP, if_pos rfl] at hst
      refine cS (by decide +kernel) ?_
      have hp7 := hp5.ext x57
      (repeat' first | ((with_reducible refine aG ?_); go_step) | ((with_reducible refine aE ?_); first | refine aL ?_ | (refine aJ ?_ ?_ <;> intro hc)) | fail)
      refine CS [aF (fold L[j].name), .int .i64 L[j].kind, .int .i64 L[j].ttl, aF L[j].data] (hx.trans x7') ho7 (by omega) ?_ (lR (r := dY L[j]) rfl)
      intro s8 v8 w8 w9 x8 m8 x9 o9
      refine aA ?_
      (repeat' first | ((with_reducible refine aG ?_); go_step) | ((with_reducible refine aE ?_); first | refine aL ?_ | (refine aJ ?_ ?_ <;> intro hc)) | fail)
      refine ⟨⟨j + 1, by omega, by go_num, x9, ?_⟩, by simp [intOf]; omega⟩
      rw [hst]
      simpa [aI, Rec.cells, dY] using o9
     ·have hP : zN n k (dY L[j]) = false := by simp [zN, dY, hk, hq]
      rw [hP, if_neg (by decide), List.append_nil] at hst
      refine cS (by decide +kernel) ?_
      have hp7 := hp5.ext x57
      (repeat' first | ((with_reducible refine aG ?_); go_step) | ((with_reducible refine aE ?_); first | refine aL ?_ | (refine aJ ?_ ?_ <;> intro hc)) | fail)
      exact ⟨⟨j + 1, by omega, by go_num, hx.trans x7', by rw [hst]; exact ho7⟩, by simp [intOf]; omega⟩
   ·have hP : zN n k (dY L[j]) = false := by simp [zN, dY, ha]
    rw [decide_eq_false ha]
    refine tsk 6 ?_; refine aA ?_; refine tsk 7 ?_; refine aA ?_; refine tsk 8 ?_; refine aA ?_; refine tsk 9 ?_; refine aA ?_; refine tsk 10 ?_; refine aA ?_; refine tsk 11 ?_; refine aA ?_; refine tsk 12 ?_; refine aA ?_; refine tsk 13 ?_; refine aA ?_
    refine fI 14 ?_; refine aA ?_
    rw [hP, if_neg (by decide), List.append_nil] at hst
    refine cS (by decide +kernel) ?_
    have hp7 := hp5.ext x57
    (repeat' first | ((with_reducible refine aG ?_); go_step) | ((with_reducible refine aE ?_); first | refine aL ?_ | (refine aJ ?_ ?_ <;> intro hc)) | fail)
    exact ⟨⟨j + 1, by omega, by go_num, hx.trans x7', by rw [hst]; exact ho7⟩, by simp [intOf]; omega⟩
  ·have : j = L.length := by omega
   subst this
   rw [List.take_length] at ho
   (repeat' first | ((with_reducible refine aG ?_); go_step) | ((with_reducible refine aE ?_); first | refine aL ?_ | (refine aJ ?_ ?_ <;> intro hc)) | fail)
   go_ret
   exact ⟨_, rfl, hx0, by rw [hL]; exact ho.weaken x1.size⟩
theorem Sl.mvR {k : Nat} {w w' : World} {v : Value} {es : List (List Value)} {row : Option Nat} (h : Sl k w v es) (hm : Mv row w w') (hne : es ≠ [] → ∀ a o s n c, v = .slice (some ⟨a, o, s⟩) n c → row ≠ some a) : Sl k w' v es := by
 obtain ⟨a, cap, h1, h2, h3, h4, h5, h6⟩ := h
 refine ⟨a, cap, h1, h2, h3, h4, h5, fun hn => ?_⟩
 obtain ⟨g, o, e, hc⟩ := h6 hn
 refine ⟨g, o, e, fun i e' j x q1 q2 => ?_⟩
 have h7 := hc i e' j x q1 q2
 exact (World.cell?_of_block (hm.block g (World.block_lt_of_cell? w _ h7) (fun e9 => hne hn g o none _ _ (by rw [h1, e]) e9.symm))).trans h7
theorem LrnsV.one {B : Nat} {w : World} {v : Value} {l : List LrnR} (h : LrnsV B w v l) : v.oneCell' = true := by
 obtain ⟨css, h1, _⟩ := h
 exact h1.one
theorem LrnsV.weaken {B C : Nat} {w : World} {v : Value} {l : List LrnR} (h : LrnsV B w v l) (hc : C ≤ B) : LrnsV C w v l := by
 obtain ⟨css, h1, h2, h3⟩ := h
 exact ⟨css, h1.weaken hc, h2, fun i s hi => let ⟨x, a, b, c, d⟩ := h3 i s hi; ⟨x, a, b, c.weaken hc, d⟩⟩
theorem LrnsV.mvb {B b : Nat} {w w' : World} {v : Value} {l : List LrnR} (h : LrnsV B w v l) (hm : Mv (some b) w w') (hb : b < B) : LrnsV B w' v l := by
 obtain ⟨css, h1, h2, h3⟩ := h
 have hv : v.ownBlock = none ∨ v.ownBlock ≠ some b := by
  by_cases e : v.ownBlock = some b
  ·have := (h1.block b e).1; omega
  ·exact .inr e
 refine ⟨css, h1.mv hm hv, h2, fun i s hi => ?_⟩
 obtain ⟨x, a, c, d, e⟩ := h3 i s hi
 refine ⟨x, a, c.mvR hm ?_, d, e⟩
 intro _ g o s' n c' e1 e2
 have := d g o s' n c' e1
 have := Option.some.inj e2
 omega
structure LrnsU (B : Nat) (w : World) (v : Value) (l : List LrnR) (u : Value) : Prop where
 out : ∃ css, Own B 5 61 w v css ∧ css.length = l.length ∧ ∀ (i : Nat) (s : LrnR), l[i]? = some s → ∃ x, css[i]? = some (oW s x) ∧ Sl 1 w x (aK s.set.data) ∧ From B x ∧ (s.set.data ≠ [] → mV x v ∧ mV x u)
theorem LrnsU.lrns {B : Nat} {w : World} {v u : Value} {l : List LrnR} (h : LrnsU B w v l u) : LrnsV B w v l := by
 obtain ⟨css, h1, h2, h3⟩ := h
 exact ⟨css, h1, h2, fun i s hi => let ⟨x, a, b, c, d⟩ := h3 i s hi; ⟨x, a, b, c, fun hd => (d hd).1⟩⟩
theorem LrnsV.apart {B : Nat} {w : World} {v : Value} {l : List LrnR} (h : LrnsV B w v l) : LrnsU B w v l (.slice none 0 0) := by
 obtain ⟨css, h1, h2, h3⟩ := h
 exact ⟨css, h1, h2, fun i s hi => let ⟨x, a, b, c, d⟩ := h3 i s hi; ⟨x, a, b, c, fun hd => ⟨d hd, fun a o s n c _ e => by cases e⟩⟩⟩
theorem LrnsU.ext {B : Nat} {w w' : World} {v u : Value} {l : List LrnR} (h : LrnsU B w v l u) (hx : Ext w w') : LrnsU B w' v l u := by
 obtain ⟨css, h1, h2, h3⟩ := h
 exact ⟨css, h1.ext hx, h2, fun i s hi => let ⟨x, a, b, c, d⟩ := h3 i s hi; ⟨x, a, b.ext hx, c, d⟩⟩
theorem LrnsU.mvb {B b : Nat} {w w' : World} {v u : Value} {l : List LrnR} (h : LrnsU B w v l u) (hm : Mv (some b) w w') (hb : b < B) : LrnsU B w' v l u := by
 obtain ⟨css, h1, h2, h3⟩ := h
 have hv : v.ownBlock = none ∨ v.ownBlock ≠ some b := by
  by_cases e : v.ownBlock = some b
  ·have := (h1.block b e).1; omega
  ·exact .inr e
 refine ⟨css, h1.mv hm hv, h2, fun i s hi => ?_⟩
 obtain ⟨x, a, c, d, e⟩ := h3 i s hi
 refine ⟨x, a, c.mvR hm ?_, d, e⟩
 intro _ g o s' n c' e1 e2
 have := d g o s' n c' e1
 have := Option.some.inj e2
 omega
theorem LrnsU.mvo {B : Nat} {w w' : World} {v u : Value} {l : List LrnR} {c : Nat} {o : Obj} (h : LrnsU B w v l u) (hm : Mv (some c) w w') (hc : w.heap[c]? = some o) (ho : ∀ cs t fz, o ≠ .cells cs t fz) : LrnsU B w' v l u := by
 obtain ⟨css, h1, h2, h3⟩ := h
 have hv : v.ownBlock = none ∨ v.ownBlock ≠ some c := by
  by_cases e : v.ownBlock = some c
  ·rcases h1.row.2 with e1 | ⟨gg, cap, cur, fz, rfl, hb, hg, r⟩
   ·exact .inl (by rw [e1.1]; rfl)
   ·exfalso
    simp only [Value.ownBlock, Option.some.injEq] at e
    rw [e, hc] at hg
    exact ho _ _ _ (Option.some.inj hg)
  ·exact .inr e
 refine ⟨css, h1.mv hm hv, h2, fun i s hi => ?_⟩
 obtain ⟨x, a, b, d, e⟩ := h3 i s hi
 refine ⟨x, a, b.mvR hm ?_, d, e⟩
 intro hn g o' s' n c' e1 e2
 have e3 := Option.some.inj e2
 subst e3
 obtain ⟨a', cap, h1', h2', h3', h4', h5', h6'⟩ := b
 obtain ⟨b', o'', e4, hcell⟩ := h6' hn
 rw [e4, e1] at h1'
 simp only [Value.slice.injEq, Option.some.injEq, Addr.mk.injEq] at h1'
 cases hd : s.set.data with
 | nil => rw [hd] at hn; exact hn rfl
 | cons d0 dl =>
  have h7 := hcell 0 [aF d0] 0 (aF d0) (by rw [hd]; rfl) rfl
  rw [← h1'.1.1] at h7
  unfold World.cell? at h7
  rw [hc] at h7
  cases o with
  | cells cs t fz => exact ho _ _ _ rfl
  | map _ _ => cases h7
  | _ => cases h7
theorem LrnsU.append {B B2 : Nat} {w w' : World} {v u v3 y : Value} {l m : List LrnR} {css css2 : List (List Value)} (hB : B ≤ B2)
 (h1 : Own B 5 61 w v css) (h2 : css.length = l.length) (h3 : ∀ (i : Nat) (s : LrnR), l[i]? = some s → ∃ x, css[i]? = some (oW s x) ∧ Sl 1 w x (aK s.set.data) ∧ From B x ∧ (s.set.data ≠ [] → mV x v ∧ mV x y))
 (k2 : css2.length = m.length) (k3 : ∀ (i : Nat) (s : LrnR), m[i]? = some s → ∃ x, css2[i]? = some (oW s x) ∧ Sl 1 w x (aK s.set.data) ∧ From B2 x ∧ (s.set.data ≠ [] → mV x u))
 (hv : ∀ r, v.ownBlock = some r → r < B2) (hy : ∀ r, y.ownBlock = some r → r < B2) (o3 : Own B 5 61 w' v3 (css ++ css2)) (hm : Mv v.ownBlock w w') (hk : v3.ownBlock = v.ownBlock ∨ v3.ownBlock = some w.heap.size) : LrnsU B w' v3 (l ++ m) y := by
 have far : ∀ x (d : List (List UInt8)), d ≠ [] → Sl 1 w x (aK d) → mV x v → mV x v3 := by
  intro x d hd hs ha a o s n c e e2
  rcases hk with e1 | e1
  ·exact ha a o s n c e (e1 ▸ e2)
  ·subst e
   have := Sl.lt_block hs (by simpa [aK] using hd)
   rw [e1] at e2
   have := Option.some.inj e2
   omega
 have kept : ∀ x (d : List (List UInt8)), Sl 1 w x (aK d) → (d ≠ [] → mV x v) → Sl 1 w' x (aK d) := by
  intro x d hs ha
  refine hs.mvR hm fun hn a o s n c e e2 => ?_
  exact ha (by rintro rfl; exact hn rfl) a o s n c e e2
 refine ⟨_, o3, by simp [h2, k2], fun i s hi => ?_⟩
 by_cases hlt : i < l.length
 ·rw [List.getElem?_append_left hlt] at hi
  obtain ⟨x, a, b, c, d⟩ := h3 i s hi
  exact ⟨x, by rw [List.getElem?_append_left (by omega)]; exact a, kept x _ b fun hd => (d hd).1, c, fun hd => ⟨far x _ hd b (d hd).1, (d hd).2⟩⟩
 ·rw [List.getElem?_append_right (by omega)] at hi
  obtain ⟨x, a, b, c, d⟩ := k3 _ s hi
  have hfar : mV x v := by
   intro a' o s' n c' e e2
   have q1 := c a' o s' n c' e
   have q2 := hv a' e2
   omega
  have hfar2 : mV x y := by
   intro a' o s' n c' e e2
   have q1 := c a' o s' n c' e
   have q2 := hy a' e2
   omega
  exact ⟨x, by rw [List.getElem?_append_right (by omega), h2]; exact a, kept x _ b fun _ => hfar, c.weaken hB, fun hd => ⟨far x _ hd b hfar, hfar2⟩⟩
theorem LrnsU.grow {B : Nat} {w w' : World} {v y y3 : Value} {l : List LrnR} (h : LrnsU B w v l y) (hm : Mv y.ownBlock w w') (hk : y3.ownBlock = y.ownBlock ∨ y3.ownBlock = some w.heap.size) (hv : v.ownBlock = none ∨ v.ownBlock ≠ y.ownBlock) : LrnsU B w' v l y3 := by
 obtain ⟨css, h1, h2, h3⟩ := h
 refine ⟨css, h1.mv hm hv, h2, fun i s hi => ?_⟩
 obtain ⟨x, a, b, c, d⟩ := h3 i s hi
 refine ⟨x, a, b.mvR hm fun hn a o s' n c e e2 => (d (by rintro h9; rw [h9] at hn; exact hn rfl)).2 a o s' n c e e2, c, fun hd => ⟨(d hd).1, ?_⟩⟩
 intro a' o s' n c' e e2
 rcases hk with e1 | e1
 ·exact (d hd).2 a' o s' n c' e (e1 ▸ e2)
 ·subst e
  have := Sl.lt_block b (by simpa [aK] using hd)
  rw [e1] at e2
  have := Option.some.inj e2
  omega
theorem wX (k : Int) (d : List UInt8) : (fold (bQ k d).1).length ≤ 254 := by
 have h0 : (fold []).length ≤ 254 := kL [] rfl
 unfold bQ
 split
 ·exact h0
 ·split
  ·exact h0
  ·split
   ·exact h0
   ·rename_i n hn
    unfold fS at hn
    split at hn
    ·rename_i hh
     cases hn
     exact kL _ hh.2
    ·cases hn
def iO (ns : List (List UInt8)) : List (Value × Value) := ns.map fun n => (aF n, .bool true)
theorem wY {ns : List (List UInt8)} {n : List UInt8} {i : Nat} {v : Value} (h : (iO ns)[i]? = some (aF n, v)) : n ∈ ns ∧ v = .bool true := by
 rw [iO, List.getElem?_map] at h
 cases hi : ns[i]? with
 | none => rw [hi] at h; cases h
 | some m =>
  rw [hi] at h
  simp only [Option.map_some, Option.some.injEq, Prod.mk.injEq, aF, Value.string.injEq, ByteArray.mk.injEq] at h
  have : m = n := by simpa using h.1
  exact ⟨this ▸ List.mem_of_getElem? hi, h.2.symm⟩
theorem yY {ns : List (List UInt8)} {n : List UInt8} (h : ∀ (i : Nat) (e : Value × Value), (iO ns)[i]? = some e → e.1 ≠ aF n) : n ∉ ns := by
 intro hm
 obtain ⟨i, hi, rfl⟩ := List.mem_iff_getElem.1 hm
 exact h i (aF ns[i], .bool true) (by simp [iO, hi]) rfl
theorem vL : WideMaps.KeyLaw Tryz.prog 29 := WideMaps.string_law Tryz.underlying29
theorem AM (n : List UInt8) (hn : n.length ≤ 1000000) : ∃ l, keyOf Tryz.prog 29 (aF n) = some l :=
 ⟨_, WideMaps.keyOf_string_mk Tryz.underlying29 (by rw [cN]; unfold maxLen; omega)⟩
def cC (t : TaskR) (ex : List Rec) (ns : List Rec) (k : Nat) : RfrR := (ns.take k).foldl (t.refStep ex) ⟨[], [], cJ ns 2⟩
theorem sZ {t : TaskR} {ex ns : List Rec} {k : Nat} (h : k < ns.length) : cC t ex ns (k + 1) = t.refStep ex (cC t ex ns k) ns[k] := by
 rw [cC, List.take_succ_eq_append_getElem h, List.foldl_append]; rfl
theorem uD {s : List Int} {l : List Rec} {k : Nat} (h : k < l.length) : dX s (l.take (k + 1)) = (match gX l[k].data with | none => dX s (l.take k) | some n => if n ∈ dX s (l.take k) then dX s (l.take k) else dX s (l.take k) ++ [n]) := by
 rw [dX, List.take_succ_eq_append_getElem h, List.foldl_append]; rfl
theorem qJ (s : List Int) (l : List Rec) : (dX s l).length ≤ s.length + l.length := by
 induction l generalizing s with
 | nil => exact Nat.le_refl _
 | cons r l ih =>
  have e : dX s (r :: l) = dX (match gX r.data with | none => s | some n => if n ∈ s then s else s ++ [n]) l := rfl
  rw [e]
  refine Nat.le_trans (ih _) ?_
  rw [List.length_cons]
  split
  ·omega
  ·split
   ·omega
   ·rw [List.length_append]; simp; omega
theorem jS (l : List Rec) (rank : Int) : (cJ l rank).length ≤ l.length := by
 unfold cJ
 split
 ·rw [List.length_map]
  have := (fM l l.length (Nat.le_refl _)).1
  rw [List.take_length] at this
  exact this
 ·exact Nat.zero_le _
theorem fH (t : TaskR) (l : List Rec) (n : List UInt8) (k : Int) : (t.of l n k).length ≤ l.length := by
 rw [BI]
 exact Nat.le_trans (yX _ _ _) (jR _ _)
theorem qK (t : TaskR) (ex ns : List Rec) : ∀ k, k ≤ ns.length → (cC t ex ns k).servers.length ≤ k * ex.length ∧ (cC t ex ns k).learnt.length ≤ ns.length + k * ex.length ∧ (cC t ex ns k).seen.length ≤ k
 | 0, _ => ⟨Nat.zero_le _, Nat.le_trans (jS _ _) (Nat.le_add_right ..), Nat.zero_le _⟩
 | k + 1, h => by
   rw [sZ (by omega)]
   obtain ⟨h1, h2, h3⟩ := qK t ex ns k (by omega)
   unfold TaskR.refStep
   have e : (k + 1) * ex.length = k * ex.length + ex.length := Nat.succ_mul ..
   dsimp only
   split
   ·exact ⟨by omega, by omega, by omega⟩
   ·have a1 := fH t ex (fold (bQ 2 ns[k].data).1) 1
    have a2 := qJ (cC t ex ns k).servers (t.of ex (fold (bQ 2 ns[k].data).1) 1)
    have a3 := jS (t.of ex (fold (bQ 2 ns[k].data).1) 1) 1
    rw [e]
    simp only [List.length_append, List.length_cons, List.length_nil]
    exact ⟨by omega, by omega, by omega⟩
theorem yZ (t : TaskR) (m : MsgR) (z : List UInt8) : t.refer m z = ({ t with servers := (cC t m.ex (t.of m.au z 2) (t.of m.au z 2).length).servers, zone := z }, (cC t m.ex (t.of m.au z 2) (t.of m.au z 2).length).learnt) := by
 unfold TaskR.refer cC
 rw [List.take_length]
theorem mN {qn : List UInt8} {qt : Int} {m : MsgR} {z : List UInt8} (h : (bX qn qt m z).1 ≠ 0) : bB qn z = true ∧ (bX qn qt m z) = (let j : JudR := ⟨qn, qt, z, m.rcode, aT m.an z, aT m.au z⟩
 if j.answer.1 ≠ 0 then j.answer else if j.alias.1 ≠ 0 then j.alias else if j.denial.1 ≠ 0 then j.denial else j.referral) := by
 unfold bX at h ⊢
 split at h
 ·exact absurd rfl h
 ·rename_i c
  rw [if_neg c]
  refine ⟨?_, rfl⟩
  cases hu : bB qn z with
  | true => rfl
  | false => exact absurd (.inl hu) c
theorem mO (j : JudR) : j.answer.1 = 0 ∨ j.answer.1 = 1 := by unfold JudR.answer; split <;> simp
theorem uE (j : JudR) : j.alias.1 = 0 ∨ j.alias.1 = 5 := by unfold JudR.alias; split <;> simp
theorem tA (j : JudR) : j.denial.1 = 0 ∨ j.denial.1 = 3 ∨ j.denial.1 = 2 := by unfold JudR.denial; split; simp; split <;> simp
theorem iZ (j : JudR) : j.referral.1 = 6 ∨ j.referral.1 = 4 := by unfold JudR.referral; split <;> simp
theorem tB {qn : List UInt8} {qt : Int} {m : MsgR} {z : List UInt8} (h : (bX qn qt m z).1 = 5) : ∃ r ∈ aT m.an z, fold r.name = fold qn ∧ r.kind = 5 := by
 obtain ⟨_, e⟩ := mN (by rw [h]; decide)
 rw [e] at h
 dsimp only at h
 generalize hj : (⟨qn, qt, z, m.rcode, aT m.an z, aT m.au z⟩ : JudR) = j at *
 have han : j.an = aT m.an z := by rw [← hj]
 have hqn : j.qn = qn := by rw [← hj]
 rw [← han, ← hqn]
 split at h
 ·rcases mO j with e1 | e1 <;> rw [e1] at h <;> cases h
 ·split at h
  ·unfold JudR.alias at h
   split at h
   ·cases h
   ·rename_i r hr
    have h1 := List.find?_some hr
    unfold JudR.aliP kV at h1
    simp only [Bool.and_eq_true, decide_eq_true_eq] at h1
    exact ⟨r, List.mem_of_find?_eq_some hr, h1⟩
  ·split at h
   ·rcases tA j with e1 | e1 | e1 <;> rw [e1] at h <;> cases h
   ·rcases iZ j with e1 | e1 <;> rw [e1] at h <;> cases h
theorem rA {qn : List UInt8} {qt : Int} {m : MsgR} {z : List UInt8} (h : (bX qn qt m z).1 = 2 ∨ (bX qn qt m z).1 = 3) : ∃ r ∈ aT m.au z, (bX qn qt m z).2 = fold r.name ∧ r.kind = 6 := by
 obtain ⟨_, e⟩ := mN (by rcases h with h | h <;> rw [h] <;> decide)
 rw [e] at h ⊢
 dsimp only at h ⊢
 generalize hj : (⟨qn, qt, z, m.rcode, aT m.an z, aT m.au z⟩ : JudR) = j at *
 have hau : j.au = aT m.au z := by rw [← hj]
 rw [← hau]
 split at h
 ·rcases mO j with e1 | e1 <;> rw [e1] at h <;> rcases h with h | h <;> cases h
 ·rename_i c1
  rw [if_neg c1]
  split at h
  ·rcases uE j with e1 | e1 <;> rw [e1] at h <;> rcases h with h | h <;> cases h
  ·rename_i c2
   rw [if_neg c2]
   split at h
   ·rename_i c3
    rw [if_pos c3]
    unfold JudR.denial at h ⊢
    split at h
    ·rcases h with h | h <;> cases h
    ·rename_i r hr
     have h1 := List.find?_some hr
     unfold JudR.denP at h1
     simp only [Bool.and_eq_true, decide_eq_true_eq] at h1
     refine ⟨r, List.mem_of_find?_eq_some hr, ?_, h1.1⟩
     split <;> rfl
   ·rcases iZ j with e1 | e1 <;> rw [e1] at h <;> rcases h with h | h <;> cases h
theorem BJ {t : TaskR} {l : List Rec} {n : List UInt8} {k : Int} {r : Rec} (hr : r ∈ aT l t.zone) (h1 : fold r.name = fold n) (h2 : r.kind = k) : t.of l n k ≠ [] := by
 intro e
 have : dY r ∈ t.of l n k := by
  unfold TaskR.of
  refine List.mem_filter.2 ⟨List.mem_map_of_mem hr, ?_⟩
  simp [dY, h1, h2]
 rw [e] at this
 cases this
theorem zA {t : TaskR} {m : MsgR} (h : (bX t.qn t.qt m t.zone).1 = 5) : 1 ≤ (t.of m.an t.qn 5).length := by
 obtain ⟨r, h1, h2, h3⟩ := tB h
 exact List.length_pos_iff.2 (BJ h1 h2 h3)
theorem qL {t : TaskR} {m : MsgR} (h : (bX t.qn t.qt m t.zone).1 = 2 ∨ (bX t.qn t.qt m t.zone).1 = 3) : 1 ≤ (t.of m.au (bX t.qn t.qt m t.zone).2 6).length := by
 obtain ⟨r, h1, h2, h3⟩ := rA h
 exact List.length_pos_iff.2 (BJ h1 (by rw [h2, qH]) h3)
structure TaskB (t : TaskR) (n : Nat) : Prop where
 l0 : 0 ≤ t.left
 l1 : t.left ≤ 1000
 c0 : 0 ≤ t.chain
 c1 : t.chain ≤ 8
 got : t.got.length ≤ n
 stop : ∀ a, t.stop = some a → a.ans.length ≤ n ∧ a.auth.length ≤ 1
theorem TaskB.weaken {t : TaskR} {n n' : Nat} (h : TaskB t n) (hn : n ≤ n') : TaskB t n' := ⟨h.l0, h.l1, h.c0, h.c1, Nat.le_trans h.got hn, fun a ha => ⟨Nat.le_trans (h.stop a ha).1 hn, (h.stop a ha).2⟩⟩
theorem TaskB.fin {t : TaskR} {n : Nat} (h : TaskB t n) (c : Int) {x y : List Rec} (hx : x.length ≤ n) (hy : y.length ≤ 1) : TaskB (t.done c x y).1 n :=
 ⟨h.l0, h.l1, h.c0, h.c1, h.got, fun a ha => by cases ha; exact ⟨hx, hy⟩⟩
theorem TaskB.on {t : TaskR} {n : Nat} (h : TaskB t n) (hs : t.stop = none) : TaskB t.on.1 n := by
 unfold TaskR.on
 split
 ·exact h.fin 2 (Nat.zero_le _) (Nat.zero_le _)
 ·split
  ·exact h.fin 2 (Nat.zero_le _) (Nat.zero_le _)
  ·rename_i c
   have := h.l0
   have := h.l1
   exact ⟨by dsimp only; omega, by dsimp only; omega, h.c0, h.c1, h.got, fun a ha => h.stop a ha⟩
theorem TaskB.timeout {t : TaskR} {n : Nat} (h : TaskB t n) : TaskB t.timeout.1 n := by
 unfold TaskR.timeout
 split
 ·exact h
 ·rename_i hs; exact h.on hs
theorem TaskB.follow {t : TaskR} {n : Nat} (h : TaskB t n) (hs : t.stop = none) (x : List UInt8) : TaskB (t.follow x).1 n := by
 unfold TaskR.follow
 have := h.c0
 have := h.c1
 split
 ·exact h.fin 2 (Nat.zero_le _) (Nat.zero_le _)
 ·rename_i c
  refine TaskB.on ⟨h.l0, h.l1, ?_, ?_, h.got, h.stop⟩ hs
  ·show 0 ≤ t.chain + 1; omega
  ·show t.chain + 1 ≤ 8; omega
theorem lS (l : List Rec) : (l.take 1).length ≤ 1 := by rw [List.length_take]; omega
theorem TaskB.reply {t : TaskR} {n c : Nat} (h : TaskB t n) (m : MsgR) (hm : m.an.length ≤ c) (hc : 1 ≤ c) : TaskB (t.reply m).1 (n + c) := by
 have h' : TaskB t (n + c) := h.weaken (Nat.le_add_right ..)
 unfold TaskR.reply
 split
 ·exact h'
 ·rename_i hs
  have hg := h.got
  dsimp only
  split
  ·have a1 := fH t m.an t.qn t.qt
   have hg2 : (t.got ++ t.of m.an t.qn t.qt).length ≤ n + c := by rw [List.length_append]; omega
   exact TaskB.fin (t := { t with got := t.got ++ t.of m.an t.qn t.qt }) ⟨h.l0, h.l1, h.c0, h.c1, hg2, fun a ha => by rw [show t.stop = none from hs] at ha; cases ha⟩ 0 hg2 (Nat.zero_le _)
  ·split
   ·have a1 := lS (t.of m.an t.qn 5)
    have hg2 : (t.got ++ (t.of m.an t.qn 5).take 1).length ≤ n + c := by rw [List.length_append]; omega
    exact TaskB.follow (t := { t with got := t.got ++ (t.of m.an t.qn 5).take 1 }) ⟨h.l0, h.l1, h.c0, h.c1, hg2, fun a ha => by rw [show t.stop = none from hs] at ha; cases ha⟩ hs _
   ·split
    ·exact h'.fin 3 h'.got (lS _)
    ·split
     ·exact h'.fin 0 h'.got (lS _)
     ·split
      ·exact TaskB.on (t := (t.refer m (bX t.qn t.qt m t.zone).2).1) ⟨h'.l0, h'.l1, h'.c0, h'.c1, h'.got, fun a ha => h'.stop a ha⟩ hs
      ·exact h'.on hs
theorem zB {d : List UInt8} (h : Lib.hasPrefix d [10, 0, 0] = true) : ∃ t, d = 10 :: 0 :: 0 :: t ∧ Lib.trimPrefix d [10, 0, 0] = t := by
 have h2 := h
 unfold Lib.hasPrefix at h2
 rw [List.isPrefixOf_iff_prefix] at h2
 obtain ⟨t, rfl⟩ := h2
 refine ⟨t, rfl, ?_⟩
 rw [Lib.trimPrefix, if_pos h]
 rfl
theorem wZ {d : List UInt8} (h : Lib.hasPrefix d [10, 0, 0] = false) : gX d = none := by
 rw [gX, if_neg]
 intro h2
 unfold Lib.hasPrefix at h
 rw [← Bool.not_eq_true, List.isPrefixOf_iff_prefix] at h
 exact h ⟨d.drop 3, by rw [← h2, List.take_append_drop]⟩
theorem DM (s p : List UInt8) (w : World) : Calls Tryz.prog 51 #[aF s, aF p] w (bU w (.tuple #[aF (Lib.trimPrefix s p), .bool (Lib.hasPrefix s p)])) := by
 refine (Tryz.strings_CutPrefix ⟨s.toArray⟩ ⟨p.toArray⟩ w).mono ?_
 rintro e w' ⟨rfl, rfl⟩
 exact ⟨rfl, Ext.refl _⟩
theorem uF (t : List UInt8) : gX (10 :: 0 :: 0 :: t) = match t with | [x] => if 99 < x.toNat then none else some (x.toNat : Nat) | _ => none := by
 unfold gX
 exact if_pos (show List.take 3 (10 :: 0 :: 0 :: t) = [10, 0, 0] from rfl)
set_option maxHeartbeats 1000000 in
theorem CF (d : List UInt8) (w : World) (hl : d.length ≤ 9223372036854775807) : Calls Tryz.prog 17 #[aF d] w (bU w (.tuple #[.int .i64 ((gX d).getD 0), .bool (gX d).isSome])) := by
 have hcu := fun w => DM d [10, 0, 0] w
 go_enter Tryz.func17, Tryz.ntmps17
 cases hh : Lib.hasPrefix d [10, 0, 0] with
 | false =>
  have hE := wZ hh
  rw [hh] at hcu
  generalize Lib.trimPrefix d [10, 0, 0] = t at hcu
  (repeat' first | ((with_reducible refine aG ?_); go_step) | ((with_reducible refine aE ?_); first | refine aL ?_ | (refine aJ ?_ ?_ <;> intro hc)) | fail)
  refine aB (enters_of Tryz.func51 rfl rfl) rfl rfl (hcu _) ?_; intro w1 x1; refine aA ?_
  (repeat' first | ((with_reducible refine aG ?_); go_step) | ((with_reducible refine aE ?_); first | refine aL ?_ | (refine aJ ?_ ?_ <;> intro hc)) | fail)
  go_ret2
  exact ⟨by rw [hE]; rfl, x1⟩
 | true =>
  obtain ⟨t, rfl, ht⟩ := zB hh
  rw [hh, ht] at hcu
  have hE := uF t
  clear ht hh
  cases t with
  | nil =>
   (repeat' first | ((with_reducible refine aG ?_); go_step) | ((with_reducible refine aE ?_); first | refine aL ?_ | (refine aJ ?_ ?_ <;> intro hc)) | fail)
   refine aB (enters_of Tryz.func51 rfl rfl) rfl rfl (hcu _) ?_; intro w1 x1; refine aA ?_
   (repeat' first | ((with_reducible refine aG ?_); go_step) | ((with_reducible refine aE ?_); first | refine aL ?_ | (refine aJ ?_ ?_ <;> intro hc)) | fail)
   go_ret2
   exact ⟨by rw [hE]; rfl, x1⟩
  | cons x t =>
   cases t with
   | nil =>
    (repeat' first | ((with_reducible refine aG ?_); go_step) | ((with_reducible refine aE ?_); first | refine aL ?_ | (refine aJ ?_ ?_ <;> intro hc)) | fail)
    refine aB (enters_of Tryz.func51 rfl rfl) rfl rfl (hcu _) ?_; intro w1 x1; refine aA ?_
    by_cases c : 99 < x.toNat
    ·have hN : gX (10 :: 0 :: 0 :: [x]) = none := by rw [hE]; exact if_pos c
     (repeat' first | ((with_reducible refine aG ?_); go_step) | ((with_reducible refine aE ?_); first | refine aL ?_ | (refine aJ ?_ ?_ <;> intro hc)) | fail)
     all_goals first
      | (exfalso; omega)
      | (exfalso; simp at hc; done)
      | skip
     go_ret2
     exact ⟨by rw [hN]; rfl, x1⟩
    ·have hN : gX (10 :: 0 :: 0 :: [x]) = some (x.toNat : Nat) := by rw [hE]; exact if_neg c
     (repeat' first | ((with_reducible refine aG ?_); go_step) | ((with_reducible refine aE ?_); first | refine aL ?_ | (refine aJ ?_ ?_ <;> intro hc)) | fail)
     all_goals first
      | (exfalso; omega)
      | (exfalso; simp at hc; done)
      | skip
     go_ret2
     exact ⟨by rw [hN]; rfl, x1⟩
   | cons y t =>
    (repeat' first | ((with_reducible refine aG ?_); go_step) | ((with_reducible refine aE ?_); first | refine aL ?_ | (refine aJ ?_ ?_ <;> intro hc)) | fail)
    refine aB (enters_of Tryz.func51 rfl rfl) rfl rfl (hcu _) ?_; intro w1 x1; refine aA ?_
    (repeat' first | ((with_reducible refine aG ?_); go_step) | ((with_reducible refine aE ?_); first | refine aL ?_ | (refine aJ ?_ ?_ <;> intro hc)) | fail)
    all_goals first
     | (exfalso; simp only [List.length_cons] at *; omega)
     | skip
    go_ret2
    exact ⟨by rw [hE]; rfl, x1⟩
end Go.Proofs.X
