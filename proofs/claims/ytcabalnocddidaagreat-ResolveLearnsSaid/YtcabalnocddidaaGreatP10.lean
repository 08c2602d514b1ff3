/- Laws and walks that the proof of the statement is made of (part 10). -/
import Derived.Test.YtcabalnocddidaaGreatP9
set_option linter.unusedSimpArgs false
set_option linter.unusedVariables false
namespace Go.Proofs.X
open Go.RowKit
set_option maxRecDepth 100000
def TRet (w0 w : World) (b : Nat) (r : TaskR × ActR) (e : Ending) (w' : World) : Prop := ∃ u, e = .returned u ∧ ActRet w0 b r u w' ∧ Mv (some b) w w'
theorem TaskV.neBox {w0 w : World} {b : Nat} {t : TaskR} {rv sv gv ev : Value} (h : TaskV w0 w b t rv sv gv ev) : some w.heap.size ≠ some b := by
 intro e
 have e1 := Option.some.inj e
 have e2 := (Array.getElem?_eq_some_iff.1 h.blk).1
 omega
theorem TRet.box {w0 w w1 w2 : World} {b c : Nat} {r : TaskR × ActR} {u : Value} (hu : ActRet w0 b r u w1) (hm : Mv (some b) w w1) (hc : w1.heap[c]? = some (.cells bU.toArray 33 (0, 0))) (hg : w.heap.size ≤ c) (h0 : w0.heap.size ≤ w.heap.size)
 (hp : Put w1 w2 c (.cells u.cells 33 (0, 0))) : ∃ u1 u2, u = .agg (bL r.2 u1 u2).toArray ∧ TRet w0 w b r (.returned (.agg (bL r.2 u1 u2).toArray)) w2 := by
 obtain ⟨u1, u2, e, q1, q2⟩ := (hu.1.put hp hc (by decide)).out
 obtain ⟨rv, sv, gv, ev, hT⟩ := hu.2
 exact ⟨u1, u2, e, _, rfl, ⟨⟨u1, u2, rfl, q1, q2⟩, rv, sv, gv, ev, hT.other hp hc (Nat.le_trans h0 hg)⟩, hm.fresh hp.mv hg⟩
set_option maxHeartbeats 1000000 in
theorem qX {w0 w : World} {b : Nat} {t : TaskR} {rv sv gv ev : Value} (h : TaskV w0 w b t rv sv gv ev) (code : Int) (v1 v2 : Value) (ans auth : List Rec) (o1 : Own w0.heap.size 4 64 w v1 (aE ans)) (o2 : Own w0.heap.size 4 64 w v2 (aE auth)) (h1' : ans.length ≤ 1000000) (h2' : auth.length ≤ 1000000) :
 Calls Tryz.prog 46 #[.pointer (some ⟨b, 0, none⟩), .int .i64 code, v1, v2] w (TRet w0 w b (t.done code ans auth)) := by
 have hp := aC (cs := bM t rv sv gv ev) h.blk
 go_enter Tryz.func46, Tryz.ntmps46
 (repeat' first | ((with_reducible refine aJ ?_); go_step) | ((with_reducible refine aG ?_); first | refine aL ?_ | (refine aK ?_ ?_ <;> intro hc)) | fail)
 refine aH (z := bU) rfl (by decide +kernel) ?_
 intro w1 x1 s1 h1
 refine aA ?_
 have hp1 := hp.ext x1
 (repeat' first | ((with_reducible refine aJ ?_); go_step) | ((with_reducible refine aG ?_); first | refine aL ?_ | (refine aK ?_ ?_ <;> intro hc)) | fail)
 refine bW (v := .agg (bL ⟨2, 0, [], 0, code, ans, auth⟩ v1 v2).toArray) rfl (Runs.build (vals := [(0, .int .i64 2), (3, .int .i64 code), (4, v1), (5, v2)]) rfl (by obtain ⟨_, _, _, rfl⟩ := o1.sl.slf; obtain ⟨_, _, _, rfl⟩ := o2.sl.slf; kernel_rfl)) ?_
 refine aA ?_
 refine cW (vs := bL ⟨2, 0, [], 0, code, ans, auth⟩ v1 v2) rfl rfl ?_
 intro w2 x2 s2 h2
 refine aA ?_
 have hx2 := x1.trans x2
 have hp2 := hp1.ext x2
 have hh := h.grow hx2
 (repeat' first | ((with_reducible refine aJ ?_); go_step) | ((with_reducible refine aG ?_); first | refine aL ?_ | (refine aK ?_ ?_ <;> intro hc)) | fail)
 refine bC (n := 8) (v := .pointer (some ⟨w1.heap.size, 0, none⟩)) hh.blk rfl rfl rfl (by simp [bM]) (by decide +kernel) rfl ?_
 intro w3 p3
 have p3' : Put w2 w3 b (.cells (bM { t with stop := some ⟨2, 0, [], 0, code, ans, auth⟩ } rv sv gv (.pointer (some ⟨w1.heap.size, 0, none⟩))).toArray 99 (0, 0)) := p3
 obtain ⟨k1, k2, k3, -⟩ := hh.kept p3
 have hnb : some w.heap.size ≠ some b := by
  intro e
  have e1 := Option.some.inj e
  have e2 := (Array.getElem?_eq_some_iff.1 h.blk).1
  omega
 have hne : some w1.heap.size ≠ some b := by
  intro e
  have e1 := Option.some.inj e
  have e2 := hh.blk
  rw [← e1, h2] at e2
  simp only [Option.some.injEq, Obj.cells.injEq] at e2
  exact absurd e2.2.1 (by decide)
 have hT : TaskV w0 w3 b { t with stop := some ⟨2, 0, [], 0, code, ans, auth⟩ } rv sv gv (.pointer (some ⟨w1.heap.size, 0, none⟩)) :=
  hh.put p3' k1 k2 k3 ⟨w1.heap.size, v1, v2, rfl, Nat.le_trans h.ext.size x1.size, p3.mv.at h2 hne, (o1.ext hx2).mv p3.mv (.inr ((o1.ext hx2).neBlock hh.blk (by decide))), (o2.ext hx2).mv p3.mv (.inr ((o2.ext hx2).neBlock hh.blk (by decide))), rfl⟩
 clear p3'
 (repeat' first | ((with_reducible refine aJ ?_); go_step) | ((with_reducible refine aG ?_); first | refine aL ?_ | (refine aK ?_ ?_ <;> intro hc)) | fail)
 refine aO (enters_of Tryz.func43 rfl rfl) rfl rfl (qV ⟨_, _, _, _, hT⟩ rfl h1' h2') ?_
 intro u w4 x4 hu
 refine aA ?_
 have h14 := x4.at (p3.mv.at (x2.at h1) hnb)
 refine aD (v := u) rfl rfl rfl h14 (by rw [hu.1.size]; exact (show aP Tryz.prog 33 7 = true by decide +kernel)) (by rw [hu.1.size]; rfl) hu.1.one ?_
 intro w5 p5
 obtain ⟨u1, u2, rfl, hr⟩ := TRet.box hu ((hx2.mv _).trans (p3.mv.trans (x4.mv _))) h14 (Nat.le_refl _) h.ext.size p5
 (repeat' first | ((with_reducible refine aJ ?_); go_step) | ((with_reducible refine aG ?_); first | refine aL ?_ | (refine aK ?_ ?_ <;> intro hc)) | fail)
 exact bodyPost_ret (cA (cs := bL ⟨2, 0, [], 0, code, ans, auth⟩ u1 u2) rfl rfl p5.this (show bH Tryz.prog 33 7 = true by decide +kernel)) rfl hr
set_option maxHeartbeats 1000000 in
theorem uR {w0 w : World} {b : Nat} {t : TaskR} (h : TaskAt w0 w b t) : Calls Tryz.prog 100 #[.pointer (some ⟨b, 0, none⟩)] w (TRet w0 w b (t.done 2 [] [])) := by
 obtain ⟨rv, sv, gv, ev, h⟩ := h
 go_enter Tryz.func100, Tryz.ntmps100
 (repeat' first | ((with_reducible refine aJ ?_); go_step) | ((with_reducible refine aG ?_); first | refine aL ?_ | (refine aK ?_ ?_ <;> intro hc)) | fail)
 refine aH (z := bU) rfl (by decide +kernel) ?_
 intro w1 x1 s1 h1
 refine aA ?_
 (repeat' first | ((with_reducible refine aJ ?_); go_step) | ((with_reducible refine aG ?_); first | refine aL ?_ | (refine aK ?_ ?_ <;> intro hc)) | fail)
 refine aT (vs := [.pointer (some ⟨b, 0, none⟩), .int .i64 2, .slice none 0 0, .slice none 0 0]) (enters_of Tryz.func46 rfl rfl) rfl rfl (qX (h.grow x1) 2 (.slice none 0 0) (.slice none 0 0) [] [] (Own.nil _ _ _ _) (Own.nil _ _ _ _) (by decide) (by decide)) ?_
 rintro e w4 ⟨u, rfl, hu, hm⟩
 refine ⟨_, rfl, ?_⟩
 refine aA ?_
 have h14 := hm.at h1 h.neBox
 refine aD (v := u) rfl rfl rfl h14 (by rw [hu.1.size]; exact (show aP Tryz.prog 33 7 = true by decide +kernel)) (by rw [hu.1.size]; rfl) hu.1.one ?_
 intro w5 p5
 obtain ⟨u1, u2, rfl, hr⟩ := TRet.box hu ((x1.mv _).trans hm) h14 (Nat.le_refl _) h.ext.size p5
 (repeat' first | ((with_reducible refine aJ ?_); go_step) | ((with_reducible refine aG ?_); first | refine aL ?_ | (refine aK ?_ ?_ <;> intro hc)) | fail)
 exact bodyPost_ret (cA (cs := bL (t.done 2 [] []).2 u1 u2) rfl rfl p5.this (show bH Tryz.prog 33 7 = true by decide +kernel)) rfl hr
set_option maxHeartbeats 1000000 in
theorem yJ {w0 w : World} {b : Nat} {t : TaskR} (h : TaskAt w0 w b t) (h0 : 0 ≤ t.left) (h1 : t.left ≤ 1000000) : Calls Tryz.prog 50 #[.pointer (some ⟨b, 0, none⟩)] w (TRet w0 w b t.on) := by
 have hA := h
 obtain ⟨rv, sv, gv, ev, h⟩ := h
 have hp := aC (cs := bM t rv sv gv ev) h.blk
 have hsl := h.ss.sl
 have hle := hsl.le
 have hil : (aY t.servers).length = t.servers.length := List.length_map ..
 go_enter Tryz.func50, Tryz.ntmps50
 (repeat' first | ((with_reducible refine aJ ?_); go_step) | ((with_reducible refine aG ?_); first | refine aL ?_ | (refine aK ?_ ?_ <;> intro hc)) | fail)
 refine aH (z := bU) rfl (by decide +kernel) ?_
 intro w1 x1 s1 hb1
 refine aA ?_
 have hp1 := hp.ext x1
 have hsl1 := hsl.ext x1
 by_cases hz : t.servers = [] ∨ t.left = 0
 ·have hE : t.on = t.done 2 [] [] := by
   unfold TaskR.on
   split
   ·rfl
   ·rename_i hs
    rw [if_pos (hz.resolve_left (by rw [hs]; simp))]
  (repeat' first | ((with_reducible refine aJ ?_); go_step) | ((with_reducible refine aG ?_); first | refine aL ?_ | (refine aK ?_ ?_ <;> intro hc)) | fail)
  all_goals first
   | (exfalso; rcases hz with hz | hz; (have h5 : t.servers.length = 0 := by rw [hz]; rfl); omega; omega)
   | skip
  all_goals (
   refine aT (vs := [.pointer (some ⟨b, 0, none⟩)]) (enters_of Tryz.func100 rfl rfl) rfl rfl (uR (hA.grow x1)) ?_
   rintro e w4 ⟨u, rfl, hu, hm⟩
   refine ⟨_, rfl, ?_⟩
   refine aA ?_
   have h14 := hm.at hb1 h.neBox
   refine aD (v := u) rfl rfl rfl h14 (by rw [hu.1.size]; exact (show aP Tryz.prog 33 7 = true by decide +kernel)) (by rw [hu.1.size]; rfl) hu.1.one ?_
   intro w5 p5
   obtain ⟨u1, u2, rfl, hr⟩ := TRet.box hu ((x1.mv _).trans hm) h14 (Nat.le_refl _) h.ext.size p5
   (repeat' first | ((with_reducible refine aJ ?_); go_step) | ((with_reducible refine aG ?_); first | refine aL ?_ | (refine aK ?_ ?_ <;> intro hc)) | fail)
   exact bodyPost_ret (cA (cs := bL (t.done 2 [] []).2 u1 u2) rfl rfl p5.this (show bH Tryz.prog 33 7 = true by decide +kernel)) rfl (by rw [hE]; exact hr))
 ·cases hs : t.servers with
  | nil => exact absurd (.inl hs) hz
  | cons s rest =>
   have hl : ¬ t.left = 0 := fun e => hz (.inr e)
   have hE : t.on = ({ t with servers := rest, left := t.left - 1 }, ⟨1, s, t.qn, t.qt, 0, [], []⟩) := by
    unfold TaskR.on
    rw [hs]
    exact if_neg hl
   have hpe := hsl1.elem (i := 0) (e := [.int .i64 s]) (by rw [hs]; rfl)
   have hil2 : (aY t.servers).length = rest.length + 1 := by rw [hil, hs]; rfl
   have hh1 := h.grow x1
   (repeat' first | ((with_reducible refine aJ ?_); go_step) | ((with_reducible refine aG ?_); first | refine aL ?_ | (refine aK ?_ ?_ <;> intro hc)) | fail)
   all_goals first
    | (exfalso; omega)
    | skip
   refine cZ 12 (Ext w1) (by decide +kernel) ?_
   intro w2 x2 _
   refine ⟨x2, ?_⟩
   refine iQ 0 ?_; refine iQ 1 ?_; refine iQ 2 ?_; refine iQ 3 ?_; refine iQ 4 ?_; refine iQ 5 ?_; refine iQ 6 ?_; refine iQ 7 ?_; refine iQ 8 ?_
   have hq1 : Pts w1 (aW (.pointer (some ⟨b, 0, none⟩)) 0) [aF t.qn, .int .i64 t.qt] := (hp1.part 0).front 2
   refine aV (i := 9) (v := .agg #[aF t.qn, .int .i64 t.qt]) rfl rfl rfl (by decide +kernel) (by decide +kernel) (by decide +kernel) (by decide +kernel) rfl (fun w' c => Runs.loadN (hq1.ext c) rfl (show bH Tryz.prog 31 2 = true by decide +kernel)) (fun _ _ _ h => h) ?_
   refine aA ?_
   refine aV (i := 10) (v := .agg (bL ⟨1, s, t.qn, t.qt, 0, [], []⟩ (.slice none 0 0) (.slice none 0 0)).toArray) rfl rfl rfl (by decide +kernel) (by decide +kernel) (by decide +kernel) (by decide +kernel) rfl (fun w' _ => Runs.build (vals := [(0, .int .i64 1), (1, .int .i64 s), (2, .agg #[aF t.qn, .int .i64 t.qt])]) rfl (by kernel_rfl)) (fun _ _ _ h => h) ?_
   refine aA ?_
   refine cE (i := 11) (by decide +kernel) rfl rfl ?_
   refine aH (z := bU) rfl (by decide +kernel) ?_
   intro w3 x3 s3 hb3
   refine aA ?_
   have x23 := x2.trans x3
   refine aQ ⟨dS x23, ?_⟩
   refine cE (i := 12) (by decide +kernel) rfl rfl ?_
   refine aD (v := .agg (bL ⟨1, s, t.qn, t.qt, 0, [], []⟩ (.slice none 0 0) (.slice none 0 0)).toArray) rfl rfl rfl hb3 (show aP Tryz.prog 33 7 = true by decide +kernel) rfl (dW rfl rfl) ?_
   intro w4 p4
   refine aQ ⟨cR rfl, ?_⟩
   refine eF (by decide +kernel) ?_
   have x4 : Ext w1 w4 := x23.move p4.mv (by rintro k ⟨⟩; exact x2.size)
   have hh4 := hh1.grow x4
   have hp4 := aC (cs := bM t rv sv gv ev) hh4.blk
   have hsl4 := hsl1.ext x4
   have hb4 := p4.this
   have hbx := x4.at hb1
   have hpb4 := aC (cs := bL ⟨1, s, t.qn, t.qt, 0, [], []⟩ (.slice none 0 0) (.slice none 0 0)) hb4
   have hss4 := hh4.ss
   clear hq1 hp1 hp hsl1 hsl
   (repeat' first | ((with_reducible refine aJ ?_); go_step) | ((with_reducible refine aG ?_); first | refine aL ?_ | (refine aK ?_ ?_ <;> intro hc)) | fail)
   refine bC (n := 4) (v := cC sv 1 1 (aY t.servers).length) hh4.blk rfl rfl rfl (by simp [bM]) (by decide +kernel) (hss4.drop (m := 1) (by omega)).sl.one ?_
   intro w5 p5
   have p5' : Put w4 w5 b (.cells (bM { t with servers := rest } rv (cC sv 1 1 (aY t.servers).length) gv ev).toArray 99 (0, 0)) := p5
   obtain ⟨k1, k2, k3, k4⟩ := hh4.kept p5
   have hd : OwnOff w0.heap.size 1 3 w5 (cC sv 1 1 (aY t.servers).length) (aY rest) := by
    have hd := k2.drop (m := 1) (by omega)
    rw [show (aY t.servers).drop 1 = aY rest by rw [hs]; rfl] at hd
    exact hd
   have hT5 := hh4.put p5' k1 hd k3 k4
   have hp5 := aC (cs := bM { t with servers := rest } rv (cC sv 1 1 (aY t.servers).length) gv ev) hT5.blk
   clear p5' hp4 hpe
   (repeat' first | ((with_reducible refine aJ ?_); go_step) | ((with_reducible refine aG ?_); first | refine aL ?_ | (refine aK ?_ ?_ <;> intro hc)) | fail)
   refine bC (n := 7) (v := .int .i64 (t.left - 1)) hT5.blk rfl rfl rfl (by simp [bM]) (by decide +kernel) rfl ?_
   intro w6 p6
   have p6' : Put w5 w6 b (.cells (bM { t with servers := rest, left := t.left - 1 } rv (cC sv 1 1 (aY t.servers).length) gv ev).toArray 99 (0, 0)) := p6
   obtain ⟨j1, j2, j3, j4⟩ := hT5.kept p6
   have hT6 := hT5.put p6' j1 j2 j3 j4
   have hbn := (Array.getElem?_eq_some_iff.1 h.blk).1
   have sz2 := x2.size
   have sz1 := x1.size
   have hb6 : w6.heap[w2.heap.size]? = some (.cells (bL ⟨1, s, t.qn, t.qt, 0, [], []⟩ (.slice none 0 0) (.slice none 0 0)).toArray 33 (0, 0)) := p6.mv.at (p5.mv.at hb4 (by intro e; have := Option.some.inj e; omega)) (by intro e; have := Option.some.inj e; omega)
   have hbx6 := p6.mv.at (p5.mv.at hbx h.neBox) h.neBox
   have hpb6 := aC (cs := bL ⟨1, s, t.qn, t.qt, 0, [], []⟩ (.slice none 0 0) (.slice none 0 0)) hb6
   have hm6 : Mv (some b) w w6 := ((x1.trans x4).mv _).trans (p5.mv.trans p6.mv)
   clear p6' hp5 hpb4
   (repeat' first | ((with_reducible refine aJ ?_); go_step) | ((with_reducible refine aG ?_); first | refine aL ?_ | (refine aK ?_ ?_ <;> intro hc)) | fail)
   refine bB (Runs.loadN hpb6 rfl (show bH Tryz.prog 33 7 = true by decide +kernel)) ?_
   refine aA ?_
   refine aD (v := .agg (bL ⟨1, s, t.qn, t.qt, 0, [], []⟩ (.slice none 0 0) (.slice none 0 0)).toArray) rfl rfl rfl hbx6 (show aP Tryz.prog 33 7 = true by decide +kernel) rfl (dW rfl rfl) ?_
   intro w7 p7
   have hAV : ActV w6 (.agg (bL ⟨1, s, t.qn, t.qt, 0, [], []⟩ (.slice none 0 0) (.slice none 0 0)).toArray) ⟨1, s, t.qn, t.qt, 0, [], []⟩ := ⟨_, _, rfl, Own.nil _ _ _ _, Own.nil _ _ _ _⟩
   obtain ⟨u1, u2, hu, hr⟩ := TRet.box (r := t.on) (by rw [hE]; exact ⟨hAV, _, _, _, _, hT6⟩) hm6 hbx6 (Nat.le_refl _) h.ext.size p7
   (repeat' first | ((with_reducible refine aJ ?_); go_step) | ((with_reducible refine aG ?_); first | refine aL ?_ | (refine aK ?_ ?_ <;> intro hc)) | fail)
   refine bodyPost_ret (cA (cs := bL ⟨1, s, t.qn, t.qt, 0, [], []⟩ (.slice none 0 0) (.slice none 0 0)) rfl rfl p7.this (show bH Tryz.prog 33 7 = true by decide +kernel)) rfl ?_
   rw [← hu] at hr
   exact hr
set_option maxHeartbeats 2000000 in
theorem yK {w0 w : World} {b : Nat} {t : TaskR} (h : TaskAt w0 w b t) (n : List UInt8) (h0 : 0 ≤ t.left) (h1 : t.left ≤ 1000000) (h2 : 0 ≤ t.chain) (h3 : t.chain ≤ 8) : Calls Tryz.prog 48 #[.pointer (some ⟨b, 0, none⟩), aF n] w (TRet w0 w b (t.follow n)) := by
 have hA := h
 obtain ⟨rv, sv, gv, ev, h⟩ := h
 have hp := aC (cs := bM t rv sv gv ev) h.blk
 go_enter Tryz.func48, Tryz.ntmps48
 (repeat' first | ((with_reducible refine aJ ?_); go_step) | ((with_reducible refine aG ?_); first | refine aL ?_ | (refine aK ?_ ?_ <;> intro hc)) | fail)
 refine aH (z := bU) rfl (by decide +kernel) ?_
 intro w1 x1 s1 hb1
 refine aA ?_
 have hp1 := hp.ext x1
 have hh1 := h.grow x1
 by_cases hc8 : t.chain = 8
 ·have hE : t.follow n = t.done 2 [] [] := by rw [TaskR.follow, if_pos hc8]
  (repeat' first | ((with_reducible refine aJ ?_); go_step) | ((with_reducible refine aG ?_); first | refine aL ?_ | (refine aK ?_ ?_ <;> intro hc)) | fail)
  all_goals first
   | (exfalso; omega)
   | skip
  refine aT (vs := [.pointer (some ⟨b, 0, none⟩)]) (enters_of Tryz.func100 rfl rfl) rfl rfl (uR (hA.grow x1)) ?_
  rintro e w4 ⟨u, rfl, hu, hm⟩
  refine ⟨_, rfl, ?_⟩
  refine aA ?_
  have h14 := hm.at hb1 h.neBox
  refine aD (v := u) rfl rfl rfl h14 (by rw [hu.1.size]; exact (show aP Tryz.prog 33 7 = true by decide +kernel)) (by rw [hu.1.size]; rfl) hu.1.one ?_
  intro w5 p5
  obtain ⟨u1, u2, rfl, hr⟩ := TRet.box hu ((x1.mv _).trans hm) h14 (Nat.le_refl _) h.ext.size p5
  (repeat' first | ((with_reducible refine aJ ?_); go_step) | ((with_reducible refine aG ?_); first | refine aL ?_ | (refine aK ?_ ?_ <;> intro hc)) | fail)
  exact bodyPost_ret (cA (cs := bL (t.done 2 [] []).2 u1 u2) rfl rfl p5.this (show bH Tryz.prog 33 7 = true by decide +kernel)) rfl (by rw [hE]; exact hr)
 ·(repeat' first | ((with_reducible refine aJ ?_); go_step) | ((with_reducible refine aG ?_); first | refine aL ?_ | (refine aK ?_ ?_ <;> intro hc)) | fail)
  all_goals first
   | (exfalso; omega)
   | skip
  refine bC (n := 6) (v := .int .i64 (t.chain + 1)) hh1.blk rfl rfl rfl (by simp [bM]) (by decide +kernel) rfl ?_
  intro w2 p2
  have p2' : Put w1 w2 b (.cells (bM { t with chain := t.chain + 1 } rv sv gv ev).toArray 99 (0, 0)) := p2
  obtain ⟨k1, k2, k3, k4⟩ := hh1.kept p2
  have hT2 := hh1.put p2' k1 k2 k3 k4
  have hp2 := aC (cs := bM { t with chain := t.chain + 1 } rv sv gv ev) hT2.blk
  clear p2' hp1 hp
  (repeat' first | ((with_reducible refine aJ ?_); go_step) | ((with_reducible refine aG ?_); first | refine aL ?_ | (refine aK ?_ ?_ <;> intro hc)) | fail)
  refine bC (n := 0) (v := aF n) hT2.blk rfl rfl rfl (by simp [bM]) (by decide +kernel) rfl ?_
  intro w3 p3
  have p3' : Put w2 w3 b (.cells (bM { t with chain := t.chain + 1, qn := n } rv sv gv ev).toArray 99 (0, 0)) := p3
  obtain ⟨k1, k2, k3, k4⟩ := hT2.kept p3
  have hT3 := hT2.put p3' k1 k2 k3 k4
  clear p3' hp2
  (repeat' first | ((with_reducible refine aJ ?_); go_step) | ((with_reducible refine aG ?_); first | refine aL ?_ | (refine aK ?_ ?_ <;> intro hc)) | fail)
  refine bC (n := 3) (v := aF []) hT3.blk rfl rfl rfl (by simp [bM]) (by decide +kernel) rfl ?_
  intro w4 p4
  have p4' : Put w3 w4 b (.cells (bM { t with chain := t.chain + 1, qn := n, zone := [] } rv sv gv ev).toArray 99 (0, 0)) := p4
  obtain ⟨k1, k2, k3, k4⟩ := hT3.kept p4
  have hT4 := hT3.put p4' k1 k2 k3 k4
  clear p4'
  (repeat' first | ((with_reducible refine aJ ?_); go_step) | ((with_reducible refine aG ?_); first | refine aL ?_ | (refine aK ?_ ?_ <;> intro hc)) | fail)
  refine bC (n := 4) (v := rv) hT4.blk rfl rfl rfl (by simp [bM]) (by decide +kernel) k1.one ?_
  intro w5 p5
  have p5' : Put w4 w5 b (.cells (bM { t with chain := t.chain + 1, qn := n, zone := [], servers := t.roots } rv rv gv ev).toArray 99 (0, 0)) := p5
  obtain ⟨k1, k2, k3, k4⟩ := hT4.kept p5
  have hT5 := hT4.put p5' k1 k1.off k3 k4
  have hE : t.follow n = { t with chain := t.chain + 1, qn := n, zone := [], servers := t.roots }.on := by rw [TaskR.follow, if_neg hc8]
  have hm5 : Mv (some b) w w5 := (x1.mv _).trans (p2.mv.trans (p3.mv.trans (p4.mv.trans p5.mv)))
  clear p5'
  (repeat' first | ((with_reducible refine aJ ?_); go_step) | ((with_reducible refine aG ?_); first | refine aL ?_ | (refine aK ?_ ?_ <;> intro hc)) | fail)
  refine aT (vs := [.pointer (some ⟨b, 0, none⟩)]) (enters_of Tryz.func50 rfl rfl) rfl rfl (yJ ⟨_, _, _, _, hT5⟩ h0 h1) ?_
  rintro e w6 ⟨u, rfl, hu, hm⟩
  refine ⟨_, rfl, ?_⟩
  refine aA ?_
  have h14 := hm.at (p5.mv.at (p4.mv.at (p3.mv.at (p2.mv.at hb1 h.neBox) h.neBox) h.neBox) h.neBox) h.neBox
  refine aD (v := u) rfl rfl rfl h14 (by rw [hu.1.size]; exact (show aP Tryz.prog 33 7 = true by decide +kernel)) (by rw [hu.1.size]; rfl) hu.1.one ?_
  intro w7 p7
  obtain ⟨u1, u2, rfl, hr⟩ := TRet.box hu (hm5.trans hm) h14 (Nat.le_refl _) h.ext.size p7
  (repeat' first | ((with_reducible refine aJ ?_); go_step) | ((with_reducible refine aG ?_); first | refine aL ?_ | (refine aK ?_ ?_ <;> intro hc)) | fail)
  exact bodyPost_ret (cA (cs := bL { t with chain := t.chain + 1, qn := n, zone := [], servers := t.roots }.on.2 u1 u2) rfl rfl p7.this (show bH Tryz.prog 33 7 = true by decide +kernel)) rfl (by rw [hE]; exact hr)
theorem wG {j : JudR} {k : Nat} (h : k < j.au.length) : (j.au.take (k + 1)).foldl j.step ([], -1) =
 if j.au[k].kind = 2 ∧ bO j.qn (fold j.au[k].name) = true ∧ kR (fold j.au[k].name) j.zone = false ∧ ((j.au.take k).foldl j.step ([], -1)).2 < xZ (fold j.au[k].name) then (fold j.au[k].name, xZ (fold j.au[k].name)) else (j.au.take k).foldl j.step ([], -1) := by
 rw [List.take_succ_eq_append_getElem h, List.foldl_append]
 rfl
set_option maxHeartbeats 3000000 in
theorem tU (j : JudR) (an au : Value) (w : World) (ha : Sl 4 w an (aE j.an)) (hu : Sl 4 w au (aE j.au)) : Calls Tryz.prog 98 #[.agg (fC j an au).toArray] w (bS w (.tuple #[.int .i64 j.referral.1, aF j.referral.2])) := by
 have hlen := aM j.au
 have hle := hu.le
 go_enter Tryz.func98, Tryz.ntmps98
 repeat' (first | ((with_reducible refine aJ ?_); go_step) | fail)
 refine cW (vs := fC j an au) rfl rfl ?_
 intro w1 x1 s1 h1
 refine aA ?_
 have hp := aC (cs := fC j an au) h1
 have hj0 : Pts w1 (aW (.pointer (some ⟨w.heap.size, 0, none⟩)) 0) [aF j.qn, .int .i64 j.qt] := (hp.part 0).front 2
 have hj2 : Pts w1 (aW (.pointer (some ⟨w.heap.size, 0, none⟩)) 2) [aF j.zone] := (hp.part 2).front 1
 have hj3 : Pts w1 (aW (.pointer (some ⟨w.heap.size, 0, none⟩)) 3) [.int .i64 j.code] := (hp.part 3).front 1
 have hj5 : Pts w1 (aW (.pointer (some ⟨w.heap.size, 0, none⟩)) 5) [au] := hp.part 5
 have hu1 := hu.ext x1
 (repeat' first | ((with_reducible refine aJ ?_); go_step) | ((with_reducible refine aG ?_); first | refine aL ?_ | (refine aK ?_ ?_ <;> intro hc)) | fail)
 go_loopw [4, 5, 13] (fun b m i wr => ∃ k : Nat, k ≤ j.au.length ∧ i = .int .i64 k ∧ Ext w1 wr ∧ b = aF ((j.au.take k).foldl j.step ([], -1)).1 ∧ m = .int .i64 ((j.au.take k).foldl j.step ([], -1)).2) (fun _ _ i _ => j.au.length - (intOf i).toNat)
 case atStart => exact ⟨0, Nat.zero_le _, rfl, Ext.refl _, rfl, rfl⟩
 case round =>
  obtain ⟨k, hk, rfl, hx, rfl, rfl⟩ := hrel
  have hx0 := x1.trans hx
  have hu2 := hu1.ext hx
  have hz2 := hj0.ext hx
  have hz3 := hj2.ext hx
  by_cases hlt : k < j.au.length
  ·have hpe := hu2.elem (cX hlt)
   have hst := wG hlt
   generalize (j.au.take k).foldl j.step ([], -1) = S at *
   (repeat' first | ((with_reducible refine aJ ?_); go_step) | ((with_reducible refine aG ?_); first | refine aL ?_ | (refine aK ?_ ?_ <;> intro hc)) | fail)
   refine aH (z := dX) rfl (by decide +kernel) ?_
   intro w2 x2 s2 h2
   refine aA ?_
   refine aD (v := .agg #[aF j.au[k].name, .int .i64 j.au[k].kind, .int .i64 j.au[k].ttl, aF j.au[k].data]) rfl rfl rfl h2 (show aP Tryz.prog 64 4 = true by decide +kernel) rfl (nG rfl rfl rfl rfl) ?_
   intro w3 p3
   have x3 : Ext wr w3 := x2.move p3.mv (by rintro k ⟨⟩; exact Nat.le_refl _)
   have hp3 := aC (cs := [aF j.au[k].name, .int .i64 j.au[k].kind, .int .i64 j.au[k].ttl, aF j.au[k].data]) p3.this
   have hz23 := hz2.ext x3
   have hz33 := hz3.ext x3
   have hx3 := hx.trans x3
   clear p3 h2 x2
   (repeat' first | ((with_reducible refine aJ ?_); go_step) | ((with_reducible refine aG ?_); first | refine aL ?_ | (refine aK ?_ ?_ <;> intro hc)) | fail)
   refine aB (enters_of Tryz.func57 rfl rfl) rfl rfl (uI j.au[k].name _) ?_; intro w4 x4; refine aA ?_
   (repeat' first | ((with_reducible refine aJ ?_); go_step) | ((with_reducible refine aG ?_); first | refine aL ?_ | (refine aK ?_ ?_ <;> intro hc)) | fail)
   refine aO (enters_of Tryz.func114 rfl rfl) rfl rfl (xY (fold j.au[k].name) _) ?_
   intro lv w5 x5 o5
   refine aA ?_
   have hsl5 := o5.sl
   have htl := bA ((aU (fold j.au[k].name)).getD [])
   have hL : xZ (fold j.au[k].name) = ((aI ((aU (fold j.au[k].name)).getD [])).length : Int) := by rw [htl]; rfl
   have x45 := x4.trans x5
   have hp5 := hp3.ext x45
   have hy5 := hz23.ext x45
   have hz5 := hz33.ext x45
   have hx5 := hx3.trans x45
   clear hp3 hz23 hz33 hz2 hz3 hpe hu2
   rw [hL] at hst
   clear htl
   generalize aI ((aU (fold j.au[k].name)).getD []) = T at *
   generalize fold j.au[k].name = N at *
   by_cases c1 : j.au[k].kind = 2
   ·(repeat' first | ((with_reducible refine aJ ?_); go_step) | ((with_reducible refine aG ?_); first | refine aL ?_ | (refine aK ?_ ?_ <;> intro hc)) | fail)
    all_goals first
     | exact absurd c1 ‹_›
     | skip
    refine aB (enters_of Tryz.func62 rfl rfl) rfl rfl (mV j.qn N _) ?_; intro w6 x6; refine aA ?_
    have hp6 := hp5.ext x6
    have hz6 := hz5.ext x6
    have hx6 := hx5.trans x6
    cases c2 : bO j.qn N with
    | false =>
     rw [if_neg (by rw [c2]; rintro ⟨_, h, _⟩; cases h)] at hst
     (repeat' first | ((with_reducible refine aJ ?_); go_step) | ((with_reducible refine aG ?_); first | refine aL ?_ | (refine aK ?_ ?_ <;> intro hc)) | fail)
     exact ⟨⟨k + 1, by omega, by go_num, hx6, by rw [hst], by rw [hst]⟩, by simp [intOf]; omega⟩
    | true =>
     (repeat' first | ((with_reducible refine aJ ?_); go_step) | ((with_reducible refine aG ?_); first | refine aL ?_ | (refine aK ?_ ?_ <;> intro hc)) | fail)
     refine aB (enters_of Tryz.func149 rfl rfl) rfl rfl (qS N j.zone _) ?_; intro w7 x7; refine aA ?_
     have hx7 := hx6.trans x7
     cases c3 : kR N j.zone with
     | true =>
      rw [if_neg (by rw [c3]; rintro ⟨_, _, h, _⟩; cases h)] at hst
      (repeat' first | ((with_reducible refine aJ ?_); go_step) | ((with_reducible refine aG ?_); first | refine aL ?_ | (refine aK ?_ ?_ <;> intro hc)) | fail)
      exact ⟨⟨k + 1, by omega, by go_num, hx7, by rw [hst], by rw [hst]⟩, by simp [intOf]; omega⟩
     | false =>
      by_cases c4 : S.2 < (T.length : Int)
      ·rw [if_pos ⟨c1, c2, c3, c4⟩] at hst
       (repeat' first | ((with_reducible refine aJ ?_); go_step) | ((with_reducible refine aG ?_); first | refine aL ?_ | (refine aK ?_ ?_ <;> intro hc)) | fail)
       all_goals first
        | (exfalso; omega)
        | skip
       exact ⟨⟨k + 1, by omega, by go_num, hx7, by rw [hst], by rw [hst]⟩, by simp [intOf]; omega⟩
      ·rw [if_neg (by rintro ⟨_, _, _, h⟩; exact c4 h)] at hst
       (repeat' first | ((with_reducible refine aJ ?_); go_step) | ((with_reducible refine aG ?_); first | refine aL ?_ | (refine aK ?_ ?_ <;> intro hc)) | fail)
       all_goals first
        | (exfalso; omega)
        | skip
       exact ⟨⟨k + 1, by omega, by go_num, hx7, by rw [hst], by rw [hst]⟩, by simp [intOf]; omega⟩
   ·rw [if_neg (by rintro ⟨h, _⟩; exact c1 h)] at hst
    (repeat' first | ((with_reducible refine aJ ?_); go_step) | ((with_reducible refine aG ?_); first | refine aL ?_ | (refine aK ?_ ?_ <;> intro hc)) | fail)
    all_goals first
     | exact absurd ‹j.au[k].kind = 2› c1
     | skip
    exact ⟨⟨k + 1, by omega, by go_num, hx5, by rw [hst], by rw [hst]⟩, by simp [intOf]; omega⟩
  ·have : k = j.au.length := by omega
   subst this
   rw [List.take_length]
   have hz4 := hj3.ext hx
   have hB : j.best = j.au.foldl j.step ([], -1) := rfl
   rw [← hB]
   by_cases c1 : j.best.2 < 0
   ·have hE : j.referral = (6, []) := by rw [JudR.referral, if_pos (.inl c1)]
    (repeat' first | ((with_reducible refine aJ ?_); go_step) | ((with_reducible refine aG ?_); first | refine aL ?_ | (refine aK ?_ ?_ <;> intro hc)) | fail)
    all_goals first
     | (exfalso; omega)
     | skip
    go_ret2
    exact ⟨by rw [hE]; rfl, hx0⟩
   ·by_cases c2 : j.code = 0
    ·have hE : j.referral = (4, j.best.1) := by rw [JudR.referral, if_neg (by rintro (h | h); exact c1 h; exact h c2)]
     (repeat' first | ((with_reducible refine aJ ?_); go_step) | ((with_reducible refine aG ?_); first | refine aL ?_ | (refine aK ?_ ?_ <;> intro hc)) | fail)
     all_goals first
      | (exfalso; omega)
      | (exfalso; have hh := ‹(!decide (j.code = 0)) = true›; simp [c2] at hh; done)
      | skip
     go_ret2
     exact ⟨by rw [hE]; rfl, hx0⟩
    ·have hE : j.referral = (6, []) := by rw [JudR.referral, if_pos (.inr c2)]
     (repeat' first | ((with_reducible refine aJ ?_); go_step) | ((with_reducible refine aG ?_); first | refine aL ?_ | (refine aK ?_ ?_ <;> intro hc)) | fail)
     all_goals first
      | (exfalso; omega)
      | (exfalso; have hh := ‹(!decide (j.code = 0)) = false›; simp [c2] at hh; done)
      | skip
     go_ret2
     exact ⟨by rw [hE]; rfl, hx0⟩
theorem zY {r : Rec} (h : bF r = 0) : r.data.length ≤ 4000 := by
 unfold bF at h
 split at h
 ·cases h
 ·split at h
  ·cases h
  ·omega
theorem wH {l : List Rec} {z : List UInt8} {r : Rec} (h : r ∈ aN l z) : bF r = 0 := by
 have := (List.mem_filter.1 h).2
 simp at this
 exact this.1
theorem JudR.referral_ne (j : JudR) : ¬ j.referral.1 = 0 := by
 unfold JudR.referral
 split <;> simp
theorem zZ {j : JudR} {v1 v2 : Value} (h1 : v1.oneCell' = true) (h2 : v2.oneCell' = true) : (Value.agg (fC j v1 v2).toArray).cells.all (·.oneCell') = true := by
 have k1 : ∀ s, (aF s).oneCell' = true := fun _ => rfl
 have k2 : ∀ n, (Value.int .i64 n).oneCell' = true := fun _ => rfl
 simp [fC, Value.cells, h1, h2, k1, k2]
def AT : List Value := [aF [], .int .i64 0, aF [], .int .i64 0, .slice none 0 0, .slice none 0 0]
set_option maxHeartbeats 4000000 in
theorem AA (qn : List UInt8) (qt : Int) (m : MsgR) (q a u e : Value) (z : List UInt8) (w : World) (hm : MsgV w m q a u e) (hl : m.an.length ≤ 100000) (hl2 : m.au.length ≤ 100000) :
 Calls Tryz.prog 44 #[.agg #[aF qn, .int .i64 qt], .agg (cY m q a u e).toArray, aF z] w (bS w (.tuple #[.int .i64 (cF qn qt m z).1, aF (cF qn qt m z).2])) := by
 go_enter Tryz.func44, Tryz.ntmps44
 repeat' (first | ((with_reducible refine aJ ?_); go_step) | fail)
 refine dB (vs := [aF qn, .int .i64 qt]) rfl rfl ?_
 intro pq w1 x1 hq
 refine aA ?_
 refine dB (vs := cY m q a u e) rfl rfl ?_
 intro pm w2 x2 hp
 refine aA ?_
 have hx2 := x1.trans x2
 have hq2 := hq.ext x2
 have hm2 := hm.ext hx2
 (repeat' first | ((with_reducible refine aJ ?_); go_step) | ((with_reducible refine aG ?_); first | refine aL ?_ | (refine aK ?_ ?_ <;> intro hc)) | fail)
 refine aB (enters_of Tryz.func62 rfl rfl) rfl rfl (mV qn z _) ?_; intro w3 x3; refine aA ?_
 have hx3 := hx2.trans x3
 have hp3 := hp.ext x3
 have hq3 := hq2.ext x3
 have hm3 := hm2.ext x3
 clear hp hq2 hm2 hq
 cases c1 : bO qn z with
 | false =>
  have hE : cF qn qt m z = (0, []) := by rw [cF, if_pos (.inl c1)]
  (repeat' first | ((with_reducible refine aJ ?_); go_step) | ((with_reducible refine aG ?_); first | refine aL ?_ | (refine aK ?_ ?_ <;> intro hc)) | fail)
  go_ret2
  exact ⟨by rw [hE]; rfl, hx3⟩
 | true =>
  cases c2 : m.trunc with
  | true =>
   have hE : cF qn qt m z = (0, []) := by rw [cF, if_pos (.inr (.inl c2))]
   have hp4 : Pts w3 pm [.int .i64 m.id, .bool m.resp, .int .i64 m.op, .bool m.auth, .bool true, .bool m.want, .bool m.avail, .int .i64 m.rcode, q, a, u, e, .int .i64 m.size] := by rw [← c2]; exact hp3
   clear hp3
   (repeat' first | ((with_reducible refine aJ ?_); go_step) | ((with_reducible refine aG ?_); first | refine aL ?_ | (refine aK ?_ ?_ <;> intro hc)) | fail)
   go_ret2
   exact ⟨by rw [hE]; rfl, hx3⟩
  | false =>
   have hp4 : Pts w3 pm [.int .i64 m.id, .bool m.resp, .int .i64 m.op, .bool m.auth, .bool false, .bool m.want, .bool m.avail, .int .i64 m.rcode, q, a, u, e, .int .i64 m.size] := by rw [← c2]; exact hp3
   clear hp3
   by_cases hok : m.rcode = 0 ∨ m.rcode = 3
   ·(repeat' first | ((with_reducible refine aJ ?_); go_step) | ((with_reducible refine aG ?_); first | refine aL ?_ | (refine aK ?_ ?_ <;> intro hc)) | fail)
    all_goals first
     | (exfalso; have h1 := ‹(!decide (m.rcode = 0)) = true›; have h2 := ‹(!decide (m.rcode = 3)) = true›; simp at h1 h2; rcases hok with h | h; exact h1 h; exact h2 h; done)
     | skip
    all_goals (
     have hE : cF qn qt m z = (if (⟨qn, qt, z, m.rcode, aN m.an z, aN m.au z⟩ : JudR).answer.1 ≠ 0 then (⟨qn, qt, z, m.rcode, aN m.an z, aN m.au z⟩ : JudR).answer else if (⟨qn, qt, z, m.rcode, aN m.an z, aN m.au z⟩ : JudR).alias.1 ≠ 0 then (⟨qn, qt, z, m.rcode, aN m.an z, aN m.au z⟩ : JudR).alias else if (⟨qn, qt, z, m.rcode, aN m.an z, aN m.au z⟩ : JudR).denial.1 ≠ 0 then (⟨qn, qt, z, m.rcode, aN m.an z, aN m.au z⟩ : JudR).denial else (⟨qn, qt, z, m.rcode, aN m.an z, aN m.au z⟩ : JudR).referral) := by rw [cF, if_neg (by rintro (h | h | ⟨h1, h2⟩); rw [c1] at h; cases h; rw [c2] at h; cases h; rcases hok with h | h; exact h1 h; exact h2 h)]
     generalize hJ : (⟨qn, qt, z, m.rcode, aN m.an z, aN m.au z⟩ : JudR) = J at *
     have hJ1 : J.an = aN m.an z := by rw [← hJ]
     have hJ2 : J.au = aN m.au z := by rw [← hJ]
     have hJd : ∀ r ∈ J.an, r.data.length ≤ 4000 := fun r hr => by
      rw [hJ1] at hr
      exact zY (wH hr)
     have hJc : ∀ v1 v2, fC J v1 v2 = [aF qn, .int .i64 qt, aF z, .int .i64 m.rcode, v1, v2] := fun v1 v2 => by rw [← hJ]; rfl
     refine cN (S := fun w' => Ext w3 w') (by decide +kernel) ?_
     intro w21 x21 hh21
     refine fK 0 ?_; refine aA ?_; refine fK 1 ?_; refine aA ?_; refine fK 2 ?_; refine aA ?_; refine fK 3 ?_; refine aA ?_; refine fK 4 ?_; refine aA ?_; refine fK 5 ?_; refine aA ?_; refine fK 6 ?_; refine aA ?_; refine fK 8 ?_; refine aA ?_; refine fK 9 ?_; refine aA ?_; refine fK 10 ?_; refine aA ?_
     refine yZ 7 11 12 13 14 39 43 44 8 (fun b1 b2 b3 b4 b5 => (!b2 || b1) && (!b3 || b1) && (!b3 || b2) && (!b5 || b3) && (!b5 || b4)) (fun b1 b2 b3 b4 b5 => !b2 && !b3) (fun b1 b2 b3 b4 b5 => b1 && !b3) (fun b1 b2 b3 b4 b5 => b1 && b2 && !b5) (fun b1 b2 b3 b4 b5 => !b5) (fun b1 b2 b3 b4 b5 => b3 && b4) (fun b1 b2 b3 b4 b5 v1 v2 v3 v4 w' => ∃ zk, Ext w3 w' ∧ (b1 = true → Own w3.heap.size 4 64 w' v1 (aE J.an)) ∧ (b2 = true → Own w3.heap.size 4 64 w' v2 (aE J.au)) ∧ (b3 = true → v3 = .agg (fC J v1 v2).toArray) ∧ (b4 = true → v4 = .pointer (some ⟨zk, 0, none⟩) ∧ w3.heap.size ≤ zk ∧ w'.heap[zk]? = some (.cells (bif b5 then fC J v1 v2 else AT).toArray 159 (0, 0)))) ?_ ?_ ?_ ?_ ?_ ?_ ?_
     ·exact ⟨0, x21, by simp, by simp, by simp, by simp⟩
     ·rintro b1 b2 b3 b4 b5 v1 v2 v3 v4 w4 hq ⟨zk, x4, f1, f2, f3, f4⟩
      have hb2 : b2 = false := by revert hq; cases b2 <;> simp
      have hb3 : b3 = false := by revert hq; subst hb2; cases b3 <;> simp
      have hb5 : b5 = false := by revert hq; subst hb3; cases b5 <;> simp
      subst hb2 hb3 hb5
      refine aA ?_
      refine aO (enters_of Tryz.func26 rfl rfl) rfl rfl (gD a m.an z _ (hm3.an.ext x4) hl) ?_
      intro v5 w5 x5 o5
      refine aA ?_
      refine aQ ⟨x4.trans x5, _, rfl, zk, x4.trans x5, fun _ => by rw [hJ1]; exact o5.weaken x4.size, by simp, by simp, fun e => ?_⟩
      obtain ⟨g1, g2, g3⟩ := f4 e
      exact ⟨g1, g2, x5.at g3⟩
     ·rintro b1 b2 b3 b4 b5 v1 v2 v3 v4 w4 hq ⟨zk, x4, f1, f2, f3, f4⟩
      have hb1 : b1 = true := by revert hq; cases b1 <;> simp
      have hb3 : b3 = false := by revert hq; cases b3 <;> simp
      have hb5 : b5 = false := by revert hq; subst hb3; cases b5 <;> simp
      subst hb1 hb3 hb5
      refine aA ?_
      refine aO (enters_of Tryz.func26 rfl rfl) rfl rfl (gD u m.au z _ (hm3.au.ext x4) hl2) ?_
      intro v5 w5 x5 o5
      refine aA ?_
      refine aQ ⟨x4.trans x5, _, rfl, zk, x4.trans x5, fun _ => (f1 rfl).ext x5, fun _ => by rw [hJ2]; exact o5.weaken x4.size, by simp, fun e => ?_⟩
      obtain ⟨g1, g2, g3⟩ := f4 e
      exact ⟨g1, g2, x5.at g3⟩
     ·rintro b1 b2 b3 b4 b5 v1 v2 v3 v4 w4 hq ⟨zk, x4, f1, f2, f3, f4⟩
      have hb1 : b1 = true := by revert hq; cases b1 <;> simp
      have hb2 : b2 = true := by revert hq; cases b2 <;> simp
      have hb5 : b5 = false := by revert hq; cases b5 <;> simp
      subst hb1 hb2 hb5
      refine aA ?_
      have q1 := (f1 rfl).sl.slf
      have q2 := (f2 rfl).sl.slf
      refine bW (v := .agg (fC J v1 v2).toArray) rfl (Runs.build (vals := [(0, .agg #[aF qn, .int .i64 qt]), (1, aF z), (2, .int .i64 m.rcode), (3, v1), (4, v2)]) rfl (by rw [hJc]; obtain ⟨_, _, _, rfl⟩ := q1; obtain ⟨_, _, _, rfl⟩ := q2; kernel_rfl)) ?_
      refine aA ?_
      refine aQ ⟨x4, _, rfl, zk, x4, fun _ => f1 rfl, fun _ => f2 rfl, fun _ => rfl, f4⟩
     ·rintro b1 b2 b3 b4 b5 v1 v2 v3 v4 w4 hq ⟨zk, x4, f1, f2, f3, f4⟩
      have hb5 : b5 = false := by revert hq; cases b5 <;> simp
      subst hb5
      refine aA ?_
      refine aH (z := AT) rfl (by decide +kernel) ?_
      intro w5 x5 s5 h5
      refine aA ?_
      refine aQ ⟨x4.trans x5, _, rfl, _, x4.trans x5, fun e => (f1 e).ext x5, fun e => (f2 e).ext x5, f3, fun _ => ⟨rfl, x4.size, h5⟩⟩
     ·rintro b1 b2 b3 b4 b5 v1 v2 v3 v4 w4 hq ⟨zk, x4, f1, f2, f3, f4⟩
      have hb3 : b3 = true := by revert hq; cases b3 <;> simp
      have hb4 : b4 = true := by revert hq; cases b4 <;> simp
      subst hb3 hb4
      have g3 := f3 rfl
      subst g3
      obtain ⟨rfl, g5, g6⟩ := f4 rfl
      have hb2 : b2 = true := by revert hq; cases b2 <;> simp
      have hb1 : b1 = true := by revert hq; subst hb2; cases b1 <;> simp
      subst hb1 hb2
      have q1 := (f1 rfl).sl.one
      have q2 := (f2 rfl).sl.one
      have n1 := (f1 rfl).neBlock g6 (by decide)
      have n2 := (f2 rfl).neBlock g6 (by decide)
      refine aA ?_
      refine aD (v := .agg (fC J v1 v2).toArray) rfl rfl rfl g6 (show aP Tryz.prog 159 6 = true by decide +kernel) rfl (zZ q1 q2) ?_
      intro w5 p5
      have x5 : Ext w3 w5 := x4.move p5.mv (by rintro k ⟨⟩; exact g5)
      refine aQ ⟨x5, rfl, zk, x5, fun _ => (f1 rfl).mv p5.mv (.inr n1), fun _ => (f2 rfl).mv p5.mv (.inr n2), by simp, fun _ => ⟨rfl, g5, p5.this⟩⟩
     ·rintro v1 v2 v3 v4 w9 ⟨zk, x9, f1, f2, f3, f4⟩
      have o1 := (f1 rfl).sl
      have o2 := (f2 rfl).sl
      have k3 := f3 rfl
      obtain ⟨k5, k6, k7⟩ := f4 rfl
      clear f1 f2 f3 f4
      subst k3 k5
      refine aA ?_
      refine cK (by decide +kernel) ?_
      have k7' : w9.heap[zk]? = some (.cells (fC J v1 v2).toArray 159 (0, 0)) := k7
      have hpz := aC (cs := fC J v1 v2) k7'
      (repeat' first | ((with_reducible refine aJ ?_); go_step) | ((with_reducible refine aG ?_); first | refine aL ?_ | (refine aK ?_ ?_ <;> intro hc)) | fail)
      refine bB (v := .agg #[.func (.func 95) #[] #[], .func (.func 96) #[] #[], .func (.func 97) #[] #[], .func (.func 98) #[] #[]]) (Runs.build rfl (by kernel_rfl)) ?_
      refine aA ?_
      (repeat' first | ((with_reducible refine aJ ?_); go_step) | ((with_reducible refine aG ?_); first | refine aL ?_ | (refine aK ?_ ?_ <;> intro hc)) | fail)
      have hx9 := hx3.trans x9
      go_loopw [46] (fun i wr => ∃ k : Nat, k ≤ 4 ∧ i = .int .i64 k ∧ Ext w9 wr ∧ (0 < k → J.answer.1 = 0) ∧ (1 < k → J.alias.1 = 0) ∧ (2 < k → J.denial.1 = 0) ∧ (3 < k → J.referral.1 = 0)) (fun i _ => 4 - (intOf i).toNat)
      case atStart => exact ⟨0, by omega, rfl, Ext.refl _, by omega, by omega, by omega, by omega⟩
      case round =>
       obtain ⟨k, hk, rfl, hx, g0, g1, g2, g3⟩ := hrel
       have hpz2 := hpz.ext hx
       rcases (by omega : k = 0 ∨ k = 1 ∨ k = 2 ∨ k = 3 ∨ k = 4) with rfl | rfl | rfl | rfl | rfl
       ·(repeat' first | ((with_reducible refine aJ ?_); go_step) | ((with_reducible refine aG ?_); first | refine aL ?_ | (refine aK ?_ ?_ <;> intro hc)) | fail)
        refine bB (v := .func (.func 95) #[] #[]) (Runs.idxA (i := 0) rfl rfl rfl (by decide) (show nD Tryz.prog 162 4 = true by decide +kernel)) ?_
        refine aA ?_
        (repeat' first | ((with_reducible refine aJ ?_); go_step) | ((with_reducible refine aG ?_); first | refine aL ?_ | (refine aK ?_ ?_ <;> intro hc)) | fail)
        refine bB (Runs.loadN hpz2 rfl (show bH Tryz.prog 159 6 = true by decide +kernel)) ?_
        refine aA ?_
        refine cS (enters_of Tryz.func95 rfl rfl) rfl rfl rfl (yB J v1 v2 _ (o1.ext hx) (o2.ext hx)) ?_
        rintro e w10 ⟨rfl, x10⟩
        refine ⟨_, rfl, ?_⟩
        refine aA ?_
        by_cases ck : J.answer.1 = 0
        ·(repeat' first | ((with_reducible refine aJ ?_); go_step) | ((with_reducible refine aG ?_); first | refine aL ?_ | (refine aK ?_ ?_ <;> intro hc)) | fail)
         all_goals first
          | (exfalso; have hh := ‹(!decide (J.answer.1 = 0)) = true›; simp [ck] at hh; done)
          | skip
         exact ⟨⟨1, by omega, by go_num, hx.trans x10, fun _ => ck, by omega, by omega, by omega⟩, by simp [intOf]⟩
        ·(repeat' first | ((with_reducible refine aJ ?_); go_step) | ((with_reducible refine aG ?_); first | refine aL ?_ | (refine aK ?_ ?_ <;> intro hc)) | fail)
         all_goals first
          | (exfalso; have hh := ‹(!decide (J.answer.1 = 0)) = false›; simp [ck] at hh; done)
          | skip
         go_ret2
         exact ⟨by rw [hE, if_pos ck]; rfl, (hx9.trans hx).trans x10⟩
       ·(repeat' first | ((with_reducible refine aJ ?_); go_step) | ((with_reducible refine aG ?_); first | refine aL ?_ | (refine aK ?_ ?_ <;> intro hc)) | fail)
        refine bB (v := .func (.func 96) #[] #[]) (Runs.idxA (i := 1) rfl rfl rfl (by decide) (show nD Tryz.prog 162 4 = true by decide +kernel)) ?_
        refine aA ?_
        (repeat' first | ((with_reducible refine aJ ?_); go_step) | ((with_reducible refine aG ?_); first | refine aL ?_ | (refine aK ?_ ?_ <;> intro hc)) | fail)
        refine bB (Runs.loadN hpz2 rfl (show bH Tryz.prog 159 6 = true by decide +kernel)) ?_
        refine aA ?_
        refine cS (enters_of Tryz.func96 rfl rfl) rfl rfl rfl (zT J v1 v2 _ (o1.ext hx) (o2.ext hx) hJd) ?_
        rintro e w10 ⟨rfl, x10⟩
        refine ⟨_, rfl, ?_⟩
        refine aA ?_
        by_cases ck : J.alias.1 = 0
        ·(repeat' first | ((with_reducible refine aJ ?_); go_step) | ((with_reducible refine aG ?_); first | refine aL ?_ | (refine aK ?_ ?_ <;> intro hc)) | fail)
         all_goals first
          | (exfalso; have hh := ‹(!decide (J.alias.1 = 0)) = true›; simp [ck] at hh; done)
          | skip
         exact ⟨⟨2, by omega, by go_num, hx.trans x10, fun _ => g0 (by omega), fun _ => ck, by omega, by omega⟩, by simp [intOf]⟩
        ·(repeat' first | ((with_reducible refine aJ ?_); go_step) | ((with_reducible refine aG ?_); first | refine aL ?_ | (refine aK ?_ ?_ <;> intro hc)) | fail)
         all_goals first
          | (exfalso; have hh := ‹(!decide (J.alias.1 = 0)) = false›; simp [ck] at hh; done)
          | skip
         go_ret2
         exact ⟨by rw [hE, if_neg (by rw [g0 (by omega)]; decide), if_pos ck]; rfl, (hx9.trans hx).trans x10⟩
       ·(repeat' first | ((with_reducible refine aJ ?_); go_step) | ((with_reducible refine aG ?_); first | refine aL ?_ | (refine aK ?_ ?_ <;> intro hc)) | fail)
        refine bB (v := .func (.func 97) #[] #[]) (Runs.idxA (i := 2) rfl rfl rfl (by decide) (show nD Tryz.prog 162 4 = true by decide +kernel)) ?_
        refine aA ?_
        (repeat' first | ((with_reducible refine aJ ?_); go_step) | ((with_reducible refine aG ?_); first | refine aL ?_ | (refine aK ?_ ?_ <;> intro hc)) | fail)
        refine bB (Runs.loadN hpz2 rfl (show bH Tryz.prog 159 6 = true by decide +kernel)) ?_
        refine aA ?_
        refine cS (enters_of Tryz.func97 rfl rfl) rfl rfl rfl (yC J v1 v2 _ (o1.ext hx) (o2.ext hx)) ?_
        rintro e w10 ⟨rfl, x10⟩
        refine ⟨_, rfl, ?_⟩
        refine aA ?_
        by_cases ck : J.denial.1 = 0
        ·(repeat' first | ((with_reducible refine aJ ?_); go_step) | ((with_reducible refine aG ?_); first | refine aL ?_ | (refine aK ?_ ?_ <;> intro hc)) | fail)
         all_goals first
          | (exfalso; have hh := ‹(!decide (J.denial.1 = 0)) = true›; simp [ck] at hh; done)
          | skip
         exact ⟨⟨3, by omega, by go_num, hx.trans x10, fun _ => g0 (by omega), fun _ => g1 (by omega), fun _ => ck, by omega⟩, by simp [intOf]⟩
        ·(repeat' first | ((with_reducible refine aJ ?_); go_step) | ((with_reducible refine aG ?_); first | refine aL ?_ | (refine aK ?_ ?_ <;> intro hc)) | fail)
         all_goals first
          | (exfalso; have hh := ‹(!decide (J.denial.1 = 0)) = false›; simp [ck] at hh; done)
          | skip
         go_ret2
         exact ⟨by rw [hE, if_neg (by rw [g0 (by omega)]; decide), if_neg (by rw [g1 (by omega)]; decide), if_pos ck]; rfl, (hx9.trans hx).trans x10⟩
       ·(repeat' first | ((with_reducible refine aJ ?_); go_step) | ((with_reducible refine aG ?_); first | refine aL ?_ | (refine aK ?_ ?_ <;> intro hc)) | fail)
        refine bB (v := .func (.func 98) #[] #[]) (Runs.idxA (i := 3) rfl rfl rfl (by decide) (show nD Tryz.prog 162 4 = true by decide +kernel)) ?_
        refine aA ?_
        (repeat' first | ((with_reducible refine aJ ?_); go_step) | ((with_reducible refine aG ?_); first | refine aL ?_ | (refine aK ?_ ?_ <;> intro hc)) | fail)
        refine bB (Runs.loadN hpz2 rfl (show bH Tryz.prog 159 6 = true by decide +kernel)) ?_
        refine aA ?_
        refine cS (enters_of Tryz.func98 rfl rfl) rfl rfl rfl (tU J v1 v2 _ (o1.ext hx) (o2.ext hx)) ?_
        rintro e w10 ⟨rfl, x10⟩
        refine ⟨_, rfl, ?_⟩
        refine aA ?_
        by_cases ck : J.referral.1 = 0
        ·(repeat' first | ((with_reducible refine aJ ?_); go_step) | ((with_reducible refine aG ?_); first | refine aL ?_ | (refine aK ?_ ?_ <;> intro hc)) | fail)
         all_goals first
          | (exfalso; have hh := ‹(!decide (J.referral.1 = 0)) = true›; simp [ck] at hh; done)
          | skip
         exact ⟨⟨4, by omega, by go_num, hx.trans x10, fun _ => g0 (by omega), fun _ => g1 (by omega), fun _ => g2 (by omega), fun _ => ck⟩, by simp [intOf]⟩
        ·(repeat' first | ((with_reducible refine aJ ?_); go_step) | ((with_reducible refine aG ?_); first | refine aL ?_ | (refine aK ?_ ?_ <;> intro hc)) | fail)
         all_goals first
          | (exfalso; have hh := ‹(!decide (J.referral.1 = 0)) = false›; simp [ck] at hh; done)
          | skip
         go_ret2
         exact ⟨by rw [hE, if_neg (by rw [g0 (by omega)]; decide), if_neg (by rw [g1 (by omega)]; decide), if_neg (by rw [g2 (by omega)]; decide)]; rfl, (hx9.trans hx).trans x10⟩
       ·exact absurd (g3 (by omega)) J.referral_ne)
   ·have hE : cF qn qt m z = (0, []) := by rw [cF, if_pos (.inr (.inr ⟨fun h => hok (.inl h), fun h => hok (.inr h)⟩))]
    (repeat' first | ((with_reducible refine aJ ?_); go_step) | ((with_reducible refine aG ?_); first | refine aL ?_ | (refine aK ?_ ?_ <;> intro hc)) | fail)
    all_goals first
     | (exfalso; apply hok; left; simpa using ‹(!decide (m.rcode = 0)) = false›; done)
     | (exfalso; apply hok; right; simpa using ‹(!decide (m.rcode = 3)) = false›; done)
     | skip
    go_ret2
    exact ⟨by rw [hE]; rfl, hx3⟩
structure Fr (b : Nat) (gv : Value) (w w' : World) : Prop where
 size : w.heap.size ≤ w'.heap.size
 block : ∀ j, j < w.heap.size → j ≠ b → gv.ownBlock ≠ some j → w'.heap[j]? = w.heap[j]?
theorem Fr.mv {b : Nat} {gv : Value} {w w1 w2 : World} {row : Option Nat} (h : Fr b gv w w1) (hm : Mv row w1 w2) (hr : ∀ c, row = some c → c = b ∨ gv.ownBlock = some c ∨ w.heap.size ≤ c) : Fr b gv w w2 :=
 ⟨Nat.le_trans h.size hm.size, fun j hj hb hg => by
  rw [hm.block j (Nat.lt_of_lt_of_le hj h.size) (by
   intro e
   rcases hr j e.symm with e1 | e1 | e1
   ·exact hb e1
   ·exact hg e1
   ·omega), h.block j hj hb hg]⟩
theorem Fr.ext {b : Nat} {gv : Value} {w w1 w2 : World} (h : Fr b gv w w1) (hx : Ext w1 w2) : Fr b gv w w2 := h.mv (hx.mv none) (by intro c e; cases e)
theorem Fr.of {b : Nat} {gv : Value} {w w1 : World} (hx : Ext w w1) : Fr b gv w w1 := ⟨hx.size, fun j hj _ _ => hx.block j hj⟩
def RRet (w0 w : World) (b : Nat) (gv : Value) (r : TaskR × ActR × List LrnR) (e : Ending) (w' : World) : Prop :=
 ∃ u l, e = .returned (.tuple #[u, l]) ∧ ActRet w0 b (r.1, r.2.1) u w' ∧ LrnsV w.heap.size w' l r.2.2 ∧ Fr b gv w w'
theorem ActRet.ext {w0 w w' : World} {b : Nat} {r : TaskR × ActR} {u : Value} (h : ActRet w0 b r u w) (hx : Ext w w') : ActRet w0 b r u w' := ⟨h.1.ext hx, h.2.grow hx⟩
theorem RRet.box {w0 w w1 w2 : World} {b c B : Nat} {r : TaskR × ActR} {lr : List LrnR} {gv u l : Value} (hu : ActRet w0 b r u w1) (hf : Fr b gv w w1) (hc : w1.heap[c]? = some (.cells bU.toArray 33 (0, 0))) (hg : w.heap.size ≤ c) (h0 : w0.heap.size ≤ w.heap.size)
 (hl : LrnsV B w1 l lr) (hB : c < B) (hp : Put w1 w2 c (.cells u.cells 33 (0, 0))) : ∃ u1 u2, u = .agg (bL r.2 u1 u2).toArray ∧ RRet w0 w b gv (r.1, r.2, lr) (.returned (.tuple #[.agg (bL r.2 u1 u2).toArray, l])) w2 := by
 obtain ⟨u1, u2, e, q1, q2⟩ := (hu.1.put hp hc (by decide)).out
 obtain ⟨rv, sv, gv, ev, hT⟩ := hu.2
 exact ⟨u1, u2, e, _, _, rfl, ⟨⟨u1, u2, rfl, q1, q2⟩, rv, sv, gv, ev, hT.other hp hc (Nat.le_trans h0 hg)⟩, (hl.mvb hp.mv hB).weaken (by omega), hf.mv hp.mv (by rintro k ⟨⟩; exact .inr (.inr hg))⟩
theorem oQ (a b : List Rec) : aE (a ++ b) = aE a ++ aE b := List.map_append
theorem TRet.tup {w0 w : World} {b : Nat} {r : TaskR × ActR} {gv u : Value} {w' : World} (h : TRet w0 w b r (.returned u) w') : RRet w0 w b gv (r.1, r.2, []) (.returned (.tuple #[u, .slice none 0 0])) w' := by
 obtain ⟨u', e, h1, h2⟩ := h
 cases e
 exact ⟨u, _, rfl, h1, LrnsV.nil _ _, h2.size, fun j hj hb _ => h2.block j hj (by intro e; exact hb (Option.some.inj e))⟩
theorem Own.cut1 {B k e : Nat} {w : World} {v : Value} {es : List (List Value)} (h : Own B k e w v es) (h1 : 1 ≤ es.length) : Own B k e w (cC v k 0 1) (es.take 1) := by
 rcases h.form with ⟨_, rfl⟩ | ⟨g, cap, rfl, _⟩
 ·simp at h1
 ·have := h.short h1
  simpa [cC, Addr.add] using this
theorem TaskV.gotp {w0 w w1 w2 : World} {b : Nat} {t : TaskR} {rv sv gv gv' ev : Value} {l : List Rec} (h : TaskV w0 w b t rv sv gv ev) (hs : t.stop = none) (hm : Mv gv.ownBlock w w1) (o1 : Own w0.heap.size 4 64 w1 gv' (aE l))
 (hp : Put w1 w2 b (.cells (bM { t with got := l } rv sv gv' ev).toArray 99 (0, 0))) : TaskV w0 w2 b { t with got := l } rv sv gv' ev := by
 have b1 := hm.at h.blk (fun e => h.gs.neBlock h.blk (by decide) e.symm)
 have r1 := h.rs.mv hm (h.rs.ne h.gs (by decide))
 have s1 : OwnOff w0.heap.size 1 3 w1 sv (aY t.servers) := h.ss.mv hm (by
  rcases h.ss.neOwn h.gs (by decide) with e | e
  ·cases hv : sv.ownBlock with
   | none => exact .inl rfl
   | some r => exact .inr (by rw [e]; simp)
  ·exact .inr fun e' => e e'.symm)
 refine ⟨h.ge, (h.ext.move hm (fun k hk => (h.gs.block k hk).1)).move hp.mv (by rintro k ⟨⟩; exact h.ge), hp.this, r1.mv hp.mv (.inr (r1.neBlock b1 (by decide))), s1.mv hp.mv (.inr (s1.neBlock b1 (by decide))), o1.mv hp.mv (.inr (o1.neBlock b1 (by decide))), ?_⟩
 have he := h.es
 rw [hs] at he
 show StopV w0.heap.size w2 ev t.stop
 rw [hs]
 exact he
set_option maxHeartbeats 2000000 in
theorem qY {w0 w : World} {b n : Nat} {t : TaskR} {rv sv gv ev : Value} (h : TaskV w0 w b t rv sv gv ev) (hB : TaskB t n) (hn : n ≤ 100000) (m : MsgR) (q a u e : Value) (hm : ∀ w', Mv (some b) w w' → MsgV w' m q a u e) (h1 : m.an.length ≤ 300) (h2 : m.au.length ≤ 300) (h3 : m.ex.length ≤ 300) (hd1 : ∀ z, ∀ r ∈ t.of m.au z 2, r.data.length ≤ 9223372036854775807) (hd2 : ∀ n, ∀ r ∈ t.of m.ex n 1, r.data.length ≤ 9223372036854775807) :
 Calls Tryz.prog 16 #[.pointer (some ⟨b, 0, none⟩), .agg (cY m q a u e).toArray] w (RRet w0 w b gv (t.reply m)) := by
 have hp := aC (cs := bM t rv sv gv ev) h.blk
 go_enter Tryz.func16, Tryz.ntmps16
 repeat' (first | ((with_reducible refine aJ ?_); go_step) | fail)
 refine cW (vs := cY m q a u e) rfl rfl ?_
 intro w1 x1 s1 hb1
 refine aA ?_
 have hp1 := aC (cs := cY m q a u e) hb1
 have hpt1 := hp.ext x1
 (repeat' first | ((with_reducible refine aJ ?_); go_step) | ((with_reducible refine aG ?_); first | refine aL ?_ | (refine aK ?_ ?_ <;> intro hc)) | fail)
 refine aH (z := bU) rfl (by decide +kernel) ?_
 intro w2 x2 s2 hb2
 refine aA ?_
 have hp2 := hp1.ext x2
 have hpt2 := hpt1.ext x2
 have he := h.es
 have hh2 := h.grow (x1.trans x2)
 cases hst : t.stop with
 | some a' =>
  rw [hst] at he
  obtain ⟨c, v1, v2, rfl, hc, hcb, o1, o2, -⟩ := he
  have hE : t.reply m = (t, a', []) := by rw [TaskR.reply, hst]
  have hst' := hB.stop a' hst
  (repeat' first | ((with_reducible refine aJ ?_); go_step) | ((with_reducible refine aG ?_); first | refine aL ?_ | (refine aK ?_ ?_ <;> intro hc)) | fail)
  refine aO (enters_of Tryz.func43 rfl rfl) rfl rfl (qV ⟨_, _, _, _, hh2⟩ hst (by omega) (by omega)) ?_
  intro u' w4 x4 hu
  refine aA ?_
  have h14 := x4.at hb2
  refine aD (v := u') rfl rfl rfl h14 (by rw [hu.1.size]; exact (show aP Tryz.prog 33 7 = true by decide +kernel)) (by rw [hu.1.size]; rfl) hu.1.one ?_
  intro w5 p5
  obtain ⟨u1, u2, rfl, hr⟩ := TRet.box hu (((x1.trans x2).trans x4).mv (some b)) h14 x1.size h.ext.size p5
  (repeat' first | ((with_reducible refine aJ ?_); go_step) | ((with_reducible refine aG ?_); first | refine aL ?_ | (refine aK ?_ ?_ <;> intro hc)) | fail)
  refine bodyPost_ret (bD (cs := bL a' u1 u2) rfl rfl p5.this (show bH Tryz.prog 33 7 = true by decide +kernel)) rfl ?_
  rw [hE]
  exact hr.tup
 | none =>
  rw [hst] at he
  have hev : ev = .pointer none := he
  subst hev
  have hfr : ∀ w', Mv (some b) w w' → MsgV w' m q a u e := hm
  (repeat' first | ((with_reducible refine aJ ?_); go_step) | ((with_reducible refine aG ?_); first | refine aL ?_ | (refine aK ?_ ?_ <;> intro hc)) | fail)
  all_goals (
   have hR : sN m = if m.auth = true then 4 else 3 := rfl
   simp only [‹m.auth = _›, if_true, if_false, Bool.false_eq_true] at hR
   refine bB (v := .agg #[aF t.qn, .int .i64 t.qt]) (Runs.loadN ((hpt2.part 0).front 2) rfl (show bH Tryz.prog 31 2 = true by decide +kernel)) ?_
   refine aA ?_
   refine aH (z := [aF [], .int .i64 0]) rfl (by decide +kernel) ?_
   intro w3 x3 s3 h3'
   refine aA ?_
   refine aD (v := .agg #[aF t.qn, .int .i64 t.qt]) rfl rfl rfl h3' (show aP Tryz.prog 31 2 = true by decide +kernel) rfl (by simp [Value.cells, show ∀ s, (aF s).oneCell' = true from fun _ => rfl, show ∀ n, (Value.int .i64 n).oneCell' = true from fun _ => rfl]) ?_
   intro w4 p4
   have x4 : Ext w2 w4 := x3.move p4.mv (by rintro k ⟨⟩; exact Nat.le_refl _)
   have hbq : w4.heap[w2.heap.size]? = some (.cells [aF t.qn, .int .i64 t.qt].toArray 31 (0, 0)) := p4.this
   have hpq := aC hbq
   have hp4 := hp2.ext x4
   have hpt4 := hpt2.ext x4
   have hh4 := hh2.grow x4
   have hm4 := hm _ (((x1.trans x2).trans x4).mv _)
   clear p4 h3' x3 hp hp1 hpt1 hp2 hpt2
   (repeat' first | ((with_reducible refine aJ ?_); go_step) | ((with_reducible refine aG ?_); first | refine aL ?_ | (refine aK ?_ ?_ <;> intro hc)) | fail)
   have hJ := fun w (h : MsgV w m q a u e) => AA t.qn t.qt m q a u e t.zone w h (by omega) (by omega)
   generalize hjj : cF t.qn t.qt m t.zone = jj at *
   refine cN (S := fun w' => Ext w4 w') (by decide +kernel) ?_
   intro w5 x5 _
   refine bI (i := 0) (v := .agg #[aF t.qn, .int .i64 t.qt]) rfl rfl (by decide +kernel) (by decide +kernel) (by decide +kernel) rfl x5 (fun w' c => Runs.loadN (hpq.ext c) rfl (show bH Tryz.prog 31 2 = true by decide +kernel)) (fun _ _ _ h => h) ?_
   refine aA ?_
   refine bI (i := 1) (v := .agg (cY m q a u e).toArray) rfl rfl (by decide +kernel) (by decide +kernel) (by decide +kernel) rfl x5 (fun w' c => Runs.loadN (hp4.ext c) rfl (show bH Tryz.prog 25 13 = true by decide +kernel)) (fun _ _ _ h => h) ?_
   refine aA ?_
   refine fK 2 ?_; refine aA ?_; refine fK 3 ?_; refine aA ?_; refine fK 4 ?_; refine aA ?_; refine fK 5 ?_; refine aA ?_
   refine bR (i := 6) (by decide +kernel) rfl rfl ?_
   refine aB (enters_of Tryz.func44 rfl rfl) rfl rfl (hJ _ (hm4.ext x5)) ?_
   intro w6 x6
   refine aA ?_
   have x46 := x5.trans x6
   refine aQ ⟨x46, ?_⟩
   refine fK 7 ?_; refine aA ?_; refine fK 8 ?_; refine aA ?_; refine fK 9 ?_; refine aA ?_; refine fK 10 ?_; refine aA ?_; refine fK 11 ?_; refine aA ?_
   refine cK (by decide +kernel) ?_
   have hp6 := hp4.ext x46
   have hpt6 := hpt4.ext x46
   have hpq6 := hpq.ext x46
   have hh6 := hh4.grow x46
   have hb6 := (x4.trans x46).at hb2
   have x06 := x1.trans (x2.trans (x4.trans x46))
   clear hp4 hpt4 hpq hh4 hm4 hbq
   have hm6 := hm _ (x06.mv _)
   by_cases k1 : jj.1 = 1
   ·have hE : t.reply m = (({ t with got := t.got ++ t.of m.an t.qn t.qt }.done 0 (t.got ++ t.of m.an t.qn t.qt) []).1, ({ t with got := t.got ++ t.of m.an t.qn t.qt }.done 0 (t.got ++ t.of m.an t.qn t.qt) []).2, cD (t.of m.an t.qn t.qt) (sN m)) := by
     unfold TaskR.reply
     simp only [hst, hjj, k1, if_true]
    (repeat' first | ((with_reducible refine aJ ?_); go_step) | ((with_reducible refine aG ?_); first | refine aL ?_ | (refine aK ?_ ?_ <;> intro hc)) | fail)
    refine aO (enters_of Tryz.func45 rfl rfl) rfl rfl (wC ⟨_, _, _, _, hh6⟩ a m.an t.qn t.qt hm6.an (by omega)) ?_
    intro lv w7 x7 o7
    refine aA ?_
    have hLl := fJ t m.an t.qn t.qt
    generalize hL : t.of m.an t.qn t.qt = L at *
    have hh7 := hh6.grow x7
    have hpt7 := hpt6.ext x7
    have hb7 := x7.at hb6
    have hgb : ∀ r, gv.ownBlock = some r → w0.heap.size ≤ r ∧ r < w.heap.size := h.gs.block
    have hgl := hB.got
    have sz06 := x06.size
    (repeat' first | ((with_reducible refine aJ ?_); go_step) | ((with_reducible refine aG ?_); first | refine aL ?_ | (refine aK ?_ ?_ <;> intro hc)) | fail)
    refine cU (v0 := gv) (es := aE t.got) (fs := aE L) rfl hh7.gs rfl o7.sl fB hh7.ext.size (by rw [aM, aM]; omega) ?_
    intro gv8 w8 o8 m8 hk8
    refine aA ?_
    have o8' : Own w0.heap.size 4 64 w8 gv8 (aE (t.got ++ L)) := by rw [oQ]; exact o8
    have b8 := m8.at hh7.blk (fun e => hh7.gs.neBlock hh7.blk (by decide) e.symm)
    have lvb : lv.ownBlock = none ∨ lv.ownBlock ≠ gv.ownBlock := by
     cases hv : lv.ownBlock with
     | none => exact .inl rfl
     | some r =>
      refine .inr fun e => ?_
      have q1 := (o7.block r hv).1
      have q2 := (hgb r e.symm).2
      omega
    have l8 := o7.mv m8 lvb
    (repeat' first | ((with_reducible refine aJ ?_); go_step) | ((with_reducible refine aG ?_); first | refine aL ?_ | (refine aK ?_ ?_ <;> intro hc)) | fail)
    refine bC (n := 5) (v := gv8) b8 rfl rfl rfl (by simp [bM]) (by decide +kernel) o8'.one ?_
    intro w9 p9
    have hT9 := hh7.gotp hst m8 o8' p9
    have hbn := (Array.getElem?_eq_some_iff.1 h.blk).1
    have sz1 := x1.size
    have hn9 : some w1.heap.size ≠ some b := by intro e; have := Option.some.inj e; omega
    have hb9 := p9.mv.at (m8.at hb7 (by intro e; have := hgb _ e.symm; omega)) hn9
    have l9 := l8.mv p9.mv (.inr (l8.neBlock b8 (by decide)))
    have o9 := o8'.mv p9.mv (.inr (o8'.neBlock b8 (by decide)))
    have hpt9 := aC (cs := bM { t with got := t.got ++ L } rv sv gv8 (.pointer none)) hT9.blk
    have f9 : Fr b gv w w9 := ((Fr.of (x06.trans x7)).mv m8 (fun c hc => .inr (.inl hc))).mv p9.mv (by rintro c ⟨⟩; exact .inl rfl)
    clear hpt6 hpt7 hp6 hpq6 o8 l8
    (repeat' first | ((with_reducible refine aJ ?_); go_step) | ((with_reducible refine aG ?_); first | refine aL ?_ | (refine aK ?_ ?_ <;> intro hc)) | fail)
    refine aT (vs := [.pointer (some ⟨b, 0, none⟩), .int .i64 0, gv8, .slice none 0 0]) (enters_of Tryz.func46 rfl rfl) rfl rfl (qX hT9 0 gv8 (.slice none 0 0) (t.got ++ L) [] o9 (Own.nil _ _ _ _) (by rw [List.length_append]; omega) (by decide)) ?_
    rintro e10 w10 ⟨u10, rfl, hu10, hm10⟩
    refine ⟨_, rfl, ?_⟩
    refine aA ?_
    have l10 := l9.mv hm10 (.inr (l9.neBlock hT9.blk (by decide)))
    have hb10 := hm10.at hb9 hn9
    (repeat' first | ((with_reducible refine aJ ?_); go_step) | ((with_reducible refine aG ?_); first | refine aL ?_ | (refine aK ?_ ?_ <;> intro hc)) | fail)
    refine aO (enters_of Tryz.func47 rfl rfl) rfl rfl (kS lv L _ _ l10.sl (by omega)) ?_
    intro ll w11 x11 l11
    refine aA ?_
    have hu11 := hu10.ext x11
    have hb11 := x11.at hb10
    have f11 := (f9.mv hm10 (by rintro c ⟨⟩; exact .inl rfl)).ext x11
    have szb := (Array.getElem?_eq_some_iff.1 hb10).1
    refine aD (v := u10) rfl rfl rfl hb11 (by rw [hu11.1.size]; exact (show aP Tryz.prog 33 7 = true by decide +kernel)) (by rw [hu11.1.size]; rfl) hu11.1.one ?_
    intro w12 p12
    obtain ⟨u1, u2, rfl, hr⟩ := RRet.box hu11 f11 hb11 sz1 h.ext.size l11 szb p12
    (repeat' first | ((with_reducible refine aJ ?_); go_step) | ((with_reducible refine aG ?_); first | refine aL ?_ | (refine aK ?_ ?_ <;> intro hc)) | fail)
    refine bodyPost_ret (bD (cs := bL _ u1 u2) rfl rfl p12.this (show bH Tryz.prog 33 7 = true by decide +kernel)) rfl ?_
    rw [hE, hR]
    exact hr
   ·by_cases k5 : jj.1 = 5
    ·have hE : t.reply m = (({ t with got := t.got ++ (t.of m.an t.qn 5).take 1 }.follow jj.2).1, ({ t with got := t.got ++ (t.of m.an t.qn 5).take 1 }.follow jj.2).2, cD ((t.of m.an t.qn 5).take 1) (sN m)) := by
      unfold TaskR.reply
      simp only [hst, hjj, k5, if_true, if_neg (show ¬ (5 : Int) = 1 by decide)]
     have hne := yH (t := t) (m := m) (by rw [hjj]; exact k5)
     (repeat' first | ((with_reducible refine aJ ?_); go_step) | ((with_reducible refine aG ?_); first | refine aL ?_ | (refine aK ?_ ?_ <;> intro hc)) | fail)
     refine aO (enters_of Tryz.func45 rfl rfl) rfl rfl (wC ⟨_, _, _, _, hh6⟩ a m.an t.qn 5 hm6.an (by omega)) ?_
     intro lv w7 x7 o7
     refine aA ?_
     have hLl := fJ t m.an t.qn 5
     generalize hL : t.of m.an t.qn 5 = L at *
     have hh7 := hh6.grow x7
     have hpt7 := hpt6.ext x7
     have hb7 := x7.at hb6
     have s7 := o7.sl
     have hcL := aM L
     have hgb : ∀ r, gv.ownBlock = some r → w0.heap.size ≤ r ∧ r < w.heap.size := h.gs.block
     have hgl := hB.got
     have sz06 := x06.size
     have hcut : ∀ {w : World}, Sl 4 w lv (aE L) → Sl 4 w (cC lv 4 0 1) (aE (L.take 1)) := fun h => by
      have := h.cut (m := 0) (n := 1) (by omega) (by omega)
      rw [List.drop_zero] at this
      rw [aE, List.map_take]
      exact this
     (repeat' first | ((with_reducible refine aJ ?_); go_step) | ((with_reducible refine aG ?_); first | refine aL ?_ | (refine aK ?_ ?_ <;> intro hc)) | fail)
     refine cU (v0 := gv) (es := aE t.got) (fs := aE (L.take 1)) rfl hh7.gs rfl (hcut o7.sl) fB hh7.ext.size (by rw [aM, aM, List.length_take]; omega) ?_
     intro gv8 w8 o8 m8 hk8
     refine aA ?_
     have o8' : Own w0.heap.size 4 64 w8 gv8 (aE (t.got ++ L.take 1)) := by rw [oQ]; exact o8
     have b8 := m8.at hh7.blk (fun e => hh7.gs.neBlock hh7.blk (by decide) e.symm)
     have lvb : lv.ownBlock = none ∨ lv.ownBlock ≠ gv.ownBlock := by
      cases hv : lv.ownBlock with
      | none => exact .inl rfl
      | some r =>
       refine .inr fun e => ?_
       have q1 := (o7.block r hv).1
       have q2 := (hgb r e.symm).2
       omega
     have l8 := o7.mv m8 lvb
     (repeat' first | ((with_reducible refine aJ ?_); go_step) | ((with_reducible refine aG ?_); first | refine aL ?_ | (refine aK ?_ ?_ <;> intro hc)) | fail)
     refine bC (n := 5) (v := gv8) b8 rfl rfl rfl (by simp [bM]) (by decide +kernel) o8'.one ?_
     intro w9 p9
     have hT9 := hh7.gotp hst m8 o8' p9
     have hbn := (Array.getElem?_eq_some_iff.1 h.blk).1
     have sz1 := x1.size
     have hn9 : some w1.heap.size ≠ some b := by intro e; have := Option.some.inj e; omega
     have hb9 := p9.mv.at (m8.at hb7 (by intro e; have := hgb _ e.symm; omega)) hn9
     have l9 := l8.mv p9.mv (.inr (l8.neBlock b8 (by decide)))
     have o9 := o8'.mv p9.mv (.inr (o8'.neBlock b8 (by decide)))
     have hpt9 := aC (cs := bM { t with got := t.got ++ L.take 1 } rv sv gv8 (.pointer none)) hT9.blk
     have f9 : Fr b gv w w9 := ((Fr.of (x06.trans x7)).mv m8 (fun c hc => .inr (.inl hc))).mv p9.mv (by rintro c ⟨⟩; exact .inl rfl)
     clear hpt6 hpt7 hp6 hpq6 o8 l8
     (repeat' first | ((with_reducible refine aJ ?_); go_step) | ((with_reducible refine aG ?_); first | refine aL ?_ | (refine aK ?_ ?_ <;> intro hc)) | fail)
     refine aT (vs := [.pointer (some ⟨b, 0, none⟩), aF jj.2]) (enters_of Tryz.func48 rfl rfl) rfl rfl (yK ⟨_, _, _, _, hT9⟩ jj.2 hB.l0 (Int.le_trans hB.l1 (by decide)) hB.c0 hB.c1) ?_
     rintro e10 w10 ⟨u10, rfl, hu10, hm10⟩
     refine ⟨_, rfl, ?_⟩
     refine aA ?_
     have l10 := l9.mv hm10 (.inr (l9.neBlock hT9.blk (by decide)))
     have hb10 := hm10.at hb9 hn9
     (repeat' first | ((with_reducible refine aJ ?_); go_step) | ((with_reducible refine aG ?_); first | refine aL ?_ | (refine aK ?_ ?_ <;> intro hc)) | fail)
     refine aO (enters_of Tryz.func47 rfl rfl) rfl rfl (kS (cC lv 4 0 1) (L.take 1) _ _ (hcut l10.sl) (by rw [List.length_take]; omega)) ?_
     intro ll w11 x11 l11
     refine aA ?_
     have hu11 := hu10.ext x11
     have hb11 := x11.at hb10
     have f11 := (f9.mv hm10 (by rintro c ⟨⟩; exact .inl rfl)).ext x11
     have szb := (Array.getElem?_eq_some_iff.1 hb10).1
     refine aD (v := u10) rfl rfl rfl hb11 (by rw [hu11.1.size]; exact (show aP Tryz.prog 33 7 = true by decide +kernel)) (by rw [hu11.1.size]; rfl) hu11.1.one ?_
     intro w12 p12
     obtain ⟨u1, u2, rfl, hr⟩ := RRet.box hu11 f11 hb11 sz1 h.ext.size l11 szb p12
     (repeat' first | ((with_reducible refine aJ ?_); go_step) | ((with_reducible refine aG ?_); first | refine aL ?_ | (refine aK ?_ ?_ <;> intro hc)) | fail)
     refine bodyPost_ret (bD (cs := bL _ u1 u2) rfl rfl p12.this (show bH Tryz.prog 33 7 = true by decide +kernel)) rfl ?_
     rw [hE, hR]
     exact hr
    ·have hm6' := hm6
     by_cases k3 : jj.1 = 3
     ·have hE : t.reply m = ((t.done 3 t.got ((t.of m.au jj.2 6).take 1)).1, (t.done 3 t.got ((t.of m.au jj.2 6).take 1)).2, []) := by
       unfold TaskR.reply
       simp only [hst, hjj, k3, if_true, if_neg (show ¬ (3 : Int) = 1 by decide), if_neg (show ¬ (3 : Int) = 5 by decide)]
      have hne := qF (t := t) (m := m) (by rw [hjj]; exact .inr k3)
      rw [hjj] at hne
      have hLl := fJ t m.au jj.2 6
      have hof := fun w (h : TaskV w0 w b t rv sv gv (.pointer none)) (hmm : MsgV w m q a u e) => wC ⟨_, _, _, _, h⟩ u m.au jj.2 6 hmm.au (by omega)
      generalize hL : t.of m.au jj.2 6 = L at *
      have hcL := aM L
      have hgl := hB.got
      (repeat' first | ((with_reducible refine aJ ?_); go_step) | ((with_reducible refine aG ?_); first | refine aL ?_ | (refine aK ?_ ?_ <;> intro hc)) | fail)
      refine cZ 11 (Ext w6) (by decide +kernel) ?_
      intro w7 x7 _
      refine ⟨x7, ?_⟩
      refine iQ 0 ?_; refine iQ 1 ?_; refine iQ 2 ?_; refine iQ 3 ?_; refine iQ 4 ?_; refine iQ 5 ?_; refine iQ 6 ?_; refine iQ 7 ?_; refine iQ 8 ?_
      refine cE (i := 9) (by decide +kernel) rfl rfl ?_
      refine aO (enters_of Tryz.func45 rfl rfl) rfl rfl (hof _ (hh6.grow x7) (hm6.ext x7)) ?_
      intro lv w8 x8 o8
      refine aA ?_
      have x68 := x7.trans x8
      refine aQ ⟨dS x68, ?_⟩
      have sL := o8.sl
      refine cE (i := 10) (by decide +kernel) rfl rfl ?_
      ((with_reducible refine aG ?_); (first | (refine kW ?_; refine iN ?_) | (refine mL ?_; refine pB ?_; (with_reducible refine aG ?_); refine kW ?_; refine iN ?_)))
      refine aQ ⟨dS x68, ?_⟩
      have hh8 := hh6.grow x68
      have szx := x68.size
      have o8c : Own w0.heap.size 4 64 w8 (cC lv 4 0 1) (aE (L.take 1)) := by
       have := o8.cut1 (by omega)
       rw [aE, List.map_take]
       exact this.weaken (by have := h.ext.size; have := x06.size; have := x7.size; omega)
      refine cE (i := 11) (by decide +kernel) rfl rfl ?_
      refine aT (vs := [.pointer (some ⟨b, 0, none⟩), .int .i64 3, gv, cC lv 4 0 1]) (enters_of Tryz.func46 rfl rfl) rfl rfl (qX hh8 3 gv (cC lv 4 0 1) t.got (L.take 1) hh8.gs o8c (by omega) (by rw [List.length_take]; omega)) ?_
      rintro e9 w9 ⟨u9, rfl, hu9, hm9⟩
      refine ⟨_, rfl, ?_⟩
      refine aA ?_
      refine aQ ⟨cR rfl, ?_⟩
      refine cE (i := 12) (by decide +kernel) rfl rfl ?_
      have sz1 := x1.size
      have hbn := (Array.getElem?_eq_some_iff.1 h.blk).1
      have hn9 : some w1.heap.size ≠ some b := by intro e; have := Option.some.inj e; omega
      have hb9 := hm9.at (x68.at hb6) hn9
      refine aD (v := u9) rfl rfl rfl hb9 (by rw [hu9.1.size]; exact (show aP Tryz.prog 33 7 = true by decide +kernel)) (by rw [hu9.1.size]; rfl) hu9.1.one ?_
      intro w10 p10
      refine aQ ⟨cR rfl, ?_⟩
      obtain ⟨u1, u2, rfl, hr⟩ := TRet.box hu9 (((x06.trans x68).mv (some b)).trans hm9) hb9 sz1 h.ext.size p10
      refine cE (i := 13) (by decide +kernel) rfl rfl ?_
      ((with_reducible refine aG ?_); (first | (refine kW ?_; refine iN ?_) | (refine mL ?_; refine pB ?_; (with_reducible refine aG ?_); refine kW ?_; refine iN ?_)))
      refine aQ ⟨cR rfl, ?_⟩
      refine eF (by decide +kernel) ?_
      (repeat' first | ((with_reducible refine aJ ?_); go_step) | ((with_reducible refine aG ?_); first | refine aL ?_ | (refine aK ?_ ?_ <;> intro hc)) | fail)
      refine bodyPost_ret (bD (cs := bL _ u1 u2) rfl rfl p10.this (show bH Tryz.prog 33 7 = true by decide +kernel)) rfl ?_
      rw [hE]
      exact hr.tup
     ·by_cases k2 : jj.1 = 2
      ·have hE : t.reply m = ((t.done 0 t.got ((t.of m.au jj.2 6).take 1)).1, (t.done 0 t.got ((t.of m.au jj.2 6).take 1)).2, []) := by
        unfold TaskR.reply
        simp only [hst, hjj, k2, if_true, if_neg (show ¬ (2 : Int) = 1 by decide), if_neg (show ¬ (2 : Int) = 5 by decide), if_neg (show ¬ (2 : Int) = 3 by decide)]
       have hne := qF (t := t) (m := m) (by rw [hjj]; exact .inl k2)
       rw [hjj] at hne
       have hLl := fJ t m.au jj.2 6
       have hof := fun w (h : TaskV w0 w b t rv sv gv (.pointer none)) (hmm : MsgV w m q a u e) => wC ⟨_, _, _, _, h⟩ u m.au jj.2 6 hmm.au (by omega)
       generalize hL : t.of m.au jj.2 6 = L at *
       have hcL := aM L
       have hgl := hB.got
       (repeat' first | ((with_reducible refine aJ ?_); go_step) | ((with_reducible refine aG ?_); first | refine aL ?_ | (refine aK ?_ ?_ <;> intro hc)) | fail)
       refine cZ 11 (Ext w6) (by decide +kernel) ?_
       intro w7 x7 _
       refine ⟨x7, ?_⟩
       refine iQ 0 ?_; refine iQ 1 ?_; refine iQ 2 ?_; refine iQ 3 ?_; refine iQ 4 ?_; refine iQ 5 ?_; refine iQ 6 ?_; refine iQ 7 ?_; refine iQ 8 ?_
       refine cE (i := 9) (by decide +kernel) rfl rfl ?_
       refine aO (enters_of Tryz.func45 rfl rfl) rfl rfl (hof _ (hh6.grow x7) (hm6.ext x7)) ?_
       intro lv w8 x8 o8
       refine aA ?_
       have x68 := x7.trans x8
       refine aQ ⟨dS x68, ?_⟩
       have sL := o8.sl
       refine cE (i := 10) (by decide +kernel) rfl rfl ?_
       ((with_reducible refine aG ?_); (first | (refine kW ?_; refine iN ?_) | (refine mL ?_; refine pB ?_; (with_reducible refine aG ?_); refine kW ?_; refine iN ?_)))
       refine aQ ⟨dS x68, ?_⟩
       have hh8 := hh6.grow x68
       have szx := x68.size
       have o8c : Own w0.heap.size 4 64 w8 (cC lv 4 0 1) (aE (L.take 1)) := by
        have := o8.cut1 (by omega)
        rw [aE, List.map_take]
        exact this.weaken (by have := h.ext.size; have := x06.size; have := x7.size; omega)
       refine cE (i := 11) (by decide +kernel) rfl rfl ?_
       refine aT (vs := [.pointer (some ⟨b, 0, none⟩), .int .i64 0, gv, cC lv 4 0 1]) (enters_of Tryz.func46 rfl rfl) rfl rfl (qX hh8 0 gv (cC lv 4 0 1) t.got (L.take 1) hh8.gs o8c (by omega) (by rw [List.length_take]; omega)) ?_
       rintro e9 w9 ⟨u9, rfl, hu9, hm9⟩
       refine ⟨_, rfl, ?_⟩
       refine aA ?_
       refine aQ ⟨cR rfl, ?_⟩
       refine cE (i := 12) (by decide +kernel) rfl rfl ?_
       have sz1 := x1.size
       have hbn := (Array.getElem?_eq_some_iff.1 h.blk).1
       have hn9 : some w1.heap.size ≠ some b := by intro e; have := Option.some.inj e; omega
       have hb9 := hm9.at (x68.at hb6) hn9
       refine aD (v := u9) rfl rfl rfl hb9 (by rw [hu9.1.size]; exact (show aP Tryz.prog 33 7 = true by decide +kernel)) (by rw [hu9.1.size]; rfl) hu9.1.one ?_
       intro w10 p10
       refine aQ ⟨cR rfl, ?_⟩
       obtain ⟨u1, u2, rfl, hr⟩ := TRet.box hu9 (((x06.trans x68).mv (some b)).trans hm9) hb9 sz1 h.ext.size p10
       refine cE (i := 13) (by decide +kernel) rfl rfl ?_
       ((with_reducible refine aG ?_); (first | (refine kW ?_; refine iN ?_) | (refine mL ?_; refine pB ?_; (with_reducible refine aG ?_); refine kW ?_; refine iN ?_)))
       refine aQ ⟨cR rfl, ?_⟩
       refine eF (by decide +kernel) ?_
       (repeat' first | ((with_reducible refine aJ ?_); go_step) | ((with_reducible refine aG ?_); first | refine aL ?_ | (refine aK ?_ ?_ <;> intro hc)) | fail)
       refine bodyPost_ret (bD (cs := bL _ u1 u2) rfl rfl p10.this (show bH Tryz.prog 33 7 = true by decide +kernel)) rfl ?_
       rw [hE]
       exact hr.tup
      ·by_cases k4 : jj.1 = 4
       ·have hE : t.reply m = ((t.refer m jj.2).1.on.1, (t.refer m jj.2).1.on.2, (t.refer m jj.2).2) := by
         unfold TaskR.reply
         simp only [hst, hjj, k4, if_true, if_neg (show ¬ (4 : Int) = 1 by decide), if_neg (show ¬ (4 : Int) = 5 by decide), if_neg (show ¬ (4 : Int) = 3 by decide), if_neg (show ¬ (4 : Int) = 2 by decide)]
        (repeat' first | ((with_reducible refine aJ ?_); go_step) | ((with_reducible refine aG ?_); first | refine aL ?_ | (refine aK ?_ ?_ <;> intro hc)) | fail)
        refine bB (v := .agg (cY m q a u e).toArray) (Runs.loadN hp6 rfl (show bH Tryz.prog 25 13 = true by decide +kernel)) ?_
        refine aA ?_
        (repeat' first | ((with_reducible refine aJ ?_); go_step) | ((with_reducible refine aG ?_); first | refine aL ?_ | (refine aK ?_ ?_ <;> intro hc)) | fail)
        refine aT (vs := [.pointer (some ⟨b, 0, none⟩), .agg (cY m q a u e).toArray, aF jj.2]) (enters_of Tryz.func49 rfl rfl) rfl rfl (zX ⟨_, _, _, _, hh6⟩ m q a u e jj.2 (fun w' h' => hm w' ((x06.mv _).trans h')) hst (by omega) (by omega) (hd1 jj.2) (hd2)) ?_
        rintro e7 w7 ⟨ll, rfl, l7, hT7, hm7⟩
        refine ⟨_, rfl, ?_⟩
        refine aA ?_
        have sz1 := x1.size
        have hbn := (Array.getElem?_eq_some_iff.1 h.blk).1
        have hn9 : some w1.heap.size ≠ some b := by intro e; have := Option.some.inj e; omega
        have hb7 := hm7.at hb6 hn9
        (repeat' first | ((with_reducible refine aJ ?_); go_step) | ((with_reducible refine aG ?_); first | refine aL ?_ | (refine aK ?_ ?_ <;> intro hc)) | fail)
        refine aT (vs := [.pointer (some ⟨b, 0, none⟩)]) (enters_of Tryz.func50 rfl rfl) rfl rfl (yJ hT7 hB.l0 (Int.le_trans hB.l1 (by decide))) ?_
        rintro e8 w8 ⟨u8, rfl, hu8, hm8⟩
        refine ⟨_, rfl, ?_⟩
        refine aA ?_
        have szb6 := (Array.getElem?_eq_some_iff.1 hb6).1
        have l8 := l7.mvb hm8 (by have := x06.size; omega)
        have hb8 := hm8.at hb7 hn9
        have f8 := ((Fr.of x06).mv hm7 (gv := gv) (b := b) (by rintro c ⟨⟩; exact .inl rfl)).mv hm8 (by rintro c ⟨⟩; exact .inl rfl)
        (repeat' first | ((with_reducible refine aJ ?_); go_step) | ((with_reducible refine aG ?_); first | refine aL ?_ | (refine aK ?_ ?_ <;> intro hc)) | fail)
        refine aD (v := u8) rfl rfl rfl hb8 (by rw [hu8.1.size]; exact (show aP Tryz.prog 33 7 = true by decide +kernel)) (by rw [hu8.1.size]; rfl) hu8.1.one ?_
        intro w12 p12
        obtain ⟨u1, u2, rfl, hr⟩ := RRet.box hu8 f8 hb8 sz1 h.ext.size l8 szb6 p12
        (repeat' first | ((with_reducible refine aJ ?_); go_step) | ((with_reducible refine aG ?_); first | refine aL ?_ | (refine aK ?_ ?_ <;> intro hc)) | fail)
        refine bodyPost_ret (bD (cs := bL _ u1 u2) rfl rfl p12.this (show bH Tryz.prog 33 7 = true by decide +kernel)) rfl ?_
        rw [hE]
        exact hr
       ·have hE : t.reply m = (t.on.1, t.on.2, []) := by
         unfold TaskR.reply
         simp only [hst, hjj, if_neg k1, if_neg k5, if_neg k3, if_neg k2, if_neg k4]
        (repeat' first | ((with_reducible refine aJ ?_); go_step) | ((with_reducible refine aG ?_); first | refine aL ?_ | (refine aK ?_ ?_ <;> intro hc)) | fail)
        refine aT (vs := [.pointer (some ⟨b, 0, none⟩)]) (enters_of Tryz.func50 rfl rfl) rfl rfl (yJ ⟨_, _, _, _, hh6⟩ hB.l0 (Int.le_trans hB.l1 (by decide))) ?_
        rintro e8 w8 ⟨u8, rfl, hu8, hm8⟩
        refine ⟨_, rfl, ?_⟩
        refine aA ?_
        have sz1 := x1.size
        have hbn := (Array.getElem?_eq_some_iff.1 h.blk).1
        have hn9 : some w1.heap.size ≠ some b := by intro e; have := Option.some.inj e; omega
        have hb8 := hm8.at hb6 hn9
        refine aD (v := u8) rfl rfl rfl hb8 (by rw [hu8.1.size]; exact (show aP Tryz.prog 33 7 = true by decide +kernel)) (by rw [hu8.1.size]; rfl) hu8.1.one ?_
        intro w10 p10
        obtain ⟨u1, u2, rfl, hr⟩ := TRet.box hu8 ((x06.mv (some b)).trans hm8) hb8 sz1 h.ext.size p10
        (repeat' first | ((with_reducible refine aJ ?_); go_step) | ((with_reducible refine aG ?_); first | refine aL ?_ | (refine aK ?_ ?_ <;> intro hc)) | fail)
        refine bodyPost_ret (bD (cs := bL _ u1 u2) rfl rfl p10.this (show bH Tryz.prog 33 7 = true by decide +kernel)) rfl ?_
        rw [hE]
        exact hr.tup)
end Go.Proofs.X
