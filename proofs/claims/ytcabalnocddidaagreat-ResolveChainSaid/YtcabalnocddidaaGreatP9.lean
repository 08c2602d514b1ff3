/- Laws and walks that the proof of the statement is made of (part 9). -/
import Derived.Test.YtcabalnocddidaaGreatP8
set_option linter.unusedSimpArgs false
set_option linter.unusedVariables false
namespace Go.Proofs.X
open Go.RowKit
set_option maxRecDepth 100000
def TRet (w0 w : World) (b : Nat) (r : TaskR × ActR) (e : Ending) (w' : World) : Prop := ∃ u, e = .returned u ∧ ActRet w0 b r u w' ∧ Mv (some b) w w'
theorem TaskV.neBox {w0 w : World} {b : Nat} {t : TaskR} {rv sv gv ev : Value} (h : TaskV w0 w b t rv sv gv ev) : some w.heap.size ≠ some b := by
 intro e
 have e1 := Option.some.inj e
 have e2 := (Array.getElem?_eq_some_iff.1 h.blk).1
 omega
theorem TRet.box {w0 w w1 w2 : World} {b c : Nat} {r : TaskR × ActR} {u : Value} (hu : ActRet w0 b r u w1) (hm : Mv (some b) w w1) (hc : w1.heap[c]? = some (.cells bX.toArray 33 (0, 0))) (hg : w.heap.size ≤ c) (h0 : w0.heap.size ≤ w.heap.size)
 (hp : Put w1 w2 c (.cells u.cells 33 (0, 0))) : ∃ u1 u2, u = .agg (bO r.2 u1 u2).toArray ∧ TRet w0 w b r (.returned (.agg (bO r.2 u1 u2).toArray)) w2 := by
 obtain ⟨u1, u2, e, q1, q2⟩ := (hu.1.put hp hc (by decide)).out
 obtain ⟨rv, sv, gv, ev, hT⟩ := hu.2
 exact ⟨u1, u2, e, _, rfl, ⟨⟨u1, u2, rfl, q1, q2⟩, rv, sv, gv, ev, hT.other hp hc (Nat.le_trans h0 hg)⟩, hm.fresh hp.mv hg⟩
set_option maxHeartbeats 1000000 in
theorem pP {w0 w : World} {b : Nat} {t : TaskR} {rv sv gv ev : Value} (h : TaskV w0 w b t rv sv gv ev) (code : Int) (v1 v2 : Value) (ans auth : List Rec) (o1 : Own w0.heap.size 4 64 w v1 (aH ans)) (o2 : Own w0.heap.size 4 64 w v2 (aH auth)) (h1' : ans.length ≤ 1000000) (h2' : auth.length ≤ 1000000) :
 Calls Tryz.prog 46 #[.pointer (some ⟨b, 0, none⟩), .int .i64 code, v1, v2] w (TRet w0 w b (t.done code ans auth)) := by
 have hp := aC (cs := bL t rv sv gv ev) h.blk
 go_enter Tryz.func46, Tryz.ntmps46
 (repeat' first | ((with_reducible refine aJ ?_); go_step) | ((with_reducible refine aG ?_); first | refine aL ?_ | (refine aK ?_ ?_ <;> intro hc)) | fail)
 refine aF (z := bX) rfl (by decide +kernel) ?_
 intro w1 x1 s1 h1
 refine aA ?_
 have hp1 := hp.ext x1
 (repeat' first | ((with_reducible refine aJ ?_); go_step) | ((with_reducible refine aG ?_); first | refine aL ?_ | (refine aK ?_ ?_ <;> intro hc)) | fail)
 refine bV (v := .agg (bO ⟨2, 0, [], 0, code, ans, auth⟩ v1 v2).toArray) rfl (Runs.build (vals := [(0, .int .i64 2), (3, .int .i64 code), (4, v1), (5, v2)]) rfl (by obtain ⟨_, _, _, rfl⟩ := o1.sl.slf; obtain ⟨_, _, _, rfl⟩ := o2.sl.slf; kernel_rfl)) ?_
 refine aA ?_
 refine dB (vs := bO ⟨2, 0, [], 0, code, ans, auth⟩ v1 v2) rfl rfl ?_
 intro w2 x2 s2 h2
 refine aA ?_
 have hx2 := x1.trans x2
 have hp2 := hp1.ext x2
 have hh := h.grow hx2
 (repeat' first | ((with_reducible refine aJ ?_); go_step) | ((with_reducible refine aG ?_); first | refine aL ?_ | (refine aK ?_ ?_ <;> intro hc)) | fail)
 refine bA (n := 8) (v := .pointer (some ⟨w1.heap.size, 0, none⟩)) hh.blk rfl rfl rfl (by simp [bL]) (by decide +kernel) rfl ?_
 intro w3 p3
 have p3' : Put w2 w3 b (.cells (bL { t with stop := some ⟨2, 0, [], 0, code, ans, auth⟩ } rv sv gv (.pointer (some ⟨w1.heap.size, 0, none⟩))).toArray 99 (0, 0)) := p3
 obtain ⟨k1, k2, k3, -⟩ := hh.kept p3
 have hnb : some w.heap.size ≠ some b := by
  intro e
  have e1 := Option.some.inj e
  have e2 := (Array.getElem?_eq_some_iff.1 h.blk).1
  omega
 have hne : some w1.heap.size ≠ some b := by
  intro e
  have e1 := Option.some.inj e
  have e2 := hh.blk
  rw [← e1, h2] at e2
  simp only [Option.some.injEq, Obj.cells.injEq] at e2
  exact absurd e2.2.1 (by decide)
 have hT : TaskV w0 w3 b { t with stop := some ⟨2, 0, [], 0, code, ans, auth⟩ } rv sv gv (.pointer (some ⟨w1.heap.size, 0, none⟩)) :=
  hh.put p3' k1 k2 k3 ⟨w1.heap.size, v1, v2, rfl, Nat.le_trans h.ext.size x1.size, p3.mv.at h2 hne, (o1.ext hx2).mv p3.mv (.inr ((o1.ext hx2).neBlock hh.blk (by decide))), (o2.ext hx2).mv p3.mv (.inr ((o2.ext hx2).neBlock hh.blk (by decide))), rfl⟩
 clear p3'
 (repeat' first | ((with_reducible refine aJ ?_); go_step) | ((with_reducible refine aG ?_); first | refine aL ?_ | (refine aK ?_ ?_ <;> intro hc)) | fail)
 refine aR (enters_of Tryz.func43 rfl rfl) rfl rfl (pN ⟨_, _, _, _, hT⟩ rfl h1' h2') ?_
 intro u w4 x4 hu
 refine aA ?_
 have h14 := x4.at (p3.mv.at (x2.at h1) hnb)
 refine aD (v := u) rfl rfl rfl h14 (by rw [hu.1.size]; exact (show aM Tryz.prog 33 7 = true by decide +kernel)) (by rw [hu.1.size]; rfl) hu.1.one ?_
 intro w5 p5
 obtain ⟨u1, u2, rfl, hr⟩ := TRet.box hu ((hx2.mv _).trans (p3.mv.trans (x4.mv _))) h14 (Nat.le_refl _) h.ext.size p5
 (repeat' first | ((with_reducible refine aJ ?_); go_step) | ((with_reducible refine aG ?_); first | refine aL ?_ | (refine aK ?_ ?_ <;> intro hc)) | fail)
 exact bodyPost_ret (cA (cs := bO ⟨2, 0, [], 0, code, ans, auth⟩ u1 u2) rfl rfl p5.this (show bN Tryz.prog 33 7 = true by decide +kernel)) rfl hr
set_option maxHeartbeats 1000000 in
theorem tH {w0 w : World} {b : Nat} {t : TaskR} (h : TaskAt w0 w b t) : Calls Tryz.prog 100 #[.pointer (some ⟨b, 0, none⟩)] w (TRet w0 w b (t.done 2 [] [])) := by
 obtain ⟨rv, sv, gv, ev, h⟩ := h
 go_enter Tryz.func100, Tryz.ntmps100
 (repeat' first | ((with_reducible refine aJ ?_); go_step) | ((with_reducible refine aG ?_); first | refine aL ?_ | (refine aK ?_ ?_ <;> intro hc)) | fail)
 refine aF (z := bX) rfl (by decide +kernel) ?_
 intro w1 x1 s1 h1
 refine aA ?_
 (repeat' first | ((with_reducible refine aJ ?_); go_step) | ((with_reducible refine aG ?_); first | refine aL ?_ | (refine aK ?_ ?_ <;> intro hc)) | fail)
 refine aQ (vs := [.pointer (some ⟨b, 0, none⟩), .int .i64 2, .slice none 0 0, .slice none 0 0]) (enters_of Tryz.func46 rfl rfl) rfl rfl (pP (h.grow x1) 2 (.slice none 0 0) (.slice none 0 0) [] [] (Own.nil _ _ _ _) (Own.nil _ _ _ _) (by decide) (by decide)) ?_
 rintro e w4 ⟨u, rfl, hu, hm⟩
 refine ⟨_, rfl, ?_⟩
 refine aA ?_
 have h14 := hm.at h1 h.neBox
 refine aD (v := u) rfl rfl rfl h14 (by rw [hu.1.size]; exact (show aM Tryz.prog 33 7 = true by decide +kernel)) (by rw [hu.1.size]; rfl) hu.1.one ?_
 intro w5 p5
 obtain ⟨u1, u2, rfl, hr⟩ := TRet.box hu ((x1.mv _).trans hm) h14 (Nat.le_refl _) h.ext.size p5
 (repeat' first | ((with_reducible refine aJ ?_); go_step) | ((with_reducible refine aG ?_); first | refine aL ?_ | (refine aK ?_ ?_ <;> intro hc)) | fail)
 exact bodyPost_ret (cA (cs := bO (t.done 2 [] []).2 u1 u2) rfl rfl p5.this (show bN Tryz.prog 33 7 = true by decide +kernel)) rfl hr
set_option maxHeartbeats 1000000 in
theorem wW {w0 w : World} {b : Nat} {t : TaskR} (h : TaskAt w0 w b t) (h0 : 0 ≤ t.left) (h1 : t.left ≤ 1000000) : Calls Tryz.prog 50 #[.pointer (some ⟨b, 0, none⟩)] w (TRet w0 w b t.on) := by
 have hA := h
 obtain ⟨rv, sv, gv, ev, h⟩ := h
 have hp := aC (cs := bL t rv sv gv ev) h.blk
 have hsl := h.ss.sl
 have hle := hsl.le
 have hil : (aZ t.servers).length = t.servers.length := List.length_map ..
 go_enter Tryz.func50, Tryz.ntmps50
 (repeat' first | ((with_reducible refine aJ ?_); go_step) | ((with_reducible refine aG ?_); first | refine aL ?_ | (refine aK ?_ ?_ <;> intro hc)) | fail)
 refine aF (z := bX) rfl (by decide +kernel) ?_
 intro w1 x1 s1 hb1
 refine aA ?_
 have hp1 := hp.ext x1
 have hsl1 := hsl.ext x1
 by_cases hz : t.servers = [] ∨ t.left = 0
 ·have hE : t.on = t.done 2 [] [] := by
   unfold TaskR.on
   split
   ·rfl
   ·rename_i hs
    rw [if_pos (hz.resolve_left (by rw [hs]; simp))]
  (repeat' first | ((with_reducible refine aJ ?_); go_step) | ((with_reducible refine aG ?_); first | refine aL ?_ | (refine aK ?_ ?_ <;> intro hc)) | fail)
  all_goals first
   | (exfalso; rcases hz with hz | hz; (have h5 : t.servers.length = 0 := by rw [hz]; rfl); omega; omega)
   | skip
  all_goals (
   refine aQ (vs := [.pointer (some ⟨b, 0, none⟩)]) (enters_of Tryz.func100 rfl rfl) rfl rfl (tH (hA.grow x1)) ?_
   rintro e w4 ⟨u, rfl, hu, hm⟩
   refine ⟨_, rfl, ?_⟩
   refine aA ?_
   have h14 := hm.at hb1 h.neBox
   refine aD (v := u) rfl rfl rfl h14 (by rw [hu.1.size]; exact (show aM Tryz.prog 33 7 = true by decide +kernel)) (by rw [hu.1.size]; rfl) hu.1.one ?_
   intro w5 p5
   obtain ⟨u1, u2, rfl, hr⟩ := TRet.box hu ((x1.mv _).trans hm) h14 (Nat.le_refl _) h.ext.size p5
   (repeat' first | ((with_reducible refine aJ ?_); go_step) | ((with_reducible refine aG ?_); first | refine aL ?_ | (refine aK ?_ ?_ <;> intro hc)) | fail)
   exact bodyPost_ret (cA (cs := bO (t.done 2 [] []).2 u1 u2) rfl rfl p5.this (show bN Tryz.prog 33 7 = true by decide +kernel)) rfl (by rw [hE]; exact hr))
 ·cases hs : t.servers with
  | nil => exact absurd (.inl hs) hz
  | cons s rest =>
   have hl : ¬ t.left = 0 := fun e => hz (.inr e)
   have hE : t.on = ({ t with servers := rest, left := t.left - 1 }, ⟨1, s, t.qn, t.qt, 0, [], []⟩) := by
    unfold TaskR.on
    rw [hs]
    exact if_neg hl
   have hpe := hsl1.elem (i := 0) (e := [.int .i64 s]) (by rw [hs]; rfl)
   have hil2 : (aZ t.servers).length = rest.length + 1 := by rw [hil, hs]; rfl
   have hh1 := h.grow x1
   (repeat' first | ((with_reducible refine aJ ?_); go_step) | ((with_reducible refine aG ?_); first | refine aL ?_ | (refine aK ?_ ?_ <;> intro hc)) | fail)
   all_goals first
    | (exfalso; omega)
    | skip
   refine cV 12 (Ext w1) (by decide +kernel) ?_
   intro w2 x2 _
   refine ⟨x2, ?_⟩
   refine iB 0 ?_; refine iB 1 ?_; refine iB 2 ?_; refine iB 3 ?_; refine iB 4 ?_; refine iB 5 ?_; refine iB 6 ?_; refine iB 7 ?_; refine iB 8 ?_
   have hq1 : Pts w1 (aX (.pointer (some ⟨b, 0, none⟩)) 0) [aE t.qn, .int .i64 t.qt] := (hp1.part 0).front 2
   refine aV (i := 9) (v := .agg #[aE t.qn, .int .i64 t.qt]) rfl rfl rfl (by decide +kernel) (by decide +kernel) (by decide +kernel) (by decide +kernel) rfl (fun w' c => Runs.loadN (hq1.ext c) rfl (show bN Tryz.prog 31 2 = true by decide +kernel)) (fun _ _ _ h => h) ?_
   refine aA ?_
   refine aV (i := 10) (v := .agg (bO ⟨1, s, t.qn, t.qt, 0, [], []⟩ (.slice none 0 0) (.slice none 0 0)).toArray) rfl rfl rfl (by decide +kernel) (by decide +kernel) (by decide +kernel) (by decide +kernel) rfl (fun w' _ => Runs.build (vals := [(0, .int .i64 1), (1, .int .i64 s), (2, .agg #[aE t.qn, .int .i64 t.qt])]) rfl (by kernel_rfl)) (fun _ _ _ h => h) ?_
   refine aA ?_
   refine cD (i := 11) (by decide +kernel) rfl rfl ?_
   refine aF (z := bX) rfl (by decide +kernel) ?_
   intro w3 x3 s3 hb3
   refine aA ?_
   have x23 := x2.trans x3
   refine aP ⟨dN x23, ?_⟩
   refine cD (i := 12) (by decide +kernel) rfl rfl ?_
   refine aD (v := .agg (bO ⟨1, s, t.qn, t.qt, 0, [], []⟩ (.slice none 0 0) (.slice none 0 0)).toArray) rfl rfl rfl hb3 (show aM Tryz.prog 33 7 = true by decide +kernel) rfl (dQ rfl rfl) ?_
   intro w4 p4
   refine aP ⟨cO rfl, ?_⟩
   refine dX (by decide +kernel) ?_
   have x4 : Ext w1 w4 := x23.move p4.mv (by rintro k ⟨⟩; exact x2.size)
   have hh4 := hh1.grow x4
   have hp4 := aC (cs := bL t rv sv gv ev) hh4.blk
   have hsl4 := hsl1.ext x4
   have hb4 := p4.this
   have hbx := x4.at hb1
   have hpb4 := aC (cs := bO ⟨1, s, t.qn, t.qt, 0, [], []⟩ (.slice none 0 0) (.slice none 0 0)) hb4
   have hss4 := hh4.ss
   clear hq1 hp1 hp hsl1 hsl
   (repeat' first | ((with_reducible refine aJ ?_); go_step) | ((with_reducible refine aG ?_); first | refine aL ?_ | (refine aK ?_ ?_ <;> intro hc)) | fail)
   refine bA (n := 4) (v := cB sv 1 1 (aZ t.servers).length) hh4.blk rfl rfl rfl (by simp [bL]) (by decide +kernel) (hss4.drop (m := 1) (by omega)).sl.one ?_
   intro w5 p5
   have p5' : Put w4 w5 b (.cells (bL { t with servers := rest } rv (cB sv 1 1 (aZ t.servers).length) gv ev).toArray 99 (0, 0)) := p5
   obtain ⟨k1, k2, k3, k4⟩ := hh4.kept p5
   have hd : OwnOff w0.heap.size 1 3 w5 (cB sv 1 1 (aZ t.servers).length) (aZ rest) := by
    have hd := k2.drop (m := 1) (by omega)
    rw [show (aZ t.servers).drop 1 = aZ rest by rw [hs]; rfl] at hd
    exact hd
   have hT5 := hh4.put p5' k1 hd k3 k4
   have hp5 := aC (cs := bL { t with servers := rest } rv (cB sv 1 1 (aZ t.servers).length) gv ev) hT5.blk
   clear p5' hp4 hpe
   (repeat' first | ((with_reducible refine aJ ?_); go_step) | ((with_reducible refine aG ?_); first | refine aL ?_ | (refine aK ?_ ?_ <;> intro hc)) | fail)
   refine bA (n := 7) (v := .int .i64 (t.left - 1)) hT5.blk rfl rfl rfl (by simp [bL]) (by decide +kernel) rfl ?_
   intro w6 p6
   have p6' : Put w5 w6 b (.cells (bL { t with servers := rest, left := t.left - 1 } rv (cB sv 1 1 (aZ t.servers).length) gv ev).toArray 99 (0, 0)) := p6
   obtain ⟨j1, j2, j3, j4⟩ := hT5.kept p6
   have hT6 := hT5.put p6' j1 j2 j3 j4
   have hbn := (Array.getElem?_eq_some_iff.1 h.blk).1
   have sz2 := x2.size
   have sz1 := x1.size
   have hb6 : w6.heap[w2.heap.size]? = some (.cells (bO ⟨1, s, t.qn, t.qt, 0, [], []⟩ (.slice none 0 0) (.slice none 0 0)).toArray 33 (0, 0)) := p6.mv.at (p5.mv.at hb4 (by intro e; have := Option.some.inj e; omega)) (by intro e; have := Option.some.inj e; omega)
   have hbx6 := p6.mv.at (p5.mv.at hbx h.neBox) h.neBox
   have hpb6 := aC (cs := bO ⟨1, s, t.qn, t.qt, 0, [], []⟩ (.slice none 0 0) (.slice none 0 0)) hb6
   have hm6 : Mv (some b) w w6 := ((x1.trans x4).mv _).trans (p5.mv.trans p6.mv)
   clear p6' hp5 hpb4
   (repeat' first | ((with_reducible refine aJ ?_); go_step) | ((with_reducible refine aG ?_); first | refine aL ?_ | (refine aK ?_ ?_ <;> intro hc)) | fail)
   refine aY (Runs.loadN hpb6 rfl (show bN Tryz.prog 33 7 = true by decide +kernel)) ?_
   refine aA ?_
   refine aD (v := .agg (bO ⟨1, s, t.qn, t.qt, 0, [], []⟩ (.slice none 0 0) (.slice none 0 0)).toArray) rfl rfl rfl hbx6 (show aM Tryz.prog 33 7 = true by decide +kernel) rfl (dQ rfl rfl) ?_
   intro w7 p7
   have hAV : ActV w6 (.agg (bO ⟨1, s, t.qn, t.qt, 0, [], []⟩ (.slice none 0 0) (.slice none 0 0)).toArray) ⟨1, s, t.qn, t.qt, 0, [], []⟩ := ⟨_, _, rfl, Own.nil _ _ _ _, Own.nil _ _ _ _⟩
   obtain ⟨u1, u2, hu, hr⟩ := TRet.box (r := t.on) (by rw [hE]; exact ⟨hAV, _, _, _, _, hT6⟩) hm6 hbx6 (Nat.le_refl _) h.ext.size p7
   (repeat' first | ((with_reducible refine aJ ?_); go_step) | ((with_reducible refine aG ?_); first | refine aL ?_ | (refine aK ?_ ?_ <;> intro hc)) | fail)
   refine bodyPost_ret (cA (cs := bO ⟨1, s, t.qn, t.qt, 0, [], []⟩ (.slice none 0 0) (.slice none 0 0)) rfl rfl p7.this (show bN Tryz.prog 33 7 = true by decide +kernel)) rfl ?_
   rw [← hu] at hr
   exact hr
section
variable {P : Program} {w : World} {ts : List Value} {df : List Deferred}
theorem dJ {fn : Func} {q p r : Tmp} {t : TypeId} (h : fn.results = #[.tmp q, .cell p t, .tmp r]) {b : Nat} {cs : List Value} {ty0 : TypeId} {fr : Nat × Nat} (hp : ts.getD p undef = .pointer (some ⟨b, 0, none⟩)) (hb : w.heap[b]? = some (.cells cs.toArray ty0 fr)) (ht : bN P t cs.length = true) :
 (results fn ts.toArray).run P w = .ok (.tuple #[ts.getD q undef, .agg cs.toArray, ts.getD r undef]) w := by
 obtain ⟨u, ie, hu, hn, hie, hz⟩ := fT ht
 have hl := run_loadCells_list (P := P) w ⟨b, 0, none⟩ cs (fun j v hv => by rw [cH, Nat.zero_add, cell_of_row w b j _ _ _ hb]; simpa using hv)
 have hp' : ts[p]?.getD undef = .pointer (some ⟨b, 0, none⟩) := by simpa using hp
 simp [results, h, hp', asAddr, loadVar, Sem.run_bind, fI hu hn, sizeOf, typeInfo, hie, hz, hl, Result.andThen]
end
theorem uS {n a b : Int} {w : World} {c : Bool} (h : (decide (a ≤ n) && decide (n ≤ b)) = c) : Calls Tryz.prog 54 #[.int .i64 n, .int .i64 a, .int .i64 b] w (bZ w (.bool c)) := h ▸ zB n a b w
def fG (w : World) (qn : List UInt8) (qt : Int) (rl : List Int) (budget : Int) (r : Value) (w' : World) : Prop :=
 if eD qn qt rl budget = 0 then ∃ b u, r = .tuple #[.pointer (some ⟨b, 0, none⟩), u, .int .i64 0] ∧ ActRet w b (jU qn qt rl budget).on u w'
 else r = .tuple #[.pointer none, .agg bX.toArray, .int .i64 1]
set_option maxHeartbeats 2000000 in
theorem wX (qn : List UInt8) (qt : Int) (v : Value) (rl : List Int) (budget : Int) (w : World) (hv : Sl 1 w v (aZ rl)) (hl : rl.length ≤ 1000000) : Calls Tryz.prog 24 #[.agg #[aE qn, .int .i64 qt], v, .int .i64 budget] w (vD w (fG w qn qt rl budget)) := by
 have hle := hv.le
 have hlen : (aZ rl).length = rl.length := List.length_map ..
 go_enter Tryz.func24, Tryz.ntmps24
 repeat' (first | ((with_reducible refine aJ ?_); go_step) | fail)
 refine dF (vs := [aE qn, .int .i64 qt]) rfl rfl ?_
 intro pq w1 x1 hq
 refine aA ?_
 have hv1 := hv.ext x1
 (repeat' first | ((with_reducible refine aJ ?_); go_step) | ((with_reducible refine aG ?_); first | refine aL ?_ | (refine aK ?_ ?_ <;> intro hc)) | fail)
 refine aF (z := bX) rfl (by decide +kernel) ?_
 intro w2 x2 s2 h2
 refine aA ?_
 have hq2 := hq.ext x2
 (repeat' first | ((with_reducible refine aJ ?_); go_step) | ((with_reducible refine aG ?_); first | refine aL ?_ | (refine aK ?_ ?_ <;> intro hc)) | fail)
 have h27 := fun w => BQ qn w
 by_cases c1 : fE qn = 0
 ·have e1 : (aS qn).isSome = true := by
   unfold fE at c1
   split at c1
   ·assumption
   ·cases c1
  rw [e1, if_pos rfl] at h27
  refine aB (enters_of Tryz.func53 rfl rfl) rfl rfl (h27 _) ?_; intro w3 x3; refine aA ?_
  have hq3 := hq2.ext x3
  by_cases c2 : 1 ≤ qt ∧ qt ≤ 65535
  ·(repeat' first | ((with_reducible refine aJ ?_); go_step) | ((with_reducible refine aG ?_); first | refine aL ?_ | (refine aK ?_ ?_ <;> intro hc)) | fail)
   refine aB (enters_of Tryz.func54 rfl rfl) rfl rfl (uS (c := true) (by rw [decide_eq_true c2.1, decide_eq_true c2.2]; rfl)) ?_; intro w4 x4; refine aA ?_
   by_cases c3 : 1 ≤ rl.length ∧ rl.length ≤ 20
   ·(repeat' first | ((with_reducible refine aJ ?_); go_step) | ((with_reducible refine aG ?_); first | refine aL ?_ | (refine aK ?_ ?_ <;> intro hc)) | fail)
    refine aB (enters_of Tryz.func54 rfl rfl) rfl rfl (uS (c := true) (by rw [hlen, decide_eq_true (by omega), decide_eq_true (by omega)]; rfl)) ?_; intro w5 x5; refine aA ?_
    by_cases c4 : 1 ≤ budget ∧ budget ≤ 100
    ·(repeat' first | ((with_reducible refine aJ ?_); go_step) | ((with_reducible refine aG ?_); first | refine aL ?_ | (refine aK ?_ ?_ <;> intro hc)) | fail)
     refine aB (enters_of Tryz.func54 rfl rfl) rfl rfl (uS (c := true) (by rw [decide_eq_true c4.1, decide_eq_true c4.2]; rfl)) ?_; intro w6 x6; refine aA ?_
     (repeat' first | ((with_reducible refine aJ ?_); go_step) | ((with_reducible refine aG ?_); first | refine aL ?_ | (refine aK ?_ ?_ <;> intro hc)) | fail)
     have hv6 := (((((hv1.ext x2).ext x3).ext x4).ext x5).ext x6)
     have hq6 := (((hq3.ext x4).ext x5).ext x6)
     have hx6 := x1.trans (x2.trans (x3.trans (x4.trans (x5.trans x6))))
     have h26 := ((((x3.trans x4).trans x5).trans x6)).at h2
     have hCF := fun w9 (h9 : Sl 1 w9 v (aZ rl)) => lN v rl 56 (fun n => !(decide (0 ≤ n) && decide (n ≤ 99))) w9 h9 (enters_of Tryz.func56 rfl rfl) (fun n _ w' => AC n w')
     cases c5 : rl.any (fun n => !(decide (0 ≤ n) && decide (n ≤ 99))) with
     | true =>
      have hE : ¬ eD qn qt rl budget = 0 := by
       unfold eD
       rw [if_neg (by rintro ⟨_, _, _, _, h⟩; rw [c5] at h; cases h)]
       decide
      simp only [c5] at hCF
      refine aB (enters_of Tryz.func55 rfl rfl) rfl rfl (hCF _ hv6) ?_; intro w7 x7; refine aA ?_
      have h27' := x7.at h26
      (repeat' first | ((with_reducible refine aJ ?_); go_step) | ((with_reducible refine aG ?_); first | refine aL ?_ | (refine aK ?_ ?_ <;> intro hc)) | fail)
      refine bV (v := .agg bX.toArray) rfl (Runs.build0 (by kernel_rfl)) ?_
      refine aA ?_
      (repeat' first | ((with_reducible refine aJ ?_); go_step) | ((with_reducible refine aG ?_); first | refine aL ?_ | (refine aK ?_ ?_ <;> intro hc)) | fail)
      refine aD (v := .agg bX.toArray) rfl rfl rfl h27' (show aM Tryz.prog 33 7 = true by decide +kernel) rfl (by decide +kernel) ?_
      intro w8 p8
      have hx8 : Ext w w8 := (hx6.trans x7).move p8.mv (by rintro k ⟨⟩; exact x1.size)
      (repeat' first | ((with_reducible refine aJ ?_); go_step) | ((with_reducible refine aG ?_); first | refine aL ?_ | (refine aK ?_ ?_ <;> intro hc)) | fail)
      refine bodyPost_ret (dJ (cs := bX) rfl rfl p8.this (show bN Tryz.prog 33 7 = true by decide +kernel)) rfl ⟨_, rfl, hx8, ?_⟩
      rw [fG, if_neg hE]
      rfl
     | false =>
      have hE : eD qn qt rl budget = 0 := by
       unfold eD
       exact if_pos ⟨c1, c2, c3, c4, c5⟩
      simp only [c5] at hCF
      refine aB (enters_of Tryz.func55 rfl rfl) rfl rfl (hCF _ hv6) ?_; intro w7 x7; refine aA ?_
      have h27' := x7.at h26
      have hq7 := hq6.ext x7
      have hv7 := hv6.ext x7
      (repeat' first | ((with_reducible refine aJ ?_); go_step) | ((with_reducible refine aG ?_); first | refine aL ?_ | (refine aK ?_ ?_ <;> intro hc)) | fail)
      refine cT (S := fun w' => Ext w7 w') (by decide +kernel) ?_
      intro w8 x8 _
      refine fC 0 ?_; refine aA ?_; refine fC 1 ?_; refine aA ?_; refine fC 3 ?_; refine aA ?_; refine fC 4 ?_; refine aA ?_; refine fC 6 ?_; refine aA ?_; refine fC 8 ?_; refine aA ?_
      refine cE (i := 2) (by decide +kernel) rfl rfl ?_
      refine aB (enters_of Tryz.func57 rfl rfl) rfl rfl (sY qn _) ?_
      intro w9 x9
      refine aA ?_
      have x79 := x8.trans x9
      refine aP ⟨x79, ?_⟩
      refine bI (i := 5) (v := .agg #[aE (fold qn), .int .i64 qt]) rfl rfl (by decide +kernel) (by decide +kernel) (by decide +kernel) rfl x79 (fun w' _ => Runs.build rfl (by kernel_rfl)) (fun _ _ _ h => h) ?_
      refine aA ?_
      refine cE (i := 7) (by decide +kernel) rfl rfl ?_
      refine aR (enters_of Tryz.func58 rfl rfl) rfl rfl (wV v rl _ (hv7.ext x79) hl) ?_
      intro rv w10 x10 o10
      refine aA ?_
      have x710 := x79.trans x10
      refine aP ⟨x710, ?_⟩
      refine bI (i := 9) (v := .agg (bL ⟨fold qn, qt, rl, [], [], [], 0, budget, none⟩ rv (.slice none 0 0) (.slice none 0 0) (.pointer none)).toArray) rfl rfl (by decide +kernel) (by decide +kernel) (by decide +kernel) rfl x710 (fun w' _ => Runs.build (vals := [(0, .agg #[aE (fold qn), .int .i64 qt]), (1, rv), (6, .int .i64 budget)]) rfl (by obtain ⟨_, _, _, rfl⟩ := o10.sl.slf; kernel_rfl)) (fun _ _ _ h => h) ?_
      refine aA ?_
      refine cE (i := 10) (by decide +kernel) rfl rfl ?_
      refine dB (vs := bL ⟨fold qn, qt, rl, [], [], [], 0, budget, none⟩ rv (.slice none 0 0) (.slice none 0 0) (.pointer none)) rfl rfl ?_
      intro w11 x11 s11 h11
      refine aA ?_
      have x711 := x710.trans x11
      refine aP ⟨x711, ?_⟩
      refine fC 11 ?_; refine aA ?_
      refine cQ (by decide +kernel) ?_
      have hx11 : Ext w w11 := (hx6.trans x7).trans x711
      have hsz7 := (hx6.trans x7).size
      have hT : TaskV w w11 w10.heap.size ⟨fold qn, qt, rl, [], [], [], 0, budget, none⟩ rv (.slice none 0 0) (.slice none 0 0) (.pointer none) :=
       ⟨((hx6.trans x7).trans x710).size, hx11, h11, (o10.weaken (hx6.trans (x7.trans x79)).size).ext x11, OwnOff.nil _ _ _ _, Own.nil _ _ _ _, rfl⟩
      have hp11 := aC (cs := bL ⟨fold qn, qt, rl, [], [], [], 0, budget, none⟩ rv (.slice none 0 0) (.slice none 0 0) (.pointer none)) h11
      have h27'' := x711.at h27'
      (repeat' first | ((with_reducible refine aJ ?_); go_step) | ((with_reducible refine aG ?_); first | refine aL ?_ | (refine aK ?_ ?_ <;> intro hc)) | fail)
      refine bA (n := 4) (v := rv) hT.blk rfl rfl rfl (by simp [bL]) (by decide +kernel) o10.one ?_
      intro w12 p12
      have p12' : Put w11 w12 w10.heap.size (.cells (bL (jU qn qt rl budget) rv rv (.slice none 0 0) (.pointer none)).toArray 99 (0, 0)) := p12
      obtain ⟨k1, k2, k3, k4⟩ := hT.kept p12
      have hT12 := hT.put p12' k1 k1.off k3 k4
      clear p12' hp11
      (repeat' first | ((with_reducible refine aJ ?_); go_step) | ((with_reducible refine aG ?_); first | refine aL ?_ | (refine aK ?_ ?_ <;> intro hc)) | fail)
      refine aQ (vs := [.pointer (some ⟨w10.heap.size, 0, none⟩)]) (enters_of Tryz.func50 rfl rfl) rfl rfl (wW ⟨_, _, _, _, hT12⟩ (show 0 ≤ budget by omega) (show budget ≤ 1000000 by omega)) ?_
      rintro e w13 ⟨u, rfl, hu, hm⟩
      refine ⟨_, rfl, ?_⟩
      refine aA ?_
      have szz := (x2.trans (x3.trans (x4.trans (x5.trans (x6.trans (x7.trans x710)))))).size
      have szl := (Array.getElem?_eq_some_iff.1 h2).1
      have szm := (x3.trans (x4.trans (x5.trans (x6.trans (x7.trans x710))))).size
      have hne : some w1.heap.size ≠ some w10.heap.size := by
       intro e
       have := Option.some.inj e
       omega
      have h14 := hm.at (p12.mv.at h27'' hne) hne
      (repeat' first | ((with_reducible refine aJ ?_); go_step) | ((with_reducible refine aG ?_); first | refine aL ?_ | (refine aK ?_ ?_ <;> intro hc)) | fail)
      refine aD (v := u) rfl rfl rfl h14 (by rw [hu.1.size]; exact (show aM Tryz.prog 33 7 = true by decide +kernel)) (by rw [hu.1.size]; rfl) hu.1.one ?_
      intro w14 p14
      obtain ⟨u1, u2, rfl, q1, q2⟩ := (hu.1.put p14 h14 (by decide)).out
      obtain ⟨rv', sv', gv', ev', hTT⟩ := hu.2
      have hT14 := hTT.other p14 h14 x1.size
      (repeat' first | ((with_reducible refine aJ ?_); go_step) | ((with_reducible refine aG ?_); first | refine aL ?_ | (refine aK ?_ ?_ <;> intro hc)) | fail)
      refine bodyPost_ret (dJ (cs := bO (jU qn qt rl budget).on.2 u1 u2) rfl rfl p14.this (show bN Tryz.prog 33 7 = true by decide +kernel)) rfl ⟨_, rfl, hT14.ext, ?_⟩
      rw [fG, if_pos hE]
      exact ⟨_, _, rfl, ⟨u1, u2, rfl, q1, q2⟩, _, _, _, _, hT14⟩
    ·have hE : ¬ eD qn qt rl budget = 0 := by
      unfold eD
      rw [if_neg (by rintro ⟨h1, h2, h3, h4, _⟩; exact c4 h4)]
      decide
     (repeat' first | ((with_reducible refine aJ ?_); go_step) | ((with_reducible refine aG ?_); first | refine aL ?_ | (refine aK ?_ ?_ <;> intro hc)) | fail)
     refine aB (enters_of Tryz.func54 rfl rfl) rfl rfl (uS (c := false) (by simp only [Bool.and_eq_false_iff, decide_eq_false_iff_not]; omega)) ?_; intro w6 x6; refine aA ?_
     have h26 := ((((x3.trans x4).trans x5).trans x6)).at h2
     (repeat' first | ((with_reducible refine aJ ?_); go_step) | ((with_reducible refine aG ?_); first | refine aL ?_ | (refine aK ?_ ?_ <;> intro hc)) | fail)
     refine bV (v := .agg bX.toArray) rfl (Runs.build0 (by kernel_rfl)) ?_
     refine aA ?_
     (repeat' first | ((with_reducible refine aJ ?_); go_step) | ((with_reducible refine aG ?_); first | refine aL ?_ | (refine aK ?_ ?_ <;> intro hc)) | fail)
     refine aD (v := .agg bX.toArray) rfl rfl rfl h26 (show aM Tryz.prog 33 7 = true by decide +kernel) rfl (by decide +kernel) ?_
     intro w8 p8
     have hx8 : Ext w w8 := (x1.trans (x2.trans (x3.trans (x4.trans (x5.trans x6))))).move p8.mv (by rintro k ⟨⟩; exact x1.size)
     (repeat' first | ((with_reducible refine aJ ?_); go_step) | ((with_reducible refine aG ?_); first | refine aL ?_ | (refine aK ?_ ?_ <;> intro hc)) | fail)
     refine bodyPost_ret (dJ (cs := bX) rfl rfl p8.this (show bN Tryz.prog 33 7 = true by decide +kernel)) rfl ⟨_, rfl, hx8, ?_⟩
     rw [fG, if_neg hE]
     rfl
   ·have hE : ¬ eD qn qt rl budget = 0 := by
     unfold eD
     rw [if_neg (by rintro ⟨h1, h2, h3, h4, _⟩; exact c3 h3)]
     decide
    (repeat' first | ((with_reducible refine aJ ?_); go_step) | ((with_reducible refine aG ?_); first | refine aL ?_ | (refine aK ?_ ?_ <;> intro hc)) | fail)
    refine aB (enters_of Tryz.func54 rfl rfl) rfl rfl (uS (c := false) (by simp only [Bool.and_eq_false_iff, decide_eq_false_iff_not]; omega)) ?_; intro w5 x5; refine aA ?_
    have h26 := (((x3.trans x4).trans x5)).at h2
    (repeat' first | ((with_reducible refine aJ ?_); go_step) | ((with_reducible refine aG ?_); first | refine aL ?_ | (refine aK ?_ ?_ <;> intro hc)) | fail)
    refine bV (v := .agg bX.toArray) rfl (Runs.build0 (by kernel_rfl)) ?_
    refine aA ?_
    (repeat' first | ((with_reducible refine aJ ?_); go_step) | ((with_reducible refine aG ?_); first | refine aL ?_ | (refine aK ?_ ?_ <;> intro hc)) | fail)
    refine aD (v := .agg bX.toArray) rfl rfl rfl h26 (show aM Tryz.prog 33 7 = true by decide +kernel) rfl (by decide +kernel) ?_
    intro w8 p8
    have hx8 : Ext w w8 := (x1.trans (x2.trans (x3.trans (x4.trans x5)))).move p8.mv (by rintro k ⟨⟩; exact x1.size)
    (repeat' first | ((with_reducible refine aJ ?_); go_step) | ((with_reducible refine aG ?_); first | refine aL ?_ | (refine aK ?_ ?_ <;> intro hc)) | fail)
    refine bodyPost_ret (dJ (cs := bX) rfl rfl p8.this (show bN Tryz.prog 33 7 = true by decide +kernel)) rfl ⟨_, rfl, hx8, ?_⟩
    rw [fG, if_neg hE]
    rfl
  ·have hE : ¬ eD qn qt rl budget = 0 := by
    unfold eD
    rw [if_neg (by rintro ⟨h1, h2, h3, h4, _⟩; exact c2 h2)]
    decide
   (repeat' first | ((with_reducible refine aJ ?_); go_step) | ((with_reducible refine aG ?_); first | refine aL ?_ | (refine aK ?_ ?_ <;> intro hc)) | fail)
   refine aB (enters_of Tryz.func54 rfl rfl) rfl rfl (uS (c := false) (by simp only [Bool.and_eq_false_iff, decide_eq_false_iff_not]; omega)) ?_; intro w4 x4; refine aA ?_
   have h26 := ((x3.trans x4)).at h2
   (repeat' first | ((with_reducible refine aJ ?_); go_step) | ((with_reducible refine aG ?_); first | refine aL ?_ | (refine aK ?_ ?_ <;> intro hc)) | fail)
   refine bV (v := .agg bX.toArray) rfl (Runs.build0 (by kernel_rfl)) ?_
   refine aA ?_
   (repeat' first | ((with_reducible refine aJ ?_); go_step) | ((with_reducible refine aG ?_); first | refine aL ?_ | (refine aK ?_ ?_ <;> intro hc)) | fail)
   refine aD (v := .agg bX.toArray) rfl rfl rfl h26 (show aM Tryz.prog 33 7 = true by decide +kernel) rfl (by decide +kernel) ?_
   intro w8 p8
   have hx8 : Ext w w8 := (x1.trans (x2.trans (x3.trans x4))).move p8.mv (by rintro k ⟨⟩; exact x1.size)
   (repeat' first | ((with_reducible refine aJ ?_); go_step) | ((with_reducible refine aG ?_); first | refine aL ?_ | (refine aK ?_ ?_ <;> intro hc)) | fail)
   refine bodyPost_ret (dJ (cs := bX) rfl rfl p8.this (show bN Tryz.prog 33 7 = true by decide +kernel)) rfl ⟨_, rfl, hx8, ?_⟩
   rw [fG, if_neg hE]
   rfl
 ·have hE : ¬ eD qn qt rl budget = 0 := by
   unfold eD
   rw [if_neg (by rintro ⟨h1, h2, h3, h4, _⟩; exact c1 h1)]
   decide
  have e1 : ¬ (aS qn).isSome = true := by
   intro e
   exact c1 (by unfold fE; rw [e]; rfl)
  rw [if_neg e1] at h27
  refine aB (enters_of Tryz.func53 rfl rfl) rfl rfl (h27 _) ?_; intro w3 x3; refine aA ?_
  have h26 := x3.at h2
  (repeat' first | ((with_reducible refine aJ ?_); go_step) | ((with_reducible refine aG ?_); first | refine aL ?_ | (refine aK ?_ ?_ <;> intro hc)) | fail)
  refine bV (v := .agg bX.toArray) rfl (Runs.build0 (by kernel_rfl)) ?_
  refine aA ?_
  (repeat' first | ((with_reducible refine aJ ?_); go_step) | ((with_reducible refine aG ?_); first | refine aL ?_ | (refine aK ?_ ?_ <;> intro hc)) | fail)
  refine aD (v := .agg bX.toArray) rfl rfl rfl h26 (show aM Tryz.prog 33 7 = true by decide +kernel) rfl (by decide +kernel) ?_
  intro w8 p8
  have hx8 : Ext w w8 := (x1.trans (x2.trans x3)).move p8.mv (by rintro k ⟨⟩; exact x1.size)
  (repeat' first | ((with_reducible refine aJ ?_); go_step) | ((with_reducible refine aG ?_); first | refine aL ?_ | (refine aK ?_ ?_ <;> intro hc)) | fail)
  refine bodyPost_ret (dJ (cs := bX) rfl rfl p8.this (show bN Tryz.prog 33 7 = true by decide +kernel)) rfl ⟨_, rfl, hx8, ?_⟩
  rw [fG, if_neg hE]
  rfl
def xG (n : List UInt8) (k : Int) (r : Rec) : Bool := decide (r.name = fold n) && (decide (r.kind = k) || decide (k = 255))
def zD (w : List Rec) (n : List UInt8) (k : Int) : List Rec := (w.map dR).filter (xG n k)
theorem zE (t : TaskR) (l : List Rec) (n : List UInt8) (k : Int) : t.of l n k = zD (aU l t.zone) n k := rfl
theorem yF {l : List Rec} {n : List UInt8} {q : Int} {k : Nat} (h : k < l.length) : zD (l.take (k + 1)) n q = zD (l.take k) n q ++ if xG n q (dR l[k]) = true then [dR l[k]] else [] := by
 rw [zD, List.take_succ_eq_append_getElem h, List.map_append, List.filter_append]
 congr 1
 simp only [List.map_cons, List.map_nil, List.filter_cons, List.filter_nil]
theorem wY (l : List Rec) (n : List UInt8) (k : Int) : (zD l n k).length ≤ l.length := by
 refine Nat.le_trans (List.length_filter_le _ _) ?_
 rw [List.length_map]
 exact Nat.le_refl _
set_option maxHeartbeats 2000000 in
theorem uT {w0 w : World} {b : Nat} {t : TaskR} (h : TaskAt w0 w b t) (v : Value) (l : List Rec) (n : List UInt8) (k : Int) (hv : Sl 4 w v (aH l)) (hl : l.length ≤ 100000) :
 Calls Tryz.prog 45 #[.pointer (some ⟨b, 0, none⟩), v, aE n, .int .i64 k] w (vD w fun r w' => Own w.heap.size 4 64 w' r (aH (t.of l n k))) := by
 obtain ⟨rv, sv, gv, ev, h⟩ := h
 have hp := aC (cs := bL t rv sv gv ev) h.blk
 rw [zE]
 have hwl := iU l t.zone
 go_enter Tryz.func45, Tryz.ntmps45
 (repeat' first | ((with_reducible refine aJ ?_); go_step) | ((with_reducible refine aG ?_); first | refine aL ?_ | (refine aK ?_ ?_ <;> intro hc)) | fail)
 refine aR (enters_of Tryz.func26 rfl rfl) rfl rfl (nL v l t.zone _ hv hl) ?_
 intro lv w1 x1 o1
 refine aA ?_
 have hs1 := o1.sl
 generalize hL : aU l t.zone = L at *
 have hlen := aT L
 have hx1 := x1
 (repeat' first | ((with_reducible refine aJ ?_); go_step) | ((with_reducible refine aG ?_); first | refine aL ?_ | (refine aK ?_ ?_ <;> intro hc)) | fail)
 go_loopw [9, 19] (fun o i wr => ∃ j : Nat, j ≤ L.length ∧ i = .int .i64 j ∧ Ext w1 wr ∧ Own w1.heap.size 4 64 wr o (aH (zD (L.take j) n k))) (fun _ i _ => L.length - (intOf i).toNat)
 case atStart => exact ⟨0, Nat.zero_le _, rfl, Ext.refl _, by simpa [zD, aH] using Own.nil _ _ _ _⟩
 case round =>
  obtain ⟨j, hj, rfl, hx, ho⟩ := hrel
  have hu2 := hs1.ext hx
  have hx0 := x1.trans hx
  by_cases hlt : j < L.length
  ·have hpe := hu2.elem (dH hlt)
   have hst := yF (n := n) (q := k) hlt
   have hll := wY (L.take j) n k
   rw [List.length_take] at hll
   have hcl := aT (zD (L.take j) n k)
   (repeat' first | ((with_reducible refine aJ ?_); go_step) | ((with_reducible refine aG ?_); first | refine aL ?_ | (refine aK ?_ ?_ <;> intro hc)) | fail)
   refine aF (z := dS) rfl (by decide +kernel) ?_
   intro w2 x2 s2 h2
   refine aA ?_
   refine aD (v := .agg #[aE L[j].name, .int .i64 L[j].kind, .int .i64 L[j].ttl, aE L[j].data]) rfl rfl rfl h2 (show aM Tryz.prog 64 4 = true by decide +kernel) rfl (mC rfl rfl rfl rfl) ?_
   intro w3 p3
   have x3 : Ext wr w3 := x2.move p3.mv (by rintro k ⟨⟩; exact Nat.le_refl _)
   have hb3 : w3.heap[wr.heap.size]? = some (.cells [aE L[j].name, .int .i64 L[j].kind, .int .i64 L[j].ttl, aE L[j].data].toArray 64 (0, 0)) := p3.this
   have hp3 := aC hb3
   have ho3 := ho.ext x3
   have sx := hx0.size
   clear p3 h2 x2
   (repeat' first | ((with_reducible refine aJ ?_); go_step) | ((with_reducible refine aG ?_); first | refine aL ?_ | (refine aK ?_ ?_ <;> intro hc)) | fail)
   refine aB (enters_of Tryz.func57 rfl rfl) rfl rfl (sY L[j].name _) ?_; intro w4 x4; refine aA ?_
   have hb4 := x4.at hb3
   (repeat' first | ((with_reducible refine aJ ?_); go_step) | ((with_reducible refine aG ?_); first | refine aL ?_ | (refine aK ?_ ?_ <;> intro hc)) | fail)
   refine bA (n := 0) (v := aE (fold L[j].name)) hb4 rfl rfl rfl (by simp) (by decide +kernel) rfl ?_
   intro w5 p5
   have x5 : Ext wr w5 := (x3.trans x4).move p5.mv (by rintro k ⟨⟩; exact Nat.le_refl _)
   have hb5 : w5.heap[wr.heap.size]? = some (.cells [aE (fold L[j].name), .int .i64 L[j].kind, .int .i64 L[j].ttl, aE L[j].data].toArray 64 (0, 0)) := p5.this
   have hp5 := aC hb5
   have ho5 := ho.ext x5
   clear p5 hb3 hb4 hp3 hp
   (repeat' first | ((with_reducible refine aJ ?_); go_step) | ((with_reducible refine aG ?_); first | refine aL ?_ | (refine aK ?_ ?_ <;> intro hc)) | fail)
   all_goals first
    | (exfalso; omega)
    | skip
   refine cT (S := fun w' => Ext w5 w') (by decide +kernel) ?_
   intro w6 x6 _
   refine fC 0 ?_; refine aA ?_; refine fC 1 ?_; refine aA ?_; refine fC 2 ?_; refine aA ?_
   refine cE (i := 3) (by decide +kernel) rfl rfl ?_
   refine aB (enters_of Tryz.func57 rfl rfl) rfl rfl (sY n _) ?_
   intro w7 x7
   refine aA ?_
   have x57 := x6.trans x7
   refine aP ⟨x57, ?_⟩
   refine fC 4 ?_; refine aA ?_; refine fC 5 ?_; refine aA ?_
   have x7' : Ext wr w7 := x5.trans x57
   have ho7 := ho5.ext x57
   have sz7 := (hx.trans x7').size
   by_cases ha : fold L[j].name = fold n
   ·rw [decide_eq_true ha]
    refine fC 6 ?_; refine aA ?_; refine fC 7 ?_; refine aA ?_; refine fC 8 ?_; refine aA ?_; refine fC 9 ?_; refine aA ?_; refine fC 10 ?_; refine aA ?_
    by_cases hk : L[j].kind = k
    ·have hP : xG n k (dR L[j]) = true := by simp [xG, dR, ha, hk]
     rw [decide_eq_true hk]
     refine tsk 11 ?_; refine aA ?_; refine tsk 12 ?_; refine aA ?_
     refine fC 13 ?_; refine aA ?_; refine fC 14 ?_; refine aA ?_
     rw [hP, if_pos rfl] at hst
     refine cQ (by decide +kernel) ?_
     have hp7 := hp5.ext x57
     (repeat' first | ((with_reducible refine aJ ?_); go_step) | ((with_reducible refine aG ?_); first | refine aL ?_ | (refine aK ?_ ?_ <;> intro hc)) | fail)
     refine BN [aE (fold L[j].name), .int .i64 L[j].kind, .int .i64 L[j].ttl, aE L[j].data] (hx.trans x7') ho7 (by omega) ?_ (kJ (r := dR L[j]) rfl)
     intro s8 v8 w8 w9 x8 m8 x9 o9
     refine aA ?_
     (repeat' first | ((with_reducible refine aJ ?_); go_step) | ((with_reducible refine aG ?_); first | refine aL ?_ | (refine aK ?_ ?_ <;> intro hc)) | fail)
     refine ⟨⟨j + 1, by omega, by go_num, x9, ?_⟩, by simp [intOf]; omega⟩
     rw [hst]
     simpa [aH, Rec.cells, dR] using o9
    ·rw [decide_eq_false hk]
     refine fC 11 ?_; refine aA ?_; refine fC 12 ?_; refine aA ?_; refine fC 13 ?_; refine aA ?_; refine fC 14 ?_; refine aA ?_
     by_cases hq : k = 255
     ·have hP : xG n k (dR L[j]) = true := by simp [xG, dR, ha, hq]
      rw [hP, if_pos rfl] at hst
      refine cQ (by decide +kernel) ?_
      have hp7 := hp5.ext x57
      (repeat' first | ((with_reducible refine aJ ?_); go_step) | ((with_reducible refine aG ?_); first | refine aL ?_ | (refine aK ?_ ?_ <;> intro hc)) | fail)
      refine BN [aE (fold L[j].name), .int .i64 L[j].kind, .int .i64 L[j].ttl, aE L[j].data] (hx.trans x7') ho7 (by omega) ?_ (kJ (r := dR L[j]) rfl)
      intro s8 v8 w8 w9 x8 m8 x9 o9
      refine aA ?_
      (repeat' first | ((with_reducible refine aJ ?_); go_step) | ((with_reducible refine aG ?_); first | refine aL ?_ | (refine aK ?_ ?_ <;> intro hc)) | fail)
      refine ⟨⟨j + 1, by omega, by go_num, x9, ?_⟩, by simp [intOf]; omega⟩
      rw [hst]
      simpa [aH, Rec.cells, dR] using o9
     ·have hP : xG n k (dR L[j]) = false := by simp [xG, dR, hk, hq]
      rw [hP, if_neg (by decide), List.append_nil] at hst
      refine cQ (by decide +kernel) ?_
      have hp7 := hp5.ext x57
      (repeat' first | ((with_reducible refine aJ ?_); go_step) | ((with_reducible refine aG ?_); first | refine aL ?_ | (refine aK ?_ ?_ <;> intro hc)) | fail)
      exact ⟨⟨j + 1, by omega, by go_num, hx.trans x7', by rw [hst]; exact ho7⟩, by simp [intOf]; omega⟩
   ·have hP : xG n k (dR L[j]) = false := by simp [xG, dR, ha]
    rw [decide_eq_false ha]
    refine tsk 6 ?_; refine aA ?_; refine tsk 7 ?_; refine aA ?_; refine tsk 8 ?_; refine aA ?_; refine tsk 9 ?_; refine aA ?_; refine tsk 10 ?_; refine aA ?_; refine tsk 11 ?_; refine aA ?_; refine tsk 12 ?_; refine aA ?_; refine tsk 13 ?_; refine aA ?_
    refine fC 14 ?_; refine aA ?_
    rw [hP, if_neg (by decide), List.append_nil] at hst
    refine cQ (by decide +kernel) ?_
    have hp7 := hp5.ext x57
    (repeat' first | ((with_reducible refine aJ ?_); go_step) | ((with_reducible refine aG ?_); first | refine aL ?_ | (refine aK ?_ ?_ <;> intro hc)) | fail)
    exact ⟨⟨j + 1, by omega, by go_num, hx.trans x7', by rw [hst]; exact ho7⟩, by simp [intOf]; omega⟩
  ·have : j = L.length := by omega
   subst this
   rw [List.take_length] at ho
   (repeat' first | ((with_reducible refine aJ ?_); go_step) | ((with_reducible refine aG ?_); first | refine aL ?_ | (refine aK ?_ ?_ <;> intro hc)) | fail)
   go_ret
   exact ⟨_, rfl, hx0, by rw [hL]; exact ho.weaken x1.size⟩
theorem Sl.mvR {k : Nat} {w w' : World} {v : Value} {es : List (List Value)} {row : Option Nat} (h : Sl k w v es) (hm : Mv row w w') (hne : es ≠ [] → ∀ a o s n c, v = .slice (some ⟨a, o, s⟩) n c → row ≠ some a) : Sl k w' v es := by
 obtain ⟨a, cap, h1, h2, h3, h4, h5, h6⟩ := h
 refine ⟨a, cap, h1, h2, h3, h4, h5, fun hn => ?_⟩
 obtain ⟨g, o, e, hc⟩ := h6 hn
 refine ⟨g, o, e, fun i e' j x q1 q2 => ?_⟩
 have h7 := hc i e' j x q1 q2
 exact (World.cell?_of_block (hm.block g (World.block_lt_of_cell? w _ h7) (fun e9 => hne hn g o none _ _ (by rw [h1, e]) e9.symm))).trans h7
theorem LrnsV.one {B : Nat} {w : World} {v : Value} {l : List LrnR} (h : LrnsV B w v l) : v.oneCell' = true := by
 obtain ⟨css, h1, _⟩ := h
 exact h1.one
theorem LrnsV.weaken {B C : Nat} {w : World} {v : Value} {l : List LrnR} (h : LrnsV B w v l) (hc : C ≤ B) : LrnsV C w v l := by
 obtain ⟨css, h1, h2, h3⟩ := h
 exact ⟨css, h1.weaken hc, h2, fun i s hi => let ⟨x, a, b, c, d⟩ := h3 i s hi; ⟨x, a, b, c.weaken hc, d⟩⟩
theorem LrnsV.mvb {B b : Nat} {w w' : World} {v : Value} {l : List LrnR} (h : LrnsV B w v l) (hm : Mv (some b) w w') (hb : b < B) : LrnsV B w' v l := by
 obtain ⟨css, h1, h2, h3⟩ := h
 have hv : v.ownBlock = none ∨ v.ownBlock ≠ some b := by
  by_cases e : v.ownBlock = some b
  ·have := (h1.block b e).1; omega
  ·exact .inr e
 refine ⟨css, h1.mv hm hv, h2, fun i s hi => ?_⟩
 obtain ⟨x, a, c, d, e⟩ := h3 i s hi
 refine ⟨x, a, c.mvR hm ?_, d, e⟩
 intro _ g o s' n c' e1 e2
 have := d g o s' n c' e1
 have := Option.some.inj e2
 omega
structure LrnsU (B : Nat) (w : World) (v : Value) (l : List LrnR) (u : Value) : Prop where
 out : ∃ css, Own B 5 61 w v css ∧ css.length = l.length ∧ ∀ (i : Nat) (s : LrnR), l[i]? = some s → ∃ x, css[i]? = some (nM s x) ∧ Sl 1 w x (aI s.set.data) ∧ From B x ∧ (s.set.data ≠ [] → lM x v ∧ lM x u)
theorem LrnsU.lrns {B : Nat} {w : World} {v u : Value} {l : List LrnR} (h : LrnsU B w v l u) : LrnsV B w v l := by
 obtain ⟨css, h1, h2, h3⟩ := h
 exact ⟨css, h1, h2, fun i s hi => let ⟨x, a, b, c, d⟩ := h3 i s hi; ⟨x, a, b, c, fun hd => (d hd).1⟩⟩
theorem LrnsV.apart {B : Nat} {w : World} {v : Value} {l : List LrnR} (h : LrnsV B w v l) : LrnsU B w v l (.slice none 0 0) := by
 obtain ⟨css, h1, h2, h3⟩ := h
 exact ⟨css, h1, h2, fun i s hi => let ⟨x, a, b, c, d⟩ := h3 i s hi; ⟨x, a, b, c, fun hd => ⟨d hd, fun a o s n c _ e => by cases e⟩⟩⟩
theorem LrnsU.ext {B : Nat} {w w' : World} {v u : Value} {l : List LrnR} (h : LrnsU B w v l u) (hx : Ext w w') : LrnsU B w' v l u := by
 obtain ⟨css, h1, h2, h3⟩ := h
 exact ⟨css, h1.ext hx, h2, fun i s hi => let ⟨x, a, b, c, d⟩ := h3 i s hi; ⟨x, a, b.ext hx, c, d⟩⟩
theorem LrnsU.mvb {B b : Nat} {w w' : World} {v u : Value} {l : List LrnR} (h : LrnsU B w v l u) (hm : Mv (some b) w w') (hb : b < B) : LrnsU B w' v l u := by
 obtain ⟨css, h1, h2, h3⟩ := h
 have hv : v.ownBlock = none ∨ v.ownBlock ≠ some b := by
  by_cases e : v.ownBlock = some b
  ·have := (h1.block b e).1; omega
  ·exact .inr e
 refine ⟨css, h1.mv hm hv, h2, fun i s hi => ?_⟩
 obtain ⟨x, a, c, d, e⟩ := h3 i s hi
 refine ⟨x, a, c.mvR hm ?_, d, e⟩
 intro _ g o s' n c' e1 e2
 have := d g o s' n c' e1
 have := Option.some.inj e2
 omega
theorem LrnsU.mvo {B : Nat} {w w' : World} {v u : Value} {l : List LrnR} {c : Nat} {o : Obj} (h : LrnsU B w v l u) (hm : Mv (some c) w w') (hc : w.heap[c]? = some o) (ho : ∀ cs t fz, o ≠ .cells cs t fz) : LrnsU B w' v l u := by
 obtain ⟨css, h1, h2, h3⟩ := h
 have hv : v.ownBlock = none ∨ v.ownBlock ≠ some c := by
  by_cases e : v.ownBlock = some c
  ·rcases h1.row.2 with e1 | ⟨gg, cap, cur, fz, rfl, hb, hg, r⟩
   ·exact .inl (by rw [e1.1]; rfl)
   ·exfalso
    simp only [Value.ownBlock, Option.some.injEq] at e
    rw [e, hc] at hg
    exact ho _ _ _ (Option.some.inj hg)
  ·exact .inr e
 refine ⟨css, h1.mv hm hv, h2, fun i s hi => ?_⟩
 obtain ⟨x, a, b, d, e⟩ := h3 i s hi
 refine ⟨x, a, b.mvR hm ?_, d, e⟩
 intro hn g o' s' n c' e1 e2
 have e3 := Option.some.inj e2
 subst e3
 obtain ⟨a', cap, h1', h2', h3', h4', h5', h6'⟩ := b
 obtain ⟨b', o'', e4, hcell⟩ := h6' hn
 rw [e4, e1] at h1'
 simp only [Value.slice.injEq, Option.some.injEq, Addr.mk.injEq] at h1'
 cases hd : s.set.data with
 | nil => rw [hd] at hn; exact hn rfl
 | cons d0 dl =>
  have h7 := hcell 0 [aE d0] 0 (aE d0) (by rw [hd]; rfl) rfl
  rw [← h1'.1.1] at h7
  unfold World.cell? at h7
  rw [hc] at h7
  cases o with
  | cells cs t fz => exact ho _ _ _ rfl
  | map _ _ => cases h7
  | _ => cases h7
theorem LrnsU.append {B B2 : Nat} {w w' : World} {v u v3 y : Value} {l m : List LrnR} {css css2 : List (List Value)} (hB : B ≤ B2)
 (h1 : Own B 5 61 w v css) (h2 : css.length = l.length) (h3 : ∀ (i : Nat) (s : LrnR), l[i]? = some s → ∃ x, css[i]? = some (nM s x) ∧ Sl 1 w x (aI s.set.data) ∧ From B x ∧ (s.set.data ≠ [] → lM x v ∧ lM x y))
 (k2 : css2.length = m.length) (k3 : ∀ (i : Nat) (s : LrnR), m[i]? = some s → ∃ x, css2[i]? = some (nM s x) ∧ Sl 1 w x (aI s.set.data) ∧ From B2 x ∧ (s.set.data ≠ [] → lM x u))
 (hv : ∀ r, v.ownBlock = some r → r < B2) (hy : ∀ r, y.ownBlock = some r → r < B2) (o3 : Own B 5 61 w' v3 (css ++ css2)) (hm : Mv v.ownBlock w w') (hk : v3.ownBlock = v.ownBlock ∨ v3.ownBlock = some w.heap.size) : LrnsU B w' v3 (l ++ m) y := by
 have far : ∀ x (d : List (List UInt8)), d ≠ [] → Sl 1 w x (aI d) → lM x v → lM x v3 := by
  intro x d hd hs ha a o s n c e e2
  rcases hk with e1 | e1
  ·exact ha a o s n c e (e1 ▸ e2)
  ·subst e
   have := Sl.lt_block hs (by simpa [aI] using hd)
   rw [e1] at e2
   have := Option.some.inj e2
   omega
 have kept : ∀ x (d : List (List UInt8)), Sl 1 w x (aI d) → (d ≠ [] → lM x v) → Sl 1 w' x (aI d) := by
  intro x d hs ha
  refine hs.mvR hm fun hn a o s n c e e2 => ?_
  exact ha (by rintro rfl; exact hn rfl) a o s n c e e2
 refine ⟨_, o3, by simp [h2, k2], fun i s hi => ?_⟩
 by_cases hlt : i < l.length
 ·rw [List.getElem?_append_left hlt] at hi
  obtain ⟨x, a, b, c, d⟩ := h3 i s hi
  exact ⟨x, by rw [List.getElem?_append_left (by omega)]; exact a, kept x _ b fun hd => (d hd).1, c, fun hd => ⟨far x _ hd b (d hd).1, (d hd).2⟩⟩
 ·rw [List.getElem?_append_right (by omega)] at hi
  obtain ⟨x, a, b, c, d⟩ := k3 _ s hi
  have hfar : lM x v := by
   intro a' o s' n c' e e2
   have q1 := c a' o s' n c' e
   have q2 := hv a' e2
   omega
  have hfar2 : lM x y := by
   intro a' o s' n c' e e2
   have q1 := c a' o s' n c' e
   have q2 := hy a' e2
   omega
  exact ⟨x, by rw [List.getElem?_append_right (by omega), h2]; exact a, kept x _ b fun _ => hfar, c.weaken hB, fun hd => ⟨far x _ hd b hfar, hfar2⟩⟩
theorem LrnsU.grow {B : Nat} {w w' : World} {v y y3 : Value} {l : List LrnR} (h : LrnsU B w v l y) (hm : Mv y.ownBlock w w') (hk : y3.ownBlock = y.ownBlock ∨ y3.ownBlock = some w.heap.size) (hv : v.ownBlock = none ∨ v.ownBlock ≠ y.ownBlock) : LrnsU B w' v l y3 := by
 obtain ⟨css, h1, h2, h3⟩ := h
 refine ⟨css, h1.mv hm hv, h2, fun i s hi => ?_⟩
 obtain ⟨x, a, b, c, d⟩ := h3 i s hi
 refine ⟨x, a, b.mvR hm fun hn a o s' n c e e2 => (d (by rintro h9; rw [h9] at hn; exact hn rfl)).2 a o s' n c e e2, c, fun hd => ⟨(d hd).1, ?_⟩⟩
 intro a' o s' n c' e e2
 rcases hk with e1 | e1
 ·exact (d hd).2 a' o s' n c' e (e1 ▸ e2)
 ·subst e
  have := Sl.lt_block b (by simpa [aI] using hd)
  rw [e1] at e2
  have := Option.some.inj e2
  omega
theorem uU (k : Int) (d : List UInt8) : (fold (bM k d).1).length ≤ 254 := by
 have h0 : (fold []).length ≤ 254 := jJ [] rfl
 unfold bM
 split
 ·exact h0
 ·split
  ·exact h0
  ·split
   ·exact h0
   ·rename_i n hn
    unfold fL at hn
    split at hn
    ·rename_i hh
     cases hn
     exact jJ _ hh.2
    ·cases hn
def gW (ns : List (List UInt8)) : List (Value × Value) := ns.map fun n => (aE n, .bool true)
theorem uV {ns : List (List UInt8)} {n : List UInt8} {i : Nat} {v : Value} (h : (gW ns)[i]? = some (aE n, v)) : n ∈ ns ∧ v = .bool true := by
 rw [gW, List.getElem?_map] at h
 cases hi : ns[i]? with
 | none => rw [hi] at h; cases h
 | some m =>
  rw [hi] at h
  simp only [Option.map_some, Option.some.injEq, Prod.mk.injEq, aE, Value.string.injEq, ByteArray.mk.injEq] at h
  have : m = n := by simpa using h.1
  exact ⟨this ▸ List.mem_of_getElem? hi, h.2.symm⟩
theorem wZ {ns : List (List UInt8)} {n : List UInt8} (h : ∀ (i : Nat) (e : Value × Value), (gW ns)[i]? = some e → e.1 ≠ aE n) : n ∉ ns := by
 intro hm
 obtain ⟨i, hi, rfl⟩ := List.mem_iff_getElem.1 hm
 exact h i (aE ns[i], .bool true) (by simp [gW, hi]) rfl
theorem tI : WideMaps.KeyLaw Tryz.prog 29 := WideMaps.string_law Tryz.underlying29
theorem yG (n : List UInt8) (hn : n.length ≤ 1000000) : ∃ l, keyOf Tryz.prog 29 (aE n) = some l :=
 ⟨_, WideMaps.keyOf_string_mk Tryz.underlying29 (by rw [cN]; unfold maxLen; omega)⟩
def cC (t : TaskR) (ex : List Rec) (ns : List Rec) (k : Nat) : RfrR := (ns.take k).foldl (t.refStep ex) ⟨[], [], cF ns 2⟩
theorem rB {t : TaskR} {ex ns : List Rec} {k : Nat} (h : k < ns.length) : cC t ex ns (k + 1) = t.refStep ex (cC t ex ns k) ns[k] := by
 rw [cC, List.take_succ_eq_append_getElem h, List.foldl_append]; rfl
theorem sG {s : List Int} {l : List Rec} {k : Nat} (h : k < l.length) : dP s (l.take (k + 1)) = (match gI l[k].data with | none => dP s (l.take k) | some n => if n ∈ dP s (l.take k) then dP s (l.take k) else dP s (l.take k) ++ [n]) := by
 rw [dP, List.take_succ_eq_append_getElem h, List.foldl_append]; rfl
theorem oX (s : List Int) (l : List Rec) : (dP s l).length ≤ s.length + l.length := by
 induction l generalizing s with
 | nil => exact Nat.le_refl _
 | cons r l ih =>
  have e : dP s (r :: l) = dP (match gI r.data with | none => s | some n => if n ∈ s then s else s ++ [n]) l := rfl
  rw [e]
  refine Nat.le_trans (ih _) ?_
  rw [List.length_cons]
  split
  ·omega
  ·split
   ·omega
   ·rw [List.length_append]; simp; omega
theorem iV (l : List Rec) (rank : Int) : (cF l rank).length ≤ l.length := by
 unfold cF
 split
 ·rw [List.length_map]
  have := (fF l l.length (Nat.le_refl _)).1
  rw [List.take_length] at this
  exact this
 ·exact Nat.zero_le _
theorem fB (t : TaskR) (l : List Rec) (n : List UInt8) (k : Int) : (t.of l n k).length ≤ l.length := by
 rw [zE]
 exact Nat.le_trans (wY _ _ _) (iU _ _)
theorem oY (t : TaskR) (ex ns : List Rec) : ∀ k, k ≤ ns.length → (cC t ex ns k).servers.length ≤ k * ex.length ∧ (cC t ex ns k).learnt.length ≤ ns.length + k * ex.length ∧ (cC t ex ns k).seen.length ≤ k
 | 0, _ => ⟨Nat.zero_le _, Nat.le_trans (iV _ _) (Nat.le_add_right ..), Nat.zero_le _⟩
 | k + 1, h => by
   rw [rB (by omega)]
   obtain ⟨h1, h2, h3⟩ := oY t ex ns k (by omega)
   unfold TaskR.refStep
   have e : (k + 1) * ex.length = k * ex.length + ex.length := Nat.succ_mul ..
   dsimp only
   split
   ·exact ⟨by omega, by omega, by omega⟩
   ·have a1 := fB t ex (fold (bM 2 ns[k].data).1) 1
    have a2 := oX (cC t ex ns k).servers (t.of ex (fold (bM 2 ns[k].data).1) 1)
    have a3 := iV (t.of ex (fold (bM 2 ns[k].data).1) 1) 1
    rw [e]
    simp only [List.length_append, List.length_cons, List.length_nil]
    exact ⟨by omega, by omega, by omega⟩
theorem xA (t : TaskR) (m : MsgR) (z : List UInt8) : t.refer m z = ({ t with servers := (cC t m.ex (t.of m.au z 2) (t.of m.au z 2).length).servers, zone := z }, (cC t m.ex (t.of m.au z 2) (t.of m.au z 2).length).learnt) := by
 unfold TaskR.refer cC
 rw [List.take_length]
theorem lG {qn : List UInt8} {qt : Int} {m : MsgR} {z : List UInt8} (h : (bY qn qt m z).1 ≠ 0) : bP qn z = true ∧ (bY qn qt m z) = (let j : JudR := ⟨qn, qt, z, m.rcode, aU m.an z, aU m.au z⟩
 if j.answer.1 ≠ 0 then j.answer else if j.alias.1 ≠ 0 then j.alias else if j.denial.1 ≠ 0 then j.denial else j.referral) := by
 unfold bY at h ⊢
 split at h
 ·exact absurd rfl h
 ·rename_i c
  rw [if_neg c]
  refine ⟨?_, rfl⟩
  cases hu : bP qn z with
  | true => rfl
  | false => exact absurd (.inl hu) c
theorem lH (j : JudR) : j.answer.1 = 0 ∨ j.answer.1 = 1 := by unfold JudR.answer; split <;> simp
theorem sH (j : JudR) : j.alias.1 = 0 ∨ j.alias.1 = 5 := by unfold JudR.alias; split <;> simp
theorem rC (j : JudR) : j.denial.1 = 0 ∨ j.denial.1 = 3 ∨ j.denial.1 = 2 := by unfold JudR.denial; split; simp; split <;> simp
theorem iF (j : JudR) : j.referral.1 = 6 ∨ j.referral.1 = 4 := by unfold JudR.referral; split <;> simp
theorem rD {qn : List UInt8} {qt : Int} {m : MsgR} {z : List UInt8} (h : (bY qn qt m z).1 = 5) : ∃ r ∈ aU m.an z, fold r.name = fold qn ∧ r.kind = 5 := by
 obtain ⟨_, e⟩ := lG (by rw [h]; decide)
 rw [e] at h
 dsimp only at h
 generalize hj : (⟨qn, qt, z, m.rcode, aU m.an z, aU m.au z⟩ : JudR) = j at *
 have han : j.an = aU m.an z := by rw [← hj]
 have hqn : j.qn = qn := by rw [← hj]
 rw [← han, ← hqn]
 split at h
 ·rcases lH j with e1 | e1 <;> rw [e1] at h <;> cases h
 ·split at h
  ·unfold JudR.alias at h
   split at h
   ·cases h
   ·rename_i r hr
    have h1 := List.find?_some hr
    unfold JudR.aliP jT at h1
    simp only [Bool.and_eq_true, decide_eq_true_eq] at h1
    exact ⟨r, List.mem_of_find?_eq_some hr, h1⟩
  ·split at h
   ·rcases rC j with e1 | e1 | e1 <;> rw [e1] at h <;> cases h
   ·rcases iF j with e1 | e1 <;> rw [e1] at h <;> cases h
theorem pQ {qn : List UInt8} {qt : Int} {m : MsgR} {z : List UInt8} (h : (bY qn qt m z).1 = 2 ∨ (bY qn qt m z).1 = 3) : ∃ r ∈ aU m.au z, (bY qn qt m z).2 = fold r.name ∧ r.kind = 6 := by
 obtain ⟨_, e⟩ := lG (by rcases h with h | h <;> rw [h] <;> decide)
 rw [e] at h ⊢
 dsimp only at h ⊢
 generalize hj : (⟨qn, qt, z, m.rcode, aU m.an z, aU m.au z⟩ : JudR) = j at *
 have hau : j.au = aU m.au z := by rw [← hj]
 rw [← hau]
 split at h
 ·rcases lH j with e1 | e1 <;> rw [e1] at h <;> rcases h with h | h <;> cases h
 ·rename_i c1
  rw [if_neg c1]
  split at h
  ·rcases sH j with e1 | e1 <;> rw [e1] at h <;> rcases h with h | h <;> cases h
  ·rename_i c2
   rw [if_neg c2]
   split at h
   ·rename_i c3
    rw [if_pos c3]
    unfold JudR.denial at h ⊢
    split at h
    ·rcases h with h | h <;> cases h
    ·rename_i r hr
     have h1 := List.find?_some hr
     unfold JudR.denP at h1
     simp only [Bool.and_eq_true, decide_eq_true_eq] at h1
     refine ⟨r, List.mem_of_find?_eq_some hr, ?_, h1.1⟩
     split <;> rfl
   ·rcases iF j with e1 | e1 <;> rw [e1] at h <;> rcases h with h | h <;> cases h
theorem zF {t : TaskR} {l : List Rec} {n : List UInt8} {k : Int} {r : Rec} (hr : r ∈ aU l t.zone) (h1 : fold r.name = fold n) (h2 : r.kind = k) : t.of l n k ≠ [] := by
 intro e
 have : dR r ∈ t.of l n k := by
  unfold TaskR.of
  refine List.mem_filter.2 ⟨List.mem_map_of_mem hr, ?_⟩
  simp [dR, h1, h2]
 rw [e] at this
 cases this
theorem rE {t : TaskR} {m : MsgR} (h : (bY t.qn t.qt m t.zone).1 = 5) : 1 ≤ (t.of m.an t.qn 5).length := by
 obtain ⟨r, h1, h2, h3⟩ := rD h
 exact List.length_pos_iff.2 (zF h1 h2 h3)
theorem oZ {t : TaskR} {m : MsgR} (h : (bY t.qn t.qt m t.zone).1 = 2 ∨ (bY t.qn t.qt m t.zone).1 = 3) : 1 ≤ (t.of m.au (bY t.qn t.qt m t.zone).2 6).length := by
 obtain ⟨r, h1, h2, h3⟩ := pQ h
 exact List.length_pos_iff.2 (zF h1 (by rw [h2, uO]) h3)
structure TaskB (t : TaskR) (n : Nat) : Prop where
 l0 : 0 ≤ t.left
 l1 : t.left ≤ 1000
 c0 : 0 ≤ t.chain
 c1 : t.chain ≤ 8
 got : t.got.length ≤ n
 stop : ∀ a, t.stop = some a → a.ans.length ≤ n ∧ a.auth.length ≤ 1
theorem TaskB.weaken {t : TaskR} {n n' : Nat} (h : TaskB t n) (hn : n ≤ n') : TaskB t n' := ⟨h.l0, h.l1, h.c0, h.c1, Nat.le_trans h.got hn, fun a ha => ⟨Nat.le_trans (h.stop a ha).1 hn, (h.stop a ha).2⟩⟩
theorem TaskB.fin {t : TaskR} {n : Nat} (h : TaskB t n) (c : Int) {x y : List Rec} (hx : x.length ≤ n) (hy : y.length ≤ 1) : TaskB (t.done c x y).1 n :=
 ⟨h.l0, h.l1, h.c0, h.c1, h.got, fun a ha => by cases ha; exact ⟨hx, hy⟩⟩
theorem TaskB.on {t : TaskR} {n : Nat} (h : TaskB t n) (hs : t.stop = none) : TaskB t.on.1 n := by
 unfold TaskR.on
 split
 ·exact h.fin 2 (Nat.zero_le _) (Nat.zero_le _)
 ·split
  ·exact h.fin 2 (Nat.zero_le _) (Nat.zero_le _)
  ·rename_i c
   have := h.l0
   have := h.l1
   exact ⟨by dsimp only; omega, by dsimp only; omega, h.c0, h.c1, h.got, fun a ha => h.stop a ha⟩
theorem TaskB.timeout {t : TaskR} {n : Nat} (h : TaskB t n) : TaskB t.timeout.1 n := by
 unfold TaskR.timeout
 split
 ·exact h
 ·rename_i hs; exact h.on hs
theorem TaskB.follow {t : TaskR} {n : Nat} (h : TaskB t n) (hs : t.stop = none) (x : List UInt8) : TaskB (t.follow x).1 n := by
 unfold TaskR.follow
 have := h.c0
 have := h.c1
 split
 ·exact h.fin 2 (Nat.zero_le _) (Nat.zero_le _)
 ·rename_i c
  refine TaskB.on ⟨h.l0, h.l1, ?_, ?_, h.got, h.stop⟩ hs
  ·show 0 ≤ t.chain + 1; omega
  ·show t.chain + 1 ≤ 8; omega
theorem kK (l : List Rec) : (l.take 1).length ≤ 1 := by rw [List.length_take]; omega
theorem TaskB.reply {t : TaskR} {n c : Nat} (h : TaskB t n) (m : MsgR) (hm : m.an.length ≤ c) (hc : 1 ≤ c) : TaskB (t.reply m).1 (n + c) := by
 have h' : TaskB t (n + c) := h.weaken (Nat.le_add_right ..)
 unfold TaskR.reply
 split
 ·exact h'
 ·rename_i hs
  have hg := h.got
  dsimp only
  split
  ·have a1 := fB t m.an t.qn t.qt
   have hg2 : (t.got ++ t.of m.an t.qn t.qt).length ≤ n + c := by rw [List.length_append]; omega
   exact TaskB.fin (t := { t with got := t.got ++ t.of m.an t.qn t.qt }) ⟨h.l0, h.l1, h.c0, h.c1, hg2, fun a ha => by rw [show t.stop = none from hs] at ha; cases ha⟩ 0 hg2 (Nat.zero_le _)
  ·split
   ·have a1 := kK (t.of m.an t.qn 5)
    have hg2 : (t.got ++ (t.of m.an t.qn 5).take 1).length ≤ n + c := by rw [List.length_append]; omega
    exact TaskB.follow (t := { t with got := t.got ++ (t.of m.an t.qn 5).take 1 }) ⟨h.l0, h.l1, h.c0, h.c1, hg2, fun a ha => by rw [show t.stop = none from hs] at ha; cases ha⟩ hs _
   ·split
    ·exact h'.fin 3 h'.got (kK _)
    ·split
     ·exact h'.fin 0 h'.got (kK _)
     ·split
      ·exact TaskB.on (t := (t.refer m (bY t.qn t.qt m t.zone).2).1) ⟨h'.l0, h'.l1, h'.c0, h'.c1, h'.got, fun a ha => h'.stop a ha⟩ hs
      ·exact h'.on hs
theorem xB {d : List UInt8} (h : Lib.hasPrefix d [10, 0, 0] = true) : ∃ t, d = 10 :: 0 :: 0 :: t ∧ Lib.trimPrefix d [10, 0, 0] = t := by
 have h2 := h
 unfold Lib.hasPrefix at h2
 rw [List.isPrefixOf_iff_prefix] at h2
 obtain ⟨t, rfl⟩ := h2
 refine ⟨t, rfl, ?_⟩
 rw [Lib.trimPrefix, if_pos h]
 rfl
theorem uW {d : List UInt8} (h : Lib.hasPrefix d [10, 0, 0] = false) : gI d = none := by
 rw [gI, if_neg]
 intro h2
 unfold Lib.hasPrefix at h
 rw [← Bool.not_eq_true, List.isPrefixOf_iff_prefix] at h
 exact h ⟨d.drop 3, by rw [← h2, List.take_append_drop]⟩
theorem BH (s p : List UInt8) (w : World) : Calls Tryz.prog 51 #[aE s, aE p] w (bZ w (.tuple #[aE (Lib.trimPrefix s p), .bool (Lib.hasPrefix s p)])) := by
 refine (Tryz.strings_CutPrefix ⟨s.toArray⟩ ⟨p.toArray⟩ w).mono ?_
 rintro e w' ⟨rfl, rfl⟩
 exact ⟨rfl, Ext.refl _⟩
theorem sI (t : List UInt8) : gI (10 :: 0 :: 0 :: t) = match t with | [x] => if 99 < x.toNat then none else some (x.toNat : Nat) | _ => none := by
 unfold gI
 exact if_pos (show List.take 3 (10 :: 0 :: 0 :: t) = [10, 0, 0] from rfl)
set_option maxHeartbeats 1000000 in
theorem AD (d : List UInt8) (w : World) (hl : d.length ≤ 9223372036854775807) : Calls Tryz.prog 17 #[aE d] w (bZ w (.tuple #[.int .i64 ((gI d).getD 0), .bool (gI d).isSome])) := by
 have hcu := fun w => BH d [10, 0, 0] w
 go_enter Tryz.func17, Tryz.ntmps17
 cases hh : Lib.hasPrefix d [10, 0, 0] with
 | false =>
  have hE := uW hh
  rw [hh] at hcu
  generalize Lib.trimPrefix d [10, 0, 0] = t at hcu
  (repeat' first | ((with_reducible refine aJ ?_); go_step) | ((with_reducible refine aG ?_); first | refine aL ?_ | (refine aK ?_ ?_ <;> intro hc)) | fail)
  refine aB (enters_of Tryz.func51 rfl rfl) rfl rfl (hcu _) ?_; intro w1 x1; refine aA ?_
  (repeat' first | ((with_reducible refine aJ ?_); go_step) | ((with_reducible refine aG ?_); first | refine aL ?_ | (refine aK ?_ ?_ <;> intro hc)) | fail)
  go_ret2
  exact ⟨by rw [hE]; rfl, x1⟩
 | true =>
  obtain ⟨t, rfl, ht⟩ := xB hh
  rw [hh, ht] at hcu
  have hE := sI t
  clear ht hh
  cases t with
  | nil =>
   (repeat' first | ((with_reducible refine aJ ?_); go_step) | ((with_reducible refine aG ?_); first | refine aL ?_ | (refine aK ?_ ?_ <;> intro hc)) | fail)
   refine aB (enters_of Tryz.func51 rfl rfl) rfl rfl (hcu _) ?_; intro w1 x1; refine aA ?_
   (repeat' first | ((with_reducible refine aJ ?_); go_step) | ((with_reducible refine aG ?_); first | refine aL ?_ | (refine aK ?_ ?_ <;> intro hc)) | fail)
   go_ret2
   exact ⟨by rw [hE]; rfl, x1⟩
  | cons x t =>
   cases t with
   | nil =>
    (repeat' first | ((with_reducible refine aJ ?_); go_step) | ((with_reducible refine aG ?_); first | refine aL ?_ | (refine aK ?_ ?_ <;> intro hc)) | fail)
    refine aB (enters_of Tryz.func51 rfl rfl) rfl rfl (hcu _) ?_; intro w1 x1; refine aA ?_
    by_cases c : 99 < x.toNat
    ·have hN : gI (10 :: 0 :: 0 :: [x]) = none := by rw [hE]; exact if_pos c
     (repeat' first | ((with_reducible refine aJ ?_); go_step) | ((with_reducible refine aG ?_); first | refine aL ?_ | (refine aK ?_ ?_ <;> intro hc)) | fail)
     all_goals first
      | (exfalso; omega)
      | (exfalso; simp at hc; done)
      | skip
     go_ret2
     exact ⟨by rw [hN]; rfl, x1⟩
    ·have hN : gI (10 :: 0 :: 0 :: [x]) = some (x.toNat : Nat) := by rw [hE]; exact if_neg c
     (repeat' first | ((with_reducible refine aJ ?_); go_step) | ((with_reducible refine aG ?_); first | refine aL ?_ | (refine aK ?_ ?_ <;> intro hc)) | fail)
     all_goals first
      | (exfalso; omega)
      | (exfalso; simp at hc; done)
      | skip
     go_ret2
     exact ⟨by rw [hN]; rfl, x1⟩
   | cons y t =>
    (repeat' first | ((with_reducible refine aJ ?_); go_step) | ((with_reducible refine aG ?_); first | refine aL ?_ | (refine aK ?_ ?_ <;> intro hc)) | fail)
    refine aB (enters_of Tryz.func51 rfl rfl) rfl rfl (hcu _) ?_; intro w1 x1; refine aA ?_
    (repeat' first | ((with_reducible refine aJ ?_); go_step) | ((with_reducible refine aG ?_); first | refine aL ?_ | (refine aK ?_ ?_ <;> intro hc)) | fail)
    all_goals first
     | (exfalso; simp only [List.length_cons] at *; omega)
     | skip
    go_ret2
    exact ⟨by rw [hE]; rfl, x1⟩
end Go.Proofs.X
