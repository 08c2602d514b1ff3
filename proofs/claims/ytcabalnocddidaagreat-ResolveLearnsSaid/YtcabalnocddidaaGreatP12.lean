/- Laws and walks that the proof of the statement is made of (part 12). -/
import Derived.Test.YtcabalnocddidaaGreatRows
import Derived.Test.YtcabalnocddidaaGreatP11
set_option linter.unusedSimpArgs false
set_option linter.unusedVariables false
namespace Go.Proofs.X
open Go.RowKit
set_option maxRecDepth 100000
def dE (s : RSet) (d : List UInt8) (r : Rec) : Bool := decide (fold r.name = s.name) && (decide (r.kind = s.kind) && (decide (r.data = d) && decide (s.ttl ≤ r.ttl)))
def mR (m : MsgR) (z : List UInt8) : List Rec := aN m.an z ++ aN m.au z ++ aN m.ex z
theorem yR {L : List Rec} {rank : Int} {q : LrnR} {d : List UInt8} (hq : q ∈ cD L rank) (hd : d ∈ q.set.data) : ∃ r ∈ L, dE q.set d r = true := by
 unfold cD at hq
 split at hq
 ·rename_i h0
  obtain ⟨s, hs, rfl⟩ := List.mem_map.1 hq
  have hok : L.all oR = true := by
   unfold jM at h0
   split at h0
   ·cases h0
   ·rename_i c; simpa using c
  obtain ⟨hc, _, _⟩ := (jN hok).2.1 s hs
  obtain ⟨r, hr, hm, rfl⟩ := (hc.dat d).1 hd
  refine ⟨r, hr, ?_⟩
  have hlow := hc.low r hr hm
  unfold aR at hm
  simp only [Bool.and_eq_true, decide_eq_true_eq] at hm
  simp [dE, hm.1.symm, hm.2.symm, hlow]
 ·cases hq
theorem AE {t : TaskR} {l : List Rec} {n : List UInt8} {k : Int} {s : RSet} {d : List UInt8} {r : Rec} (hr : r ∈ t.of l n k) (h : dE s d r = true) : ∃ r ∈ aN l t.zone, dE s d r = true := by
 unfold TaskR.of at hr
 obtain ⟨r0, h0, rfl⟩ := List.mem_map.1 (List.mem_filter.1 hr).1
 refine ⟨r0, h0, ?_⟩
 unfold dE dU at h
 simp only [qC] at h
 exact h
theorem kT {t : TaskR} {l : List Rec} {n : List UInt8} {k rank : Int} {q : LrnR} {d : List UInt8} {L : List Rec} (hL : ∀ r ∈ L, r ∈ t.of l n k) (hq : q ∈ cD L rank) (hd : d ∈ q.set.data) : ∃ r ∈ aN l t.zone, dE q.set d r = true := by
 obtain ⟨r, hr, h⟩ := yR hq hd
 exact AE (hL r hr) h
theorem iE {t : TaskR} {m : MsgR} {n : List UInt8} {q : LrnR} {d : List UInt8} (hd : d ∈ q.set.data) : ∀ k, k ≤ (t.of m.au n 2).length → q ∈ (bZ t m.ex (t.of m.au n 2) k).learnt → ∃ r ∈ mR m t.zone, dE q.set d r = true
 | 0, _, hq => by
   obtain ⟨r, hr, h⟩ := kT (t := t) (l := m.au) (n := n) (k := 2) (rank := 2) (L := t.of m.au n 2) (fun _ h => h) hq hd
   exact ⟨r, by simp [mR, hr], h⟩
 | k + 1, hk, hq => by
   rw [oP (by omega)] at hq
   unfold TaskR.refStep at hq
   dsimp only at hq
   split at hq
   ·exact iE hd k (by omega) hq
   ·rcases List.mem_append.1 hq with hq | hq
    ·exact iE hd k (by omega) hq
    ·obtain ⟨r, hr, h⟩ := kT (t := t) (l := m.ex) (fun _ h => h) hq hd
     exact ⟨r, by simp [mR, hr], h⟩
theorem sS {t : TaskR} {m : MsgR} {q : LrnR} {d : List UInt8} (hq : q ∈ (t.reply m).2.2) (hd : d ∈ q.set.data) : (mR m t.zone).any (dE q.set d) = true := by
 have key : ∃ r ∈ mR m t.zone, dE q.set d r = true := by
  unfold TaskR.reply at hq
  split at hq
  ·cases hq
  ·dsimp only at hq
   split at hq
   ·obtain ⟨r, hr, h⟩ := kT (t := t) (l := m.an) (fun _ h => h) hq hd
    exact ⟨r, by simp [mR, hr], h⟩
   ·split at hq
    ·obtain ⟨r, hr, h⟩ := kT (t := t) (l := m.an) (fun r h => List.mem_of_mem_take h) hq hd
     exact ⟨r, by simp [mR, hr], h⟩
    ·split at hq
     ·cases hq
     ·split at hq
      ·cases hq
      ·split at hq
       ·rw [sP] at hq
        exact iE hd _ (Nat.le_refl _) hq
       ·cases hq
 obtain ⟨r, hr, h⟩ := key
 exact List.any_eq_true.2 ⟨r, hr, h⟩
set_option maxHeartbeats 4000000 in
theorem tY (qn : List UInt8) (qt : Int) (rv : Value) (roots : List Int) (budget : Int) (lv : Value) (l : List lL) (w : World) (hr : Sl 1 w rv (aY roots)) (hl : RopsAt w lv l) : Calls Tryz.prog 5 #[.agg (gX qn qt rv budget lv).toArray] w (EU w) := by
 have hFew := fun w0 (h1 : Sl 1 w0 rv (aY roots)) (h2 : RopsAt w0 lv l) => AC qn qt rv roots budget lv l w0 h1 h2
 go_enter Tryz.func5, Tryz.ntmps5
 repeat' (first | ((with_reducible refine aJ ?_); go_step) | fail)
 refine cW (vs := gX qn qt rv budget lv) rfl rfl ?_
 intro w0 x0 s0 hb0
 refine aA ?_
 have hp0 := aC (cs := gX qn qt rv budget lv) hb0
 have hr0 := hr.ext x0
 have hl0 := hl.ext x0
 (repeat' first | ((with_reducible refine aJ ?_); go_step) | ((with_reducible refine aG ?_); first | refine aL ?_ | (refine aK ?_ ?_ <;> intro hc)) | fail)
 refine bB (v := .agg (gX qn qt rv budget lv).toArray) (Runs.loadN hp0 rfl (show bH Tryz.prog 48 5 = true by decide +kernel)) ?_
 refine aA ?_
 refine aB (enters_of Tryz.func23 rfl rfl) rfl rfl (hFew _ hr0 hl0) ?_; intro w1 x1; refine aA ?_
 cases hf : qZ qn roots l with
 | false =>
  (repeat' first | ((with_reducible refine aJ ?_); go_step) | ((with_reducible refine aG ?_); first | refine aL ?_ | (refine aK ?_ ?_ <;> intro hc)) | fail)
  refine aB (enters_of Tryz.func15 rfl rfl) rfl rfl (BT _) ?_; intro w2 x2; refine aA ?_
  (repeat' first | ((with_reducible refine aJ ?_); go_step) | ((with_reducible refine aG ?_); first | refine aL ?_ | (refine aK ?_ ?_ <;> intro hc)) | fail)
  go_ret
  exact ⟨rfl, x0.trans (x1.trans x2)⟩
 | true =>
  obtain ⟨f1, f2, f3, f4⟩ := wL hf
  have hp1 := hp0.ext x1
  have hb1 := x1.at hb0
  have hr1 := hr0.ext x1
  have hl1 := hl0.ext x1
  have hx1 := x0.trans x1
  clear hp0
  (repeat' first | ((with_reducible refine aJ ?_); go_step) | ((with_reducible refine aG ?_); first | refine aL ?_ | (refine aK ?_ ?_ <;> intro hc)) | fail)
  refine bB (v := .agg #[aF qn, .int .i64 qt]) (Runs.loadN ((hp1.part 0).front 2) rfl (show bH Tryz.prog 31 2 = true by decide +kernel)) ?_
  refine aA ?_
  (repeat' first | ((with_reducible refine aJ ?_); go_step) | ((with_reducible refine aG ?_); first | refine aL ?_ | (refine aK ?_ ?_ <;> intro hc)) | fail)
  refine aO (enters_of Tryz.func24 rfl rfl) rfl rfl (yN qn qt rv roots budget _ hr1 (by omega)) ?_
  intro r w2 x2 hr2
  unfold fQ at hr2
  rcases yQ qn qt roots budget with hE | hE
  ·rw [if_pos hE] at hr2
   obtain ⟨b, u2, rfl, ⟨v1, v2, rfl, oa1, oa2⟩, hT2⟩ := hr2
   obtain ⟨n1, n2, n3, n4⟩ := mI hE
   obtain ⟨t1, t2, t3, t4, t5⟩ := AD hE
   generalize (dL qn qt roots budget).on = N at *
   refine aA ?_
   (repeat' first | ((with_reducible refine aJ ?_); go_step) | ((with_reducible refine aG ?_); first | refine aL ?_ | (refine aK ?_ ?_ <;> intro hc)) | fail)
   refine aH (z := bU) rfl (by decide +kernel) ?_
   intro w3 x3 s3 h3
   refine aA ?_
   (repeat' first | ((with_reducible refine aJ ?_); go_step) | ((with_reducible refine aG ?_); first | refine aL ?_ | (refine aK ?_ ?_ <;> intro hc)) | fail)
   refine aD (v := .agg (bL N.2 v1 v2).toArray) rfl rfl rfl h3 (show aP Tryz.prog 33 7 = true by decide +kernel) rfl (dW oa1.one oa2.one) ?_
   intro w4 p4
   have x4 : Ext w2 w4 := x3.move p4.mv (by rintro k ⟨⟩; exact Nat.le_refl _)
   have hT4 := hT2.grow x4
   have hb4 := x4.at (x2.at hb1)
   clear hT2 oa1 oa2 h3 x3 p4 hp1
   obtain ⟨css, h1, h2, h3⟩ := hl1
   have hcl : w.heap.size < w1.heap.size := (Array.getElem?_eq_some_iff.1 hb1).1
   (repeat' first | ((with_reducible refine aJ ?_); go_step) | ((with_reducible refine aG ?_); first | refine aL ?_ | (refine aK ?_ ?_ <;> intro hc)) | fail)
   go_loopw [6, 7, 8, 9, 10, 11, 12, 13, 14, 15] (fun i _ _ _ _ _ _ _ _ _ wr => ∃ (k : Nat) (t : TaskR), k ≤ l.length ∧ i = .int .i64 k ∧ TaskAt w1 wr b t ∧ TaskB t (25 * k) ∧ wr.heap[w.heap.size]? = some (.cells (gX qn qt rv budget lv).toArray 48 (0, 0))) (fun i _ _ _ _ _ _ _ _ _ _ => l.length - (intOf i).toNat)
   case atStart => exact ⟨0, N.1, Nat.zero_le _, rfl, hT4, t5, hb4⟩
   case round =>
    obtain ⟨k, t, hk, rfl, hT, hB, hbr⟩ := hrel
    have hpr := aC (cs := gX qn qt rv budget lv) hbr
    have hxr := hT.ext
    have hlr := h1.ext hxr
    by_cases hlt : k < l.length
    ·obtain ⟨mq, ma, mu, me, hcs, hm⟩ := h3 k l[k] (List.getElem?_eq_getElem hlt)
     have hfl := f4 l[k] (List.getElem_mem hlt)
     have hpe := hlr.elem hcs
     generalize l[k] = s at *
     obtain ⟨fm1, fm2, fm3, fm4, fm5⟩ := tX hfl
     have hsb := hB.reply s.2 (c := 25) fm1 (by omega)
     (repeat' first | ((with_reducible refine aJ ?_); go_step) | ((with_reducible refine aG ?_); first | refine aL ?_ | (refine aK ?_ ?_ <;> intro hc)) | fail)
     refine aB (enters_of Tryz.func22 rfl rfl) rfl rfl (yD hT) ?_; intro w5 x5; refine aA ?_
     obtain ⟨rv', sv', gv', ev', hV5⟩ := hT.grow x5
     have hbr5 := x5.at hbr
     have hpr5 := hpr.ext x5
     have hpe5 : Pts w5 (cO lv (k * 14)) (.bool s.1 :: cY s.2 mq ma mu me) := hpe.ext x5
     have hlr5 := hlr.ext x5
     have hx5 := hxr.trans x5
     have hmV : ∀ w', Mv (some b) w5 w' → MsgV w' s.2 mq ma mu me := fun w' h' => hm.ext (hx5.move h' (by rintro c ⟨⟩; exact hV5.ge))
     clear hpr hpe hlr
     (repeat' first | ((with_reducible refine aJ ?_); go_step) | ((with_reducible refine aG ?_); first | refine aL ?_ | (refine aK ?_ ?_ <;> intro hc)) | fail)
     refine bB (v := .agg (cY s.2 mq ma mu me).toArray) (Runs.loadN (hpe5.part 1) rfl (show bH Tryz.prog 25 13 = true by decide +kernel)) ?_
     refine aA ?_
     refine aT (vs := [.pointer (some ⟨b, 0, none⟩), .agg (cY s.2 mq ma mu me).toArray]) (enters_of Tryz.func16 rfl rfl) rfl rfl (qY hV5 hB (by omega) s.2 mq ma mu me hmV (by omega) (by omega) (by omega) (fun z => iL fm4) (fun n => iL fm5)) ?_
     rintro e6 w6 ⟨u6', l6, rfl, ⟨⟨d1, d2, rfl, q1, q2⟩, hT6⟩, hl6, hf6⟩
     refine ⟨_, rfl, ?_⟩
     have hlearn := fun (q : LrnR) (hq : q ∈ (t.reply s.2).2.2) (d : List UInt8) (hd : d ∈ q.set.data) => sS hq hd
     generalize t.reply s.2 = R at *
     have hbr6 := hf6.box hV5 hbr5 (by decide) (by decide)
     have hpr6 := aC (cs := gX qn qt rv budget lv) hbr6
     have hx6 := hT6.ext
     have hpe6 : Pts w6 (cO lv (k * 14)) (.bool s.1 :: cY s.2 mq ma mu me) := (h1.ext hx6).elem hcs
     have hlr6 := h1.ext hx6
     clear hpr5 hpe5 hlr5
     refine aA ?_
     (repeat' first | ((with_reducible refine aJ ?_); go_step) | ((with_reducible refine aG ?_); first | refine aL ?_ | (refine aK ?_ ?_ <;> intro hc)) | fail)
     refine aH (z := bU) rfl (by decide +kernel) ?_
     intro w7 x7 s7 h7
     refine aA ?_
     (repeat' first | ((with_reducible refine aJ ?_); go_step) | ((with_reducible refine aG ?_); first | refine aL ?_ | (refine aK ?_ ?_ <;> intro hc)) | fail)
     refine aD (v := .agg (bL R.2.1 d1 d2).toArray) rfl rfl rfl h7 (show aP Tryz.prog 33 7 = true by decide +kernel) rfl (dW q1.one q2.one) ?_
     intro w8 p8
     have x8 : Ext w6 w8 := x7.move p8.mv (by rintro k ⟨⟩; exact Nat.le_refl _)
     have hpr8 := hpr6.ext x8
     have hpe8 := hpe6.ext x8
     have hlr8 := hlr6.ext x8
     clear p8 h7 x7 hpr6 hpe6 hlr6
     (repeat' first | ((with_reducible refine aJ ?_); go_step) | ((with_reducible refine aG ?_); first | refine aL ?_ | (refine aK ?_ ?_ <;> intro hc)) | fail)
     refine bB (v := .agg (cY s.2 mq ma mu me).toArray) (Runs.loadN (hpe8.part 1) rfl (show bH Tryz.prog 25 13 = true by decide +kernel)) ?_
     refine aA ?_
     refine aH (z := cY zeroM (.slice none 0 0) (.slice none 0 0) (.slice none 0 0) (.slice none 0 0)) rfl (by decide +kernel) ?_
     intro w9 x9 s9 h9
     refine aA ?_
     have hm8 := hm.ext (hx6.trans x8)
     refine aD (v := .agg (cY s.2 mq ma mu me).toArray) rfl rfl rfl h9 (show aP Tryz.prog 25 13 = true by decide +kernel) rfl (by have h1 := hm8.qs.one; have h2 := hm8.an.one; have h3 := hm8.au.one; have h4 := hm8.ex.one; simp [cY, Value.cells, h1, h2, h3, h4, show ∀ n, (Value.int .i64 n).oneCell' = true from fun _ => rfl, show ∀ n, (Value.bool n).oneCell' = true from fun _ => rfl]) ?_
     intro w10 p10
     have x10 : Ext w8 w10 := x9.move p10.mv (by rintro k ⟨⟩; exact Nat.le_refl _)
     have hpm := aC (cs := cY s.2 mq ma mu me) p10.this
     have hm10 := hm8.ext x10
     have hpm10 := hpm
     clear p10 h9 x9 hpr8 hpe8 hlr8
     (repeat' first | ((with_reducible refine aJ ?_); go_step) | ((with_reducible refine aG ?_); first | refine aL ?_ | (refine aK ?_ ?_ <;> intro hc)) | fail)
     refine aO (enters_of Tryz.func26 rfl rfl) rfl rfl (gD ma s.2.an t.zone _ hm10.an (by omega)) ?_
     intro y11 w11 x11 o11
     refine aA ?_
     have hwl1 := eC s.2.an t.zone
     have hwl2 := eC s.2.au t.zone
     have hwl3 := eC s.2.ex t.zone
     refine cU (v0 := .slice none 0 0) (B := w10.heap.size) (e := 64) (k := 4) (es := []) (fs := aE (aN s.2.an t.zone)) rfl (Own.nil _ _ _ _) rfl o11.sl fB x11.size (by rw [aM]; simp; omega) ?_
     intro av12 w12 o12 m12 _
     refine aA ?_
     rw [List.nil_append] at o12
     have x12 := (Own.nil w10.heap.size 4 64 w11).mvx m12 x11 (Nat.le_refl _)
     have hpm12 := hpm.ext x12
     (repeat' first | ((with_reducible refine aJ ?_); go_step) | ((with_reducible refine aG ?_); first | refine aL ?_ | (refine aK ?_ ?_ <;> intro hc)) | fail)
     refine aO (enters_of Tryz.func26 rfl rfl) rfl rfl (gD mu s.2.au t.zone _ (hm10.ext x12).au (by omega)) ?_
     intro y13 w13 x13 o13
     refine aA ?_
     have x1213 := x12.trans x13
     refine cU (v0 := av12) (es := aE (aN s.2.an t.zone)) (fs := aE (aN s.2.au t.zone)) rfl (o12.ext x13) rfl o13.sl fB x1213.size (by rw [aM, aM]; omega) ?_
     intro av14 w14 o14 m14 _
     refine aA ?_
     have x14 := (o12.ext x13).mvx m14 x1213 (Nat.le_refl _)
     have hx14 := (hx6.trans x8).trans (x10.trans x14)
     have hm14 := hm.ext hx14
     have hpm14 := hpm.ext x14
     clear hpm12
     (repeat' first | ((with_reducible refine aJ ?_); go_step) | ((with_reducible refine aG ?_); first | refine aL ?_ | (refine aK ?_ ?_ <;> intro hc)) | fail)
     refine aO (enters_of Tryz.func26 rfl rfl) rfl rfl (gD me s.2.ex t.zone _ hm14.ex (by omega)) ?_
     intro y15 w15 x15 o15
     refine aA ?_
     have x1415 := x14.trans x15
     refine cU (v0 := av14) (es := aE (aN s.2.an t.zone) ++ aE (aN s.2.au t.zone)) (fs := aE (aN s.2.ex t.zone)) rfl (o14.ext x15) rfl o15.sl fB x1415.size (by rw [List.length_append, aM, aM, aM]; omega) ?_
     intro av16 w16 o16 m16 _
     refine aA ?_
     have x16 := (o14.ext x15).mvx m16 x1415 (Nat.le_refl _)
     have x68 := (x8.trans x10).trans x16
     have oA : Own w10.heap.size 4 64 w16 av16 (aE (mR s.2 t.zone)) := by simpa [mR, aE] using o16
     have hl16 := hl6.ext x68
     have hT16 := hT6.grow x68
     have hbr16 := x68.at hbr6
     have hal : (mR s.2 t.zone).length ≤ 75 := by unfold mR; rw [List.length_append, List.length_append]; omega
     generalize mR s.2 t.zone = all at *
     obtain ⟨cst, l1, l2, l3⟩ := hl16
     clear o12 o14 o16 o11 o13 o15 hpm hpm10 hpm14 hm10 hm14 hm8 x12 x14 x1213 x1415 x11 x13 x15 hl6 hf6 x10 x8 q1 q2
     (repeat' first | ((with_reducible refine aJ ?_); go_step) | ((with_reducible refine aG ?_); first | refine aL ?_ | (refine aK ?_ ?_ <;> intro hc)) | fail)
     have hla := aM all
     go_loopw [12, 13, 14, 15] (fun i _ _ _ wr => ∃ k2 : Nat, k2 ≤ R.2.2.length ∧ i = .int .i64 k2 ∧ Ext w16 wr) (fun i _ _ _ _ => R.2.2.length - (intOf i).toNat)
     case atStart => exact ⟨0, Nat.zero_le _, rfl, Ext.refl _⟩
     case round =>
      obtain ⟨k2, hk2, rfl, hx17⟩ := hrel
      have ll17 := (l1.ext hx17).sl
      by_cases hlt2 : k2 < R.2.2.length
      ·obtain ⟨x, hcx, hsx, _, _⟩ := l3 k2 R.2.2[k2] (List.getElem?_eq_getElem hlt2)
       have hdat := hlearn R.2.2[k2] (List.getElem_mem hlt2)
       generalize R.2.2[k2] = q at *
       have hdl := hsx.le
       have hdt : (aI q.set.data).length = q.set.data.length := List.length_map ..
       have hcl2 := ll17.le
       (repeat' first | ((with_reducible refine aJ ?_); go_step) | ((with_reducible refine aG ?_); first | refine aL ?_ | (refine aK ?_ ?_ <;> intro hc)) | fail)
       go_loopw [13, 14, 15] (fun j _ _ wr => ∃ j2 : Nat, j2 ≤ q.set.data.length ∧ j = .int .i64 j2 ∧ Ext w16 wr) (fun j _ _ _ => q.set.data.length - (intOf j).toNat)
       case atStart => exact ⟨0, Nat.zero_le _, rfl, hx17⟩
       case round =>
        obtain ⟨j2, hj2, rfl, hx18⟩ := hrel
        have ll18 := (l1.ext hx18).sl
        have hsx18 := hsx.ext hx18
        have hpl := ll18.elem hcx
        have hpl0 : Pts _ (aW (cO l6 (k2 * 5)) 0) (lJ q x) := hpl.part 0
        by_cases hlt3 : j2 < q.set.data.length
        ·have hd := hdat q.set.data[j2] (List.getElem_mem hlt3)
         (repeat' first | ((with_reducible refine aJ ?_); go_step) | ((with_reducible refine aG ?_); first | refine aL ?_ | (refine aK ?_ ?_ <;> intro hc)) | fail)
         go_loopw [14, 15] (fun inn i wr => ∃ x2 : Nat, x2 ≤ all.length ∧ i = .int .i64 x2 ∧ inn = .bool ((all.take x2).any (dE q.set q.set.data[j2])) ∧ Ext w16 wr) (fun _ i _ => all.length - (intOf i).toNat)
         case atStart => exact ⟨0, Nat.zero_le _, rfl, rfl, hx18⟩
         case round =>
          obtain ⟨x2, hx2, rfl, rfl, hx19⟩ := hrel
          have ll19 := (l1.ext hx19).sl
          have hsx19 := hsx.ext hx19
          have hpl9 := ll19.elem hcx
          have hpl9 : Pts _ (aW (cO l6 (k2 * 5)) 0) (lJ q x) := hpl9.part 0
          have hal9 := (oA.ext hx19).sl
          by_cases hlt4 : x2 < all.length
          ·have hpa9 := hal9.elem (cX hlt4)
           have hpd9 := hsx19.elem (i := j2) (e := [aF q.set.data[j2]]) (by rw [aI, List.getElem?_map, List.getElem?_eq_getElem hlt3]; rfl)
           have htk : (all.take (x2 + 1)).any (dE q.set q.set.data[j2]) = ((all.take x2).any (dE q.set q.set.data[j2]) || dE q.set q.set.data[j2] all[x2]) := by rw [List.take_succ_eq_append_getElem hlt4, List.any_append]; simp
           generalize all[x2] = r at *
           generalize hdj : q.set.data[j2] = dj at *
           cases hin : (all.take x2).any (dE q.set dj) with
           | true =>
            rw [hin, Bool.true_or] at htk
            (repeat' first | ((with_reducible refine aJ ?_); go_step) | ((with_reducible refine aG ?_); first | refine aL ?_ | (refine aK ?_ ?_ <;> intro hc)) | fail)
            refine iX (by decide +kernel) (by decide +kernel) ?_
            (try ((with_reducible refine yW ?_); refine yX ?_))
            intro w20 x20
            (repeat' first | ((with_reducible refine aJ ?_); go_step) | ((with_reducible refine aG ?_); first | refine aL ?_ | (refine aK ?_ ?_ <;> intro hc)) | fail)
            exact ⟨⟨x2 + 1, by omega, by go_num, by rw [htk], hx19.trans x20⟩, by simp [intOf]; omega⟩
           | false =>
            rw [hin, Bool.false_or] at htk
            (repeat' first | ((with_reducible refine aJ ?_); go_step) | ((with_reducible refine aG ?_); first | refine aL ?_ | (refine aK ?_ ?_ <;> intro hc)) | fail)
            refine iX (by decide +kernel) (by decide +kernel) ?_
            (try ((with_reducible refine yW ?_); refine yX ?_))
            refine wO (enters_of Tryz.func27 rfl rfl) rfl rfl (fun w' x' => zI r.name w') ?_
            refine aA ?_
            (try ((with_reducible refine yW ?_); refine yX ?_))
            by_cases e1 : fold r.name = q.set.name
            ·rw [decide_eq_true e1]
             (try ((with_reducible refine yW ?_); refine yX ?_))
             by_cases e2 : r.kind = q.set.kind
             ·rw [decide_eq_true e2]
              (try ((with_reducible refine yW ?_); refine yX ?_))
              by_cases e3 : r.data = dj
              ·rw [decide_eq_true e3]
               (try ((with_reducible refine yW ?_); refine yX ?_))
               have hh : dE q.set dj r = decide (q.set.ttl ≤ r.ttl) := by simp [dE, e1, e2, e3]
               intro w20 x20
               (repeat' first | ((with_reducible refine aJ ?_); go_step) | ((with_reducible refine aG ?_); first | refine aL ?_ | (refine aK ?_ ?_ <;> intro hc)) | fail)
               exact ⟨⟨x2 + 1, by omega, by go_num, by rw [htk, hh], hx19.trans x20⟩, by simp [intOf]; omega⟩
              ·rw [decide_eq_false e3]
               (try ((with_reducible refine yW ?_); refine yX ?_))
               have hh : dE q.set dj r = false := by simp [dE, e3]
               intro w20 x20
               (repeat' first | ((with_reducible refine aJ ?_); go_step) | ((with_reducible refine aG ?_); first | refine aL ?_ | (refine aK ?_ ?_ <;> intro hc)) | fail)
               exact ⟨⟨x2 + 1, by omega, by go_num, by rw [htk, hh], hx19.trans x20⟩, by simp [intOf]; omega⟩
             ·rw [decide_eq_false e2]
              (try ((with_reducible refine yW ?_); refine yX ?_))
              have hh : dE q.set dj r = false := by simp [dE, e2]
              intro w20 x20
              (repeat' first | ((with_reducible refine aJ ?_); go_step) | ((with_reducible refine aG ?_); first | refine aL ?_ | (refine aK ?_ ?_ <;> intro hc)) | fail)
              exact ⟨⟨x2 + 1, by omega, by go_num, by rw [htk, hh], hx19.trans x20⟩, by simp [intOf]; omega⟩
            ·rw [decide_eq_false e1]
             (try ((with_reducible refine yW ?_); refine yX ?_))
             have hh : dE q.set dj r = false := by simp [dE, e1]
             intro w20 x20
             (repeat' first | ((with_reducible refine aJ ?_); go_step) | ((with_reducible refine aG ?_); first | refine aL ?_ | (refine aK ?_ ?_ <;> intro hc)) | fail)
             exact ⟨⟨x2 + 1, by omega, by go_num, by rw [htk, hh], hx19.trans x20⟩, by simp [intOf]; omega⟩
          ·have hx2e : x2 = all.length := by omega
           subst hx2e
           rw [List.take_length, hd]
           (repeat' first | ((with_reducible refine aJ ?_); go_step) | ((with_reducible refine aG ?_); first | refine aL ?_ | (refine aK ?_ ?_ <;> intro hc)) | fail)
           exact ⟨⟨j2 + 1, by omega, by go_num, hx19⟩, by simp [intOf]; omega⟩
        ·(repeat' first | ((with_reducible refine aJ ?_); go_step) | ((with_reducible refine aG ?_); first | refine aL ?_ | (refine aK ?_ ?_ <;> intro hc)) | fail)
         exact ⟨⟨k2 + 1, by omega, by go_num, hx18⟩, by simp [intOf]; omega⟩
      ·(repeat' first | ((with_reducible refine aJ ?_); go_step) | ((with_reducible refine aG ?_); first | refine aL ?_ | (refine aK ?_ ?_ <;> intro hc)) | fail)
       exact ⟨⟨k + 1, R.1, by omega, rfl, hT16.grow hx17, by rw [Nat.mul_succ]; exact hsb, hx17.at hbr16⟩, by simp [intOf]; omega⟩
    ·(repeat' first | ((with_reducible refine aJ ?_); go_step) | ((with_reducible refine aG ?_); first | refine aL ?_ | (refine aK ?_ ?_ <;> intro hc)) | fail)
     refine aB (enters_of Tryz.func15 rfl rfl) rfl rfl (BT _) ?_; intro w5 x5; refine aA ?_
     (repeat' first | ((with_reducible refine aJ ?_); go_step) | ((with_reducible refine aG ?_); first | refine aL ?_ | (refine aK ?_ ?_ <;> intro hc)) | fail)
     go_ret
     exact ⟨rfl, hx1.trans (hxr.trans x5)⟩
  ·rw [hE, if_neg (by decide)] at hr2
   subst hr2
   refine aA ?_
   (repeat' first | ((with_reducible refine aJ ?_); go_step) | ((with_reducible refine aG ?_); first | refine aL ?_ | (refine aK ?_ ?_ <;> intro hc)) | fail)
   refine aH (z := bU) rfl (by decide +kernel) ?_
   intro w3 x3 s3 h3
   refine aA ?_
   (repeat' first | ((with_reducible refine aJ ?_); go_step) | ((with_reducible refine aG ?_); first | refine aL ?_ | (refine aK ?_ ?_ <;> intro hc)) | fail)
   refine aD (v := .agg bU.toArray) rfl rfl rfl h3 (show aP Tryz.prog 33 7 = true by decide +kernel) rfl (by decide +kernel) ?_
   intro w4 p4
   have hx4 : Ext w w4 := hx1.trans (x2.trans (x3.move p4.mv (by rintro k ⟨⟩; exact Nat.le_refl _)))
   clear p4 h3
   (repeat' first | ((with_reducible refine aJ ?_); go_step) | ((with_reducible refine aG ?_); first | refine aL ?_ | (refine aK ?_ ?_ <;> intro hc)) | fail)
   refine aB (enters_of Tryz.func15 rfl rfl) rfl rfl (BT _) ?_; intro w5 x5; refine aA ?_
   (repeat' first | ((with_reducible refine aJ ?_); go_step) | ((with_reducible refine aG ?_); first | refine aL ?_ | (refine aK ?_ ?_ <;> intro hc)) | fail)
   go_ret
   exact ⟨rfl, hx4.trans x5⟩
open Go.ChangeShapes Go.WideShapes Go.ChangeAt Go.RowKit
set_option maxRecDepth 100000 in
theorem iF (os : Os) (started : os.Started) (H : Type) (enc : TypeId × Value → H) :
 ReturnsInHanded {} Tryz.checked os 5 .any (YtcabalnocddidaaGreat.Rows.resolveLearnsSpec.pre6 enc Tryz.prog Tryz.f5 YtcabalnocddidaaGreat.Rows.resolveLearnsRow.domain false) (YtcabalnocddidaaGreat.Rows.resolveLearnsSpec.post enc Tryz.prog Tryz.f5 false true false false) := by
 refine returnsInHanded_of_change (C := Tryz.checked) own started (by kernel_rfl) Tryz.func5
  (ChangeSpec.witness6 (enc := enc) (C := Tryz.checked) false ⟨#[], #[.agg #[aF [], .int .i64 0, .slice none 0 0, .int .i64 0, .slice none 0 0]], []⟩ 8 (by kernel_rfl) (by kernel_rfl) (by kernel_rfl) (by kernel_rfl)) ?_
 intro W base args ds gs before hval0 hW hcnd _
 have hW' := hW
 obtain ⟨p, q, hA0, hV, rfl, hfz, hnd⟩ := hW
 have hA : DataW.TrodAll enc Tryz.prog W 0 (fun _ => true) true Tryz.f5.params.toList args.toList ds p := hA0
 have hval : ∀ (j : Nat) t v, Tryz.f5.params[j]? = some t → args[j]? = some v → Value.okWide Tryz.prog W .any base t v := hval0
 rw [Tryz.params5] at hA hval
 obtain ⟨v0, vs0, d0, ds0, p0, q0, hargs, rfl, rfl, h0, r0⟩ := trodAll_cons hA
 obtain ⟨rfl, rfl, rfl⟩ := trodAll_nil r0
 obtain rfl : args = #[v0] := by cases args; simp_all
 obtain ⟨rfl, rfl⟩ := trodVars_none hV
 have k0 := h0
 have lt0 : ∀ x ∈ p0, x.block < W.heap.size := by obtain ⟨m, hm⟩ := k0; exact DataW.trod_lt m _ _ _ hm
 obtain ⟨c0, rfl, z0⟩ := okWide_struct Tryz.underlying48 (hval 0 48 v0 rfl rfl)
 obtain ⟨o0, n0, u0, l0, m0, w0, s0, e0, g0, f0⟩ : ∃ (qn : List UInt8) (qt : Int) (rv : Value) (roots : List Int) (budget : Int) (lv : Value) (l : List lL), c0 = (gX qn qt rv budget lv).toArray ∧ Sl 1 W rv (aY roots) ∧ RopsAt W lv l := by
  obtain ⟨fuel, hf⟩ := h0
  exact tV hf
 subst e0
 clear hA0 hval0
 have h9 := tY o0 n0 u0 l0 m0 w0 s0 W g0 f0
 refine h9.mono fun e W' ⟨he, hx⟩ => ?_
 subst he
 have bel := hx.below
 exact ⟨_, rfl, _, _, _, [], _, [], hW', trodAll_mk1 (shut_bool Tryz.underlying4 _), (trodAll_cons_mk (Below.trod zQ (by kernel_rfl) (of_decide_eq_true (by kernel_rfl)) k0 bel lt0) trodAll_mk0), rfl, bel.frame _, fun h => by cases h⟩
theorem AF : Tryz.checked.prog.mayEnter = true := by kernel_rfl
theorem BV : (YtcabalnocddidaaGreat.Rows.resolveLearnsRow.lifted == Tryz.checked.prog.liftsFinal) = true := by kernel_rfl
theorem BW : (Tryz.checked.prog.make == some YtcabalnocddidaaGreat.Rows.resolveLearnsRow.make) = true := by kernel_rfl
theorem iG : joinedFacts Tryz.checked.prog 5 Tryz.f5 YtcabalnocddidaaGreat.Rows.resolveLearnsSpec YtcabalnocddidaaGreat.Rows.resolveLearnsRow = true := by
 unfold joinedFacts
 simp only [Bool.and_eq_true]
 repeat' (refine And.intro ?_ ?_)
 all_goals first | (with_reducible exact AF) | (with_reducible exact BV) | (with_reducible exact BW) | kernel_rfl
theorem resolveLearns_holds : YtcabalnocddidaaGreat.Rows.ResolveLearnsSaid :=
 OpenClaim.holds_of_wide 5 Tryz.f5 rfl rfl rfl rfl rfl rfl rfl ⟨rfl, rfl, rfl, rfl, rfl⟩ rfl rfl rfl rfl rfl (by kernel_rfl) Tryz.func5 iG
  (of_decide_eq_true (by kernel_rfl)) (by unfold Func.isWrapper; first | (rw [if_pos (by decide +kernel)]; kernel_rfl) | (rw [if_neg (by decide +kernel)]; exact ⟨rfl, rfl⟩))
  (fun os started H enc _ => iF os started H enc)
end Go.Proofs.X
