/- Laws and walks that the proof of the statement is made of (part 11). -/
import Derived.Test.YtcabalnocddidaaGreatRows
import Derived.Test.YtcabalnocddidaaGreatP10
set_option linter.unusedSimpArgs false
set_option linter.unusedVariables false
namespace Go.Proofs.X
open Go.RowKit
set_option maxRecDepth 100000
structure Fr (b : Nat) (gv : Value) (w w' : World) : Prop where
 size : w.heap.size ≤ w'.heap.size
 block : ∀ j, j < w.heap.size → j ≠ b → gv.ownBlock ≠ some j → w'.heap[j]? = w.heap[j]?
theorem Fr.mv {b : Nat} {gv : Value} {w w1 w2 : World} {row : Option Nat} (h : Fr b gv w w1) (hm : Mv row w1 w2) (hr : ∀ c, row = some c → c = b ∨ gv.ownBlock = some c ∨ w.heap.size ≤ c) : Fr b gv w w2 :=
 ⟨Nat.le_trans h.size hm.size, fun j hj hb hg => by
  rw [hm.block j (Nat.lt_of_lt_of_le hj h.size) (by
   intro e
   rcases hr j e.symm with e1 | e1 | e1
   ·exact hb e1
   ·exact hg e1
   ·omega), h.block j hj hb hg]⟩
theorem Fr.ext {b : Nat} {gv : Value} {w w1 w2 : World} (h : Fr b gv w w1) (hx : Ext w1 w2) : Fr b gv w w2 := h.mv (hx.mv none) (by intro c e; cases e)
theorem Fr.of {b : Nat} {gv : Value} {w w1 : World} (hx : Ext w w1) : Fr b gv w w1 := ⟨hx.size, fun j hj _ _ => hx.block j hj⟩
def RRet (w0 w : World) (b : Nat) (gv : Value) (r : TaskR × ActR × List LrnR) (e : Ending) (w' : World) : Prop :=
 ∃ u l, e = .returned (.tuple #[u, l]) ∧ ActRet w0 b (r.1, r.2.1) u w' ∧ LrnsV w.heap.size w' l r.2.2 ∧ Fr b gv w w'
theorem ActRet.ext {w0 w w' : World} {b : Nat} {r : TaskR × ActR} {u : Value} (h : ActRet w0 b r u w) (hx : Ext w w') : ActRet w0 b r u w' := ⟨h.1.ext hx, h.2.grow hx⟩
theorem RRet.box {w0 w w1 w2 : World} {b c B : Nat} {r : TaskR × ActR} {lr : List LrnR} {gv u l : Value} (hu : ActRet w0 b r u w1) (hf : Fr b gv w w1) (hc : w1.heap[c]? = some (.cells bT.toArray 33 (0, 0))) (hg : w.heap.size ≤ c) (h0 : w0.heap.size ≤ w.heap.size)
 (hl : LrnsV B w1 l lr) (hB : c < B) (hp : Put w1 w2 c (.cells u.cells 33 (0, 0))) : ∃ u1 u2, u = .agg (bG r.2 u1 u2).toArray ∧ RRet w0 w b gv (r.1, r.2, lr) (.returned (.tuple #[.agg (bG r.2 u1 u2).toArray, l])) w2 := by
 obtain ⟨u1, u2, e, q1, q2⟩ := (hu.1.put hp hc (by decide)).out
 obtain ⟨rv, sv, gv, ev, hT⟩ := hu.2
 exact ⟨u1, u2, e, _, _, rfl, ⟨⟨u1, u2, rfl, q1, q2⟩, rv, sv, gv, ev, hT.other hp hc (Nat.le_trans h0 hg)⟩, (hl.mvb hp.mv hB).weaken (by omega), hf.mv hp.mv (by rintro k ⟨⟩; exact .inr (.inr hg))⟩
theorem oX (a b : List Rec) : aI (a ++ b) = aI a ++ aI b := List.map_append
theorem TRet.tup {w0 w : World} {b : Nat} {r : TaskR × ActR} {gv u : Value} {w' : World} (h : TRet w0 w b r (.returned u) w') : RRet w0 w b gv (r.1, r.2, []) (.returned (.tuple #[u, .slice none 0 0])) w' := by
 obtain ⟨u', e, h1, h2⟩ := h
 cases e
 exact ⟨u, _, rfl, h1, LrnsV.nil _ _, h2.size, fun j hj hb _ => h2.block j hj (by intro e; exact hb (Option.some.inj e))⟩
theorem Own.cut1 {B k e : Nat} {w : World} {v : Value} {es : List (List Value)} (h : Own B k e w v es) (h1 : 1 ≤ es.length) : Own B k e w (cB v k 0 1) (es.take 1) := by
 rcases h.form with ⟨_, rfl⟩ | ⟨g, cap, rfl, _⟩
 ·simp at h1
 ·have := h.short h1
  simpa [cB, Addr.add] using this
theorem TaskV.gotp {w0 w w1 w2 : World} {b : Nat} {t : TaskR} {rv sv gv gv' ev : Value} {l : List Rec} (h : TaskV w0 w b t rv sv gv ev) (hs : t.stop = none) (hm : Mv gv.ownBlock w w1) (o1 : Own w0.heap.size 4 64 w1 gv' (aI l))
 (hp : Put w1 w2 b (.cells (bN { t with got := l } rv sv gv' ev).toArray 99 (0, 0))) : TaskV w0 w2 b { t with got := l } rv sv gv' ev := by
 have b1 := hm.at h.blk (fun e => h.gs.neBlock h.blk (by decide) e.symm)
 have r1 := h.rs.mv hm (h.rs.ne h.gs (by decide))
 have s1 : OwnOff w0.heap.size 1 3 w1 sv (aZ t.servers) := h.ss.mv hm (by
  rcases h.ss.neOwn h.gs (by decide) with e | e
  ·cases hv : sv.ownBlock with
   | none => exact .inl rfl
   | some r => exact .inr (by rw [e]; simp)
  ·exact .inr fun e' => e e'.symm)
 refine ⟨h.ge, (h.ext.move hm (fun k hk => (h.gs.block k hk).1)).move hp.mv (by rintro k ⟨⟩; exact h.ge), hp.this, r1.mv hp.mv (.inr (r1.neBlock b1 (by decide))), s1.mv hp.mv (.inr (s1.neBlock b1 (by decide))), o1.mv hp.mv (.inr (o1.neBlock b1 (by decide))), ?_⟩
 have he := h.es
 rw [hs] at he
 show StopV w0.heap.size w2 ev t.stop
 rw [hs]
 exact he
set_option maxHeartbeats 2000000 in
theorem rC {w0 w : World} {b n : Nat} {t : TaskR} {rv sv gv ev : Value} (h : TaskV w0 w b t rv sv gv ev) (hB : TaskB t n) (hn : n ≤ 100000) (m : MsgR) (q a u e : Value) (hm : ∀ w', Mv (some b) w w' → MsgV w' m q a u e) (h1 : m.an.length ≤ 300) (h2 : m.au.length ≤ 300) (h3 : m.ex.length ≤ 300) (hd1 : ∀ z, ∀ r ∈ t.of m.au z 2, r.data.length ≤ 9223372036854775807) (hd2 : ∀ n, ∀ r ∈ t.of m.ex n 1, r.data.length ≤ 9223372036854775807) :
 Calls Tryz.prog 16 #[.pointer (some ⟨b, 0, none⟩), .agg (dF m q a u e).toArray] w (RRet w0 w b gv (t.reply m)) := by
 have hp := aC (cs := bN t rv sv gv ev) h.blk
 go_enter Tryz.func16, Tryz.ntmps16
 repeat' (first | ((with_reducible refine aG ?_); go_step) | fail)
 refine cQ (vs := dF m q a u e) rfl rfl ?_
 intro w1 x1 s1 hb1
 refine aA ?_
 have hp1 := aC (cs := dF m q a u e) hb1
 have hpt1 := hp.ext x1
 (repeat' first | ((with_reducible refine aG ?_); go_step) | ((with_reducible refine aE ?_); first | refine aL ?_ | (refine aJ ?_ ?_ <;> intro hc)) | fail)
 refine aH (z := bT) rfl (by decide +kernel) ?_
 intro w2 x2 s2 hb2
 refine aA ?_
 have hp2 := hp1.ext x2
 have hpt2 := hpt1.ext x2
 have he := h.es
 have hh2 := h.grow (x1.trans x2)
 cases hst : t.stop with
 | some a' =>
  rw [hst] at he
  obtain ⟨c, v1, v2, rfl, hc, hcb, o1, o2, -⟩ := he
  have hE : t.reply m = (t, a', []) := by rw [TaskR.reply, hst]
  have hst' := hB.stop a' hst
  (repeat' first | ((with_reducible refine aG ?_); go_step) | ((with_reducible refine aE ?_); first | refine aL ?_ | (refine aJ ?_ ?_ <;> intro hc)) | fail)
  refine aM (enters_of Tryz.func43 rfl rfl) rfl rfl (kW ⟨_, _, _, _, hh2⟩ hst (by omega) (by omega)) ?_
  intro u' w4 x4 hu
  refine aA ?_
  have h14 := x4.at hb2
  refine aD (v := u') rfl rfl rfl h14 (by rw [hu.1.size]; exact (show aN Tryz.prog 33 7 = true by decide +kernel)) (by rw [hu.1.size]; rfl) hu.1.one ?_
  intro w5 p5
  obtain ⟨u1, u2, rfl, hr⟩ := TRet.box hu (((x1.trans x2).trans x4).mv (some b)) h14 x1.size h.ext.size p5
  (repeat' first | ((with_reducible refine aG ?_); go_step) | ((with_reducible refine aE ?_); first | refine aL ?_ | (refine aJ ?_ ?_ <;> intro hc)) | fail)
  refine bodyPost_ret (bE (cs := bG a' u1 u2) rfl rfl p5.this (show bK Tryz.prog 33 7 = true by decide +kernel)) rfl ?_
  rw [hE]
  exact hr.tup
 | none =>
  rw [hst] at he
  have hev : ev = .pointer none := he
  subst hev
  have hfr : ∀ w', Mv (some b) w w' → MsgV w' m q a u e := hm
  (repeat' first | ((with_reducible refine aG ?_); go_step) | ((with_reducible refine aE ?_); first | refine aL ?_ | (refine aJ ?_ ?_ <;> intro hc)) | fail)
  all_goals (
   have hR : sV m = if m.auth = true then 4 else 3 := rfl
   simp only [‹m.auth = _›, if_true, if_false, Bool.false_eq_true] at hR
   refine bD (v := .agg #[aF t.qn, .int .i64 t.qt]) (Runs.loadN ((hpt2.part 0).front 2) rfl (show bK Tryz.prog 31 2 = true by decide +kernel)) ?_
   refine aA ?_
   refine aH (z := [aF [], .int .i64 0]) rfl (by decide +kernel) ?_
   intro w3 x3 s3 h3'
   refine aA ?_
   refine aD (v := .agg #[aF t.qn, .int .i64 t.qt]) rfl rfl rfl h3' (show aN Tryz.prog 31 2 = true by decide +kernel) rfl (by simp [Value.cells, show ∀ s, (aF s).oneCell' = true from fun _ => rfl, show ∀ n, (Value.int .i64 n).oneCell' = true from fun _ => rfl]) ?_
   intro w4 p4
   have x4 : Ext w2 w4 := x3.move p4.mv (by rintro k ⟨⟩; exact Nat.le_refl _)
   have hbq : w4.heap[w2.heap.size]? = some (.cells [aF t.qn, .int .i64 t.qt].toArray 31 (0, 0)) := p4.this
   have hpq := aC hbq
   have hp4 := hp2.ext x4
   have hpt4 := hpt2.ext x4
   have hh4 := hh2.grow x4
   have hm4 := hm _ (((x1.trans x2).trans x4).mv _)
   clear p4 h3' x3 hp hp1 hpt1 hp2 hpt2
   (repeat' first | ((with_reducible refine aG ?_); go_step) | ((with_reducible refine aE ?_); first | refine aL ?_ | (refine aJ ?_ ?_ <;> intro hc)) | fail)
   have hJ := fun w (h : MsgV w m q a u e) => AR t.qn t.qt m q a u e t.zone w h (by omega) (by omega)
   generalize hjj : bX t.qn t.qt m t.zone = jj at *
   refine cW (S := fun w' => Ext w4 w') (by decide +kernel) ?_
   intro w5 x5 _
   refine bL (i := 0) (v := .agg #[aF t.qn, .int .i64 t.qt]) rfl rfl (by decide +kernel) (by decide +kernel) (by decide +kernel) rfl x5 (fun w' c => Runs.loadN (hpq.ext c) rfl (show bK Tryz.prog 31 2 = true by decide +kernel)) (fun _ _ _ h => h) ?_
   refine aA ?_
   refine bL (i := 1) (v := .agg (dF m q a u e).toArray) rfl rfl (by decide +kernel) (by decide +kernel) (by decide +kernel) rfl x5 (fun w' c => Runs.loadN (hp4.ext c) rfl (show bK Tryz.prog 25 13 = true by decide +kernel)) (fun _ _ _ h => h) ?_
   refine aA ?_
   refine fI 2 ?_; refine aA ?_; refine fI 3 ?_; refine aA ?_; refine fI 4 ?_; refine aA ?_; refine fI 5 ?_; refine aA ?_
   refine cF (i := 6) (by decide +kernel) rfl rfl ?_
   refine aB (enters_of Tryz.func44 rfl rfl) rfl rfl (hJ _ (hm4.ext x5)) ?_
   intro w6 x6
   refine aA ?_
   have x46 := x5.trans x6
   refine aS ⟨x46, ?_⟩
   refine fI 7 ?_; refine aA ?_; refine fI 8 ?_; refine aA ?_; refine fI 9 ?_; refine aA ?_; refine fI 10 ?_; refine aA ?_; refine fI 11 ?_; refine aA ?_
   refine cS (by decide +kernel) ?_
   have hp6 := hp4.ext x46
   have hpt6 := hpt4.ext x46
   have hpq6 := hpq.ext x46
   have hh6 := hh4.grow x46
   have hb6 := (x4.trans x46).at hb2
   have x06 := x1.trans (x2.trans (x4.trans x46))
   clear hp4 hpt4 hpq hh4 hm4 hbq
   have hm6 := hm _ (x06.mv _)
   by_cases k1 : jj.1 = 1
   ·have hE : t.reply m = (({ t with got := t.got ++ t.of m.an t.qn t.qt }.done 0 (t.got ++ t.of m.an t.qn t.qt) []).1, ({ t with got := t.got ++ t.of m.an t.qn t.qt }.done 0 (t.got ++ t.of m.an t.qn t.qt) []).2, cJ (t.of m.an t.qn t.qt) (sV m)) := by
     unfold TaskR.reply
     simp only [hst, hjj, k1, if_true]
    (repeat' first | ((with_reducible refine aG ?_); go_step) | ((with_reducible refine aE ?_); first | refine aL ?_ | (refine aJ ?_ ?_ <;> intro hc)) | fail)
    refine aM (enters_of Tryz.func45 rfl rfl) rfl rfl (wW ⟨_, _, _, _, hh6⟩ a m.an t.qn t.qt hm6.an (by omega)) ?_
    intro lv w7 x7 o7
    refine aA ?_
    have hLl := fH t m.an t.qn t.qt
    generalize hL : t.of m.an t.qn t.qt = L at *
    have hh7 := hh6.grow x7
    have hpt7 := hpt6.ext x7
    have hb7 := x7.at hb6
    have hgb : ∀ r, gv.ownBlock = some r → w0.heap.size ≤ r ∧ r < w.heap.size := h.gs.block
    have hgl := hB.got
    have sz06 := x06.size
    (repeat' first | ((with_reducible refine aG ?_); go_step) | ((with_reducible refine aE ?_); first | refine aL ?_ | (refine aJ ?_ ?_ <;> intro hc)) | fail)
    refine eG (v0 := gv) (es := aI t.got) (fs := aI L) rfl hh7.gs rfl o7.sl oU hh7.ext.size (by rw [aU, aU]; omega) ?_
    intro gv8 w8 o8 m8 hk8
    refine aA ?_
    have o8' : Own w0.heap.size 4 64 w8 gv8 (aI (t.got ++ L)) := by rw [oX]; exact o8
    have b8 := m8.at hh7.blk (fun e => hh7.gs.neBlock hh7.blk (by decide) e.symm)
    have lvb : lv.ownBlock = none ∨ lv.ownBlock ≠ gv.ownBlock := by
     cases hv : lv.ownBlock with
     | none => exact .inl rfl
     | some r =>
      refine .inr fun e => ?_
      have q1 := (o7.block r hv).1
      have q2 := (hgb r e.symm).2
      omega
    have l8 := o7.mv m8 lvb
    (repeat' first | ((with_reducible refine aG ?_); go_step) | ((with_reducible refine aE ?_); first | refine aL ?_ | (refine aJ ?_ ?_ <;> intro hc)) | fail)
    refine bF (n := 5) (v := gv8) b8 rfl rfl rfl (by simp [bN]) (by decide +kernel) o8'.one ?_
    intro w9 p9
    have hT9 := hh7.gotp hst m8 o8' p9
    have hbn := (Array.getElem?_eq_some_iff.1 h.blk).1
    have sz1 := x1.size
    have hn9 : some w1.heap.size ≠ some b := by intro e; have := Option.some.inj e; omega
    have hb9 := p9.mv.at (m8.at hb7 (by intro e; have := hgb _ e.symm; omega)) hn9
    have l9 := l8.mv p9.mv (.inr (l8.neBlock b8 (by decide)))
    have o9 := o8'.mv p9.mv (.inr (o8'.neBlock b8 (by decide)))
    have hpt9 := aC (cs := bN { t with got := t.got ++ L } rv sv gv8 (.pointer none)) hT9.blk
    have f9 : Fr b gv w w9 := ((Fr.of (x06.trans x7)).mv m8 (fun c hc => .inr (.inl hc))).mv p9.mv (by rintro c ⟨⟩; exact .inl rfl)
    clear hpt6 hpt7 hp6 hpq6 o8 l8
    (repeat' first | ((with_reducible refine aG ?_); go_step) | ((with_reducible refine aE ?_); first | refine aL ?_ | (refine aJ ?_ ?_ <;> intro hc)) | fail)
    refine aO (vs := [.pointer (some ⟨b, 0, none⟩), .int .i64 0, gv8, .slice none 0 0]) (enters_of Tryz.func46 rfl rfl) rfl rfl (rB hT9 0 gv8 (.slice none 0 0) (t.got ++ L) [] o9 (Own.nil _ _ _ _) (by rw [List.length_append]; omega) (by decide)) ?_
    rintro e10 w10 ⟨u10, rfl, hu10, hm10⟩
    refine ⟨_, rfl, ?_⟩
    refine aA ?_
    have l10 := l9.mv hm10 (.inr (l9.neBlock hT9.blk (by decide)))
    have hb10 := hm10.at hb9 hn9
    (repeat' first | ((with_reducible refine aG ?_); go_step) | ((with_reducible refine aE ?_); first | refine aL ?_ | (refine aJ ?_ ?_ <;> intro hc)) | fail)
    refine aM (enters_of Tryz.func47 rfl rfl) rfl rfl (kX lv L _ _ l10.sl (by omega)) ?_
    intro ll w11 x11 l11
    refine aA ?_
    have hu11 := hu10.ext x11
    have hb11 := x11.at hb10
    have f11 := (f9.mv hm10 (by rintro c ⟨⟩; exact .inl rfl)).ext x11
    have szb := (Array.getElem?_eq_some_iff.1 hb10).1
    refine aD (v := u10) rfl rfl rfl hb11 (by rw [hu11.1.size]; exact (show aN Tryz.prog 33 7 = true by decide +kernel)) (by rw [hu11.1.size]; rfl) hu11.1.one ?_
    intro w12 p12
    obtain ⟨u1, u2, rfl, hr⟩ := RRet.box hu11 f11 hb11 sz1 h.ext.size l11 szb p12
    (repeat' first | ((with_reducible refine aG ?_); go_step) | ((with_reducible refine aE ?_); first | refine aL ?_ | (refine aJ ?_ ?_ <;> intro hc)) | fail)
    refine bodyPost_ret (bE (cs := bG _ u1 u2) rfl rfl p12.this (show bK Tryz.prog 33 7 = true by decide +kernel)) rfl ?_
    rw [hE, hR]
    exact hr
   ·by_cases k5 : jj.1 = 5
    ·have hE : t.reply m = (({ t with got := t.got ++ (t.of m.an t.qn 5).take 1 }.follow jj.2).1, ({ t with got := t.got ++ (t.of m.an t.qn 5).take 1 }.follow jj.2).2, cJ ((t.of m.an t.qn 5).take 1) (sV m)) := by
      unfold TaskR.reply
      simp only [hst, hjj, k5, if_true, if_neg (show ¬ (5 : Int) = 1 by decide)]
     have hne := zA (t := t) (m := m) (by rw [hjj]; exact k5)
     (repeat' first | ((with_reducible refine aG ?_); go_step) | ((with_reducible refine aE ?_); first | refine aL ?_ | (refine aJ ?_ ?_ <;> intro hc)) | fail)
     refine aM (enters_of Tryz.func45 rfl rfl) rfl rfl (wW ⟨_, _, _, _, hh6⟩ a m.an t.qn 5 hm6.an (by omega)) ?_
     intro lv w7 x7 o7
     refine aA ?_
     have hLl := fH t m.an t.qn 5
     generalize hL : t.of m.an t.qn 5 = L at *
     have hh7 := hh6.grow x7
     have hpt7 := hpt6.ext x7
     have hb7 := x7.at hb6
     have s7 := o7.sl
     have hcL := aU L
     have hgb : ∀ r, gv.ownBlock = some r → w0.heap.size ≤ r ∧ r < w.heap.size := h.gs.block
     have hgl := hB.got
     have sz06 := x06.size
     have hcut : ∀ {w : World}, Sl 4 w lv (aI L) → Sl 4 w (cB lv 4 0 1) (aI (L.take 1)) := fun h => by
      have := h.cut (m := 0) (n := 1) (by omega) (by omega)
      rw [List.drop_zero] at this
      rw [aI, List.map_take]
      exact this
     (repeat' first | ((with_reducible refine aG ?_); go_step) | ((with_reducible refine aE ?_); first | refine aL ?_ | (refine aJ ?_ ?_ <;> intro hc)) | fail)
     refine eG (v0 := gv) (es := aI t.got) (fs := aI (L.take 1)) rfl hh7.gs rfl (hcut o7.sl) oU hh7.ext.size (by rw [aU, aU, List.length_take]; omega) ?_
     intro gv8 w8 o8 m8 hk8
     refine aA ?_
     have o8' : Own w0.heap.size 4 64 w8 gv8 (aI (t.got ++ L.take 1)) := by rw [oX]; exact o8
     have b8 := m8.at hh7.blk (fun e => hh7.gs.neBlock hh7.blk (by decide) e.symm)
     have lvb : lv.ownBlock = none ∨ lv.ownBlock ≠ gv.ownBlock := by
      cases hv : lv.ownBlock with
      | none => exact .inl rfl
      | some r =>
       refine .inr fun e => ?_
       have q1 := (o7.block r hv).1
       have q2 := (hgb r e.symm).2
       omega
     have l8 := o7.mv m8 lvb
     (repeat' first | ((with_reducible refine aG ?_); go_step) | ((with_reducible refine aE ?_); first | refine aL ?_ | (refine aJ ?_ ?_ <;> intro hc)) | fail)
     refine bF (n := 5) (v := gv8) b8 rfl rfl rfl (by simp [bN]) (by decide +kernel) o8'.one ?_
     intro w9 p9
     have hT9 := hh7.gotp hst m8 o8' p9
     have hbn := (Array.getElem?_eq_some_iff.1 h.blk).1
     have sz1 := x1.size
     have hn9 : some w1.heap.size ≠ some b := by intro e; have := Option.some.inj e; omega
     have hb9 := p9.mv.at (m8.at hb7 (by intro e; have := hgb _ e.symm; omega)) hn9
     have l9 := l8.mv p9.mv (.inr (l8.neBlock b8 (by decide)))
     have o9 := o8'.mv p9.mv (.inr (o8'.neBlock b8 (by decide)))
     have hpt9 := aC (cs := bN { t with got := t.got ++ L.take 1 } rv sv gv8 (.pointer none)) hT9.blk
     have f9 : Fr b gv w w9 := ((Fr.of (x06.trans x7)).mv m8 (fun c hc => .inr (.inl hc))).mv p9.mv (by rintro c ⟨⟩; exact .inl rfl)
     clear hpt6 hpt7 hp6 hpq6 o8 l8
     (repeat' first | ((with_reducible refine aG ?_); go_step) | ((with_reducible refine aE ?_); first | refine aL ?_ | (refine aJ ?_ ?_ <;> intro hc)) | fail)
     refine aO (vs := [.pointer (some ⟨b, 0, none⟩), aF jj.2]) (enters_of Tryz.func48 rfl rfl) rfl rfl (zD ⟨_, _, _, _, hT9⟩ jj.2 hB.l0 (Int.le_trans hB.l1 (by decide)) hB.c0 hB.c1) ?_
     rintro e10 w10 ⟨u10, rfl, hu10, hm10⟩
     refine ⟨_, rfl, ?_⟩
     refine aA ?_
     have l10 := l9.mv hm10 (.inr (l9.neBlock hT9.blk (by decide)))
     have hb10 := hm10.at hb9 hn9
     (repeat' first | ((with_reducible refine aG ?_); go_step) | ((with_reducible refine aE ?_); first | refine aL ?_ | (refine aJ ?_ ?_ <;> intro hc)) | fail)
     refine aM (enters_of Tryz.func47 rfl rfl) rfl rfl (kX (cB lv 4 0 1) (L.take 1) _ _ (hcut l10.sl) (by rw [List.length_take]; omega)) ?_
     intro ll w11 x11 l11
     refine aA ?_
     have hu11 := hu10.ext x11
     have hb11 := x11.at hb10
     have f11 := (f9.mv hm10 (by rintro c ⟨⟩; exact .inl rfl)).ext x11
     have szb := (Array.getElem?_eq_some_iff.1 hb10).1
     refine aD (v := u10) rfl rfl rfl hb11 (by rw [hu11.1.size]; exact (show aN Tryz.prog 33 7 = true by decide +kernel)) (by rw [hu11.1.size]; rfl) hu11.1.one ?_
     intro w12 p12
     obtain ⟨u1, u2, rfl, hr⟩ := RRet.box hu11 f11 hb11 sz1 h.ext.size l11 szb p12
     (repeat' first | ((with_reducible refine aG ?_); go_step) | ((with_reducible refine aE ?_); first | refine aL ?_ | (refine aJ ?_ ?_ <;> intro hc)) | fail)
     refine bodyPost_ret (bE (cs := bG _ u1 u2) rfl rfl p12.this (show bK Tryz.prog 33 7 = true by decide +kernel)) rfl ?_
     rw [hE, hR]
     exact hr
    ·have hm6' := hm6
     by_cases k3 : jj.1 = 3
     ·have hE : t.reply m = ((t.done 3 t.got ((t.of m.au jj.2 6).take 1)).1, (t.done 3 t.got ((t.of m.au jj.2 6).take 1)).2, []) := by
       unfold TaskR.reply
       simp only [hst, hjj, k3, if_true, if_neg (show ¬ (3 : Int) = 1 by decide), if_neg (show ¬ (3 : Int) = 5 by decide)]
      have hne := qL (t := t) (m := m) (by rw [hjj]; exact .inr k3)
      rw [hjj] at hne
      have hLl := fH t m.au jj.2 6
      have hof := fun w (h : TaskV w0 w b t rv sv gv (.pointer none)) (hmm : MsgV w m q a u e) => wW ⟨_, _, _, _, h⟩ u m.au jj.2 6 hmm.au (by omega)
      generalize hL : t.of m.au jj.2 6 = L at *
      have hcL := aU L
      have hgl := hB.got
      (repeat' first | ((with_reducible refine aG ?_); go_step) | ((with_reducible refine aE ?_); first | refine aL ?_ | (refine aJ ?_ ?_ <;> intro hc)) | fail)
      refine cZ 11 (Ext w6) (by decide +kernel) ?_
      intro w7 x7 _
      refine ⟨x7, ?_⟩
      refine iV 0 ?_; refine iV 1 ?_; refine iV 2 ?_; refine iV 3 ?_; refine iV 4 ?_; refine iV 5 ?_; refine iV 6 ?_; refine iV 7 ?_; refine iV 8 ?_
      refine cE (i := 9) (by decide +kernel) rfl rfl ?_
      refine aM (enters_of Tryz.func45 rfl rfl) rfl rfl (hof _ (hh6.grow x7) (hm6.ext x7)) ?_
      intro lv w8 x8 o8
      refine aA ?_
      have x68 := x7.trans x8
      refine aS ⟨dV x68, ?_⟩
      have sL := o8.sl
      refine cE (i := 10) (by decide +kernel) rfl rfl ?_
      ((with_reducible refine aE ?_); (first | (refine lC ?_; refine iR ?_) | (refine mS ?_; refine pI ?_; (with_reducible refine aE ?_); refine lC ?_; refine iR ?_)))
      refine aS ⟨dV x68, ?_⟩
      have hh8 := hh6.grow x68
      have szx := x68.size
      have o8c : Own w0.heap.size 4 64 w8 (cB lv 4 0 1) (aI (L.take 1)) := by
       have := o8.cut1 (by omega)
       rw [aI, List.map_take]
       exact this.weaken (by have := h.ext.size; have := x06.size; have := x7.size; omega)
      refine cE (i := 11) (by decide +kernel) rfl rfl ?_
      refine aO (vs := [.pointer (some ⟨b, 0, none⟩), .int .i64 3, gv, cB lv 4 0 1]) (enters_of Tryz.func46 rfl rfl) rfl rfl (rB hh8 3 gv (cB lv 4 0 1) t.got (L.take 1) hh8.gs o8c (by omega) (by rw [List.length_take]; omega)) ?_
      rintro e9 w9 ⟨u9, rfl, hu9, hm9⟩
      refine ⟨_, rfl, ?_⟩
      refine aA ?_
      refine aS ⟨cO rfl, ?_⟩
      refine cE (i := 12) (by decide +kernel) rfl rfl ?_
      have sz1 := x1.size
      have hbn := (Array.getElem?_eq_some_iff.1 h.blk).1
      have hn9 : some w1.heap.size ≠ some b := by intro e; have := Option.some.inj e; omega
      have hb9 := hm9.at (x68.at hb6) hn9
      refine aD (v := u9) rfl rfl rfl hb9 (by rw [hu9.1.size]; exact (show aN Tryz.prog 33 7 = true by decide +kernel)) (by rw [hu9.1.size]; rfl) hu9.1.one ?_
      intro w10 p10
      refine aS ⟨cO rfl, ?_⟩
      obtain ⟨u1, u2, rfl, hr⟩ := TRet.box hu9 (((x06.trans x68).mv (some b)).trans hm9) hb9 sz1 h.ext.size p10
      refine cE (i := 13) (by decide +kernel) rfl rfl ?_
      ((with_reducible refine aE ?_); (first | (refine lC ?_; refine iR ?_) | (refine mS ?_; refine pI ?_; (with_reducible refine aE ?_); refine lC ?_; refine iR ?_)))
      refine aS ⟨cO rfl, ?_⟩
      refine eF (by decide +kernel) ?_
      (repeat' first | ((with_reducible refine aG ?_); go_step) | ((with_reducible refine aE ?_); first | refine aL ?_ | (refine aJ ?_ ?_ <;> intro hc)) | fail)
      refine bodyPost_ret (bE (cs := bG _ u1 u2) rfl rfl p10.this (show bK Tryz.prog 33 7 = true by decide +kernel)) rfl ?_
      rw [hE]
      exact hr.tup
     ·by_cases k2 : jj.1 = 2
      ·have hE : t.reply m = ((t.done 0 t.got ((t.of m.au jj.2 6).take 1)).1, (t.done 0 t.got ((t.of m.au jj.2 6).take 1)).2, []) := by
        unfold TaskR.reply
        simp only [hst, hjj, k2, if_true, if_neg (show ¬ (2 : Int) = 1 by decide), if_neg (show ¬ (2 : Int) = 5 by decide), if_neg (show ¬ (2 : Int) = 3 by decide)]
       have hne := qL (t := t) (m := m) (by rw [hjj]; exact .inl k2)
       rw [hjj] at hne
       have hLl := fH t m.au jj.2 6
       have hof := fun w (h : TaskV w0 w b t rv sv gv (.pointer none)) (hmm : MsgV w m q a u e) => wW ⟨_, _, _, _, h⟩ u m.au jj.2 6 hmm.au (by omega)
       generalize hL : t.of m.au jj.2 6 = L at *
       have hcL := aU L
       have hgl := hB.got
       (repeat' first | ((with_reducible refine aG ?_); go_step) | ((with_reducible refine aE ?_); first | refine aL ?_ | (refine aJ ?_ ?_ <;> intro hc)) | fail)
       refine cZ 11 (Ext w6) (by decide +kernel) ?_
       intro w7 x7 _
       refine ⟨x7, ?_⟩
       refine iV 0 ?_; refine iV 1 ?_; refine iV 2 ?_; refine iV 3 ?_; refine iV 4 ?_; refine iV 5 ?_; refine iV 6 ?_; refine iV 7 ?_; refine iV 8 ?_
       refine cE (i := 9) (by decide +kernel) rfl rfl ?_
       refine aM (enters_of Tryz.func45 rfl rfl) rfl rfl (hof _ (hh6.grow x7) (hm6.ext x7)) ?_
       intro lv w8 x8 o8
       refine aA ?_
       have x68 := x7.trans x8
       refine aS ⟨dV x68, ?_⟩
       have sL := o8.sl
       refine cE (i := 10) (by decide +kernel) rfl rfl ?_
       ((with_reducible refine aE ?_); (first | (refine lC ?_; refine iR ?_) | (refine mS ?_; refine pI ?_; (with_reducible refine aE ?_); refine lC ?_; refine iR ?_)))
       refine aS ⟨dV x68, ?_⟩
       have hh8 := hh6.grow x68
       have szx := x68.size
       have o8c : Own w0.heap.size 4 64 w8 (cB lv 4 0 1) (aI (L.take 1)) := by
        have := o8.cut1 (by omega)
        rw [aI, List.map_take]
        exact this.weaken (by have := h.ext.size; have := x06.size; have := x7.size; omega)
       refine cE (i := 11) (by decide +kernel) rfl rfl ?_
       refine aO (vs := [.pointer (some ⟨b, 0, none⟩), .int .i64 0, gv, cB lv 4 0 1]) (enters_of Tryz.func46 rfl rfl) rfl rfl (rB hh8 0 gv (cB lv 4 0 1) t.got (L.take 1) hh8.gs o8c (by omega) (by rw [List.length_take]; omega)) ?_
       rintro e9 w9 ⟨u9, rfl, hu9, hm9⟩
       refine ⟨_, rfl, ?_⟩
       refine aA ?_
       refine aS ⟨cO rfl, ?_⟩
       refine cE (i := 12) (by decide +kernel) rfl rfl ?_
       have sz1 := x1.size
       have hbn := (Array.getElem?_eq_some_iff.1 h.blk).1
       have hn9 : some w1.heap.size ≠ some b := by intro e; have := Option.some.inj e; omega
       have hb9 := hm9.at (x68.at hb6) hn9
       refine aD (v := u9) rfl rfl rfl hb9 (by rw [hu9.1.size]; exact (show aN Tryz.prog 33 7 = true by decide +kernel)) (by rw [hu9.1.size]; rfl) hu9.1.one ?_
       intro w10 p10
       refine aS ⟨cO rfl, ?_⟩
       obtain ⟨u1, u2, rfl, hr⟩ := TRet.box hu9 (((x06.trans x68).mv (some b)).trans hm9) hb9 sz1 h.ext.size p10
       refine cE (i := 13) (by decide +kernel) rfl rfl ?_
       ((with_reducible refine aE ?_); (first | (refine lC ?_; refine iR ?_) | (refine mS ?_; refine pI ?_; (with_reducible refine aE ?_); refine lC ?_; refine iR ?_)))
       refine aS ⟨cO rfl, ?_⟩
       refine eF (by decide +kernel) ?_
       (repeat' first | ((with_reducible refine aG ?_); go_step) | ((with_reducible refine aE ?_); first | refine aL ?_ | (refine aJ ?_ ?_ <;> intro hc)) | fail)
       refine bodyPost_ret (bE (cs := bG _ u1 u2) rfl rfl p10.this (show bK Tryz.prog 33 7 = true by decide +kernel)) rfl ?_
       rw [hE]
       exact hr.tup
      ·by_cases k4 : jj.1 = 4
       ·have hE : t.reply m = ((t.refer m jj.2).1.on.1, (t.refer m jj.2).1.on.2, (t.refer m jj.2).2) := by
         unfold TaskR.reply
         simp only [hst, hjj, k4, if_true, if_neg (show ¬ (4 : Int) = 1 by decide), if_neg (show ¬ (4 : Int) = 5 by decide), if_neg (show ¬ (4 : Int) = 3 by decide), if_neg (show ¬ (4 : Int) = 2 by decide)]
        (repeat' first | ((with_reducible refine aG ?_); go_step) | ((with_reducible refine aE ?_); first | refine aL ?_ | (refine aJ ?_ ?_ <;> intro hc)) | fail)
        refine bD (v := .agg (dF m q a u e).toArray) (Runs.loadN hp6 rfl (show bK Tryz.prog 25 13 = true by decide +kernel)) ?_
        refine aA ?_
        (repeat' first | ((with_reducible refine aG ?_); go_step) | ((with_reducible refine aE ?_); first | refine aL ?_ | (refine aJ ?_ ?_ <;> intro hc)) | fail)
        refine aO (vs := [.pointer (some ⟨b, 0, none⟩), .agg (dF m q a u e).toArray, aF jj.2]) (enters_of Tryz.func49 rfl rfl) rfl rfl (AO ⟨_, _, _, _, hh6⟩ m q a u e jj.2 (fun w' h' => hm w' ((x06.mv _).trans h')) hst (by omega) (by omega) (hd1 jj.2) (hd2)) ?_
        rintro e7 w7 ⟨ll, rfl, l7, hT7, hm7⟩
        refine ⟨_, rfl, ?_⟩
        refine aA ?_
        have sz1 := x1.size
        have hbn := (Array.getElem?_eq_some_iff.1 h.blk).1
        have hn9 : some w1.heap.size ≠ some b := by intro e; have := Option.some.inj e; omega
        have hb7 := hm7.at hb6 hn9
        (repeat' first | ((with_reducible refine aG ?_); go_step) | ((with_reducible refine aE ?_); first | refine aL ?_ | (refine aJ ?_ ?_ <;> intro hc)) | fail)
        refine aO (vs := [.pointer (some ⟨b, 0, none⟩)]) (enters_of Tryz.func50 rfl rfl) rfl rfl (zC hT7 hB.l0 (Int.le_trans hB.l1 (by decide))) ?_
        rintro e8 w8 ⟨u8, rfl, hu8, hm8⟩
        refine ⟨_, rfl, ?_⟩
        refine aA ?_
        have szb6 := (Array.getElem?_eq_some_iff.1 hb6).1
        have l8 := l7.mvb hm8 (by have := x06.size; omega)
        have hb8 := hm8.at hb7 hn9
        have f8 := ((Fr.of x06).mv hm7 (gv := gv) (b := b) (by rintro c ⟨⟩; exact .inl rfl)).mv hm8 (by rintro c ⟨⟩; exact .inl rfl)
        (repeat' first | ((with_reducible refine aG ?_); go_step) | ((with_reducible refine aE ?_); first | refine aL ?_ | (refine aJ ?_ ?_ <;> intro hc)) | fail)
        refine aD (v := u8) rfl rfl rfl hb8 (by rw [hu8.1.size]; exact (show aN Tryz.prog 33 7 = true by decide +kernel)) (by rw [hu8.1.size]; rfl) hu8.1.one ?_
        intro w12 p12
        obtain ⟨u1, u2, rfl, hr⟩ := RRet.box hu8 f8 hb8 sz1 h.ext.size l8 szb6 p12
        (repeat' first | ((with_reducible refine aG ?_); go_step) | ((with_reducible refine aE ?_); first | refine aL ?_ | (refine aJ ?_ ?_ <;> intro hc)) | fail)
        refine bodyPost_ret (bE (cs := bG _ u1 u2) rfl rfl p12.this (show bK Tryz.prog 33 7 = true by decide +kernel)) rfl ?_
        rw [hE]
        exact hr
       ·have hE : t.reply m = (t.on.1, t.on.2, []) := by
         unfold TaskR.reply
         simp only [hst, hjj, if_neg k1, if_neg k5, if_neg k3, if_neg k2, if_neg k4]
        (repeat' first | ((with_reducible refine aG ?_); go_step) | ((with_reducible refine aE ?_); first | refine aL ?_ | (refine aJ ?_ ?_ <;> intro hc)) | fail)
        refine aO (vs := [.pointer (some ⟨b, 0, none⟩)]) (enters_of Tryz.func50 rfl rfl) rfl rfl (zC ⟨_, _, _, _, hh6⟩ hB.l0 (Int.le_trans hB.l1 (by decide))) ?_
        rintro e8 w8 ⟨u8, rfl, hu8, hm8⟩
        refine ⟨_, rfl, ?_⟩
        refine aA ?_
        have sz1 := x1.size
        have hbn := (Array.getElem?_eq_some_iff.1 h.blk).1
        have hn9 : some w1.heap.size ≠ some b := by intro e; have := Option.some.inj e; omega
        have hb8 := hm8.at hb6 hn9
        refine aD (v := u8) rfl rfl rfl hb8 (by rw [hu8.1.size]; exact (show aN Tryz.prog 33 7 = true by decide +kernel)) (by rw [hu8.1.size]; rfl) hu8.1.one ?_
        intro w10 p10
        obtain ⟨u1, u2, rfl, hr⟩ := TRet.box hu8 ((x06.mv (some b)).trans hm8) hb8 sz1 h.ext.size p10
        (repeat' first | ((with_reducible refine aG ?_); go_step) | ((with_reducible refine aE ?_); first | refine aL ?_ | (refine aJ ?_ ?_ <;> intro hc)) | fail)
        refine bodyPost_ret (bE (cs := bG _ u1 u2) rfl rfl p10.this (show bK Tryz.prog 33 7 = true by decide +kernel)) rfl ?_
        rw [hE]
        exact hr.tup)
abbrev gZ := Bool × MsgR
def AS (s : gZ) (q a u e : Value) : List Value := .bool s.1 :: dF s.2 q a u e
structure RopsAt (w : World) (v : Value) (l : List gZ) : Prop where
 out : ∃ css, Sl 14 w v css ∧ css.length = l.length ∧ ∀ (i : Nat) (s : gZ), l[i]? = some s → ∃ q a u e, css[i]? = some (AS s q a u e) ∧ MsgV w s.2 q a u e
theorem RopsAt.ext {w w' : World} {v : Value} {l : List gZ} (h : RopsAt w v l) (hx : Ext w w') : RopsAt w' v l := by
 obtain ⟨css, h1, h2, h3⟩ := h
 exact ⟨css, h1.ext hx, h2, fun i s hi => let ⟨q, a, u, e, h4, h5⟩ := h3 i s hi; ⟨q, a, u, e, h4, h5.ext hx⟩⟩
def dM (qn : List UInt8) (qt : Int) (rv : Value) (budget : Int) (lv : Value) : List Value := [aF qn, .int .i64 qt, rv, .int .i64 budget, lv]
def rD (qn : List UInt8) (roots : List Int) (l : List gZ) : Bool := decide (qn.length ≤ 300) && decide (roots.length ≤ 30) && decide (l.length ≤ 20) && l.all (fun s => kU s.2)
set_option maxHeartbeats 2000000 in
theorem AT (qn : List UInt8) (qt : Int) (rv : Value) (roots : List Int) (budget : Int) (lv : Value) (l : List gZ) (w : World) (hr : Sl 1 w rv (aZ roots)) (hl : RopsAt w lv l) : Calls Tryz.prog 23 #[.agg (dM qn qt rv budget lv).toArray] w (bU w (.bool (rD qn roots l))) := by
 have hrl : (aZ roots).length = roots.length := List.length_map ..
 have hrle := hr.le
 obtain ⟨css, h1, h2, h3⟩ := hl
 have hcle := h1.le
 go_enter Tryz.func23, Tryz.ntmps23
 repeat' (first | ((with_reducible refine aG ?_); go_step) | fail)
 refine cQ (vs := dM qn qt rv budget lv) rfl rfl ?_
 intro w1 x1 s1 hb1
 refine aA ?_
 have hp := aC (cs := dM qn qt rv budget lv) hb1
 have hr1 := hr.ext x1
 have h11 := h1.ext x1
 by_cases c1 : qn.length ≤ 300
 ·by_cases c2 : roots.length ≤ 30
  ·by_cases c3 : l.length ≤ 20
   ·have hE : rD qn roots l = l.all (fun s => kU s.2) := by rw [rD, decide_eq_true c1, decide_eq_true c2, decide_eq_true c3]; rfl
    (repeat' first | ((with_reducible refine aG ?_); go_step) | ((with_reducible refine aE ?_); first | refine aL ?_ | (refine aJ ?_ ?_ <;> intro hc)) | fail)
    all_goals first
     | (exfalso; omega)
     | skip
    go_loopw [3] (fun i wr => ∃ k : Nat, k ≤ l.length ∧ i = .int .i64 k ∧ Ext w1 wr ∧ (l.take k).all (fun s => kU s.2) = true) (fun i _ => l.length - (intOf i).toNat)
    case atStart => exact ⟨0, Nat.zero_le _, rfl, Ext.refl _, rfl⟩
    case round =>
     obtain ⟨k, hk, rfl, hx, hall⟩ := hrel
     have hp2 := hp.ext hx
     have h12 := h11.ext hx
     by_cases hlt : k < l.length
     ·obtain ⟨q, a, u, e, hcs, hm⟩ := h3 k l[k] (List.getElem?_eq_getElem hlt)
      have hpe := h12.elem hcs
      have hpm : Pts wr (bA (cX lv (k * 14)) 1) (dF l[k].2 q a u e) := hpe.part 1
      (repeat' first | ((with_reducible refine aG ?_); go_step) | ((with_reducible refine aE ?_); first | refine aL ?_ | (refine aJ ?_ ?_ <;> intro hc)) | fail)
      refine bD (v := .agg (dF l[k].2 q a u e).toArray) (Runs.loadN hpm rfl (show bK Tryz.prog 25 13 = true by decide +kernel)) ?_
      refine aA ?_
      refine aB (enters_of Tryz.func14 rfl rfl) rfl rfl (CA l[k].2 q a u e _ (hm.ext (x1.trans hx))) ?_; intro w4 x4; refine aA ?_
      cases hf : kU l[k].2 with
      | false =>
       (repeat' first | ((with_reducible refine aG ?_); go_step) | ((with_reducible refine aE ?_); first | refine aL ?_ | (refine aJ ?_ ?_ <;> intro hc)) | fail)
       go_ret
       exact ⟨by rw [hE, oE hlt (p := fun s => kU s.2) hf]; rfl, x1.trans (hx.trans x4)⟩
      | true =>
       (repeat' first | ((with_reducible refine aG ?_); go_step) | ((with_reducible refine aE ?_); first | refine aL ?_ | (refine aJ ?_ ?_ <;> intro hc)) | fail)
       exact ⟨⟨k + 1, by omega, by go_num, hx.trans x4, iF hlt hall hf⟩, by simp [intOf]; omega⟩
     ·have : k = l.length := by omega
      subst this
      rw [List.take_length] at hall
      (repeat' first | ((with_reducible refine aG ?_); go_step) | ((with_reducible refine aE ?_); first | refine aL ?_ | (refine aJ ?_ ?_ <;> intro hc)) | fail)
      go_ret
      exact ⟨by rw [hE, hall]; rfl, x1.trans hx⟩
   ·(repeat' first | ((with_reducible refine aG ?_); go_step) | ((with_reducible refine aE ?_); first | refine aL ?_ | (refine aJ ?_ ?_ <;> intro hc)) | fail)
    all_goals first
     | (exfalso; omega)
     | skip
    go_ret
    exact ⟨by rw [rD, decide_eq_false c3, Bool.and_false]; rfl, x1⟩
  ·(repeat' first | ((with_reducible refine aG ?_); go_step) | ((with_reducible refine aE ?_); first | refine aL ?_ | (refine aJ ?_ ?_ <;> intro hc)) | fail)
   all_goals first
    | (exfalso; omega)
    | skip
   go_ret
   exact ⟨by rw [rD, decide_eq_false c2, Bool.and_false]; rfl, x1⟩
 ·(repeat' first | ((with_reducible refine aG ?_); go_step) | ((with_reducible refine aE ?_); first | refine aL ?_ | (refine aJ ?_ ?_ <;> intro hc)) | fail)
  all_goals first
   | (exfalso; omega)
   | skip
  go_ret
  exact ⟨by rw [rD, decide_eq_false c1]; rfl, x1⟩
open Go.ChangeShapes Go.WideShapes Go.ChangeAt Go.RowKit
theorem xC {H : Type} {enc : TypeId × Value → H} {w : World} {base : Nat} {spare : Nat → Bool} {held : Bool} {fuel : Nat} {v : Value} {x : DataW H × List MemPlace} (h : DataW.trod enc Tryz.prog w base spare held fuel 45 [v] = some x) : ∃ l : List Int, Sl 1 w v (aZ l) := by
 obtain ⟨es, hs, he⟩ := iL Tryz.underlying45 (show Tryz.prog.cellsOf 3 = 1 by kernel_rfl) (by omega) h
 obtain ⟨l, rfl⟩ : ∃ l : List Int, es = l.map fun n => [.int .i64 n] := by
  refine kF fun c hc => ?_
  obtain ⟨n, y, hy⟩ := he c hc
  have hl : c.length = 1 := by
   obtain ⟨_, _, _, _, _, h4, _, _⟩ := hs
   exact h4 c hc
  match c, hl with
  | [a], _ =>
   obtain ⟨n0, rfl, _⟩ := dH Tryz.underlying3 hy
   exact ⟨n0, rfl⟩
 exact ⟨l, hs⟩
theorem zE {H : Type} {enc : TypeId × Value → H} {w : World} {base : Nat} {spare : Nat → Bool} {held : Bool} {fuel : Nat} {cl : List Value} {x : DataW H × List MemPlace} (h : DataW.trod enc Tryz.prog w base spare held fuel 54 cl = some x) : ∃ (s : gZ) (q a u e : Value), cl = AS s q a u e ∧ MsgV w s.2 q a u e := by
 obtain ⟨xs, n', _, _, hl, hxl, hf⟩ := DataW.trod_struct Tryz.underlying54 h
 have c4 : Tryz.prog.cellsOf 4 = 1 := by kernel_rfl
 have c7 : Tryz.prog.cellsOf 25 = 13 := by kernel_rfl
 have c8 : Tryz.prog.cellsOf 54 = 14 := by kernel_rfl
 rw [c8] at hl
 match cl, hl, xs, hxl with
 | [b0, a0, a1, a2, a3, a4, a5, a6, a7, a8, a9, a10, a11, a12], _, [y0, y1], _ =>
  have g0 := hf 0 _ rfl
  have g1 := hf 1 _ rfl
  simp [c4, c7] at g0 g1
  obtain ⟨n0, rfl⟩ := eR Tryz.underlying4 g0
  obtain ⟨m, q, a, u, e', em, hm⟩ := yP g1
  exact ⟨(n0, m), q, a, u, e', by rw [AS, ← em], hm⟩
theorem xD {H : Type} {enc : TypeId × Value → H} {w : World} {base : Nat} {spare : Nat → Bool} {held : Bool} {fuel : Nat} {v : Value} {x : DataW H × List MemPlace} (h : DataW.trod enc Tryz.prog w base spare held fuel 46 [v] = some x) : ∃ l : List gZ, RopsAt w v l := by
 obtain ⟨es, hs, he⟩ := iL Tryz.underlying46 (show Tryz.prog.cellsOf 54 = 14 by kernel_rfl) (by omega) h
 obtain ⟨l, rfl⟩ : ∃ l : List {p : gZ × Value × Value × Value × Value // MsgV w p.1.2 p.2.1 p.2.2.1 p.2.2.2.1 p.2.2.2.2}, es = l.map fun p => AS p.1.1 p.1.2.1 p.1.2.2.1 p.1.2.2.2.1 p.1.2.2.2.2 := by
  refine kF fun c hc => ?_
  obtain ⟨n, y, hy⟩ := he c hc
  obtain ⟨m, q, a, u, e, rfl, hu⟩ := zE hy
  exact ⟨⟨(m, q, a, u, e), hu⟩, rfl⟩
 refine ⟨l.map fun p => p.1.1, _, hs, by simp, ?_⟩
 intro i s hi
 rw [List.getElem?_map] at hi
 obtain ⟨p, hp, rfl⟩ := Option.map_eq_some_iff.1 hi
 exact ⟨p.1.2.1, p.1.2.2.1, p.1.2.2.2.1, p.1.2.2.2.2, by rw [List.getElem?_map, hp]; rfl, p.2⟩
theorem uH {H : Type} {enc : TypeId × Value → H} {w : World} {base : Nat} {spare : Nat → Bool} {held : Bool} {fuel : Nat} {c : Array Value} {x : DataW H × List MemPlace} (h : DataW.trod enc Tryz.prog w base spare held fuel 48 (Value.agg c).cells.toList = some x) :
 ∃ (qn : List UInt8) (qt : Int) (rv : Value) (roots : List Int) (budget : Int) (lv : Value) (l : List gZ), c = (dM qn qt rv budget lv).toArray ∧ Sl 1 w rv (aZ roots) ∧ RopsAt w lv l := by
 have e : (Value.agg c).cells.toList = c.toList := rfl
 rw [e] at h
 obtain ⟨xs, n', _, _, hl, hxl, hf⟩ := DataW.trod_struct Tryz.underlying48 h
 have c2 : Tryz.prog.cellsOf 29 = 1 := by kernel_rfl
 have c3 : Tryz.prog.cellsOf 3 = 1 := by kernel_rfl
 have c5 : Tryz.prog.cellsOf 45 = 1 := by kernel_rfl
 have c6 : Tryz.prog.cellsOf 46 = 1 := by kernel_rfl
 have c7 : Tryz.prog.cellsOf 31 = 2 := by kernel_rfl
 have c8 : Tryz.prog.cellsOf 48 = 5 := by kernel_rfl
 rw [c8] at hl
 obtain ⟨cl⟩ := c
 match cl, hl, xs, hxl with
 | [a0, a1, b1, b2, b3], _, [y0, y1, y2, y3], _ =>
  have g0 := hf 0 _ rfl
  have g1 := hf 1 _ rfl
  have g2 := hf 2 _ rfl
  have g3 := hf 3 _ rfl
  simp [c3, c5, c6, c7] at g0 g1 g2 g3
  obtain ⟨l, hls⟩ := xC g1
  obtain ⟨n2, rfl, _⟩ := dH Tryz.underlying3 g2
  obtain ⟨ms, hms⟩ := xD g3
  obtain ⟨xs', n'', _, _, hl', hxl', hf'⟩ := DataW.trod_struct Tryz.underlying31 g0
  match xs', hxl' with
  | [z0, z1], _ =>
   have k0 := hf' 0 _ rfl
   have k1 := hf' 1 _ rfl
   simp [c2, c3] at k0 k1
   obtain ⟨s0, rfl, _⟩ := kE Tryz.underlying29 k0
   obtain ⟨n1, rfl, _⟩ := dH Tryz.underlying3 k1
   exact ⟨s0, n1, b1, l, n2, b3, ms, rfl, hls, hms⟩
theorem CH (n : Int) (w : World) : Calls Tryz.prog 56 #[.int .i64 n] w (bU w (.bool (!(decide (0 ≤ n) && decide (n ≤ 99))))) := by
 go_enter Tryz.func56, Tryz.ntmps56
 (repeat' first | ((with_reducible refine aG ?_); go_step) | ((with_reducible refine aE ?_); first | refine aL ?_ | (refine aJ ?_ ?_ <;> intro hc)) | fail)
 refine aB (enters_of Tryz.func54 rfl rfl) rfl rfl (BG n 0 99 _) ?_; intro w1 x1; refine aA ?_
 (repeat' first | ((with_reducible refine aG ?_); go_step) | ((with_reducible refine aE ?_); first | refine aL ?_ | (refine aJ ?_ ?_ <;> intro hc)) | fail)
 go_ret
 exact ⟨rfl, x1⟩
def BL (f : FuncId) (l : List Int) (p : Int → Bool) : Prop := ∀ n ∈ l, ∀ w', Calls Tryz.prog f #[.int .i64 n] w' (bU w' (.bool (p n)))
set_option maxHeartbeats 1000000 in
theorem rE (v : Value) (l : List Int) (f : FuncId) (p : Int → Bool) (w : World) (hv : Sl 1 w v (aZ l)) (he : Enters Tryz.prog f) (hf : BL f l p) : Calls Tryz.prog 105 #[v, .func (.func f) #[] #[]] w (bU w (.int .i64 (pA p l))) := by
 have hle := hv.le
 have hlen : (aZ l).length = l.length := List.length_map ..
 go_enter Tryz.func105, Tryz.ntmps105
 (repeat' first | ((with_reducible refine aG ?_); go_step) | ((with_reducible refine aE ?_); first | refine aL ?_ | (refine aJ ?_ ?_ <;> intro hc)) | fail)
 go_loopw [5, 8] (fun _ i wr => ∃ k : Nat, k ≤ l.length ∧ i = .int .i64 k ∧ Ext w wr ∧ (l.take k).any p = false) (fun _ i _ => l.length - (intOf i).toNat)
 case atStart => exact ⟨0, Nat.zero_le _, rfl, Ext.refl _, rfl⟩
 case round =>
  obtain ⟨k, hk, rfl, hx, hall⟩ := hrel
  have hv2 := hv.ext hx
  by_cases hlt : k < l.length
  ·have hpe := hv2.elem (wK hlt)
   (repeat' first | ((with_reducible refine aG ?_); go_step) | ((with_reducible refine aE ?_); first | refine aL ?_ | (refine aJ ?_ ?_ <;> intro hc)) | fail)
   refine cR he rfl rfl rfl (hf _ (List.getElem_mem hlt) _) ?_
   rintro e w2 ⟨rfl, x2⟩
   refine ⟨_, rfl, ?_⟩
   refine aA ?_
   cases hp : p l[k] with
   | true =>
    (repeat' first | ((with_reducible refine aG ?_); go_step) | ((with_reducible refine aE ?_); first | refine aL ?_ | (refine aJ ?_ ?_ <;> intro hc)) | fail)
    go_ret
    exact ⟨by rw [yH hlt hall hp]; rfl, hx.trans x2⟩
   | false =>
    (repeat' first | ((with_reducible refine aG ?_); go_step) | ((with_reducible refine aE ?_); first | refine aL ?_ | (refine aJ ?_ ?_ <;> intro hc)) | fail)
    exact ⟨⟨k + 1, by omega, by go_num, hx.trans x2, sC hlt hall hp⟩, by simp [intOf]; omega⟩
  ·have : k = l.length := by omega
   subst this
   rw [List.take_length] at hall
   (repeat' first | ((with_reducible refine aG ?_); go_step) | ((with_reducible refine aE ?_); first | refine aL ?_ | (refine aJ ?_ ?_ <;> intro hc)) | fail)
   go_ret
   exact ⟨by rw [yI hall]; rfl, hx⟩
theorem mW (v : Value) (l : List Int) (f : FuncId) (p : Int → Bool) (w : World) (hv : Sl 1 w v (aZ l)) (he : Enters Tryz.prog f) (hf : BL f l p) : Calls Tryz.prog 55 #[v, .func (.func f) #[] #[]] w (bU w (.bool (l.any p))) := by
 go_enter Tryz.func55, Tryz.ntmps55
 (repeat' first | ((with_reducible refine aG ?_); go_step) | ((with_reducible refine aE ?_); first | refine aL ?_ | (refine aJ ?_ ?_ <;> intro hc)) | fail)
 refine aB (enters_of Tryz.func105 rfl rfl) rfl rfl (rE v l f p _ hv he hf) ?_; intro w1 x1; refine aA ?_
 (repeat' first | ((with_reducible refine aG ?_); go_step) | ((with_reducible refine aE ?_); first | refine aL ?_ | (refine aJ ?_ ?_ <;> intro hc)) | fail)
 go_ret
 exact ⟨by rw [← AC]; rfl, x1⟩
set_option maxHeartbeats 1000000 in
theorem zF (v : Value) (l : List Int) (w : World) (hv : Sl 1 w v (aZ l)) (hl : l.length ≤ 1000000) : Calls Tryz.prog 58 #[v] w (tG w fun v' w' => Own w.heap.size 1 3 w' v' (aZ l)) := by
 have hlen : (aZ l).length = l.length := List.length_map ..
 go_enter Tryz.func58, Tryz.ntmps58
 (repeat' first | ((with_reducible refine aG ?_); go_step) | ((with_reducible refine aE ?_); first | refine aL ?_ | (refine aJ ?_ ?_ <;> intro hc)) | fail)
 ·have hn := ‹uQ v = true›
  go_ret
  have : aZ l = [] := hv.isNil hn
  refine ⟨_, rfl, Ext.refl _, ?_⟩
  rw [this]
  exact Own.nil _ _ _ _
 ·refine nM (t := 45) (e := 3) (k := 1) (bytes := 8) (by decide +kernel) rfl ?_
  intro v2 w2 x2 s2 o2
  refine aA ?_
  (repeat' first | ((with_reducible refine aG ?_); go_step) | ((with_reducible refine aE ?_); first | refine aL ?_ | (refine aJ ?_ ?_ <;> intro hc)) | fail)
  refine jF (B := w.heap.size) (e := 3) (k := 1) (bytes := 8) (es := []) (fs := aZ l) rfl o2 rfl (hv.ext x2) (by decide +kernel) (by intro f hf u hu; obtain ⟨r, _, rfl⟩ := List.mem_map.1 hf; simp only [List.mem_cons, List.not_mem_nil, or_false] at hu; rcases hu with rfl; rfl) (by omega) (by simp; omega) (by simp; omega) ?_
  intro v3 w3 o3 m3
  have x3 := o2.mvx m3 x2 (Nat.le_refl _)
  refine aA ?_
  (repeat' first | ((with_reducible refine aG ?_); go_step) | ((with_reducible refine aE ?_); first | refine aL ?_ | (refine aJ ?_ ?_ <;> intro hc)) | fail)
  go_ret
  exact ⟨_, rfl, x3, o3⟩
section
variable {P : Program} {w : World} {ts : List Value} {df : List Deferred}
theorem dS {fn : Func} {q p r : Tmp} {t : TypeId} (h : fn.results = #[.tmp q, .cell p t, .tmp r]) {b : Nat} {cs : List Value} {ty0 : TypeId} {fr : Nat × Nat} (hp : ts.getD p undef = .pointer (some ⟨b, 0, none⟩)) (hb : w.heap[b]? = some (.cells cs.toArray ty0 fr)) (ht : bK P t cs.length = true) :
 (results fn ts.toArray).run P w = .ok (.tuple #[ts.getD q undef, .agg cs.toArray, ts.getD r undef]) w := by
 obtain ⟨u, ie, hu, hn, hie, hz⟩ := gF ht
 have hl := run_loadCells_list (P := P) w ⟨b, 0, none⟩ cs (fun j v hv => by rw [cA, Nat.zero_add, cell_of_row w b j _ _ _ hb]; simpa using hv)
 have hp' : ts[p]?.getD undef = .pointer (some ⟨b, 0, none⟩) := by simpa using hp
 simp [results, h, hp', asAddr, loadVar, Sem.run_bind, fP hu hn, sizeOf, typeInfo, hie, hz, hl, Result.andThen]
end
theorem xE {n a b : Int} {w : World} {c : Bool} (h : (decide (a ≤ n) && decide (n ≤ b)) = c) : Calls Tryz.prog 54 #[.int .i64 n, .int .i64 a, .int .i64 b] w (bU w (.bool c)) := h ▸ BG n a b w
def fN (w : World) (qn : List UInt8) (qt : Int) (rl : List Int) (budget : Int) (r : Value) (w' : World) : Prop :=
 if dL qn qt rl budget = 0 then ∃ b u, r = .tuple #[.pointer (some ⟨b, 0, none⟩), u, .int .i64 0] ∧ ActRet w b (dO qn qt rl budget).on u w'
 else r = .tuple #[.pointer none, .agg bT.toArray, .int .i64 1]
set_option maxHeartbeats 2000000 in
theorem zG (qn : List UInt8) (qt : Int) (v : Value) (rl : List Int) (budget : Int) (w : World) (hv : Sl 1 w v (aZ rl)) (hl : rl.length ≤ 1000000) : Calls Tryz.prog 24 #[.agg #[aF qn, .int .i64 qt], v, .int .i64 budget] w (tG w (fN w qn qt rl budget)) := by
 have hle := hv.le
 have hlen : (aZ rl).length = rl.length := List.length_map ..
 go_enter Tryz.func24, Tryz.ntmps24
 repeat' (first | ((with_reducible refine aG ?_); go_step) | fail)
 refine dB (vs := [aF qn, .int .i64 qt]) rfl rfl ?_
 intro pq w1 x1 hq
 refine aA ?_
 have hv1 := hv.ext x1
 (repeat' first | ((with_reducible refine aG ?_); go_step) | ((with_reducible refine aE ?_); first | refine aL ?_ | (refine aJ ?_ ?_ <;> intro hc)) | fail)
 refine aH (z := bT) rfl (by decide +kernel) ?_
 intro w2 x2 s2 h2
 refine aA ?_
 have hq2 := hq.ext x2
 (repeat' first | ((with_reducible refine aG ?_); go_step) | ((with_reducible refine aE ?_); first | refine aL ?_ | (refine aJ ?_ ?_ <;> intro hc)) | fail)
 have h27 := fun w => DT qn w
 by_cases c1 : fL qn = 0
 ·have e1 : (aP qn).isSome = true := by
   unfold fL at c1
   split at c1
   ·assumption
   ·cases c1
  rw [e1, if_pos rfl] at h27
  refine aB (enters_of Tryz.func53 rfl rfl) rfl rfl (h27 _) ?_; intro w3 x3; refine aA ?_
  have hq3 := hq2.ext x3
  by_cases c2 : 1 ≤ qt ∧ qt ≤ 65535
  ·(repeat' first | ((with_reducible refine aG ?_); go_step) | ((with_reducible refine aE ?_); first | refine aL ?_ | (refine aJ ?_ ?_ <;> intro hc)) | fail)
   refine aB (enters_of Tryz.func54 rfl rfl) rfl rfl (xE (c := true) (by rw [decide_eq_true c2.1, decide_eq_true c2.2]; rfl)) ?_; intro w4 x4; refine aA ?_
   by_cases c3 : 1 ≤ rl.length ∧ rl.length ≤ 20
   ·(repeat' first | ((with_reducible refine aG ?_); go_step) | ((with_reducible refine aE ?_); first | refine aL ?_ | (refine aJ ?_ ?_ <;> intro hc)) | fail)
    refine aB (enters_of Tryz.func54 rfl rfl) rfl rfl (xE (c := true) (by rw [hlen, decide_eq_true (by omega), decide_eq_true (by omega)]; rfl)) ?_; intro w5 x5; refine aA ?_
    by_cases c4 : 1 ≤ budget ∧ budget ≤ 100
    ·(repeat' first | ((with_reducible refine aG ?_); go_step) | ((with_reducible refine aE ?_); first | refine aL ?_ | (refine aJ ?_ ?_ <;> intro hc)) | fail)
     refine aB (enters_of Tryz.func54 rfl rfl) rfl rfl (xE (c := true) (by rw [decide_eq_true c4.1, decide_eq_true c4.2]; rfl)) ?_; intro w6 x6; refine aA ?_
     (repeat' first | ((with_reducible refine aG ?_); go_step) | ((with_reducible refine aE ?_); first | refine aL ?_ | (refine aJ ?_ ?_ <;> intro hc)) | fail)
     have hv6 := (((((hv1.ext x2).ext x3).ext x4).ext x5).ext x6)
     have hq6 := (((hq3.ext x4).ext x5).ext x6)
     have hx6 := x1.trans (x2.trans (x3.trans (x4.trans (x5.trans x6))))
     have h26 := ((((x3.trans x4).trans x5).trans x6)).at h2
     have hCF := fun w9 (h9 : Sl 1 w9 v (aZ rl)) => mW v rl 56 (fun n => !(decide (0 ≤ n) && decide (n ≤ 99))) w9 h9 (enters_of Tryz.func56 rfl rfl) (fun n _ w' => CH n w')
     cases c5 : rl.any (fun n => !(decide (0 ≤ n) && decide (n ≤ 99))) with
     | true =>
      have hE : ¬ dL qn qt rl budget = 0 := by
       unfold dL
       rw [if_neg (by rintro ⟨_, _, _, _, h⟩; rw [c5] at h; cases h)]
       decide
      simp only [c5] at hCF
      refine aB (enters_of Tryz.func55 rfl rfl) rfl rfl (hCF _ hv6) ?_; intro w7 x7; refine aA ?_
      have h27' := x7.at h26
      (repeat' first | ((with_reducible refine aG ?_); go_step) | ((with_reducible refine aE ?_); first | refine aL ?_ | (refine aJ ?_ ?_ <;> intro hc)) | fail)
      refine bY (v := .agg bT.toArray) rfl (Runs.build0 (by kernel_rfl)) ?_
      refine aA ?_
      (repeat' first | ((with_reducible refine aG ?_); go_step) | ((with_reducible refine aE ?_); first | refine aL ?_ | (refine aJ ?_ ?_ <;> intro hc)) | fail)
      refine aD (v := .agg bT.toArray) rfl rfl rfl h27' (show aN Tryz.prog 33 7 = true by decide +kernel) rfl (by decide +kernel) ?_
      intro w8 p8
      have hx8 : Ext w w8 := (hx6.trans x7).move p8.mv (by rintro k ⟨⟩; exact x1.size)
      (repeat' first | ((with_reducible refine aG ?_); go_step) | ((with_reducible refine aE ?_); first | refine aL ?_ | (refine aJ ?_ ?_ <;> intro hc)) | fail)
      refine bodyPost_ret (dS (cs := bT) rfl rfl p8.this (show bK Tryz.prog 33 7 = true by decide +kernel)) rfl ⟨_, rfl, hx8, ?_⟩
      rw [fN, if_neg hE]
      rfl
     | false =>
      have hE : dL qn qt rl budget = 0 := by
       unfold dL
       exact if_pos ⟨c1, c2, c3, c4, c5⟩
      simp only [c5] at hCF
      refine aB (enters_of Tryz.func55 rfl rfl) rfl rfl (hCF _ hv6) ?_; intro w7 x7; refine aA ?_
      have h27' := x7.at h26
      have hq7 := hq6.ext x7
      have hv7 := hv6.ext x7
      (repeat' first | ((with_reducible refine aG ?_); go_step) | ((with_reducible refine aE ?_); first | refine aL ?_ | (refine aJ ?_ ?_ <;> intro hc)) | fail)
      refine cW (S := fun w' => Ext w7 w') (by decide +kernel) ?_
      intro w8 x8 _
      refine fI 0 ?_; refine aA ?_; refine fI 1 ?_; refine aA ?_; refine fI 3 ?_; refine aA ?_; refine fI 4 ?_; refine aA ?_; refine fI 6 ?_; refine aA ?_; refine fI 8 ?_; refine aA ?_
      refine cF (i := 2) (by decide +kernel) rfl rfl ?_
      refine aB (enters_of Tryz.func57 rfl rfl) rfl rfl (uY qn _) ?_
      intro w9 x9
      refine aA ?_
      have x79 := x8.trans x9
      refine aS ⟨x79, ?_⟩
      refine bL (i := 5) (v := .agg #[aF (fold qn), .int .i64 qt]) rfl rfl (by decide +kernel) (by decide +kernel) (by decide +kernel) rfl x79 (fun w' _ => Runs.build rfl (by kernel_rfl)) (fun _ _ _ h => h) ?_
      refine aA ?_
      refine cF (i := 7) (by decide +kernel) rfl rfl ?_
      refine aM (enters_of Tryz.func58 rfl rfl) rfl rfl (zF v rl _ (hv7.ext x79) hl) ?_
      intro rv w10 x10 o10
      refine aA ?_
      have x710 := x79.trans x10
      refine aS ⟨x710, ?_⟩
      refine bL (i := 9) (v := .agg (bN ⟨fold qn, qt, rl, [], [], [], 0, budget, none⟩ rv (.slice none 0 0) (.slice none 0 0) (.pointer none)).toArray) rfl rfl (by decide +kernel) (by decide +kernel) (by decide +kernel) rfl x710 (fun w' _ => Runs.build (vals := [(0, .agg #[aF (fold qn), .int .i64 qt]), (1, rv), (6, .int .i64 budget)]) rfl (by obtain ⟨_, _, _, rfl⟩ := o10.sl.slf; kernel_rfl)) (fun _ _ _ h => h) ?_
      refine aA ?_
      refine cF (i := 10) (by decide +kernel) rfl rfl ?_
      refine cQ (vs := bN ⟨fold qn, qt, rl, [], [], [], 0, budget, none⟩ rv (.slice none 0 0) (.slice none 0 0) (.pointer none)) rfl rfl ?_
      intro w11 x11 s11 h11
      refine aA ?_
      have x711 := x710.trans x11
      refine aS ⟨x711, ?_⟩
      refine fI 11 ?_; refine aA ?_
      refine cS (by decide +kernel) ?_
      have hx11 : Ext w w11 := (hx6.trans x7).trans x711
      have hsz7 := (hx6.trans x7).size
      have hT : TaskV w w11 w10.heap.size ⟨fold qn, qt, rl, [], [], [], 0, budget, none⟩ rv (.slice none 0 0) (.slice none 0 0) (.pointer none) :=
       ⟨((hx6.trans x7).trans x710).size, hx11, h11, (o10.weaken (hx6.trans (x7.trans x79)).size).ext x11, OwnOff.nil _ _ _ _, Own.nil _ _ _ _, rfl⟩
      have hp11 := aC (cs := bN ⟨fold qn, qt, rl, [], [], [], 0, budget, none⟩ rv (.slice none 0 0) (.slice none 0 0) (.pointer none)) h11
      have h27'' := x711.at h27'
      (repeat' first | ((with_reducible refine aG ?_); go_step) | ((with_reducible refine aE ?_); first | refine aL ?_ | (refine aJ ?_ ?_ <;> intro hc)) | fail)
      refine bF (n := 4) (v := rv) hT.blk rfl rfl rfl (by simp [bN]) (by decide +kernel) o10.one ?_
      intro w12 p12
      have p12' : Put w11 w12 w10.heap.size (.cells (bN (dO qn qt rl budget) rv rv (.slice none 0 0) (.pointer none)).toArray 99 (0, 0)) := p12
      obtain ⟨k1, k2, k3, k4⟩ := hT.kept p12
      have hT12 := hT.put p12' k1 k1.off k3 k4
      clear p12' hp11
      (repeat' first | ((with_reducible refine aG ?_); go_step) | ((with_reducible refine aE ?_); first | refine aL ?_ | (refine aJ ?_ ?_ <;> intro hc)) | fail)
      refine aO (vs := [.pointer (some ⟨w10.heap.size, 0, none⟩)]) (enters_of Tryz.func50 rfl rfl) rfl rfl (zC ⟨_, _, _, _, hT12⟩ (show 0 ≤ budget by omega) (show budget ≤ 1000000 by omega)) ?_
      rintro e w13 ⟨u, rfl, hu, hm⟩
      refine ⟨_, rfl, ?_⟩
      refine aA ?_
      have szz := (x2.trans (x3.trans (x4.trans (x5.trans (x6.trans (x7.trans x710)))))).size
      have szl := (Array.getElem?_eq_some_iff.1 h2).1
      have szm := (x3.trans (x4.trans (x5.trans (x6.trans (x7.trans x710))))).size
      have hne : some w1.heap.size ≠ some w10.heap.size := by
       intro e
       have := Option.some.inj e
       omega
      have h14 := hm.at (p12.mv.at h27'' hne) hne
      (repeat' first | ((with_reducible refine aG ?_); go_step) | ((with_reducible refine aE ?_); first | refine aL ?_ | (refine aJ ?_ ?_ <;> intro hc)) | fail)
      refine aD (v := u) rfl rfl rfl h14 (by rw [hu.1.size]; exact (show aN Tryz.prog 33 7 = true by decide +kernel)) (by rw [hu.1.size]; rfl) hu.1.one ?_
      intro w14 p14
      obtain ⟨u1, u2, rfl, q1, q2⟩ := (hu.1.put p14 h14 (by decide)).out
      obtain ⟨rv', sv', gv', ev', hTT⟩ := hu.2
      have hT14 := hTT.other p14 h14 x1.size
      (repeat' first | ((with_reducible refine aG ?_); go_step) | ((with_reducible refine aE ?_); first | refine aL ?_ | (refine aJ ?_ ?_ <;> intro hc)) | fail)
      refine bodyPost_ret (dS (cs := bG (dO qn qt rl budget).on.2 u1 u2) rfl rfl p14.this (show bK Tryz.prog 33 7 = true by decide +kernel)) rfl ⟨_, rfl, hT14.ext, ?_⟩
      rw [fN, if_pos hE]
      exact ⟨_, _, rfl, ⟨u1, u2, rfl, q1, q2⟩, _, _, _, _, hT14⟩
    ·have hE : ¬ dL qn qt rl budget = 0 := by
      unfold dL
      rw [if_neg (by rintro ⟨h1, h2, h3, h4, _⟩; exact c4 h4)]
      decide
     (repeat' first | ((with_reducible refine aG ?_); go_step) | ((with_reducible refine aE ?_); first | refine aL ?_ | (refine aJ ?_ ?_ <;> intro hc)) | fail)
     refine aB (enters_of Tryz.func54 rfl rfl) rfl rfl (xE (c := false) (by simp only [Bool.and_eq_false_iff, decide_eq_false_iff_not]; omega)) ?_; intro w6 x6; refine aA ?_
     have h26 := ((((x3.trans x4).trans x5).trans x6)).at h2
     (repeat' first | ((with_reducible refine aG ?_); go_step) | ((with_reducible refine aE ?_); first | refine aL ?_ | (refine aJ ?_ ?_ <;> intro hc)) | fail)
     refine bY (v := .agg bT.toArray) rfl (Runs.build0 (by kernel_rfl)) ?_
     refine aA ?_
     (repeat' first | ((with_reducible refine aG ?_); go_step) | ((with_reducible refine aE ?_); first | refine aL ?_ | (refine aJ ?_ ?_ <;> intro hc)) | fail)
     refine aD (v := .agg bT.toArray) rfl rfl rfl h26 (show aN Tryz.prog 33 7 = true by decide +kernel) rfl (by decide +kernel) ?_
     intro w8 p8
     have hx8 : Ext w w8 := (x1.trans (x2.trans (x3.trans (x4.trans (x5.trans x6))))).move p8.mv (by rintro k ⟨⟩; exact x1.size)
     (repeat' first | ((with_reducible refine aG ?_); go_step) | ((with_reducible refine aE ?_); first | refine aL ?_ | (refine aJ ?_ ?_ <;> intro hc)) | fail)
     refine bodyPost_ret (dS (cs := bT) rfl rfl p8.this (show bK Tryz.prog 33 7 = true by decide +kernel)) rfl ⟨_, rfl, hx8, ?_⟩
     rw [fN, if_neg hE]
     rfl
   ·have hE : ¬ dL qn qt rl budget = 0 := by
     unfold dL
     rw [if_neg (by rintro ⟨h1, h2, h3, h4, _⟩; exact c3 h3)]
     decide
    (repeat' first | ((with_reducible refine aG ?_); go_step) | ((with_reducible refine aE ?_); first | refine aL ?_ | (refine aJ ?_ ?_ <;> intro hc)) | fail)
    refine aB (enters_of Tryz.func54 rfl rfl) rfl rfl (xE (c := false) (by simp only [Bool.and_eq_false_iff, decide_eq_false_iff_not]; omega)) ?_; intro w5 x5; refine aA ?_
    have h26 := (((x3.trans x4).trans x5)).at h2
    (repeat' first | ((with_reducible refine aG ?_); go_step) | ((with_reducible refine aE ?_); first | refine aL ?_ | (refine aJ ?_ ?_ <;> intro hc)) | fail)
    refine bY (v := .agg bT.toArray) rfl (Runs.build0 (by kernel_rfl)) ?_
    refine aA ?_
    (repeat' first | ((with_reducible refine aG ?_); go_step) | ((with_reducible refine aE ?_); first | refine aL ?_ | (refine aJ ?_ ?_ <;> intro hc)) | fail)
    refine aD (v := .agg bT.toArray) rfl rfl rfl h26 (show aN Tryz.prog 33 7 = true by decide +kernel) rfl (by decide +kernel) ?_
    intro w8 p8
    have hx8 : Ext w w8 := (x1.trans (x2.trans (x3.trans (x4.trans x5)))).move p8.mv (by rintro k ⟨⟩; exact x1.size)
    (repeat' first | ((with_reducible refine aG ?_); go_step) | ((with_reducible refine aE ?_); first | refine aL ?_ | (refine aJ ?_ ?_ <;> intro hc)) | fail)
    refine bodyPost_ret (dS (cs := bT) rfl rfl p8.this (show bK Tryz.prog 33 7 = true by decide +kernel)) rfl ⟨_, rfl, hx8, ?_⟩
    rw [fN, if_neg hE]
    rfl
  ·have hE : ¬ dL qn qt rl budget = 0 := by
    unfold dL
    rw [if_neg (by rintro ⟨h1, h2, h3, h4, _⟩; exact c2 h2)]
    decide
   (repeat' first | ((with_reducible refine aG ?_); go_step) | ((with_reducible refine aE ?_); first | refine aL ?_ | (refine aJ ?_ ?_ <;> intro hc)) | fail)
   refine aB (enters_of Tryz.func54 rfl rfl) rfl rfl (xE (c := false) (by simp only [Bool.and_eq_false_iff, decide_eq_false_iff_not]; omega)) ?_; intro w4 x4; refine aA ?_
   have h26 := ((x3.trans x4)).at h2
   (repeat' first | ((with_reducible refine aG ?_); go_step) | ((with_reducible refine aE ?_); first | refine aL ?_ | (refine aJ ?_ ?_ <;> intro hc)) | fail)
   refine bY (v := .agg bT.toArray) rfl (Runs.build0 (by kernel_rfl)) ?_
   refine aA ?_
   (repeat' first | ((with_reducible refine aG ?_); go_step) | ((with_reducible refine aE ?_); first | refine aL ?_ | (refine aJ ?_ ?_ <;> intro hc)) | fail)
   refine aD (v := .agg bT.toArray) rfl rfl rfl h26 (show aN Tryz.prog 33 7 = true by decide +kernel) rfl (by decide +kernel) ?_
   intro w8 p8
   have hx8 : Ext w w8 := (x1.trans (x2.trans (x3.trans x4))).move p8.mv (by rintro k ⟨⟩; exact x1.size)
   (repeat' first | ((with_reducible refine aG ?_); go_step) | ((with_reducible refine aE ?_); first | refine aL ?_ | (refine aJ ?_ ?_ <;> intro hc)) | fail)
   refine bodyPost_ret (dS (cs := bT) rfl rfl p8.this (show bK Tryz.prog 33 7 = true by decide +kernel)) rfl ⟨_, rfl, hx8, ?_⟩
   rw [fN, if_neg hE]
   rfl
 ·have hE : ¬ dL qn qt rl budget = 0 := by
   unfold dL
   rw [if_neg (by rintro ⟨h1, h2, h3, h4, _⟩; exact c1 h1)]
   decide
  have e1 : ¬ (aP qn).isSome = true := by
   intro e
   exact c1 (by unfold fL; rw [e]; rfl)
  rw [if_neg e1] at h27
  refine aB (enters_of Tryz.func53 rfl rfl) rfl rfl (h27 _) ?_; intro w3 x3; refine aA ?_
  have h26 := x3.at h2
  (repeat' first | ((with_reducible refine aG ?_); go_step) | ((with_reducible refine aE ?_); first | refine aL ?_ | (refine aJ ?_ ?_ <;> intro hc)) | fail)
  refine bY (v := .agg bT.toArray) rfl (Runs.build0 (by kernel_rfl)) ?_
  refine aA ?_
  (repeat' first | ((with_reducible refine aG ?_); go_step) | ((with_reducible refine aE ?_); first | refine aL ?_ | (refine aJ ?_ ?_ <;> intro hc)) | fail)
  refine aD (v := .agg bT.toArray) rfl rfl rfl h26 (show aN Tryz.prog 33 7 = true by decide +kernel) rfl (by decide +kernel) ?_
  intro w8 p8
  have hx8 : Ext w w8 := (x1.trans (x2.trans x3)).move p8.mv (by rintro k ⟨⟩; exact x1.size)
  (repeat' first | ((with_reducible refine aG ?_); go_step) | ((with_reducible refine aE ?_); first | refine aL ?_ | (refine aJ ?_ ?_ <;> intro hc)) | fail)
  refine bodyPost_ret (dS (cs := bT) rfl rfl p8.this (show bK Tryz.prog 33 7 = true by decide +kernel)) rfl ⟨_, rfl, hx8, ?_⟩
  rw [fN, if_neg hE]
  rfl
set_option maxHeartbeats 1000000 in
theorem lT {w0 w : World} {b : Nat} {t : TaskR} (h : TaskAt w0 w b t) (h0 : 0 ≤ t.left) (h1 : t.left ≤ 1000000) (hs : ∀ a, t.stop = some a → a.ans.length ≤ 1000000 ∧ a.auth.length ≤ 1000000) : Calls Tryz.prog 21 #[.pointer (some ⟨b, 0, none⟩)] w (TRet w0 w b t.timeout) := by
 have hA := h
 obtain ⟨rv, sv, gv, ev, h⟩ := h
 have hp := aC (cs := bN t rv sv gv ev) h.blk
 have he := h.es
 go_enter Tryz.func21, Tryz.ntmps21
 (repeat' first | ((with_reducible refine aG ?_); go_step) | ((with_reducible refine aE ?_); first | refine aL ?_ | (refine aJ ?_ ?_ <;> intro hc)) | fail)
 refine aH (z := bT) rfl (by decide +kernel) ?_
 intro w1 x1 s1 hb1
 refine aA ?_
 have hp1 := hp.ext x1
 have hA1 := hA.grow x1
 cases hst : t.stop with
 | none =>
  rw [hst] at he
  have hev : ev = .pointer none := he
  subst hev
  have hE : t.timeout = t.on := by rw [TaskR.timeout, hst]
  (repeat' first | ((with_reducible refine aG ?_); go_step) | ((with_reducible refine aE ?_); first | refine aL ?_ | (refine aJ ?_ ?_ <;> intro hc)) | fail)
  refine aO (vs := [.pointer (some ⟨b, 0, none⟩)]) (enters_of Tryz.func50 rfl rfl) rfl rfl (zC hA1 h0 h1) ?_
  rintro e w4 ⟨u, rfl, hu, hm⟩
  refine ⟨_, rfl, ?_⟩
  refine aA ?_
  have h14 := hm.at hb1 h.neBox
  refine aD (v := u) rfl rfl rfl h14 (by rw [hu.1.size]; exact (show aN Tryz.prog 33 7 = true by decide +kernel)) (by rw [hu.1.size]; rfl) hu.1.one ?_
  intro w5 p5
  obtain ⟨u1, u2, rfl, hr⟩ := TRet.box hu ((x1.mv _).trans hm) h14 (Nat.le_refl _) h.ext.size p5
  (repeat' first | ((with_reducible refine aG ?_); go_step) | ((with_reducible refine aE ?_); first | refine aL ?_ | (refine aJ ?_ ?_ <;> intro hc)) | fail)
  exact bodyPost_ret (bV (cs := bG t.on.2 u1 u2) rfl rfl p5.this (show bK Tryz.prog 33 7 = true by decide +kernel)) rfl (by rw [hE]; exact hr)
 | some a =>
  rw [hst] at he
  obtain ⟨c, v1, v2, rfl, hc, hcb, o1, o2, -⟩ := he
  have hE : t.timeout = (t, a) := by rw [TaskR.timeout, hst]
  (repeat' first | ((with_reducible refine aG ?_); go_step) | ((with_reducible refine aE ?_); first | refine aL ?_ | (refine aJ ?_ ?_ <;> intro hc)) | fail)
  refine aM (enters_of Tryz.func43 rfl rfl) rfl rfl (kW hA1 hst (hs a hst).1 (hs a hst).2) ?_
  intro u w4 x4 hu
  refine aA ?_
  have hm : Mv (some b) w1 w4 := x4.mv _
  have h14 := hm.at hb1 h.neBox
  refine aD (v := u) rfl rfl rfl h14 (by rw [hu.1.size]; exact (show aN Tryz.prog 33 7 = true by decide +kernel)) (by rw [hu.1.size]; rfl) hu.1.one ?_
  intro w5 p5
  obtain ⟨u1, u2, rfl, hr⟩ := TRet.box hu ((x1.mv _).trans hm) h14 (Nat.le_refl _) h.ext.size p5
  (repeat' first | ((with_reducible refine aG ?_); go_step) | ((with_reducible refine aE ?_); first | refine aL ?_ | (refine aJ ?_ ?_ <;> intro hc)) | fail)
  exact bodyPost_ret (bV (cs := bG (t, a).2 u1 u2) rfl rfl p5.this (show bK Tryz.prog 33 7 = true by decide +kernel)) rfl (by rw [hE]; exact hr)
end Go.Proofs.X
