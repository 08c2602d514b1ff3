/- Laws and walks that the proof of the statement is made of (part 11). -/
import Derived.Test.YtcabalnocddidaaGreatP10
set_option linter.unusedSimpArgs false
set_option linter.unusedVariables false
namespace Go.Proofs.X
open Go.RowKit
set_option maxRecDepth 100000
structure Fr (b : Nat) (gv : Value) (w w' : World) : Prop where
 size : w.heap.size ≤ w'.heap.size
 block : ∀ j, j < w.heap.size → j ≠ b → gv.ownBlock ≠ some j → w'.heap[j]? = w.heap[j]?
theorem Fr.mv {b : Nat} {gv : Value} {w w1 w2 : World} {row : Option Nat} (h : Fr b gv w w1) (hm : Mv row w1 w2) (hr : ∀ c, row = some c → c = b ∨ gv.ownBlock = some c ∨ w.heap.size ≤ c) : Fr b gv w w2 :=
 ⟨Nat.le_trans h.size hm.size, fun j hj hb hg => by
  rw [hm.block j (Nat.lt_of_lt_of_le hj h.size) (by
   intro e
   rcases hr j e.symm with e1 | e1 | e1
   ·exact hb e1
   ·exact hg e1
   ·omega), h.block j hj hb hg]⟩
theorem Fr.ext {b : Nat} {gv : Value} {w w1 w2 : World} (h : Fr b gv w w1) (hx : Ext w1 w2) : Fr b gv w w2 := h.mv (hx.mv none) (by intro c e; cases e)
theorem Fr.of {b : Nat} {gv : Value} {w w1 : World} (hx : Ext w w1) : Fr b gv w w1 := ⟨hx.size, fun j hj _ _ => hx.block j hj⟩
def RRet (w0 w : World) (b : Nat) (gv : Value) (r : TaskR × ActR × List LrnR) (e : Ending) (w' : World) : Prop :=
 ∃ u l, e = .returned (.tuple #[u, l]) ∧ ActRet w0 b (r.1, r.2.1) u w' ∧ LrnsV w.heap.size w' l r.2.2 ∧ Fr b gv w w'
theorem ActRet.ext {w0 w w' : World} {b : Nat} {r : TaskR × ActR} {u : Value} (h : ActRet w0 b r u w) (hx : Ext w w') : ActRet w0 b r u w' := ⟨h.1.ext hx, h.2.grow hx⟩
theorem RRet.box {w0 w w1 w2 : World} {b c B : Nat} {r : TaskR × ActR} {lr : List LrnR} {gv u l : Value} (hu : ActRet w0 b r u w1) (hf : Fr b gv w w1) (hc : w1.heap[c]? = some (.cells bX.toArray 33 (0, 0))) (hg : w.heap.size ≤ c) (h0 : w0.heap.size ≤ w.heap.size)
 (hl : LrnsV B w1 l lr) (hB : c < B) (hp : Put w1 w2 c (.cells u.cells 33 (0, 0))) : ∃ u1 u2, u = .agg (bO r.2 u1 u2).toArray ∧ RRet w0 w b gv (r.1, r.2, lr) (.returned (.tuple #[.agg (bO r.2 u1 u2).toArray, l])) w2 := by
 obtain ⟨u1, u2, e, q1, q2⟩ := (hu.1.put hp hc (by decide)).out
 obtain ⟨rv, sv, gv, ev, hT⟩ := hu.2
 exact ⟨u1, u2, e, _, _, rfl, ⟨⟨u1, u2, rfl, q1, q2⟩, rv, sv, gv, ev, hT.other hp hc (Nat.le_trans h0 hg)⟩, (hl.mvb hp.mv hB).weaken (by omega), hf.mv hp.mv (by rintro k ⟨⟩; exact .inr (.inr hg))⟩
theorem nN (a b : List Rec) : aH (a ++ b) = aH a ++ aH b := List.map_append
theorem TRet.tup {w0 w : World} {b : Nat} {r : TaskR × ActR} {gv u : Value} {w' : World} (h : TRet w0 w b r (.returned u) w') : RRet w0 w b gv (r.1, r.2, []) (.returned (.tuple #[u, .slice none 0 0])) w' := by
 obtain ⟨u', e, h1, h2⟩ := h
 cases e
 exact ⟨u, _, rfl, h1, LrnsV.nil _ _, h2.size, fun j hj hb _ => h2.block j hj (by intro e; exact hb (Option.some.inj e))⟩
theorem Own.cut1 {B k e : Nat} {w : World} {v : Value} {es : List (List Value)} (h : Own B k e w v es) (h1 : 1 ≤ es.length) : Own B k e w (cB v k 0 1) (es.take 1) := by
 rcases h.form with ⟨_, rfl⟩ | ⟨g, cap, rfl, _⟩
 ·simp at h1
 ·have := h.short h1
  simpa [cB, Addr.add] using this
theorem TaskV.gotp {w0 w w1 w2 : World} {b : Nat} {t : TaskR} {rv sv gv gv' ev : Value} {l : List Rec} (h : TaskV w0 w b t rv sv gv ev) (hs : t.stop = none) (hm : Mv gv.ownBlock w w1) (o1 : Own w0.heap.size 4 64 w1 gv' (aH l))
 (hp : Put w1 w2 b (.cells (bL { t with got := l } rv sv gv' ev).toArray 99 (0, 0))) : TaskV w0 w2 b { t with got := l } rv sv gv' ev := by
 have b1 := hm.at h.blk (fun e => h.gs.neBlock h.blk (by decide) e.symm)
 have r1 := h.rs.mv hm (h.rs.ne h.gs (by decide))
 have s1 : OwnOff w0.heap.size 1 3 w1 sv (aZ t.servers) := h.ss.mv hm (by
  rcases h.ss.neOwn h.gs (by decide) with e | e
  ·cases hv : sv.ownBlock with
   | none => exact .inl rfl
   | some r => exact .inr (by rw [e]; simp)
  ·exact .inr fun e' => e e'.symm)
 refine ⟨h.ge, (h.ext.move hm (fun k hk => (h.gs.block k hk).1)).move hp.mv (by rintro k ⟨⟩; exact h.ge), hp.this, r1.mv hp.mv (.inr (r1.neBlock b1 (by decide))), s1.mv hp.mv (.inr (s1.neBlock b1 (by decide))), o1.mv hp.mv (.inr (o1.neBlock b1 (by decide))), ?_⟩
 have he := h.es
 rw [hs] at he
 show StopV w0.heap.size w2 ev t.stop
 rw [hs]
 exact he
set_option maxHeartbeats 2000000 in
theorem pR {w0 w : World} {b n : Nat} {t : TaskR} {rv sv gv ev : Value} (h : TaskV w0 w b t rv sv gv ev) (hB : TaskB t n) (hn : n ≤ 100000) (m : MsgR) (q a u e : Value) (hm : ∀ w', Mv (some b) w w' → MsgV w' m q a u e) (h1 : m.an.length ≤ 300) (h2 : m.au.length ≤ 300) (h3 : m.ex.length ≤ 300) (hd1 : ∀ z, ∀ r ∈ t.of m.au z 2, r.data.length ≤ 9223372036854775807) (hd2 : ∀ n, ∀ r ∈ t.of m.ex n 1, r.data.length ≤ 9223372036854775807) :
 Calls Tryz.prog 16 #[.pointer (some ⟨b, 0, none⟩), .agg (eV m q a u e).toArray] w (RRet w0 w b gv (t.reply m)) := by
 have hp := aC (cs := bL t rv sv gv ev) h.blk
 go_enter Tryz.func16, Tryz.ntmps16
 repeat' (first | ((with_reducible refine aJ ?_); go_step) | fail)
 refine dB (vs := eV m q a u e) rfl rfl ?_
 intro w1 x1 s1 hb1
 refine aA ?_
 have hp1 := aC (cs := eV m q a u e) hb1
 have hpt1 := hp.ext x1
 (repeat' first | ((with_reducible refine aJ ?_); go_step) | ((with_reducible refine aG ?_); first | refine aL ?_ | (refine aK ?_ ?_ <;> intro hc)) | fail)
 refine aF (z := bX) rfl (by decide +kernel) ?_
 intro w2 x2 s2 hb2
 refine aA ?_
 have hp2 := hp1.ext x2
 have hpt2 := hpt1.ext x2
 have he := h.es
 have hh2 := h.grow (x1.trans x2)
 cases hst : t.stop with
 | some a' =>
  rw [hst] at he
  obtain ⟨c, v1, v2, rfl, hc, hcb, o1, o2, -⟩ := he
  have hE : t.reply m = (t, a', []) := by rw [TaskR.reply, hst]
  have hst' := hB.stop a' hst
  (repeat' first | ((with_reducible refine aJ ?_); go_step) | ((with_reducible refine aG ?_); first | refine aL ?_ | (refine aK ?_ ?_ <;> intro hc)) | fail)
  refine aR (enters_of Tryz.func43 rfl rfl) rfl rfl (pN ⟨_, _, _, _, hh2⟩ hst (by omega) (by omega)) ?_
  intro u' w4 x4 hu
  refine aA ?_
  have h14 := x4.at hb2
  refine aD (v := u') rfl rfl rfl h14 (by rw [hu.1.size]; exact (show aM Tryz.prog 33 7 = true by decide +kernel)) (by rw [hu.1.size]; rfl) hu.1.one ?_
  intro w5 p5
  obtain ⟨u1, u2, rfl, hr⟩ := TRet.box hu (((x1.trans x2).trans x4).mv (some b)) h14 x1.size h.ext.size p5
  (repeat' first | ((with_reducible refine aJ ?_); go_step) | ((with_reducible refine aG ?_); first | refine aL ?_ | (refine aK ?_ ?_ <;> intro hc)) | fail)
  refine bodyPost_ret (bC (cs := bO a' u1 u2) rfl rfl p5.this (show bN Tryz.prog 33 7 = true by decide +kernel)) rfl ?_
  rw [hE]
  exact hr.tup
 | none =>
  rw [hst] at he
  have hev : ev = .pointer none := he
  subst hev
  have hfr : ∀ w', Mv (some b) w w' → MsgV w' m q a u e := hm
  (repeat' first | ((with_reducible refine aJ ?_); go_step) | ((with_reducible refine aG ?_); first | refine aL ?_ | (refine aK ?_ ?_ <;> intro hc)) | fail)
  all_goals (
   have hR : nK m = if m.auth = true then 4 else 3 := rfl
   simp only [‹m.auth = _›, if_true, if_false, Bool.false_eq_true] at hR
   refine aY (v := .agg #[aE t.qn, .int .i64 t.qt]) (Runs.loadN ((hpt2.part 0).front 2) rfl (show bN Tryz.prog 31 2 = true by decide +kernel)) ?_
   refine aA ?_
   refine aF (z := [aE [], .int .i64 0]) rfl (by decide +kernel) ?_
   intro w3 x3 s3 h3'
   refine aA ?_
   refine aD (v := .agg #[aE t.qn, .int .i64 t.qt]) rfl rfl rfl h3' (show aM Tryz.prog 31 2 = true by decide +kernel) rfl (by simp [Value.cells, show ∀ s, (aE s).oneCell' = true from fun _ => rfl, show ∀ n, (Value.int .i64 n).oneCell' = true from fun _ => rfl]) ?_
   intro w4 p4
   have x4 : Ext w2 w4 := x3.move p4.mv (by rintro k ⟨⟩; exact Nat.le_refl _)
   have hbq : w4.heap[w2.heap.size]? = some (.cells [aE t.qn, .int .i64 t.qt].toArray 31 (0, 0)) := p4.this
   have hpq := aC hbq
   have hp4 := hp2.ext x4
   have hpt4 := hpt2.ext x4
   have hh4 := hh2.grow x4
   have hm4 := hm _ (((x1.trans x2).trans x4).mv _)
   clear p4 h3' x3 hp hp1 hpt1 hp2 hpt2
   (repeat' first | ((with_reducible refine aJ ?_); go_step) | ((with_reducible refine aG ?_); first | refine aL ?_ | (refine aK ?_ ?_ <;> intro hc)) | fail)
   have hJ := fun w (h : MsgV w m q a u e) => yL t.qn t.qt m q a u e t.zone w h (by omega) (by omega)
   generalize hjj : bY t.qn t.qt m t.zone = jj at *
   refine cT (S := fun w' => Ext w4 w') (by decide +kernel) ?_
   intro w5 x5 _
   refine bI (i := 0) (v := .agg #[aE t.qn, .int .i64 t.qt]) rfl rfl (by decide +kernel) (by decide +kernel) (by decide +kernel) rfl x5 (fun w' c => Runs.loadN (hpq.ext c) rfl (show bN Tryz.prog 31 2 = true by decide +kernel)) (fun _ _ _ h => h) ?_
   refine aA ?_
   refine bI (i := 1) (v := .agg (eV m q a u e).toArray) rfl rfl (by decide +kernel) (by decide +kernel) (by decide +kernel) rfl x5 (fun w' c => Runs.loadN (hp4.ext c) rfl (show bN Tryz.prog 25 13 = true by decide +kernel)) (fun _ _ _ h => h) ?_
   refine aA ?_
   refine fC 2 ?_; refine aA ?_; refine fC 3 ?_; refine aA ?_; refine fC 4 ?_; refine aA ?_; refine fC 5 ?_; refine aA ?_
   refine cE (i := 6) (by decide +kernel) rfl rfl ?_
   refine aB (enters_of Tryz.func44 rfl rfl) rfl rfl (hJ _ (hm4.ext x5)) ?_
   intro w6 x6
   refine aA ?_
   have x46 := x5.trans x6
   refine aP ⟨x46, ?_⟩
   refine fC 7 ?_; refine aA ?_; refine fC 8 ?_; refine aA ?_; refine fC 9 ?_; refine aA ?_; refine fC 10 ?_; refine aA ?_; refine fC 11 ?_; refine aA ?_
   refine cQ (by decide +kernel) ?_
   have hp6 := hp4.ext x46
   have hpt6 := hpt4.ext x46
   have hpq6 := hpq.ext x46
   have hh6 := hh4.grow x46
   have hb6 := (x4.trans x46).at hb2
   have x06 := x1.trans (x2.trans (x4.trans x46))
   clear hp4 hpt4 hpq hh4 hm4 hbq
   have hm6 := hm _ (x06.mv _)
   by_cases k1 : jj.1 = 1
   ·have hE : t.reply m = (({ t with got := t.got ++ t.of m.an t.qn t.qt }.done 0 (t.got ++ t.of m.an t.qn t.qt) []).1, ({ t with got := t.got ++ t.of m.an t.qn t.qt }.done 0 (t.got ++ t.of m.an t.qn t.qt) []).2, cF (t.of m.an t.qn t.qt) (nK m)) := by
     unfold TaskR.reply
     simp only [hst, hjj, k1, if_true]
    (repeat' first | ((with_reducible refine aJ ?_); go_step) | ((with_reducible refine aG ?_); first | refine aL ?_ | (refine aK ?_ ?_ <;> intro hc)) | fail)
    refine aR (enters_of Tryz.func45 rfl rfl) rfl rfl (uT ⟨_, _, _, _, hh6⟩ a m.an t.qn t.qt hm6.an (by omega)) ?_
    intro lv w7 x7 o7
    refine aA ?_
    have hLl := fB t m.an t.qn t.qt
    generalize hL : t.of m.an t.qn t.qt = L at *
    have hh7 := hh6.grow x7
    have hpt7 := hpt6.ext x7
    have hb7 := x7.at hb6
    have hgb : ∀ r, gv.ownBlock = some r → w0.heap.size ≤ r ∧ r < w.heap.size := h.gs.block
    have hgl := hB.got
    have sz06 := x06.size
    (repeat' first | ((with_reducible refine aJ ?_); go_step) | ((with_reducible refine aG ?_); first | refine aL ?_ | (refine aK ?_ ?_ <;> intro hc)) | fail)
    refine dY (v0 := gv) (es := aH t.got) (fs := aH L) rfl hh7.gs rfl o7.sl nF hh7.ext.size (by rw [aT, aT]; omega) ?_
    intro gv8 w8 o8 m8 hk8
    refine aA ?_
    have o8' : Own w0.heap.size 4 64 w8 gv8 (aH (t.got ++ L)) := by rw [nN]; exact o8
    have b8 := m8.at hh7.blk (fun e => hh7.gs.neBlock hh7.blk (by decide) e.symm)
    have lvb : lv.ownBlock = none ∨ lv.ownBlock ≠ gv.ownBlock := by
     cases hv : lv.ownBlock with
     | none => exact .inl rfl
     | some r =>
      refine .inr fun e => ?_
      have q1 := (o7.block r hv).1
      have q2 := (hgb r e.symm).2
      omega
    have l8 := o7.mv m8 lvb
    (repeat' first | ((with_reducible refine aJ ?_); go_step) | ((with_reducible refine aG ?_); first | refine aL ?_ | (refine aK ?_ ?_ <;> intro hc)) | fail)
    refine bA (n := 5) (v := gv8) b8 rfl rfl rfl (by simp [bL]) (by decide +kernel) o8'.one ?_
    intro w9 p9
    have hT9 := hh7.gotp hst m8 o8' p9
    have hbn := (Array.getElem?_eq_some_iff.1 h.blk).1
    have sz1 := x1.size
    have hn9 : some w1.heap.size ≠ some b := by intro e; have := Option.some.inj e; omega
    have hb9 := p9.mv.at (m8.at hb7 (by intro e; have := hgb _ e.symm; omega)) hn9
    have l9 := l8.mv p9.mv (.inr (l8.neBlock b8 (by decide)))
    have o9 := o8'.mv p9.mv (.inr (o8'.neBlock b8 (by decide)))
    have hpt9 := aC (cs := bL { t with got := t.got ++ L } rv sv gv8 (.pointer none)) hT9.blk
    have f9 : Fr b gv w w9 := ((Fr.of (x06.trans x7)).mv m8 (fun c hc => .inr (.inl hc))).mv p9.mv (by rintro c ⟨⟩; exact .inl rfl)
    clear hpt6 hpt7 hp6 hpq6 o8 l8
    (repeat' first | ((with_reducible refine aJ ?_); go_step) | ((with_reducible refine aG ?_); first | refine aL ?_ | (refine aK ?_ ?_ <;> intro hc)) | fail)
    refine aQ (vs := [.pointer (some ⟨b, 0, none⟩), .int .i64 0, gv8, .slice none 0 0]) (enters_of Tryz.func46 rfl rfl) rfl rfl (pP hT9 0 gv8 (.slice none 0 0) (t.got ++ L) [] o9 (Own.nil _ _ _ _) (by rw [List.length_append]; omega) (by decide)) ?_
    rintro e10 w10 ⟨u10, rfl, hu10, hm10⟩
    refine ⟨_, rfl, ?_⟩
    refine aA ?_
    have l10 := l9.mv hm10 (.inr (l9.neBlock hT9.blk (by decide)))
    have hb10 := hm10.at hb9 hn9
    (repeat' first | ((with_reducible refine aJ ?_); go_step) | ((with_reducible refine aG ?_); first | refine aL ?_ | (refine aK ?_ ?_ <;> intro hc)) | fail)
    refine aR (enters_of Tryz.func47 rfl rfl) rfl rfl (jV lv L _ _ l10.sl (by omega)) ?_
    intro ll w11 x11 l11
    refine aA ?_
    have hu11 := hu10.ext x11
    have hb11 := x11.at hb10
    have f11 := (f9.mv hm10 (by rintro c ⟨⟩; exact .inl rfl)).ext x11
    have szb := (Array.getElem?_eq_some_iff.1 hb10).1
    refine aD (v := u10) rfl rfl rfl hb11 (by rw [hu11.1.size]; exact (show aM Tryz.prog 33 7 = true by decide +kernel)) (by rw [hu11.1.size]; rfl) hu11.1.one ?_
    intro w12 p12
    obtain ⟨u1, u2, rfl, hr⟩ := RRet.box hu11 f11 hb11 sz1 h.ext.size l11 szb p12
    (repeat' first | ((with_reducible refine aJ ?_); go_step) | ((with_reducible refine aG ?_); first | refine aL ?_ | (refine aK ?_ ?_ <;> intro hc)) | fail)
    refine bodyPost_ret (bC (cs := bO _ u1 u2) rfl rfl p12.this (show bN Tryz.prog 33 7 = true by decide +kernel)) rfl ?_
    rw [hE, hR]
    exact hr
   ·by_cases k5 : jj.1 = 5
    ·have hE : t.reply m = (({ t with got := t.got ++ (t.of m.an t.qn 5).take 1 }.follow jj.2).1, ({ t with got := t.got ++ (t.of m.an t.qn 5).take 1 }.follow jj.2).2, cF ((t.of m.an t.qn 5).take 1) (nK m)) := by
      unfold TaskR.reply
      simp only [hst, hjj, k5, if_true, if_neg (show ¬ (5 : Int) = 1 by decide)]
     have hne := rE (t := t) (m := m) (by rw [hjj]; exact k5)
     (repeat' first | ((with_reducible refine aJ ?_); go_step) | ((with_reducible refine aG ?_); first | refine aL ?_ | (refine aK ?_ ?_ <;> intro hc)) | fail)
     refine aR (enters_of Tryz.func45 rfl rfl) rfl rfl (uT ⟨_, _, _, _, hh6⟩ a m.an t.qn 5 hm6.an (by omega)) ?_
     intro lv w7 x7 o7
     refine aA ?_
     have hLl := fB t m.an t.qn 5
     generalize hL : t.of m.an t.qn 5 = L at *
     have hh7 := hh6.grow x7
     have hpt7 := hpt6.ext x7
     have hb7 := x7.at hb6
     have s7 := o7.sl
     have hcL := aT L
     have hgb : ∀ r, gv.ownBlock = some r → w0.heap.size ≤ r ∧ r < w.heap.size := h.gs.block
     have hgl := hB.got
     have sz06 := x06.size
     have hcut : ∀ {w : World}, Sl 4 w lv (aH L) → Sl 4 w (cB lv 4 0 1) (aH (L.take 1)) := fun h => by
      have := h.cut (m := 0) (n := 1) (by omega) (by omega)
      rw [List.drop_zero] at this
      rw [aH, List.map_take]
      exact this
     (repeat' first | ((with_reducible refine aJ ?_); go_step) | ((with_reducible refine aG ?_); first | refine aL ?_ | (refine aK ?_ ?_ <;> intro hc)) | fail)
     refine dY (v0 := gv) (es := aH t.got) (fs := aH (L.take 1)) rfl hh7.gs rfl (hcut o7.sl) nF hh7.ext.size (by rw [aT, aT, List.length_take]; omega) ?_
     intro gv8 w8 o8 m8 hk8
     refine aA ?_
     have o8' : Own w0.heap.size 4 64 w8 gv8 (aH (t.got ++ L.take 1)) := by rw [nN]; exact o8
     have b8 := m8.at hh7.blk (fun e => hh7.gs.neBlock hh7.blk (by decide) e.symm)
     have lvb : lv.ownBlock = none ∨ lv.ownBlock ≠ gv.ownBlock := by
      cases hv : lv.ownBlock with
      | none => exact .inl rfl
      | some r =>
       refine .inr fun e => ?_
       have q1 := (o7.block r hv).1
       have q2 := (hgb r e.symm).2
       omega
     have l8 := o7.mv m8 lvb
     (repeat' first | ((with_reducible refine aJ ?_); go_step) | ((with_reducible refine aG ?_); first | refine aL ?_ | (refine aK ?_ ?_ <;> intro hc)) | fail)
     refine bA (n := 5) (v := gv8) b8 rfl rfl rfl (by simp [bL]) (by decide +kernel) o8'.one ?_
     intro w9 p9
     have hT9 := hh7.gotp hst m8 o8' p9
     have hbn := (Array.getElem?_eq_some_iff.1 h.blk).1
     have sz1 := x1.size
     have hn9 : some w1.heap.size ≠ some b := by intro e; have := Option.some.inj e; omega
     have hb9 := p9.mv.at (m8.at hb7 (by intro e; have := hgb _ e.symm; omega)) hn9
     have l9 := l8.mv p9.mv (.inr (l8.neBlock b8 (by decide)))
     have o9 := o8'.mv p9.mv (.inr (o8'.neBlock b8 (by decide)))
     have hpt9 := aC (cs := bL { t with got := t.got ++ L.take 1 } rv sv gv8 (.pointer none)) hT9.blk
     have f9 : Fr b gv w w9 := ((Fr.of (x06.trans x7)).mv m8 (fun c hc => .inr (.inl hc))).mv p9.mv (by rintro c ⟨⟩; exact .inl rfl)
     clear hpt6 hpt7 hp6 hpq6 o8 l8
     (repeat' first | ((with_reducible refine aJ ?_); go_step) | ((with_reducible refine aG ?_); first | refine aL ?_ | (refine aK ?_ ?_ <;> intro hc)) | fail)
     refine aQ (vs := [.pointer (some ⟨b, 0, none⟩), aE jj.2]) (enters_of Tryz.func48 rfl rfl) rfl rfl (xC ⟨_, _, _, _, hT9⟩ jj.2 hB.l0 (Int.le_trans hB.l1 (by decide)) hB.c0 hB.c1) ?_
     rintro e10 w10 ⟨u10, rfl, hu10, hm10⟩
     refine ⟨_, rfl, ?_⟩
     refine aA ?_
     have l10 := l9.mv hm10 (.inr (l9.neBlock hT9.blk (by decide)))
     have hb10 := hm10.at hb9 hn9
     (repeat' first | ((with_reducible refine aJ ?_); go_step) | ((with_reducible refine aG ?_); first | refine aL ?_ | (refine aK ?_ ?_ <;> intro hc)) | fail)
     refine aR (enters_of Tryz.func47 rfl rfl) rfl rfl (jV (cB lv 4 0 1) (L.take 1) _ _ (hcut l10.sl) (by rw [List.length_take]; omega)) ?_
     intro ll w11 x11 l11
     refine aA ?_
     have hu11 := hu10.ext x11
     have hb11 := x11.at hb10
     have f11 := (f9.mv hm10 (by rintro c ⟨⟩; exact .inl rfl)).ext x11
     have szb := (Array.getElem?_eq_some_iff.1 hb10).1
     refine aD (v := u10) rfl rfl rfl hb11 (by rw [hu11.1.size]; exact (show aM Tryz.prog 33 7 = true by decide +kernel)) (by rw [hu11.1.size]; rfl) hu11.1.one ?_
     intro w12 p12
     obtain ⟨u1, u2, rfl, hr⟩ := RRet.box hu11 f11 hb11 sz1 h.ext.size l11 szb p12
     (repeat' first | ((with_reducible refine aJ ?_); go_step) | ((with_reducible refine aG ?_); first | refine aL ?_ | (refine aK ?_ ?_ <;> intro hc)) | fail)
     refine bodyPost_ret (bC (cs := bO _ u1 u2) rfl rfl p12.this (show bN Tryz.prog 33 7 = true by decide +kernel)) rfl ?_
     rw [hE, hR]
     exact hr
    ·have hm6' := hm6
     by_cases k3 : jj.1 = 3
     ·have hE : t.reply m = ((t.done 3 t.got ((t.of m.au jj.2 6).take 1)).1, (t.done 3 t.got ((t.of m.au jj.2 6).take 1)).2, []) := by
       unfold TaskR.reply
       simp only [hst, hjj, k3, if_true, if_neg (show ¬ (3 : Int) = 1 by decide), if_neg (show ¬ (3 : Int) = 5 by decide)]
      have hne := oZ (t := t) (m := m) (by rw [hjj]; exact .inr k3)
      rw [hjj] at hne
      have hLl := fB t m.au jj.2 6
      have hof := fun w (h : TaskV w0 w b t rv sv gv (.pointer none)) (hmm : MsgV w m q a u e) => uT ⟨_, _, _, _, h⟩ u m.au jj.2 6 hmm.au (by omega)
      generalize hL : t.of m.au jj.2 6 = L at *
      have hcL := aT L
      have hgl := hB.got
      (repeat' first | ((with_reducible refine aJ ?_); go_step) | ((with_reducible refine aG ?_); first | refine aL ?_ | (refine aK ?_ ?_ <;> intro hc)) | fail)
      refine cV 11 (Ext w6) (by decide +kernel) ?_
      intro w7 x7 _
      refine ⟨x7, ?_⟩
      refine iB 0 ?_; refine iB 1 ?_; refine iB 2 ?_; refine iB 3 ?_; refine iB 4 ?_; refine iB 5 ?_; refine iB 6 ?_; refine iB 7 ?_; refine iB 8 ?_
      refine cD (i := 9) (by decide +kernel) rfl rfl ?_
      refine aR (enters_of Tryz.func45 rfl rfl) rfl rfl (hof _ (hh6.grow x7) (hm6.ext x7)) ?_
      intro lv w8 x8 o8
      refine aA ?_
      have x68 := x7.trans x8
      refine aP ⟨dN x68, ?_⟩
      have sL := o8.sl
      refine cD (i := 10) (by decide +kernel) rfl rfl ?_
      ((with_reducible refine aG ?_); (first | (refine jX ?_; refine gZ ?_) | (refine lK ?_; refine nV ?_; (with_reducible refine aG ?_); refine jX ?_; refine gZ ?_)))
      refine aP ⟨dN x68, ?_⟩
      have hh8 := hh6.grow x68
      have szx := x68.size
      have o8c : Own w0.heap.size 4 64 w8 (cB lv 4 0 1) (aH (L.take 1)) := by
       have := o8.cut1 (by omega)
       rw [aH, List.map_take]
       exact this.weaken (by have := h.ext.size; have := x06.size; have := x7.size; omega)
      refine cD (i := 11) (by decide +kernel) rfl rfl ?_
      refine aQ (vs := [.pointer (some ⟨b, 0, none⟩), .int .i64 3, gv, cB lv 4 0 1]) (enters_of Tryz.func46 rfl rfl) rfl rfl (pP hh8 3 gv (cB lv 4 0 1) t.got (L.take 1) hh8.gs o8c (by omega) (by rw [List.length_take]; omega)) ?_
      rintro e9 w9 ⟨u9, rfl, hu9, hm9⟩
      refine ⟨_, rfl, ?_⟩
      refine aA ?_
      refine aP ⟨cO rfl, ?_⟩
      refine cD (i := 12) (by decide +kernel) rfl rfl ?_
      have sz1 := x1.size
      have hbn := (Array.getElem?_eq_some_iff.1 h.blk).1
      have hn9 : some w1.heap.size ≠ some b := by intro e; have := Option.some.inj e; omega
      have hb9 := hm9.at (x68.at hb6) hn9
      refine aD (v := u9) rfl rfl rfl hb9 (by rw [hu9.1.size]; exact (show aM Tryz.prog 33 7 = true by decide +kernel)) (by rw [hu9.1.size]; rfl) hu9.1.one ?_
      intro w10 p10
      refine aP ⟨cO rfl, ?_⟩
      obtain ⟨u1, u2, rfl, hr⟩ := TRet.box hu9 (((x06.trans x68).mv (some b)).trans hm9) hb9 sz1 h.ext.size p10
      refine cD (i := 13) (by decide +kernel) rfl rfl ?_
      ((with_reducible refine aG ?_); (first | (refine jX ?_; refine gZ ?_) | (refine lK ?_; refine nV ?_; (with_reducible refine aG ?_); refine jX ?_; refine gZ ?_)))
      refine aP ⟨cO rfl, ?_⟩
      refine dX (by decide +kernel) ?_
      (repeat' first | ((with_reducible refine aJ ?_); go_step) | ((with_reducible refine aG ?_); first | refine aL ?_ | (refine aK ?_ ?_ <;> intro hc)) | fail)
      refine bodyPost_ret (bC (cs := bO _ u1 u2) rfl rfl p10.this (show bN Tryz.prog 33 7 = true by decide +kernel)) rfl ?_
      rw [hE]
      exact hr.tup
     ·by_cases k2 : jj.1 = 2
      ·have hE : t.reply m = ((t.done 0 t.got ((t.of m.au jj.2 6).take 1)).1, (t.done 0 t.got ((t.of m.au jj.2 6).take 1)).2, []) := by
        unfold TaskR.reply
        simp only [hst, hjj, k2, if_true, if_neg (show ¬ (2 : Int) = 1 by decide), if_neg (show ¬ (2 : Int) = 5 by decide), if_neg (show ¬ (2 : Int) = 3 by decide)]
       have hne := oZ (t := t) (m := m) (by rw [hjj]; exact .inl k2)
       rw [hjj] at hne
       have hLl := fB t m.au jj.2 6
       have hof := fun w (h : TaskV w0 w b t rv sv gv (.pointer none)) (hmm : MsgV w m q a u e) => uT ⟨_, _, _, _, h⟩ u m.au jj.2 6 hmm.au (by omega)
       generalize hL : t.of m.au jj.2 6 = L at *
       have hcL := aT L
       have hgl := hB.got
       (repeat' first | ((with_reducible refine aJ ?_); go_step) | ((with_reducible refine aG ?_); first | refine aL ?_ | (refine aK ?_ ?_ <;> intro hc)) | fail)
       refine cV 11 (Ext w6) (by decide +kernel) ?_
       intro w7 x7 _
       refine ⟨x7, ?_⟩
       refine iB 0 ?_; refine iB 1 ?_; refine iB 2 ?_; refine iB 3 ?_; refine iB 4 ?_; refine iB 5 ?_; refine iB 6 ?_; refine iB 7 ?_; refine iB 8 ?_
       refine cD (i := 9) (by decide +kernel) rfl rfl ?_
       refine aR (enters_of Tryz.func45 rfl rfl) rfl rfl (hof _ (hh6.grow x7) (hm6.ext x7)) ?_
       intro lv w8 x8 o8
       refine aA ?_
       have x68 := x7.trans x8
       refine aP ⟨dN x68, ?_⟩
       have sL := o8.sl
       refine cD (i := 10) (by decide +kernel) rfl rfl ?_
       ((with_reducible refine aG ?_); (first | (refine jX ?_; refine gZ ?_) | (refine lK ?_; refine nV ?_; (with_reducible refine aG ?_); refine jX ?_; refine gZ ?_)))
       refine aP ⟨dN x68, ?_⟩
       have hh8 := hh6.grow x68
       have szx := x68.size
       have o8c : Own w0.heap.size 4 64 w8 (cB lv 4 0 1) (aH (L.take 1)) := by
        have := o8.cut1 (by omega)
        rw [aH, List.map_take]
        exact this.weaken (by have := h.ext.size; have := x06.size; have := x7.size; omega)
       refine cD (i := 11) (by decide +kernel) rfl rfl ?_
       refine aQ (vs := [.pointer (some ⟨b, 0, none⟩), .int .i64 0, gv, cB lv 4 0 1]) (enters_of Tryz.func46 rfl rfl) rfl rfl (pP hh8 0 gv (cB lv 4 0 1) t.got (L.take 1) hh8.gs o8c (by omega) (by rw [List.length_take]; omega)) ?_
       rintro e9 w9 ⟨u9, rfl, hu9, hm9⟩
       refine ⟨_, rfl, ?_⟩
       refine aA ?_
       refine aP ⟨cO rfl, ?_⟩
       refine cD (i := 12) (by decide +kernel) rfl rfl ?_
       have sz1 := x1.size
       have hbn := (Array.getElem?_eq_some_iff.1 h.blk).1
       have hn9 : some w1.heap.size ≠ some b := by intro e; have := Option.some.inj e; omega
       have hb9 := hm9.at (x68.at hb6) hn9
       refine aD (v := u9) rfl rfl rfl hb9 (by rw [hu9.1.size]; exact (show aM Tryz.prog 33 7 = true by decide +kernel)) (by rw [hu9.1.size]; rfl) hu9.1.one ?_
       intro w10 p10
       refine aP ⟨cO rfl, ?_⟩
       obtain ⟨u1, u2, rfl, hr⟩ := TRet.box hu9 (((x06.trans x68).mv (some b)).trans hm9) hb9 sz1 h.ext.size p10
       refine cD (i := 13) (by decide +kernel) rfl rfl ?_
       ((with_reducible refine aG ?_); (first | (refine jX ?_; refine gZ ?_) | (refine lK ?_; refine nV ?_; (with_reducible refine aG ?_); refine jX ?_; refine gZ ?_)))
       refine aP ⟨cO rfl, ?_⟩
       refine dX (by decide +kernel) ?_
       (repeat' first | ((with_reducible refine aJ ?_); go_step) | ((with_reducible refine aG ?_); first | refine aL ?_ | (refine aK ?_ ?_ <;> intro hc)) | fail)
       refine bodyPost_ret (bC (cs := bO _ u1 u2) rfl rfl p10.this (show bN Tryz.prog 33 7 = true by decide +kernel)) rfl ?_
       rw [hE]
       exact hr.tup
      ·by_cases k4 : jj.1 = 4
       ·have hE : t.reply m = ((t.refer m jj.2).1.on.1, (t.refer m jj.2).1.on.2, (t.refer m jj.2).2) := by
         unfold TaskR.reply
         simp only [hst, hjj, k4, if_true, if_neg (show ¬ (4 : Int) = 1 by decide), if_neg (show ¬ (4 : Int) = 5 by decide), if_neg (show ¬ (4 : Int) = 3 by decide), if_neg (show ¬ (4 : Int) = 2 by decide)]
        (repeat' first | ((with_reducible refine aJ ?_); go_step) | ((with_reducible refine aG ?_); first | refine aL ?_ | (refine aK ?_ ?_ <;> intro hc)) | fail)
        refine aY (v := .agg (eV m q a u e).toArray) (Runs.loadN hp6 rfl (show bN Tryz.prog 25 13 = true by decide +kernel)) ?_
        refine aA ?_
        (repeat' first | ((with_reducible refine aJ ?_); go_step) | ((with_reducible refine aG ?_); first | refine aL ?_ | (refine aK ?_ ?_ <;> intro hc)) | fail)
        refine aQ (vs := [.pointer (some ⟨b, 0, none⟩), .agg (eV m q a u e).toArray, aE jj.2]) (enters_of Tryz.func49 rfl rfl) rfl rfl (yI ⟨_, _, _, _, hh6⟩ m q a u e jj.2 (fun w' h' => hm w' ((x06.mv _).trans h')) hst (by omega) (by omega) (hd1 jj.2) (hd2)) ?_
        rintro e7 w7 ⟨ll, rfl, l7, hT7, hm7⟩
        refine ⟨_, rfl, ?_⟩
        refine aA ?_
        have sz1 := x1.size
        have hbn := (Array.getElem?_eq_some_iff.1 h.blk).1
        have hn9 : some w1.heap.size ≠ some b := by intro e; have := Option.some.inj e; omega
        have hb7 := hm7.at hb6 hn9
        (repeat' first | ((with_reducible refine aJ ?_); go_step) | ((with_reducible refine aG ?_); first | refine aL ?_ | (refine aK ?_ ?_ <;> intro hc)) | fail)
        refine aQ (vs := [.pointer (some ⟨b, 0, none⟩)]) (enters_of Tryz.func50 rfl rfl) rfl rfl (wW hT7 hB.l0 (Int.le_trans hB.l1 (by decide))) ?_
        rintro e8 w8 ⟨u8, rfl, hu8, hm8⟩
        refine ⟨_, rfl, ?_⟩
        refine aA ?_
        have szb6 := (Array.getElem?_eq_some_iff.1 hb6).1
        have l8 := l7.mvb hm8 (by have := x06.size; omega)
        have hb8 := hm8.at hb7 hn9
        have f8 := ((Fr.of x06).mv hm7 (gv := gv) (b := b) (by rintro c ⟨⟩; exact .inl rfl)).mv hm8 (by rintro c ⟨⟩; exact .inl rfl)
        (repeat' first | ((with_reducible refine aJ ?_); go_step) | ((with_reducible refine aG ?_); first | refine aL ?_ | (refine aK ?_ ?_ <;> intro hc)) | fail)
        refine aD (v := u8) rfl rfl rfl hb8 (by rw [hu8.1.size]; exact (show aM Tryz.prog 33 7 = true by decide +kernel)) (by rw [hu8.1.size]; rfl) hu8.1.one ?_
        intro w12 p12
        obtain ⟨u1, u2, rfl, hr⟩ := RRet.box hu8 f8 hb8 sz1 h.ext.size l8 szb6 p12
        (repeat' first | ((with_reducible refine aJ ?_); go_step) | ((with_reducible refine aG ?_); first | refine aL ?_ | (refine aK ?_ ?_ <;> intro hc)) | fail)
        refine bodyPost_ret (bC (cs := bO _ u1 u2) rfl rfl p12.this (show bN Tryz.prog 33 7 = true by decide +kernel)) rfl ?_
        rw [hE]
        exact hr
       ·have hE : t.reply m = (t.on.1, t.on.2, []) := by
         unfold TaskR.reply
         simp only [hst, hjj, if_neg k1, if_neg k5, if_neg k3, if_neg k2, if_neg k4]
        (repeat' first | ((with_reducible refine aJ ?_); go_step) | ((with_reducible refine aG ?_); first | refine aL ?_ | (refine aK ?_ ?_ <;> intro hc)) | fail)
        refine aQ (vs := [.pointer (some ⟨b, 0, none⟩)]) (enters_of Tryz.func50 rfl rfl) rfl rfl (wW ⟨_, _, _, _, hh6⟩ hB.l0 (Int.le_trans hB.l1 (by decide))) ?_
        rintro e8 w8 ⟨u8, rfl, hu8, hm8⟩
        refine ⟨_, rfl, ?_⟩
        refine aA ?_
        have sz1 := x1.size
        have hbn := (Array.getElem?_eq_some_iff.1 h.blk).1
        have hn9 : some w1.heap.size ≠ some b := by intro e; have := Option.some.inj e; omega
        have hb8 := hm8.at hb6 hn9
        refine aD (v := u8) rfl rfl rfl hb8 (by rw [hu8.1.size]; exact (show aM Tryz.prog 33 7 = true by decide +kernel)) (by rw [hu8.1.size]; rfl) hu8.1.one ?_
        intro w10 p10
        obtain ⟨u1, u2, rfl, hr⟩ := TRet.box hu8 ((x06.mv (some b)).trans hm8) hb8 sz1 h.ext.size p10
        (repeat' first | ((with_reducible refine aJ ?_); go_step) | ((with_reducible refine aG ?_); first | refine aL ?_ | (refine aK ?_ ?_ <;> intro hc)) | fail)
        refine bodyPost_ret (bC (cs := bO _ u1 u2) rfl rfl p10.this (show bN Tryz.prog 33 7 = true by decide +kernel)) rfl ?_
        rw [hE]
        exact hr.tup)
def iW (P : Program) (s n off : Nat) : Bool := match P.underlying s with | some (.struct fs) => (match fs[n]? with | some f => f.offset == off && dM P f.type | none => false) | _ => false
theorem lO {P : Program} {s n off : Nat} (h : iW P s n off = true) : ∃ fs f, P.underlying s = some (.struct fs) ∧ fs[n]? = some f ∧ f.offset = off ∧ dM P f.type = true := by
 unfold iW at h
 split at h
 ·rename_i fs hfs
  split at h
  ·rename_i f hf
   simp only [Bool.and_eq_true, beq_iff_eq] at h
   exact ⟨fs, f, hfs, hf, h.1, h.2⟩
  ·cases h
 ·cases h
section
variable {P : Program} {a : Act} {w : World} {d : Option Nat} {ty : TypeId} {ps : String} {af : Array Edge} {g : Option (Nat × Bool)}
theorem Runs.fieldV {s : TypeId} {x : Operand} {n off : Nat} {cs : Array Value} {v : Value} (hx : a.eval x = .agg cs) (hc : cs[off]? = some v) (hf : iW P s n off = true) : Runs P (Oper.mk d (.field s x n) ty ps af g) a w v := by
 obtain ⟨fs, f, ht, hf, ho, hp⟩ := lO hf
 obtain ⟨u, hu, hn⟩ := eG hp
 constructor
 simp [execOp, hx, Instr.field, run_underlying ht, hf, ho, asAgg, part, Sem.run_bind, iX hu hn, hc]
end
section
variable {P : Program} {w : World} {ts : List Value} {df : List Deferred} {d : Option Nat} {ty : TypeId} {ps : String} {af : Array Edge} {g : Option (Nat × Bool)}
end
set_option maxHeartbeats 1000000 in
theorem pA {w0 w : World} {b : Nat} {t : TaskR} (h : TaskAt w0 w b t) (h0 : 0 ≤ t.left) (h1 : t.left ≤ 1000000) (hs : ∀ a, t.stop = some a → a.ans.length ≤ 1000000 ∧ a.auth.length ≤ 1000000) : Calls Tryz.prog 21 #[.pointer (some ⟨b, 0, none⟩)] w (TRet w0 w b t.timeout) := by
 have hA := h
 obtain ⟨rv, sv, gv, ev, h⟩ := h
 have hp := aC (cs := bL t rv sv gv ev) h.blk
 have he := h.es
 go_enter Tryz.func21, Tryz.ntmps21
 (repeat' first | ((with_reducible refine aJ ?_); go_step) | ((with_reducible refine aG ?_); first | refine aL ?_ | (refine aK ?_ ?_ <;> intro hc)) | fail)
 refine aF (z := bX) rfl (by decide +kernel) ?_
 intro w1 x1 s1 hb1
 refine aA ?_
 have hp1 := hp.ext x1
 have hA1 := hA.grow x1
 cases hst : t.stop with
 | none =>
  rw [hst] at he
  have hev : ev = .pointer none := he
  subst hev
  have hE : t.timeout = t.on := by rw [TaskR.timeout, hst]
  (repeat' first | ((with_reducible refine aJ ?_); go_step) | ((with_reducible refine aG ?_); first | refine aL ?_ | (refine aK ?_ ?_ <;> intro hc)) | fail)
  refine aQ (vs := [.pointer (some ⟨b, 0, none⟩)]) (enters_of Tryz.func50 rfl rfl) rfl rfl (wW hA1 h0 h1) ?_
  rintro e w4 ⟨u, rfl, hu, hm⟩
  refine ⟨_, rfl, ?_⟩
  refine aA ?_
  have h14 := hm.at hb1 h.neBox
  refine aD (v := u) rfl rfl rfl h14 (by rw [hu.1.size]; exact (show aM Tryz.prog 33 7 = true by decide +kernel)) (by rw [hu.1.size]; rfl) hu.1.one ?_
  intro w5 p5
  obtain ⟨u1, u2, rfl, hr⟩ := TRet.box hu ((x1.mv _).trans hm) h14 (Nat.le_refl _) h.ext.size p5
  (repeat' first | ((with_reducible refine aJ ?_); go_step) | ((with_reducible refine aG ?_); first | refine aL ?_ | (refine aK ?_ ?_ <;> intro hc)) | fail)
  exact bodyPost_ret (cA (cs := bO t.on.2 u1 u2) rfl rfl p5.this (show bN Tryz.prog 33 7 = true by decide +kernel)) rfl (by rw [hE]; exact hr)
 | some a =>
  rw [hst] at he
  obtain ⟨c, v1, v2, rfl, hc, hcb, o1, o2, -⟩ := he
  have hE : t.timeout = (t, a) := by rw [TaskR.timeout, hst]
  (repeat' first | ((with_reducible refine aJ ?_); go_step) | ((with_reducible refine aG ?_); first | refine aL ?_ | (refine aK ?_ ?_ <;> intro hc)) | fail)
  refine aR (enters_of Tryz.func43 rfl rfl) rfl rfl (pN hA1 hst (hs a hst).1 (hs a hst).2) ?_
  intro u w4 x4 hu
  refine aA ?_
  have hm : Mv (some b) w1 w4 := x4.mv _
  have h14 := hm.at hb1 h.neBox
  refine aD (v := u) rfl rfl rfl h14 (by rw [hu.1.size]; exact (show aM Tryz.prog 33 7 = true by decide +kernel)) (by rw [hu.1.size]; rfl) hu.1.one ?_
  intro w5 p5
  obtain ⟨u1, u2, rfl, hr⟩ := TRet.box hu ((x1.mv _).trans hm) h14 (Nat.le_refl _) h.ext.size p5
  (repeat' first | ((with_reducible refine aJ ?_); go_step) | ((with_reducible refine aG ?_); first | refine aL ?_ | (refine aK ?_ ?_ <;> intro hc)) | fail)
  exact bodyPost_ret (cA (cs := bO (t, a).2 u1 u2) rfl rfl p5.this (show bN Tryz.prog 33 7 = true by decide +kernel)) rfl (by rw [hE]; exact hr)
def DJ : TaskR := jU [1, 120, 1, 65] 1 [3, 4] 9
def sK : MsgR := { zeroM with resp := true, au := [⟨[1, 97], 2, 5, [1, 110, 0]⟩], ex := [⟨[1, 110], 1, 5, [10, 0, 0, 7]⟩] }
def xD : MsgR := { zeroM with resp := true, auth := true, an := [⟨[1, 120, 1, 97], 1, 5, [49, 50, 51, 52]⟩] }
def CL : TaskR := ⟨[1, 120, 1, 97], 1, [3, 4], [], [4], [], 0, 8, none⟩
def BT : TaskR := ⟨[1, 120, 1, 97], 1, [3, 4], [], [], [], 0, 7, none⟩
def BU : TaskR := ⟨[1, 120, 1, 97], 1, [3, 4], [1, 97], [], [], 0, 6, none⟩
def AJ : List Rec := [⟨[1, 120, 1, 97], 1, 5, [49, 50, 51, 52]⟩]
def BV : TaskR := ⟨[1, 120, 1, 97], 1, [3, 4], [1, 97], [], AJ, 0, 6, some ⟨2, 0, [], 0, 0, AJ, []⟩⟩
deriving instance DecidableEq for TaskR
deriving instance DecidableEq for RSet
deriving instance DecidableEq for LrnR
def CM : List LrnR := [⟨⟨[1, 97], 2, 5, [[1, 110, 0]]⟩, 2⟩, ⟨⟨[1, 110], 1, 5, [[10, 0, 0, 7]]⟩, 1⟩]
def CN : List LrnR := [⟨⟨[1, 120, 1, 97], 1, 5, [[49, 50, 51, 52]]⟩, 4⟩]
theorem BI : eD [1, 120, 1, 65] 1 [3, 4] 9 = 0 := by decide +kernel
theorem BJ : eD [] 1 [] 9 = 1 := by decide +kernel
theorem CO : DJ.on = (CL, ⟨1, 3, [1, 120, 1, 97], 1, 0, [], []⟩) := by decide +kernel
theorem CP : CL.timeout = (BT, ⟨1, 4, [1, 120, 1, 97], 1, 0, [], []⟩) := by decide +kernel
theorem CQ : BT.reply sK = (BU, ⟨1, 7, [1, 120, 1, 97], 1, 0, [], []⟩, CM) := by decide +kernel
theorem CR : BU.reply xD = (BV, ⟨2, 0, [], 0, 0, AJ, []⟩, CN) := by decide +kernel
theorem CS : BV.timeout = (BV, ⟨2, 0, [], 0, 0, AJ, []⟩) := by decide +kernel
section
variable {P : Program} {w w0 : World} {ts : List Value} {df : List Deferred} {d : Option Nat} {ty : TypeId} {ps : String} {af : Array Edge} {g : Option (Nat × Bool)}
theorem Runs.fieldP {s : TypeId} {m n off : Nat} {p : Value} {vs : List Value} (hx : ts.getD m undef = p) (hp : Pts w0 p vs) (hf : eE P s n off = true) :
 Runs P (Oper.mk d (.fieldAddr s (.tmp m) n) ty ps af g) (Act.mk ts.toArray df) w (aX p off) := by
 obtain ⟨b, o, rfl, _⟩ := hp
 obtain ⟨fs, f, i, ht, hf, ho, hie, hz⟩ := eF hf
 have hx' : (Act.mk ts.toArray df).eval (.tmp m) = .pointer (some ⟨b, o, none⟩) := by rw [cR]; exact hx
 constructor
 simp [execOp, hx', Instr.fieldAt, Instr.sureAddr, run_underlying ht, hf, fieldPlace, sizeOf, typeInfo, hie, hz, aX, ho]
end
theorem Own.same {B k e : Nat} {w w' : World} {v : Value} {es : List (List Value)} (h : Own B k e w v es) (hs : ∀ r, v.ownBlock = some r → w'.heap[r]? = w.heap[r]?) : Own B k e w' v es := by
 obtain ⟨⟨h1, h2⟩, h3⟩ := h
 refine ⟨⟨h1, ?_⟩, h3⟩
 rcases h2 with h2 | ⟨gg, cap, cur, fz, rfl, hb, hg, r⟩
 ·exact .inl h2
 ·exact .inr ⟨gg, cap, cur, fz, rfl, hb, by rw [hs gg rfl]; exact hg, r⟩
theorem Own.fr {B k e b : Nat} {w0 w w' : World} {t : TaskR} {rv sv gv ev v : Value} {es : List (List Value)} (h : Own B k e w v es) (hf : Fr b gv w w') (hT : TaskV w0 w b t rv sv gv ev) (h1 : 99 ≠ e) (h2 : e ≠ 64) : Own B k e w' v es :=
 h.same fun r hr => hf.block r (h.block r hr).2 (by rintro rfl; exact h.neBlock hT.blk h1 hr) (by
  intro e2
  rcases h.ne hT.gs h2 with e3 | e3
  ·rw [hr] at e3; cases e3
  ·exact e3 (by rw [hr, e2]))
theorem Fr.box {b c t : Nat} {w0 w w' : World} {tk : TaskR} {rv sv gv ev : Value} {cs : Array Value} {fz : Nat × Nat} (hf : Fr b gv w w') (hT : TaskV w0 w b tk rv sv gv ev) (hc : w.heap[c]? = some (.cells cs t fz)) (h1 : t ≠ 99) (h2 : t ≠ 64) : w'.heap[c]? = some (.cells cs t fz) := by
 rw [hf.block c (Array.getElem?_eq_some_iff.1 hc).1 (by
  rintro rfl
  have := hT.blk
  rw [hc] at this
  simp only [Option.some.injEq, Obj.cells.injEq] at this
  exact h1 this.2.1) (hT.gs.neBlock hc h2)]
 exact hc
theorem gX {t : TaskR} {l : List Rec} {n : List UInt8} {k : Int} {K : Nat} (h : ∀ r ∈ l, r.data.length ≤ K) : ∀ r ∈ t.of l n k, r.data.length ≤ K := by
 intro r hr
 unfold TaskR.of at hr
 obtain ⟨q, hq, rfl⟩ := List.mem_map.1 (List.mem_filter.1 hr).1
 exact h q (List.mem_filter.1 hq).1
theorem BK : TaskB BT 0 := ⟨by decide, by decide, by decide, by decide, by decide, by intro a h; cases h⟩
theorem BL : TaskB BU 0 := ⟨by decide, by decide, by decide, by decide, by decide, by intro a h; cases h⟩
set_option maxHeartbeats 4000000 in
theorem xE (w : World) : Calls Tryz.prog 15 #[] w (DI w) := by
 go_enter Tryz.func15, Tryz.ntmps15
 (repeat' first | ((with_reducible refine aJ ?_); go_step) | ((with_reducible refine aG ?_); first | refine aL ?_ | (refine aK ?_ ?_ <;> intro hc)) | fail)
 refine aY (v := .agg #[aE [1, 120, 1, 65], .int .i64 1]) (Runs.build rfl (by kernel_rfl)) ?_
 refine aA ?_
 refine bR (e := 3) (k := 1) (bytes := 8) (xs := [.int .i64 3, .int .i64 4]) rfl rfl rfl (by simp [Value.cells]) (by decide +kernel) (by simp) ?_
 intro v1 w1 x1 _ sl1 _
 refine aA ?_
 have sl1' : Sl 1 w1 v1 (aZ [3, 4]) := sl1
 refine aR (enters_of Tryz.func24 rfl rfl) rfl rfl (wX [1, 120, 1, 65] 1 v1 [3, 4] 9 _ sl1' (by decide)) ?_
 intro r w2 x2 hr
 unfold fG at hr
 rw [if_pos BI] at hr
 obtain ⟨b, u2, rfl, hu2⟩ := hr
 change ActRet w1 b DJ.on u2 w2 at hu2
 rw [CO] at hu2
 obtain ⟨⟨a1, a2, rfl, oa1, oa2⟩, hT2⟩ := hu2
 have hbn : b < w2.heap.size := by obtain ⟨_, _, _, _, h⟩ := hT2; exact (Array.getElem?_eq_some_iff.1 h.blk).1
 refine aA ?_
 (repeat' first | ((with_reducible refine aJ ?_); go_step) | ((with_reducible refine aG ?_); first | refine aL ?_ | (refine aK ?_ ?_ <;> intro hc)) | fail)
 refine aF (z := bX) rfl (by decide +kernel) ?_
 intro w3 x3 s3 h3
 refine aA ?_
 have hT3 := hT2.grow x3
 (repeat' first | ((with_reducible refine aJ ?_); go_step) | ((with_reducible refine aG ?_); first | refine aL ?_ | (refine aK ?_ ?_ <;> intro hc)) | fail)
 refine aD (v := .agg (bO ⟨1, 3, [1, 120, 1, 97], 1, 0, [], []⟩ a1 a2).toArray) rfl rfl rfl h3 (show aM Tryz.prog 33 7 = true by decide +kernel) rfl (dQ oa1.one oa2.one) ?_
 intro w4 p4
 have x4 : Ext w2 w4 := x3.move p4.mv (by rintro k ⟨⟩; exact Nat.le_refl _)
 have hT4 := hT2.grow x4
 have hA4 : w4.heap[w2.heap.size]? = some (.cells (bO ⟨1, 3, [1, 120, 1, 97], 1, 0, [], []⟩ a1 a2).toArray 33 (0, 0)) := p4.this
 have hx4 := x1.trans (x2.trans x4)
 clear hT2 hT3 p4 h3 x3
 (repeat' first | ((with_reducible refine aJ ?_); go_step) | ((with_reducible refine aG ?_); first | refine aL ?_ | (refine aK ?_ ?_ <;> intro hc)) | fail)
 refine aY (v := .agg #[aE [], .int .i64 1]) (Runs.build rfl (by kernel_rfl)) ?_
 refine aA ?_
 refine aR (enters_of Tryz.func24 rfl rfl) rfl rfl (wX [] 1 (.slice none 0 0) [] 9 _ (Sl.nil _ _) (by decide)) ?_
 intro r w5 x5 hr
 unfold fG at hr
 rw [BJ, if_neg (by decide)] at hr
 subst hr
 refine aA ?_
 have hT5 := hT4.grow x5
 have hA5 := x5.at hA4
 (repeat' first | ((with_reducible refine aJ ?_); go_step) | ((with_reducible refine aG ?_); first | refine aL ?_ | (refine aK ?_ ?_ <;> intro hc)) | fail)
 refine aF (z := bX) rfl (by decide +kernel) ?_
 intro w6 x6 s6 h6
 refine aA ?_
 (repeat' first | ((with_reducible refine aJ ?_); go_step) | ((with_reducible refine aG ?_); first | refine aL ?_ | (refine aK ?_ ?_ <;> intro hc)) | fail)
 refine aD (v := .agg bX.toArray) rfl rfl rfl h6 (show aM Tryz.prog 33 7 = true by decide +kernel) rfl (by decide +kernel) ?_
 intro w7 p7
 have x7 : Ext w5 w7 := x6.move p7.mv (by rintro k ⟨⟩; exact Nat.le_refl _)
 have hT7 := hT5.grow x7
 have hA7 := x7.at hA5
 have hx7 := hx4.trans (x5.trans x7)
 clear hT4 hT5 hA4 hA5 p7 h6 x6
 change TaskAt w1 w7 b CL at hT7
 (repeat' first | ((with_reducible refine aJ ?_); go_step) | ((with_reducible refine aG ?_); first | refine aL ?_ | (refine aK ?_ ?_ <;> intro hc)) | fail)
 refine aQ (vs := [.pointer (some ⟨b, 0, none⟩)]) (enters_of Tryz.func21 rfl rfl) rfl rfl (pA hT7 (by decide) (by decide) (by intro a h; cases h)) ?_
 rintro e8 w8 ⟨u8, rfl, hu8, hm8⟩
 refine ⟨_, rfl, ?_⟩
 rw [CP] at hu8
 obtain ⟨⟨b1, b2, rfl, ob1, ob2⟩, hT8⟩ := hu8
 change TaskAt w1 w8 b BT at hT8
 refine aA ?_
 have z4 := x4.size
 have z57 := (x5.trans x7).size
 have hA8 := hm8.at hA7 (by intro e; have := Option.some.inj e; omega)
 have hx8 := hx7.move hm8 (by rintro k ⟨⟩; obtain ⟨_, _, _, _, h⟩ := hT8; have := h.ge; have := x1.size; omega)
 (repeat' first | ((with_reducible refine aJ ?_); go_step) | ((with_reducible refine aG ?_); first | refine aL ?_ | (refine aK ?_ ?_ <;> intro hc)) | fail)
 refine aF (z := bX) rfl (by decide +kernel) ?_
 intro w9 x9 s9 h9
 refine aA ?_
 (repeat' first | ((with_reducible refine aJ ?_); go_step) | ((with_reducible refine aG ?_); first | refine aL ?_ | (refine aK ?_ ?_ <;> intro hc)) | fail)
 refine aD (v := .agg (bO ⟨1, 4, [1, 120, 1, 97], 1, 0, [], []⟩ b1 b2).toArray) rfl rfl rfl h9 (show aM Tryz.prog 33 7 = true by decide +kernel) rfl (dQ ob1.one ob2.one) ?_
 intro w10 p10
 have x10 : Ext w8 w10 := x9.move p10.mv (by rintro k ⟨⟩; exact Nat.le_refl _)
 have hT10 := hT8.grow x10
 have hA10 := x10.at hA8
 have hB10 : w10.heap[w8.heap.size]? = some (.cells (bO ⟨1, 4, [1, 120, 1, 97], 1, 0, [], []⟩ b1 b2).toArray 33 (0, 0)) := p10.this
 have hx10 := hx8.trans x10
 have z8 := hm8.size
 clear hT7 hT8 hA7 hA8 p10 h9 x9
 (repeat' first | ((with_reducible refine aJ ?_); go_step) | ((with_reducible refine aG ?_); first | refine aL ?_ | (refine aK ?_ ?_ <;> intro hc)) | fail)
 refine aY (v := .agg #[aE [1, 97], .int .i64 2, .int .i64 5, aE [1, 110, 0]]) (Runs.build rfl (by kernel_rfl)) ?_
 refine aA ?_
 refine bR (e := 64) (k := 4) (bytes := cZ Tryz.prog 64) (xs := [.agg #[aE [1, 97], .int .i64 2, .int .i64 5, aE [1, 110, 0]]]) rfl rfl rfl (by simp [Value.cells]) (by decide +kernel) (by decide +kernel) ?_
 intro v11 w11 x11 _ _ o11
 refine aA ?_
 refine aY (v := .agg #[aE [1, 110], .int .i64 1, .int .i64 5, aE [10, 0, 0, 7]]) (Runs.build rfl (by kernel_rfl)) ?_
 refine aA ?_
 refine bR (e := 64) (k := 4) (bytes := cZ Tryz.prog 64) (xs := [.agg #[aE [1, 110], .int .i64 1, .int .i64 5, aE [10, 0, 0, 7]]]) rfl rfl rfl (by simp [Value.cells]) (by decide +kernel) (by decide +kernel) ?_
 intro v12 w12 x12 _ _ o12
 refine aA ?_
 have o11' : Own w10.heap.size 4 64 w12 v11 (aH sK.au) := (show Own w10.heap.size 4 64 w11 v11 (aH sK.au) from o11).ext x12
 have o12' : Own w11.heap.size 4 64 w12 v12 (aH sK.ex) := o12
 have hT12 := (hT10.grow x11).grow x12
 have hA12 := x12.at (x11.at hA10)
 have hB12 := x12.at (x11.at hB10)
 obtain ⟨rv, sv, gv, ev, hV12⟩ := hT12
 refine aY (v := .agg (eV sK (.slice none 0 0) (.slice none 0 0) v11 v12).toArray) (Runs.build (vals := [(1, .bool true), (10, v11), (11, v12)]) rfl (by obtain ⟨_, _, _, rfl⟩ := o11'.sl.slf; obtain ⟨_, _, _, rfl⟩ := o12'.sl.slf; kernel_rfl)) ?_
 refine aA ?_
 refine aQ (vs := [.pointer (some ⟨b, 0, none⟩), .agg (eV sK (.slice none 0 0) (.slice none 0 0) v11 v12).toArray]) (enters_of Tryz.func16 rfl rfl) rfl rfl (pR hV12 BK (by decide) sK _ _ _ _ (fun w' hm' => ⟨Sl.nil _ _, Sl.nil _ _, (o11'.mv hm' (.inr (o11'.neBlock hV12.blk (by decide)))).sl, (o12'.mv hm' (.inr (o12'.neBlock hV12.blk (by decide)))).sl⟩) (by decide) (by decide) (by decide) (fun z => gX (by decide)) (fun n => gX (by decide))) ?_
 rintro e13 w13 ⟨u13, l13, rfl, hu13, hl13, hf13⟩
 refine ⟨_, rfl, ?_⟩
 rw [CQ] at hu13 hl13
 obtain ⟨⟨c1, c2, rfl, oc1, oc2⟩, hT13⟩ := hu13
 change TaskAt w1 w13 b BU at hT13
 have hA13 := hf13.box hV12 hA12 (by decide) (by decide)
 have hB13 := hf13.box hV12 hB12 (by decide) (by decide)
 obtain ⟨css, k1, k2, k3⟩ := hl13
 obtain ⟨e0, e1, rfl⟩ : ∃ e0 e1, css = [e0, e1] := by
  match css, (show css.length = 2 from k2) with
  | [e0, e1], _ => exact ⟨e0, e1, rfl⟩
 refine aA ?_
 (repeat' first | ((with_reducible refine aJ ?_); go_step) | ((with_reducible refine aG ?_); first | refine aL ?_ | (refine aK ?_ ?_ <;> intro hc)) | fail)
 refine aF (z := bX) rfl (by decide +kernel) ?_
 intro w14 x14 s14 h14
 refine aA ?_
 (repeat' first | ((with_reducible refine aJ ?_); go_step) | ((with_reducible refine aG ?_); first | refine aL ?_ | (refine aK ?_ ?_ <;> intro hc)) | fail)
 refine aD (v := .agg (bO ⟨1, 7, [1, 120, 1, 97], 1, 0, [], []⟩ c1 c2).toArray) rfl rfl rfl h14 (show aM Tryz.prog 33 7 = true by decide +kernel) rfl (dQ oc1.one oc2.one) ?_
 intro w15 p15
 have x15 : Ext w13 w15 := x14.move p15.mv (by rintro k ⟨⟩; exact Nat.le_refl _)
 have hT15 := hT13.grow x15
 have hA15 := x15.at hA13
 have hB15 := x15.at hB13
 have hC15 : w15.heap[w13.heap.size]? = some (.cells (bO ⟨1, 7, [1, 120, 1, 97], 1, 0, [], []⟩ c1 c2).toArray 33 (0, 0)) := p15.this
 have k15 := k1.ext x15
 clear hT10 hT13 hA13 hB13 p15 h14 x14 hA12 hB12 hA10 hB10 k1 k3
 (repeat' first | ((with_reducible refine aJ ?_); go_step) | ((with_reducible refine aG ?_); first | refine aL ?_ | (refine aK ?_ ?_ <;> intro hc)) | fail)
 refine aY (v := .agg #[aE [1, 120, 1, 97], .int .i64 1, .int .i64 5, aE [49, 50, 51, 52]]) (Runs.build rfl (by kernel_rfl)) ?_
 refine aA ?_
 refine bR (e := 64) (k := 4) (bytes := cZ Tryz.prog 64) (xs := [.agg #[aE [1, 120, 1, 97], .int .i64 1, .int .i64 5, aE [49, 50, 51, 52]]]) rfl rfl rfl (by simp [Value.cells]) (by decide +kernel) (by decide +kernel) ?_
 intro v16 w16 x16 _ _ o16
 refine aA ?_
 have o16' : Own w15.heap.size 4 64 w16 v16 (aH xD.an) := o16
 have hT16 := hT15.grow x16
 have hA16 := x16.at hA15
 have hB16 := x16.at hB15
 have hC16 := x16.at hC15
 have k16 := k15.ext x16
 obtain ⟨rv', sv', gv', ev', hV16⟩ := hT16
 refine aY (v := .agg (eV xD (.slice none 0 0) v16 (.slice none 0 0) (.slice none 0 0)).toArray) (Runs.build (vals := [(1, .bool true), (3, .bool true), (9, v16)]) rfl (by obtain ⟨_, _, _, rfl⟩ := o16'.sl.slf; kernel_rfl)) ?_
 refine aA ?_
 refine aQ (vs := [.pointer (some ⟨b, 0, none⟩), .agg (eV xD (.slice none 0 0) v16 (.slice none 0 0) (.slice none 0 0)).toArray]) (enters_of Tryz.func16 rfl rfl) rfl rfl (pR hV16 BL (by decide) xD _ _ _ _ (fun w' hm' => ⟨Sl.nil _ _, (o16'.mv hm' (.inr (o16'.neBlock hV16.blk (by decide)))).sl, Sl.nil _ _, Sl.nil _ _⟩) (by decide) (by decide) (by decide) (fun z => gX (by decide)) (fun n => gX (by decide))) ?_
 rintro e17 w17 ⟨u17, l17, rfl, hu17, hl17, hf17⟩
 refine ⟨_, rfl, ?_⟩
 rw [CR] at hu17 hl17
 obtain ⟨⟨d1, d2, rfl, od1, od2⟩, hT17⟩ := hu17
 change TaskAt w1 w17 b BV at hT17
 have hA17 := hf17.box hV16 hA16 (by decide) (by decide)
 have hB17 := hf17.box hV16 hB16 (by decide) (by decide)
 have hC17 := hf17.box hV16 hC16 (by decide) (by decide)
 have k17 := k16.fr hf17 hV16 (by decide) (by decide)
 obtain ⟨cst, j1, j2, j3⟩ := hl17
 obtain ⟨f0, rfl⟩ : ∃ f0, cst = [f0] := by
  match cst, (show cst.length = 1 from j2) with
  | [f0], _ => exact ⟨f0, rfl⟩
 obtain ⟨xd, hf0, hxd, _, _⟩ := j3 0 ⟨⟨[1, 120, 1, 97], 1, 5, [[49, 50, 51, 52]]⟩, 4⟩ rfl
 obtain rfl : f0 = nM ⟨⟨[1, 120, 1, 97], 1, 5, [[49, 50, 51, 52]]⟩, 4⟩ xd := by simpa using hf0
 refine aA ?_
 (repeat' first | ((with_reducible refine aJ ?_); go_step) | ((with_reducible refine aG ?_); first | refine aL ?_ | (refine aK ?_ ?_ <;> intro hc)) | fail)
 refine aF (z := bX) rfl (by decide +kernel) ?_
 intro w18 x18 s18 h18
 refine aA ?_
 (repeat' first | ((with_reducible refine aJ ?_); go_step) | ((with_reducible refine aG ?_); first | refine aL ?_ | (refine aK ?_ ?_ <;> intro hc)) | fail)
 refine aD (v := .agg (bO ⟨2, 0, [], 0, 0, AJ, []⟩ d1 d2).toArray) rfl rfl rfl h18 (show aM Tryz.prog 33 7 = true by decide +kernel) rfl (dQ od1.one od2.one) ?_
 intro w19 p19
 have x19 : Ext w17 w19 := x18.move p19.mv (by rintro k ⟨⟩; exact Nat.le_refl _)
 have hT19 := hT17.grow x19
 have hpA := aC (cs := bO ⟨1, 3, [1, 120, 1, 97], 1, 0, [], []⟩ a1 a2) (x19.at hA17)
 have hpB := aC (cs := bO ⟨1, 4, [1, 120, 1, 97], 1, 0, [], []⟩ b1 b2) (x19.at hB17)
 have hpC := aC (cs := bO ⟨1, 7, [1, 120, 1, 97], 1, 0, [], []⟩ c1 c2) (x19.at hC17)
 have hpD := aC (cs := bO ⟨2, 0, [], 0, 0, AJ, []⟩ d1 d2) p19.this
 have k19 := (k17.ext x19).sl
 have j19 := j1.ext x19
 have od19 : Own 0 4 64 w19 d1 [[aE [1, 120, 1, 97], .int .i64 1, .int .i64 5, aE [49, 50, 51, 52]]] := (show Own 0 4 64 w17 d1 [[aE [1, 120, 1, 97], .int .i64 1, .int .i64 5, aE [49, 50, 51, 52]]] from od1).ext x19
 have sd19 := od19.sl
 have sj19 := j19.sl
 have hx19 : Ext w w19 := by obtain ⟨_, _, _, _, h⟩ := hT19; exact x1.trans h.ext
 clear hT15 hT17 hA15 hB15 hC15 hA16 hB16 hC16 hA17 hB17 hC17 p19 h18 x18 k15 k16 k17 j1 od1 hf13 hf17
 ((with_reducible refine aG ?_); (first | (refine jX ?_; refine gZ ?_) | (refine lK ?_; refine nV ?_; (with_reducible refine aG ?_); refine jX ?_; refine gZ ?_)))
 (first | ((with_reducible refine aJ ?_); go_step) | fail)
 (first | ((with_reducible refine aJ ?_); go_step) | fail)
 (first | ((with_reducible refine aJ ?_); go_step) | fail)
 (first | ((with_reducible refine aJ ?_); go_step) | fail)
 simp only [List.append]
 (repeat' first | ((with_reducible refine aJ ?_); go_step) | ((with_reducible refine aG ?_); first | refine aL ?_ | (refine aK ?_ ?_ <;> intro hc)) | fail)
 have hqA : Pts w19 (aX (.pointer (some ⟨w2.heap.size, 0, none⟩)) 2) [aE [1, 120, 1, 97], .int .i64 1] := (hpA.part 2).front 2
 ((with_reducible refine aG ?_); (first | (refine jX ?_; refine gZ ?_) | (refine lK ?_; refine nV ?_; (with_reducible refine aG ?_); refine jX ?_; refine gZ ?_)))
 clear hqA
 have hZ : Calls Tryz.prog 22 #[.pointer (some ⟨b, 0, none⟩)] w19 (bZ w19 (aE [1, 97])) := AB hT19
 (repeat' first | ((with_reducible refine aJ ?_); go_step) | ((with_reducible refine aG ?_); first | refine aL ?_ | (refine aK ?_ ?_ <;> intro hc)) | fail)
 all_goals first
  | (exfalso; exact hc rfl)
  | skip
 refine aB (enters_of Tryz.func22 rfl rfl) rfl rfl hZ ?_
 intro w20 x20
 refine aA ?_
 have hpD20 := hpD.ext x20
 have sd20 := sd19.ext x20
 have sj20 := sj19.ext x20
 have hT20 := hT19.grow x20
 have hpf := sj20.elem (i := 0) (e := nM ⟨⟨[1, 120, 1, 97], 1, 5, [[49, 50, 51, 52]]⟩, 4⟩ xd) rfl
 (repeat' first | ((with_reducible refine aJ ?_); go_step) | ((with_reducible refine aG ?_); first | refine aL ?_ | (refine aK ?_ ?_ <;> intro hc)) | fail)
 all_goals first
  | (exfalso; exact hc rfl)
  | skip
 refine aY (Runs.fieldP rfl hpf (show eE Tryz.prog 61 1 4 = true by decide +kernel)) ?_
 refine aA ?_
 (repeat' first | ((with_reducible refine aJ ?_); go_step) | ((with_reducible refine aG ?_); first | refine aL ?_ | (refine aK ?_ ?_ <;> intro hc)) | fail)
 refine aQ (vs := [.pointer (some ⟨b, 0, none⟩)]) (enters_of Tryz.func21 rfl rfl) rfl rfl (pA hT20 (by decide) (by decide) (by intro a h; cases h; exact ⟨by decide, by decide⟩)) ?_
 rintro e21 w21 ⟨u21, rfl, hu21, hm21⟩
 refine ⟨_, rfl, ?_⟩
 rw [CS] at hu21
 obtain ⟨⟨g1, g2, rfl, og1, og2⟩, hT21⟩ := hu21
 have hx21 : Ext w w21 := by obtain ⟨_, _, _, _, h⟩ := hT21; exact x1.trans h.ext
 refine aA ?_
 (repeat' first | ((with_reducible refine aJ ?_); go_step) | ((with_reducible refine aG ?_); first | refine aL ?_ | (refine aK ?_ ?_ <;> intro hc)) | fail)
 refine aY (v := .int .i64 2) (Runs.fieldV (off := 0) rfl rfl (by decide +kernel)) ?_
 refine aA ?_
 (repeat' first | ((with_reducible refine aJ ?_); go_step) | ((with_reducible refine aG ?_); first | refine aL ?_ | (refine aK ?_ ?_ <;> intro hc)) | fail)
 go_ret
 exact ⟨rfl, hx21⟩
end Go.Proofs.X
set_option linter.unusedSimpArgs false
set_option linter.unusedVariables false
namespace Go.Proofs.X
open Go.RowKit
end Go.Proofs.X
set_option linter.unusedSimpArgs false
set_option linter.unusedVariables false
namespace Go.Proofs.X
open Go.RowKit
end Go.Proofs.X
set_option linter.unusedSimpArgs false
set_option linter.unusedVariables false
namespace Go.Proofs.X
open Go.RowKit
end Go.Proofs.X
set_option linter.unusedSimpArgs false
set_option linter.unusedVariables false
namespace Go.Proofs.X
open Go.RowKit
set_option maxRecDepth 100000
end Go.Proofs.X
set_option linter.unusedSimpArgs false
set_option linter.unusedVariables false
namespace Go.Proofs.X
open Go.RowKit
end Go.Proofs.X
set_option linter.unusedSimpArgs false
set_option linter.unusedVariables false
namespace Go.Proofs.X
open Go.RowKit
set_option maxRecDepth 100000
end Go.Proofs.X
set_option linter.unusedSimpArgs false
set_option linter.unusedVariables false
namespace Go.Proofs.X
open Go.RowKit
end Go.Proofs.X
set_option linter.unusedSimpArgs false
set_option linter.unusedVariables false
namespace Go.Proofs.X
open Go.RowKit
set_option maxRecDepth 100000
section
variable {P : Program} {a : Act} {w : World} {d : Option Nat} {ty : TypeId} {ps : String} {af : Array Edge} {g : Option (Nat × Bool)}
end
section
variable {P : Program} {ts : List Value} {df : List Deferred} {w : World} {d : Option Nat} {ty : TypeId} {ps : String} {af : Array Edge} {g : Option (Nat × Bool)}
end
section
variable {P : Program} {ts : List Value} {df : List Deferred} {w : World} {d : Option Nat} {ty : TypeId} {ps : String} {af : Array Edge} {g : Option (Nat × Bool)}
end
abbrev yM := Bool × MsgR
def CT (s : yM) (q a u e : Value) : List Value := .bool s.1 :: eV s.2 q a u e
structure RopsAt (w : World) (v : Value) (l : List yM) : Prop where
 out : ∃ css, Sl 14 w v css ∧ css.length = l.length ∧ ∀ (i : Nat) (s : yM), l[i]? = some s → ∃ q a u e, css[i]? = some (CT s q a u e) ∧ MsgV w s.2 q a u e
theorem RopsAt.ext {w w' : World} {v : Value} {l : List yM} (h : RopsAt w v l) (hx : Ext w w') : RopsAt w' v l := by
 obtain ⟨css, h1, h2, h3⟩ := h
 exact ⟨css, h1.ext hx, h2, fun i s hi => let ⟨q, a, u, e, h4, h5⟩ := h3 i s hi; ⟨q, a, u, e, h4, h5.ext hx⟩⟩
theorem yN (w : World) : Calls Tryz.prog 15 #[] w (bZ w (.bool true)) := xE w
theorem TaskV.other2 {w0 w w' : World} {b c : Nat} {t : TaskR} {rv sv gv ev u1 u2 : Value} {fz : Nat × Nat} {o : Obj} {a : ActR} (h : TaskV w0 w b t rv sv gv ev) (hp : Put w w' c o) (hc : w.heap[c]? = some (.cells (bO a u1 u2).toArray 33 fz)) (ha : a.kind ≠ 2) (hg : w0.heap.size ≤ c) : TaskV w0 w' b t rv sv gv ev := by
 refine ⟨h.ge, h.ext.move hp.mv (by rintro k ⟨⟩; exact hg), hp.mv.at h.blk ?_, h.rs.mv hp.mv (.inr (h.rs.neBlock hc (by decide))), h.ss.mv hp.mv (.inr (h.ss.neBlock hc (by decide))), h.gs.mv hp.mv (.inr (h.gs.neBlock hc (by decide))), ?_⟩
 ·intro e
  have e2 := h.blk
  rw [Option.some.inj e, hc] at e2
  simp only [Option.some.injEq, Obj.cells.injEq] at e2
  exact absurd e2.2.1 (by decide)
 ·have he := h.es
  generalize hst : t.stop = s at he
  cases s with
  | none => exact he
  | some a' =>
   obtain ⟨k, v1, v2, g1, g2, g3, g4, g5, g6⟩ := he
   refine ⟨k, v1, v2, g1, g2, hp.mv.at g3 (fun e => ?_), g4.mv hp.mv (.inr (g4.neBlock hc (by decide))), g5.mv hp.mv (.inr (g5.neBlock hc (by decide))), g6⟩
   rw [Option.some.inj e, hc] at g3
   simp only [Option.some.injEq, Obj.cells.injEq] at g3
   have e3 := congrArg (fun q => q[0]?) g3.1
   simp [bO, g6] at e3
   exact ha e3
theorem TaskAt.other2 {w0 w w' : World} {b c : Nat} {t : TaskR} {u1 u2 : Value} {fz : Nat × Nat} {o : Obj} {a : ActR} (h : TaskAt w0 w b t) (hp : Put w w' c o) (hc : w.heap[c]? = some (.cells (bO a u1 u2).toArray 33 fz)) (ha : a.kind ≠ 2) (hg : w0.heap.size ≤ c) : TaskAt w0 w' b t := by
 obtain ⟨rv, sv, gv, ev, h⟩ := h
 exact ⟨rv, sv, gv, ev, h.other2 hp hc ha hg⟩
theorem TaskAt.ext {w0 w : World} {b : Nat} {t : TaskR} (h : TaskAt w0 w b t) : Ext w0 w := by obtain ⟨_, _, _, _, h⟩ := h; exact h.ext
theorem TaskAt.lt {w0 w : World} {b : Nat} {t : TaskR} (h : TaskAt w0 w b t) : b < w.heap.size := by obtain ⟨_, _, _, _, h⟩ := h; exact (Array.getElem?_eq_some_iff.1 h.blk).1
structure ActAt (w0 w : World) (b c : Nat) (r : TaskR × ActR) : Prop where
 tsk : TaskAt w0 w b r.1
 out : ∃ v1 v2, w.heap[c]? = some (.cells (bO r.2 v1 v2).toArray 33 (0, 0)) ∧ Own 0 4 64 w v1 (aH r.2.ans) ∧ Own 0 4 64 w v2 (aH r.2.auth)
 ge : w0.heap.size ≤ c
 ne : c ≠ b
theorem ActAt.grow {w0 w w' : World} {b c : Nat} {r : TaskR × ActR} (h : ActAt w0 w b c r) (hx : Ext w w') : ActAt w0 w' b c r := by
 obtain ⟨v1, v2, h1, h2, h3⟩ := h.out
 exact ⟨h.tsk.grow hx, ⟨v1, v2, hx.at h1, h2.ext hx, h3.ext hx⟩, h.ge, h.ne⟩
theorem ActAt.next {w0 w1 w2 : World} {b c : Nat} {a : ActR} {r : TaskR × ActR} {u1 u2 v1 v2 : Value} (hT : TaskAt w0 w1 b r.1) (hc : w1.heap[c]? = some (.cells (bO a u1 u2).toArray 33 (0, 0))) (ha : a.kind ≠ 2) (hg : w0.heap.size ≤ c) (hn : c ≠ b)
 (o1 : Own 0 4 64 w1 v1 (aH r.2.ans)) (o2 : Own 0 4 64 w1 v2 (aH r.2.auth)) (hp : Put w1 w2 c (.cells (bO r.2 v1 v2).toArray 33 (0, 0))) : ActAt w0 w2 b c r :=
 ⟨hT.other2 hp hc ha hg, ⟨v1, v2, hp.this, o1.mv hp.mv (.inr (o1.neBlock hc (by decide))), o2.mv hp.mv (.inr (o2.neBlock hc (by decide)))⟩, hg, hn⟩
end Go.Proofs.X
