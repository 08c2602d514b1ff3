/- Laws and walks that the proof of the statement is made of (part 12). -/
import Derived.Test.YteofaejlmdplhaaGreatP11
set_option linter.unusedSimpArgs false
set_option linter.unusedVariables false
namespace Go.Proofs.X
open Go.RowKit
set_option maxRecDepth 100000
set_option maxHeartbeats 12000000 in
theorem qC (v : Value) (l : List RSet) (w : World) (hv : SetsAt w v l) (hb : (aL l).length ≤ 100000) : Calls Tryz.prog 43 #[v] w (jK w fun r w' => Own w.heap.size 4 47 w' r (aC (aL l))) := by
 obtain ⟨cv, hv1, hvl⟩ := hv.sl
 have hle := hv1.le
 go_enter Tryz.func43, Tryz.ntmps43
 refine_lift kT ?_; intro _ _ _
 go_loopw [3, 4, 5] (fun o i _ wr => ∃ k : Nat, k ≤ l.length ∧ i = .int .i64 k ∧ Ext w wr ∧ Own w.heap.size 4 47 wr o (aC (iT l k))) (fun _ i _ _ => l.length - (intOf i).toNat)
 case atStart => exact ⟨0, Nat.zero_le _, rfl, Ext.refl _, Own.nil _ _ _ _⟩
 case round =>
  obtain ⟨k, hk, rfl, hx, ho⟩ := hrel
  have hv2 := hv1.ext hx
  by_cases hlt : k < l.length
  ·obtain ⟨x, h4, h4d⟩ := hv.elem (List.getElem?_eq_getElem hlt)
   have hdl := aR l[k].data
   have hdle := h4d.le
   refine_lift gO ?_; intro _ _ _ _
   go_loopw [3, 5] (fun o i wq => ∃ j : Nat, j ≤ l[k].data.length ∧ i = .int .i64 j ∧ Ext w wq ∧ Own w.heap.size 4 47 wq o (aC (iT l k ++ (l[k].data.take j).map (fZ l[k])))) (fun _ i _ => l[k].data.length - (intOf i).toNat)
   case atStart => exact ⟨0, Nat.zero_le _, rfl, hx, by simpa using ho⟩
   case round =>
    obtain ⟨j, hj, rfl, hxq, hoq⟩ := hrel
    have hv3 := hv1.ext hxq
    have h4q := h4.ext hxq
    have h4dq := h4d.ext hxq
    by_cases hlt2 : j < l[k].data.length
    ·have h3 := h4d.elem (dW hlt2)
     have hle1 := CJ l (k + 1)
     rw [mE hlt, List.length_append] at hle1
     have hle2 : (dY l[k]).length = l[k].data.length := by simp [dY]
     have hcl : (aC (iT l k ++ (l[k].data.take j).map (fZ l[k]))).length = (iT l k).length + j := by simp [aC]; omega
     refine_lift gO ?_; intro _ _ _ _
     clear hv2 hv3 h4q h4dq
     refine cE (S := fun w' => Ext w w') (by decide +kernel) ?_
     intro w5 x5 hh5
     refine tk 0 ?_; refine aA ?_; refine tk 1 ?_; refine aA ?_; refine tk 2 ?_; refine aA ?_; refine tk 3 ?_; refine aA ?_; refine tk 4 ?_; refine aA ?_; refine tk 5 ?_; refine aA ?_; refine tk 6 ?_; refine aA ?_; refine tk 7 ?_; refine aA ?_; refine tk 8 ?_; refine aA ?_; refine tk 9 ?_; refine aA ?_; refine tk 10 ?_; refine aA ?_; refine tk 11 ?_; refine aA ?_; refine tk 12 ?_; refine aA ?_; refine tk 13 ?_; refine aA ?_; refine tk 14 ?_; refine aA ?_; refine tk 15 ?_; refine aA ?_; refine tk 16 ?_; refine aA ?_; refine tk 17 ?_; refine aA ?_; refine tk 18 ?_; refine aA ?_; refine tk 19 ?_; refine aA ?_; refine tk 20 ?_; refine aA ?_; refine tk 21 ?_; refine aA ?_; refine tk 22 ?_; refine aA ?_; refine tk 23 ?_; refine aA ?_
     refine cA (i := 24) (v := .agg #[aH l[k].name, .int .i64 l[k].kind, .int .i64 l[k].ttl, aH l[k].data[j]]) rfl rfl (by decide +kernel) (by decide +kernel) (by decide +kernel) rfl (hxq.trans x5) (fun w' _ => Runs.build rfl (by kernel_rfl)) (fun _ _ _ h => h) ?_
     refine aA ?_
     refine aY (i := 25) (by decide +kernel) rfl rfl ?_
     refine bR (e := 47) (k := 4) (bytes := 48) (xs := [.agg #[aH l[k].name, .int .i64 l[k].kind, .int .i64 l[k].ttl, aH l[k].data[j]]]) rfl rfl rfl (by simp [Value.cells]) (by decide +kernel) (by simp) ?_
     intro v8 w8 x8 s8 sl8 _
     refine aA ?_
     have hx8 := (hxq.trans x5).trans x8
     refine aK ⟨hx8, ?_⟩
     refine aY (i := 26) (by decide +kernel) rfl rfl ?_
     have ho8 := (hoq.ext x5).ext x8
     refine bW (B := w.heap.size) (e := 47) (k := 4) rfl ho8 rfl sl8 (by simp [Value.cells, aH, Value.oneCell']) hx8.size (by rw [hcl]; simp; omega) ?_
     intro v9 w9 o9 m9 k9
     refine aA ?_
     have x9 : Ext w w9 := ho8.mvx m9 hx8 (Nat.le_refl _)
     have o9 : Own w.heap.size 4 47 w9 v9 (aC (iT l k ++ (l[k].data.take (j + 1)).map (fZ l[k]))) := by
      rw [fE hlt2, ← List.append_assoc]
      simpa [aC, Rec.cells, fZ, Value.cells] using o9
     refine aK ⟨x9, ?_⟩
     refine aY (i := 27) (by decide +kernel) rfl rfl ?_
     refine_lift aP ?_
     refine ⟨x9, ?_⟩
     refine cL (by decide +kernel) ?_
     refine_lift aP ?_
     exact ⟨⟨j + 1, by omega, by go_num, x9, o9⟩, by simp [intOf]; omega⟩
    ·have : j = l[k].data.length := by omega
     subst this
     refine_lift fG fun _ => ?_
     refine ⟨⟨k + 1, by omega, by go_num, hxq, ?_⟩, by simp [intOf]; omega⟩
     rw [mE hlt]
     rw [List.take_length] at hoq
     exact hoq
  ·have : k = l.length := by omega
   subst this
   rw [yR] at ho
   refine_lift fG fun _ => ?_
   go_ret
   exact ⟨_, rfl, hx, ho⟩
set_option maxHeartbeats 6000000 in
theorem KX (oa : List UInt8) (u : Value) (la : List RSet) (ob : List UInt8) (v : Value) (lb : List RSet) (w : World) (hu : SetsAt w u la) (hv : SetsAt w v lb)
 (ba : ∀ s ∈ la, s.data.length ≤ 1000000) (da : ∀ s ∈ la, ∀ d ∈ s.data, d.length ≤ 4611686018427387904) (bb : ∀ s ∈ lb, s.data.length ≤ 1000000) (db : ∀ s ∈ lb, ∀ d ∈ s.data, d.length ≤ 4611686018427387904)
 (h1 : (aL la).length ≤ 100000) (h2 : (aL lb).length ≤ 100000) : Calls Tryz.prog 50 #[.agg #[aH oa, u], .agg #[aH ob, v]] w (jK w (DelU w.heap.size (qZ oa la ob lb) (rG oa la ob lb))) := by
 go_enter Tryz.func50, Tryz.ntmps50
 refine_lift gT fun _ _ => ?_
 refine aT (vs := [aH oa, u]) rfl rfl ?_
 intro p w1 x1 hp
 refine aA ?_
 refine aT (vs := [aH ob, v]) rfl rfl ?_
 intro q w2 x2 hq
 refine aA ?_
 refine aF (z := hY) rfl (by decide +kernel) ?_
 intro w3 x3 s3 h3
 refine aA ?_
 have hx3 := (x1.trans x2).trans x3
 have zz := (x1.trans x2).size
 have hp3 := (hp.ext x2).ext x3
 have hq3 := hq.ext x3
 refine_lift bS fun _ _ => ?_
 refine aB (enters_of Tryz.func47 rfl rfl) rfl rfl (AW oa u la _ (hu.ext hx3) ba da) ?_; intro w4 x4; refine aA ?_
 have hx4 := hx3.trans x4
 refine_lift aP ?_
 refine aF (z := aX) rfl (by decide +kernel) ?_
 intro w5 x5 s5 h5
 refine aA ?_
 refine aD (v := .agg (bD oa la).cells.toArray) rfl rfl rfl h5 (show aO Tryz.prog 67 7 = true by decide +kernel) rfl (dS _) ?_
 intro w6 p6
 have x46 : Ext w4 w6 := x5.move p6.mv (by rintro k ⟨⟩; exact Nat.le_refl _)
 have b6 : w6.heap[w4.heap.size]? = some (.cells (bD oa la).cells.toArray 67 (0, 0)) := p6.this
 have x36 := x4.trans x46
 have hx6 := hx3.trans x36
 clear p6 h5 x5
 have h6 := x36.at h3
 have hp6 := hp3.ext x36
 have hq6 := hq3.ext x36
 refine_lift tK (fun _ _ _ => ?_) (fun _ _ _ _ _ => ?_)
 ·have q0 : ¬ aQ oa la = 0 := by simpa using (by assumption : (!decide (aQ oa la = 0)) = true)
  refine aU (v := .agg hY.toArray) rfl (Runs.build0 (by kernel_rfl)) ?_
  refine aA ?_
  refine_lift aP ?_
  refine aD (v := .agg hY.toArray) rfl rfl rfl h6 (by decide +kernel) rfl (by decide +kernel) ?_
  intro w7 p7
  have x7 : Ext w w7 := hx6.move p7.mv (by rintro k ⟨⟩; exact zz)
  refine_lift aP ?_
  refine bodyPost_ret (aJ (cs := hY) rfl rfl p7.this (by decide +kernel)) rfl ⟨_, rfl, x7, ?_⟩
  have he : rG oa la ob lb = aQ oa la := by rw [rG, if_neg q0]
  rw [oF (by rw [he]; exact q0), he]
  exact DelU.bad rfl
 ·have q0 : aQ oa la = 0 := by simpa using (by assumption : (!decide (aQ oa la = 0)) = false)
  refine aB (enters_of Tryz.func47 rfl rfl) rfl rfl (AW ob v lb _ (hv.ext hx6) bb db) ?_; intro w7 x7; refine aA ?_
  have hx7 := hx6.trans x7
  refine_lift aP ?_
  refine aF (z := aX) rfl (by decide +kernel) ?_
  intro w8 x8 s8 h8
  refine aA ?_
  refine aD (v := .agg (bD ob lb).cells.toArray) rfl rfl rfl h8 (show aO Tryz.prog 67 7 = true by decide +kernel) rfl (dS _) ?_
  intro w9 p9
  have x79 : Ext w7 w9 := x8.move p9.mv (by rintro k ⟨⟩; exact Nat.le_refl _)
  have c9 : w9.heap[w7.heap.size]? = some (.cells (bD ob lb).cells.toArray 67 (0, 0)) := p9.this
  have x69 := x7.trans x79
  have hx9 := hx6.trans x69
  clear p9 h8 x8
  have h9 := x69.at h6
  have b9 := x69.at b6
  have hp9 := hp6.ext x69
  have hq9 := hq6.ext x69
  refine_lift OB (fun _ _ _ _ _ _ => ?_) (fun _ _ _ _ => ?_) (fun _ _ _ _ _ => ?_)
  ·have q1 : ¬ aQ ob lb = 0 := by simpa using (by assumption : (!decide (aQ ob lb = 0)) = true)
   refine aU (v := .agg hY.toArray) rfl (Runs.build0 (by kernel_rfl)) ?_
   refine aA ?_
   refine_lift aP ?_
   refine aD (v := .agg hY.toArray) rfl rfl rfl h9 (by decide +kernel) rfl (by decide +kernel) ?_
   intro wz pz
   have xz : Ext w wz := hx9.move pz.mv (by rintro k ⟨⟩; exact zz)
   refine_lift aP ?_
   refine bodyPost_ret (aJ (cs := hY) rfl rfl pz.this (by decide +kernel)) rfl ⟨_, rfl, xz, ?_⟩
   have he : rG oa la ob lb = aQ ob lb := by rw [rG, if_pos q0, if_neg q1]
   rw [oF (by rw [he]; exact q1), he]
   exact DelU.bad rfl
  ·have q1 : aQ ob lb = 0 := by simpa using (by assumption : (!decide (aQ ob lb = 0)) = false)
   ·have q2 : ¬ oa = ob := by simpa using (by assumption : (!decide (oa = ob)) = true)
    refine aU (v := .agg hY.toArray) rfl (Runs.build0 (by kernel_rfl)) ?_
    refine aA ?_
    refine_lift aP ?_
    refine aD (v := .agg hY.toArray) rfl rfl rfl h9 (by decide +kernel) rfl (by decide +kernel) ?_
    intro wz pz
    have xz : Ext w wz := hx9.move pz.mv (by rintro k ⟨⟩; exact zz)
    refine_lift aP ?_
    refine bodyPost_ret (aJ (cs := hY) rfl rfl pz.this (by decide +kernel)) rfl ⟨_, rfl, xz, ?_⟩
    have he : rG oa la ob lb = 1 := by rw [rG, if_pos q0, if_pos q1, if_neg q2]
    rw [oF (by rw [he]; decide), he]
    exact DelU.bad rfl
  ·have q1 : aQ ob lb = 0 := by simpa using (by assumption : (!decide (aQ ob lb = 0)) = false)
   have q2 : oa = ob := by simpa using (by assumption : (!decide (oa = ob)) = false)
   have he : rG oa la ob lb = 0 := by rw [rG, if_pos q0, if_pos q1, if_pos q2]
   refine_lift aP ?_
   refine aI (enters_of Tryz.func43 rfl rfl) rfl rfl (qC u la _ (hu.ext hx9) (by omega)) ?_
   intro r1 w11 x911 o11
   refine aA ?_
   have hq11 := hq9.ext x911
   refine_lift bS fun _ _ => ?_
   refine aI (enters_of Tryz.func43 rfl rfl) rfl rfl (qC v lb _ (hv.ext (hx9.trans x911)) (by omega)) ?_
   intro r2 w12 x12 o12
   refine aA ?_
   have x912 := x911.trans x12
   have hx12 := hx9.trans x912
   have h12 := x912.at h9
   have sr1 := (o11.ext x12).sl
   have sr2 := o12.sl
   have pb12 := aE (x912.at b9)
   have pc12 := aE (x912.at c9)
   refine_lift bS fun _ _ => ?_
   refine bT 11 (Ext w12) (by decide +kernel) ?_
   intro w13 x13 _
   refine ⟨x13, ?_⟩
   refine dR 0 ?_; refine dR 1 ?_; refine dR 2 ?_; refine dR 3 ?_; refine dR 4 ?_; refine dR 5 ?_; refine dR 7 ?_; refine dR 8 ?_
   refine bL (i := 6) (by decide +kernel) rfl rfl ?_
   refine aI (enters_of Tryz.func100 rfl rfl) rfl rfl (DJ r1 r2 _ _ _ (sr1.ext x13) (sr2.ext x13) (by omega)) ?_
   intro g w14 x14 og
   refine aA ?_
   have x1214 := x13.trans x14
   refine aK ⟨cQ x1214, ?_⟩
   refine bL (i := 9) (by decide +kernel) rfl rfl ?_
   refine aI (enters_of Tryz.func100 rfl rfl) rfl rfl (DJ r2 r1 _ _ _ (sr2.ext x1214) (sr1.ext x1214) (by omega)) ?_
   intro n w15 x15 on
   refine aA ?_
   have x1215 := x1214.trans x15
   refine aK ⟨cQ x1215, ?_⟩
   have sg := (og.ext x15).sl
   have sn := on.sl
   refine bK (i := 10) (v := .agg #[.int .i64 (bD oa la).serial, .int .i64 (bD ob lb).serial, g, n]) rfl rfl rfl (by decide +kernel) (by decide +kernel) (by decide +kernel) (by decide +kernel) rfl (fun w' _ => Runs.build rfl (by obtain ⟨_, _, _, rfl⟩ := sg.slf; obtain ⟨_, _, _, rfl⟩ := sn.slf; kernel_rfl)) (fun _ _ _ h => h) ?_
   refine aA ?_
   refine bL (i := 11) (by decide +kernel) rfl rfl ?_
   have h15 := x1215.at h12
   refine aD (v := .agg #[.int .i64 (bD oa la).serial, .int .i64 (bD ob lb).serial, g, n]) rfl rfl rfl h15 (show aO Tryz.prog 93 4 = true by decide +kernel) rfl (fU rfl rfl sg.one sn.one) ?_
   intro w16 p16
   refine aK ⟨bV rfl, ?_⟩
   refine iB 12 ?_
   refine cN (by decide +kernel) ?_
   have x16 : Ext w w16 := (hx12.trans x1215).move p16.mv (by rintro k ⟨⟩; exact zz)
   refine_lift aP ?_
   refine bodyPost_ret (aJ (cs := [.int .i64 (bD oa la).serial, .int .i64 (bD ob lb).serial, g, n]) rfl rfl p16.this (show cY Tryz.prog 93 4 = true by decide +kernel)) rfl ⟨_, rfl, x16, ?_⟩
   have hd : qZ oa la ob lb = ⟨(bD oa la).serial, (bD ob lb).serial, eQ (aL la) (aL lb), eQ (aL lb) (aL la)⟩ := by rw [qZ, if_pos he]
   rw [hd, he]
   exact ⟨_, rfl, g, n, rfl, (og.ext x15).mv p16.mv (.inr ((og.ext x15).neBlock h15 (by decide))) |>.weaken (hx12.trans x13).size, on.mv p16.mv (.inr (on.neBlock h15 (by decide))) |>.weaken (hx12.trans x1214).size⟩
theorem KY (n : Int) (w : World) : Calls Tryz.prog 157 #[.int .i64 n] w (bC w (.bool (eN n))) := by
 go_enter Tryz.func157, Tryz.ntmps157
 refine_lift rP (fun hc => ?_) (fun hc => ?_)
 all_goals
  go_ret
  refine ⟨?_, Ext.refl _⟩
  unfold eN
  first
   | (rw [decide_eq_false (show ¬ (0 ≤ n) by omega)]; rfl)
   | (rw [decide_eq_true (show 0 ≤ n by omega)]
      by_cases h : n ≤ 4294967295
      ·rw [decide_eq_true h, decide_eq_true (show n < 4294967296 by omega)]; rfl
      ·rw [decide_eq_false h, decide_eq_false (show ¬ n < 4294967296 by omega)]; rfl)
theorem FI (a b : Int) (w : World) : Calls Tryz.prog 99 #[.int .i64 a, .int .i64 b] w (bC w (.tuple #[.int .i64 (eL a b).1, .int .i64 (eL a b).2])) := by
 go_enter Tryz.func99, Tryz.ntmps99
 refine_lift gO fun _ _ _ _ => ?_
 refine aB (enters_of Tryz.func157 rfl rfl) rfl rfl (KY a _) ?_; intro w1 x1; refine aA ?_
 cases ha : eN a with
 | false =>
  refine_lift aP ?_
  go_ret2
  exact ⟨by rw [eL, if_pos (by simp [ha])]; rfl, x1⟩
 | true =>
  refine_lift aP ?_
  refine aB (enters_of Tryz.func157 rfl rfl) rfl rfl (KY b _) ?_; intro w2 x2; refine aA ?_
  have hx2 := x1.trans x2
  cases hb : eN b with
  | false =>
   refine_lift aP ?_
   go_ret2
   exact ⟨by rw [eL, if_pos (by simp [hb])]; rfl, hx2⟩
  | true =>
   have hk : 0 ≤ a ∧ a ≤ 4294967295 ∧ 0 ≤ b ∧ b ≤ 4294967295 := by
    simp only [eN, Bool.and_eq_true, decide_eq_true_eq] at ha hb
    omega
   obtain ⟨m, hm⟩ : ∃ m : Nat, b - a + 4294967296 = (m : Int) := ⟨(b - a + 4294967296).toNat, by omega⟩
   have hmod : ((m % 4294967296 : Nat) : Int) = (b - a) % 4294967296 := by
    rw [Int.natCast_emod, ← hm]
    omega
   refine_lift bS fun _ _ => ?_
   refine aN (Runs.remN (m := m) (n := 4294967296) (by rw [← hm]; rfl) rfl (by decide) (by omega)) ?_
   refine aA ?_
   rw [hmod]
   refine_lift OU (fun _ _ _ _ => ?_) (fun _ _ _ _ _ => ?_) (fun _ _ _ => ?_) (fun _ => ?_)
   all_goals
    go_ret2
    refine ⟨?_, hx2⟩
    rw [eL, if_neg (by simp [ha, hb])]
    first
     | (rw [if_pos (by omega)]; rfl)
     | (rw [if_neg (by omega), if_pos (by omega)]; rfl)
     | (rw [if_neg (by omega), if_neg (by omega), if_pos (by omega)]; rfl)
     | (rw [if_neg (by omega), if_neg (by omega), if_neg (by omega)]; rfl)
theorem IC (a b : Int) : eL a b = (0, 1) ∧ dQ a b = false ∨ eL a b = (0, 0) ∧ dQ a b = false ∨ eL a b = (-1, 0) ∧ dQ a b = false ∨ eL a b = (1, 0) ∧ dQ a b = true ∨ eL a b = (0, 5) ∧ dQ a b = false := by
 unfold eL dQ
 cases hok : (eN a && eN b) with
 | false => simp
 | true =>
  simp only [Bool.true_eq_false, if_false, Bool.true_and]
  generalize (b - a) % 4294967296 = d
  by_cases h1 : d = 0
  ·simp [h1]
  ·by_cases h2 : d < 2147483648
   ·have : ¬ 2147483648 < d := by omega
    simp [h1, h2, this]
   ·by_cases h3 : 2147483648 < d
    ·simp [h1, h2, h3]
    ·simp [h1, h2, h3]
theorem KZ (a b : Int) (w : World) : Calls Tryz.prog 48 #[.int .i64 a, .int .i64 b] w (bC w (.bool (dQ a b))) := by
 go_enter Tryz.func48, Tryz.ntmps48
 refine_lift bS fun _ _ => ?_
 refine aB (enters_of Tryz.func99 rfl rfl) rfl rfl (FI a b _) ?_; intro w1 x1; refine aA ?_
 rcases IC a b with ⟨h1, h2⟩ | ⟨h1, h2⟩ | ⟨h1, h2⟩ | ⟨h1, h2⟩ | ⟨h1, h2⟩
 all_goals
  rw [h1]
  refine_lift aP ?_
  go_ret
  exact ⟨by rw [h2]; rfl, x1⟩
theorem LA (room : Int) (ds : List DeltaR) (h : 0 ≤ room) : ((mX room ds).length : Int) = min (ds.length : Int) room := by
 rw [mX, List.length_drop]
 omega
theorem NC {room : Int} {ds : List DeltaR} (h : (ds.length : Int) ≤ room) : mX room ds = ds := by
 rw [mX, show ds.length - room.toNat = 0 by omega, List.drop_zero]
theorem ID {room : Int} {ds : List DeltaR} (D : DeltaR) (h : (ds.length : Int) ≤ room) : mX room (ds ++ [D]) = if room < ((ds ++ [D]).length : Int) then (ds ++ [D]).drop 1 else ds ++ [D] := by
 split
 ·rename_i hc
  rw [mX]
  congr 1
  simp only [List.length_append, List.length_cons, List.length_nil] at hc ⊢
  omega
 ·rename_i hc
  exact NC (by omega)
theorem LB {o : List UInt8} {a b : List RSet} (ha : ZoneOk o a) (hb : ZoneOk o b) : rG o a o b = 0 := by
 rw [rG, if_pos (jZ ha), if_pos (jZ hb), if_pos rfl]
set_option maxHeartbeats 8000000 in
theorem FJ {w0 w : World} {b : Nat} {o : List UInt8} {l : List RSet} {room : Int} {ds : List DeltaR} (h : KAt w0 w b o l room ds) (hz : ZoneOk o l) (hr : 0 ≤ room ∧ room ≤ 20) (hds : ds.length ≤ 20) (hdr : (ds.length : Int) ≤ room)
 (o' : List UInt8) (v' : Value) (l' : List RSet) (hv0 : SetsAt w0 v' l') (hb' : ∀ s ∈ l', s.data.length ≤ 1000000) (hd' : ∀ s ∈ l', ∀ d ∈ s.data, d.length ≤ 4611686018427387904) :
 Calls Tryz.prog 17 #[.pointer (some ⟨b, 0, none⟩), .agg #[aH o', v']] w fun e w' => e = .returned (.int .i64 (gS o l o' l')) ∧ KeptK b w w' ∧
  (gS o l o' l' ≠ 0 → KAt w0 w' b o l room ds) ∧ (gS o l o' l' = 0 → KAt w0 w' b o l' room (mX room (ds ++ [qZ o l o l']))) := by
 obtain ⟨zl, zb, zd, zr⟩ := nO hz
 have hE0 := h.ext
 have hv' := hv0.ext hE0
 obtain ⟨v, dv, hbk, hs, hdl⟩ := h.out
 go_enter Tryz.func17, Tryz.ntmps17
 refine_lift rF ?_; intro _ _ _
 refine dL (vs := [aH o', v']) rfl rfl ?_
 intro w1 x1 sz1 hcz
 have hpz := aE (cs := [aH o', v']) hcz
 refine aA ?_
 have hbk1 := x1.at hbk
 obtain ⟨hp, hp0⟩ := lJ hbk1
 have hv1 := hv'.ext x1
 refine_lift bS fun _ _ => ?_
 refine aB (enters_of Tryz.func47 rfl rfl) rfl rfl (AW o' v' l' _ hv1 hb' hd') ?_; intro w2 x2; refine aA ?_
 have hx2 := x1.trans x2
 refine_lift aP ?_
 refine aF (z := aX) rfl (by decide +kernel) ?_
 intro w3 x3 s3 h3
 refine aA ?_
 refine aD (v := .agg (bD o' l').cells.toArray) rfl rfl rfl h3 (show aO Tryz.prog 67 7 = true by decide +kernel) rfl (dS _) ?_
 intro w4 p4
 have x4 : Ext w2 w4 := x3.move p4.mv (by rintro k ⟨⟩; exact Nat.le_refl _)
 have hs4 := aE (cs := (bD o' l').cells) p4.this
 have hx4 := hx2.trans x4
 have hpz4 := hpz.ext (x2.trans x4)
 have hbk4 := (x2.trans x4).at hbk1
 have hJ4 := h.grow hx4
 have hv4 := hv1.ext (x2.trans x4)
 clear p4 h3 x3 hp hp0
 obtain ⟨hp, hp0⟩ := lJ hbk4
 by_cases q1 : aQ o' l' = 0
 ·have q1' : ¬ aQ o' l' ≠ 0 := by simp [q1]
  have hz' := eW q1
  rw [q1]
  refine_lift gO fun _ _ _ _ => ?_
  refine bE (by decide +kernel) (by decide +kernel) ?_
  refine_lift dN ?_
  intro w5 x5
  have hx5 := hx4.trans x5
  have hJ5 := hJ4.grow x5
  have hs5 := hs4.ext x5
  have hpz5 := hpz4.ext x5
  have hbk5 := x5.at hbk4
  have hv5 := hv4.ext x5
  clear hp hp0 hs4 hpz4
  obtain ⟨hp, hp0⟩ := lJ hbk5
  by_cases q2 : o' = o
  ·subst q2
   rw [decide_eq_true rfl]
   simp only [Bool.not_true]
   refine_lift gO fun _ _ _ _ => ?_
   refine bE (by decide +kernel) (by decide +kernel) ?_
   refine_lift dN ?_
   refine bY (enters_of Tryz.func49 rfl rfl) rfl rfl (fun w' x' => vU (hJ5.grow x') (fun s hs => by have := zb s hs; omega) (fun s hs d hd => by have := zd s hs d hd; omega)) ?_
   refine aA ?_
   refine_lift dN ?_
   refine bY (enters_of Tryz.func48 rfl rfl) rfl rfl (fun w' _ => KZ _ _ w') ?_
   refine aA ?_
   refine_lift dN ?_
   intro w6 x6
   have hx6 := hx5.trans x6
   have hJ6 := hJ5.grow x6
   cases hlt : dQ (bD o' l').serial (bD o' l).serial with
   | false =>
    have hE : gS o' l o' l' = 7 := by rw [gS, if_neg q1', if_neg (by simp), if_pos hlt]
    simp only [Bool.not_false]
    refine_lift aP ?_
    go_ret
    exact ⟨by rw [hE]; rfl, KeptK.of hx6, fun _ => hJ6, fun h0 => by rw [hE] at h0; cases h0⟩
   | true =>
    have hE : gS o' l o' l' = 0 := by rw [gS, if_neg q1', if_neg (by simp), if_neg (by simp [hlt])]
    simp only [Bool.not_true]
    have hpz6 := hpz5.ext x6
    have hv6 := hv5.ext x6
    have hdl6 := (hdl.ext hx5).ext x6
    have hs6 := (hs.ext hx5).ext x6
    have hbk6 := x6.at hbk5
    clear hp hp0 hs5 hpz5 hJ5 hJ4 hv5 hv4
    obtain ⟨hp, hp0⟩ := lJ hbk6
    obtain ⟨zl', zb', zd', zr'⟩ := nO hz'
    have cM : ∀ w', Ext w6 w' → Calls Tryz.prog 50 #[.agg #[aH o', v], .agg #[aH o', v']] w' (jK w' fun r w'' => ∃ g n, r = .tuple #[.agg #[.int .i64 (qZ o' l o' l').fr, .int .i64 (qZ o' l o' l').to, g, n], .int .i64 (rG o' l o' l')] ∧ Own 0 4 47 w'' g (aC (qZ o' l o' l').gone) ∧ Own 0 4 47 w'' n (aC (qZ o' l o' l').new) ∧ Own w'.heap.size 4 47 w'' g (aC (qZ o' l o' l').gone) ∧ Own w'.heap.size 4 47 w'' n (aC (qZ o' l o' l').new)) := fun w' hx' => by
     refine (KX o' v l o' v' l' w' (hs6.ext hx').sets (hv6.ext hx') (fun s hs => by have := zb s hs; omega) (fun s hs d hd => by have := zd s hs d hd; omega) hb' hd' (by omega) (by omega)).mono ?_
     rintro e w'' ⟨r, rfl, hxx, y, rfl, g, n, rfl, og, on⟩
     exact ⟨_, rfl, hxx, g, n, rfl, og.weaken (Nat.zero_le _), on.weaken (Nat.zero_le _), og, on⟩
    generalize hDq : qZ o' l o' l' = D at *
    generalize rG o' l o' l' = E at *
    refine_lift bS fun _ _ => ?_
    refine cE (S := fun w' => Ext w6 w') (by decide +kernel) ?_
    intro w21 x21 hh21
    refine tk 0 ?_; refine aA ?_; refine tk 1 ?_; refine aA ?_; refine tk 2 ?_; refine aA ?_; refine tk 3 ?_; refine aA ?_; refine tk 4 ?_; refine aA ?_
    have hsz6 := hx6.size
    have hsz0 := hE0.size
    apply OG (F := fun (g n : Value) (k : Nat) w' => Ext w6 w' ∧ w6.heap.size ≤ k ∧ w'.heap[k]? = some (.cells [.int .i64 D.fr, .int .i64 D.to, g, n].toArray 93 (0, 0)) ∧ Own w0.heap.size 4 47 w' g (aC D.gone) ∧ Own w0.heap.size 4 47 w' n (aC D.new))
    ·intro hG
     refine kK (i := 5) (j := 9) (by decide +kernel) rfl rfl rfl ?_ ?_
     ·refine aI (enters_of Tryz.func50 rfl rfl) rfl rfl (cM _ x21) ?_
      rintro _ wC xC ⟨g, n, rfl, -, -, og, on⟩
      refine aA ?_
      have x1 := x21.trans xC
      have hsC := x21.size
      refine aK ⟨x1, ?_⟩
      refine tk 6 ?_; refine aA ?_; refine tk 7 ?_; refine aA ?_; refine tk 8 ?_; refine aA ?_
      refine aY (i := 9) (by decide +kernel) rfl rfl ?_
      refine aF (z := hY) rfl (by decide +kernel) ?_
      intro wE xE sE hE
      have hsE := x1.size
      refine aA ?_
      have x3 := x1.trans xE
      refine aK ⟨x3, ?_⟩
      refine aY (i := 10) (by decide +kernel) rfl rfl ?_
      refine aD (v := .agg #[.int .i64 D.fr, .int .i64 D.to, g, n]) rfl rfl rfl hE (show aO Tryz.prog 93 4 = true by decide +kernel) rfl (fU rfl rfl og.sl.one on.sl.one) ?_
      intro wF pF
      have xF : Ext wC wF := xE.move pF.mv (by rintro k ⟨⟩; exact Nat.le_refl _)
      have hF := pF.this
      refine aK ⟨x1.trans xF, ?_⟩
      refine tk 11 ?_; refine aA ?_
      have x4 := x1.trans xF
      clear pF hE xE sE
      generalize wC.heap.size = k at *
      exact hG g n k _ ⟨x4, hsE, hF, (og.ext xF).weaken (by omega), (on.ext xF).weaken (by omega)⟩
     ·refine aF (z := hY) rfl (by decide +kernel) ?_
      intro wD xD sD hD
      have hsD := x21.size
      refine aA ?_
      have x2 := x21.trans xD
      refine aK ⟨x2, ?_⟩
      refine aY (i := 5) (by decide +kernel) rfl rfl ?_
      refine aI (enters_of Tryz.func50 rfl rfl) rfl rfl (cM _ x2) ?_
      rintro _ wE xE ⟨g, n, rfl, -, -, og, on⟩
      refine aA ?_
      have hsE := x2.size
      have x3 := x2.trans xE
      refine aK ⟨x3, ?_⟩
      refine tk 6 ?_; refine aA ?_; refine tk 7 ?_; refine aA ?_; refine tk 8 ?_; refine aA ?_
      have hE := xE.at hD
      refine aY (i := 10) (by decide +kernel) rfl rfl ?_
      refine aD (v := .agg #[.int .i64 D.fr, .int .i64 D.to, g, n]) rfl rfl rfl hE (show aO Tryz.prog 93 4 = true by decide +kernel) rfl (fU rfl rfl og.sl.one on.sl.one) ?_
      intro wF pF
      have xF : Ext w6 wF := x3.move pF.mv (by rintro k ⟨⟩; exact hsD)
      have hF := pF.this
      refine aK ⟨xF, ?_⟩
      refine tk 11 ?_; refine aA ?_
      have hfin1 := (og.mv pF.mv (.inr (og.neBlock hE (by decide)))).weaken (show w0.heap.size ≤ _ by omega)
      have hfin2 := (on.mv pF.mv (.inr (on.neBlock hE (by decide)))).weaken (show w0.heap.size ≤ _ by omega)
      clear pF hE hD sD
      generalize w21.heap.size = k at *
      exact hG g n k _ ⟨xF, hsD, hF, hfin1, hfin2⟩
    ·clear hh21
     rintro g n k w7 ⟨x7, hk7, hk, og, on⟩
     refine cL (by decide +kernel) ?_
     refine_lift bS fun _ _ => ?_
     have hx7 := hx6.trans x7
     have hcz7 := ((((x2.trans x4).trans x5).trans x6).trans x7).at hcz
     have hbk7 := x7.at hbk6
     have hs7 := hs6.ext x7
     have hE7 : Ext w0 w7 := hE0.trans hx7
     obtain ⟨css, hdo, hdlen, hdat⟩ := (hdl6.ext x7).out
     have hnb : dv.ownBlock ≠ some b := hdo.neBlock hbk7 (by decide)
     have hnz : dv.ownBlock ≠ some w.heap.size := hdo.neBlock hcz7 (by decide)
     have hnk : ∀ r, dv.ownBlock = some r → w0.heap.size ≤ r := fun r hr => (hdo.type hr).1
     have hkb : k ≠ b := by rintro rfl; rw [hk] at hbk7; simp at hbk7
     have hkz : k ≠ w.heap.size := by rintro rfl; rw [hk] at hcz7; simp at hcz7
     obtain ⟨hq, hq0⟩ := lJ hbk7
     have hq3 : Pts w7 (bG (.pointer (some ⟨b, 0, none⟩)) 3) [dv] := hq.part 3
     have hkp := aE hk
     have hg1 := og.sl.one
     have hn1 := on.sl.one
     have h41 : ∀ f ∈ [[Value.int .i64 D.fr, .int .i64 D.to, g, n]], ∀ u ∈ f, u.oneCell' = true := by
      intro f hf u hu
      simp only [List.mem_singleton] at hf
      subst hf
      simp at hu
      rcases hu with rfl | rfl | rfl | rfl
      ·rfl
      ·rfl
      ·exact hg1
      ·exact hn1
     refine bT 7 (Ext w7) (by decide +kernel) ?_
     intro w8 x8 _
     refine ⟨x8, ?_⟩
     refine iB 0 ?_
     refine dR 1 ?_; refine dR 2 ?_
     refine dA (i := 3) rfl rfl rfl (by decide +kernel) (by decide +kernel) (by decide +kernel) rfl (fun _ => Runs.fieldJ (off := 3) rfl (by decide +kernel)) (fun _ _ _ h => h) ?_; refine aA ?_
     refine dR 4 ?_; refine dR 5 ?_
     refine bL (i := 6) (by decide +kernel) rfl rfl ?_
     refine bR (e := 93) (k := 4) (bytes := 64) (xs := [.agg #[.int .i64 D.fr, .int .i64 D.to, g, n]]) rfl rfl rfl (by simp [Value.cells]) (by decide +kernel) (by simp) ?_
     intro vB wB xB szB slB owB
     refine aA ?_
     have x7B := x8.trans xB
     refine aK ⟨cQ x7B, ?_⟩
     refine bL (i := 7) (by decide +kernel) rfl rfl ?_
     refine kV (e := 93) (k := 4) rfl (hdo.ext x7B) rfl slB (by simp) h41 (hE7.trans x7B).size (by rw [hdlen]; simp; omega) ?_
     intro a9 w9 o9 m9 _
     refine aA ?_
     have hs9 : SetsV w0.heap.size w9 v l := (hs7.ext x7B).mvO (hdo.ext x7B) (by decide) (by decide) m9
     have hE9 : Ext w0 w9 := (hE7.trans x7B).move m9 hnk
     have hbk9 := m9.at (x7B.at hbk7) (fun e => hnb e.symm)
     have hcz9 := m9.at (x7B.at hcz7) (fun e => hnz e.symm)
     have hK9 : KeptK b w w9 := (KeptK.of (hx7.trans x7B)).trans (KeptK.mv (hdo.ext x7B) m9)
     have hD9 : DelsK w0.heap.size w9 a9 (ds ++ [D]) := DelsK.add (hdo.ext x7B) hdlen (fun i d hi => let ⟨x, y, a, b, c⟩ := hdat i d hi; ⟨x, y, a, b.ext x7B, c.ext x7B⟩) m9 o9 (og.ext x7B) (on.ext x7B)
     refine aK ⟨bV rfl, ?_⟩
     refine iB 8 ?_
     refine dA (i := 9) rfl rfl rfl (by decide +kernel) (by decide +kernel) (by decide +kernel) rfl (fun _ => Runs.fieldJ (off := 3) rfl (by decide +kernel)) (fun _ _ _ h => h) ?_; refine aA ?_
     refine bL (i := 10) (by decide +kernel) rfl rfl ?_
     refine cT (n := 3) hbk9 rfl rfl rfl (by simp [jC]) (by decide +kernel) o9.sl.one ?_
     intro w10 p10
     refine aK ⟨bV rfl, ?_⟩
     refine cN (by decide +kernel) ?_
     have hbk10 : w10.heap[b]? = some (.cells (jC o' v room a9).toArray 87 (0, 0)) := p10.this
     have hK10 := hK9.trans (KeptK.put p10)
     have hE10 : Ext w0 w10 := hE9.move p10.mv (by rintro k ⟨⟩; exact h.ge)
     have hD10 := hD9.put hbk9 (by decide) (by decide) p10
     have hs10 := hs9.put hbk9 (by decide) (by decide) p10
     have hcz10 := p10.mv.at hcz9 (by intro e; have := Option.some.inj e; subst this; rw [hcz9] at hbk9; simp at hbk9)
     clear p10 m9 o9 hq hq0 hq3 hkp hdo hdat hp hp0
     have hlen : (ds ++ [D]).length ≤ 21 := by simp; omega
     have hT := ID D hdr
     generalize hes : ds ++ [D] = es at *
     obtain ⟨hp, hp0⟩ := lJ hbk10
     obtain ⟨ces, hsl, hcl⟩ := hD10.len
     have hp3 : Pts w10 (bG (.pointer (some ⟨b, 0, none⟩)) 3) [a9] := hp.part 3
     have hp2 : Pts w10 (bG (.pointer (some ⟨b, 0, none⟩)) 2) [.int .i64 room] := (hp.part 2).front 1
     refine_lift gO fun _ _ _ _ => ?_
     refine bE (by decide +kernel) (by decide +kernel) ?_
     refine_lift dN ?_
     refine eY (fun _ _ => Runs.fieldJ (off := 3) rfl (by decide +kernel)) ?_
     refine aA ?_
     refine_lift dN ?_
     refine eY (fun _ _ => Runs.fieldJ (off := 2) rfl (by decide +kernel)) ?_
     refine aA ?_
     refine_lift dN ?_
     intro w11 x11
     rw [hcl]
     have hbk11 := x11.at hbk10
     have hcz11 := x11.at hcz10
     have hD11 := hD10.ext x11
     have hK11 := hK10.trans (KeptK.of x11)
     have hE11 := hE10.trans x11
     have hsl11 := hsl.ext x11
     clear hp hp0 hp2 hp3 hsl hD10 hE10 hK10 hbk10 hcz10
     by_cases hc : room < (es.length : Int)
     ·rw [if_pos hc] at hT
      rw [decide_eq_true hc]
      obtain ⟨hp, hp0⟩ := lJ hbk11
      have hp3 : Pts w11 (bG (.pointer (some ⟨b, 0, none⟩)) 3) [a9] := hp.part 3
      refine_lift aP ?_
      refine aN (Runs.fieldJ (off := 3) rfl (by decide +kernel)) ?_
      refine aA ?_
      refine_lift aP ?_
      refine aN (Runs.fieldJ (off := 3) rfl (by decide +kernel)) ?_
      refine aA ?_
      rw [hcl]
      have hDt := hD11.drop (m := 1) (by omega)
      obtain ⟨_, h1s, _⟩ := hDt.len
      refine cT (n := 3) hbk11 rfl rfl rfl (by simp [jC]) (by decide +kernel) h1s.one ?_
      intro w12 p12
      have hbk12 : w12.heap[b]? = some (.cells (jC o' v room (cW a9 4 1 es.length)).toArray 87 (0, 0)) := p12.this
      have hK12 := hK11.trans (KeptK.put p12)
      have hE12 : Ext w0 w12 := hE11.move p12.mv (by rintro k ⟨⟩; exact h.ge)
      have hD12 := hDt.put hbk11 (by decide) (by decide) p12
      have hcz12 := p12.mv.at hcz11 (by intro e; have := Option.some.inj e; subst this; rw [hcz11] at hbk11; simp at hbk11)
      have hTes : mX room es = es.drop 1 := hT
      clear p12 hp hp0 hp3 hD11 hDt h1s hsl11 hK11 hE11
      have hpz12 := aE (cs := [aH o', v']) hcz12
      have hv12 := hv0.ext hE12
      obtain ⟨hp, hp0⟩ := lJ hbk12
      refine_lift bS fun _ _ => ?_
      refine aI (enters_of Tryz.func20 rfl rfl) rfl rfl (AX o' v' l' _ hv12 (by omega) hb') ?_
      rintro r w13 x13 ⟨y, rfl, hy⟩
      have hbk13 := x13.at hbk12
      have hy1 : y.oneCell' = true := by obtain ⟨_, _, _, rfl⟩ := hy.slf; rfl
      have hD13 := hD12.ext x13
      have hyw := hy.weaken hE12.size
      refine aA ?_
      refine_lift aP ?_
      refine qB (n := 0) (vs := [aH o', y]) hbk13 rfl rfl rfl rfl (by simp [jC]) (show aO Tryz.prog 25 2 = true by decide +kernel) (by intro u hu; simp at hu; rcases hu with rfl | rfl <;> first | rfl | assumption) ?_
      intro w14 p14
      refine_lift aP ?_
      go_ret
      refine ⟨by rw [hE]; rfl, ((hK12.trans (KeptK.of x13)).trans (KeptK.put p14)), fun h0 => absurd hE h0, fun _ => ⟨h.ge, (hE12.trans x13).move p14.mv (by rintro k ⟨⟩; exact h.ge), y, _, p14.this, hyw.put hbk13 (by decide) (by decide) p14, by rw [hDq, hes, hTes]; exact hD13.put hbk13 (by decide) (by decide) p14⟩⟩
     ·rw [if_neg hc] at hT
      rw [decide_eq_false hc]
      have hbk12 := hbk11
      have hK12 := hK11
      have hE12 := hE11
      have hD12 := hD11
      have hcz12 := hcz11
      have hTes : mX room es = es := hT
      clear hD11 hsl11 hK11 hE11
      have hpz12 := aE (cs := [aH o', v']) hcz12
      have hv12 := hv0.ext hE12
      obtain ⟨hp, hp0⟩ := lJ hbk12
      refine_lift bS fun _ _ => ?_
      refine aI (enters_of Tryz.func20 rfl rfl) rfl rfl (AX o' v' l' _ hv12 (by omega) hb') ?_
      rintro r w13 x13 ⟨y, rfl, hy⟩
      have hbk13 := x13.at hbk12
      have hy1 : y.oneCell' = true := by obtain ⟨_, _, _, rfl⟩ := hy.slf; rfl
      have hD13 := hD12.ext x13
      have hyw := hy.weaken hE12.size
      refine aA ?_
      refine_lift aP ?_
      refine qB (n := 0) (vs := [aH o', y]) hbk13 rfl rfl rfl rfl (by simp [jC]) (show aO Tryz.prog 25 2 = true by decide +kernel) (by intro u hu; simp at hu; rcases hu with rfl | rfl <;> first | rfl | assumption) ?_
      intro w14 p14
      refine_lift aP ?_
      go_ret
      refine ⟨by rw [hE]; rfl, ((hK12.trans (KeptK.of x13)).trans (KeptK.put p14)), fun h0 => absurd hE h0, fun _ => ⟨h.ge, (hE12.trans x13).move p14.mv (by rintro k ⟨⟩; exact h.ge), y, _, p14.this, hyw.put hbk13 (by decide) (by decide) p14, by rw [hDq, hes, hTes]; exact hD13.put hbk13 (by decide) (by decide) p14⟩⟩
  ·rw [decide_eq_false q2]
   have hE : gS o l o' l' = 1 := by rw [gS, if_neg q1', if_pos q2]
   refine_lift fG fun _ => ?_
   go_ret
   exact ⟨by rw [hE]; rfl, KeptK.of hx5, fun _ => hJ5, fun h0 => by rw [hE] at h0; cases h0⟩
 ·have hE : gS o l o' l' = aQ o' l' := by rw [gS, if_pos q1]
  refine_lift QO (fun _ _ _ _ _ => ?_) (fun _ => ?_)
  all_goals first
   | (exfalso
      have hh := ‹(!decide (aQ o' l' = 0)) = false›
      simp [q1] at hh
      done)
   | (go_ret
      exact ⟨by rw [hE]; rfl, KeptK.of hx4, fun _ => hJ4, fun h0 => by rw [hE] at h0; exact absurd h0 q1⟩)
structure ZonesAt (w : World) (v : Value) (zs : List (List UInt8 × List RSet)) : Prop where
 out : ∃ css, Sl 2 w v css ∧ css.length = zs.length ∧ ∀ (i : Nat) (z : List UInt8 × List RSet), zs[i]? = some z → ∃ u, css[i]? = some [aH z.1, u] ∧ SetsAt w u z.2
theorem ZonesAt.ext {w w' : World} {v : Value} {zs : List (List UInt8 × List RSet)} (h : ZonesAt w v zs) (hx : Ext w w') : ZonesAt w' v zs := by
 obtain ⟨css, h1, h2, h3⟩ := h
 exact ⟨css, h1.ext hx, h2, fun i z hi => let ⟨u, a, b⟩ := h3 i z hi; ⟨u, a, b.ext hx⟩⟩
def rB (o : List UInt8) (l : List RSet) (o' : List UInt8) (l' : List RSet) : List RSet := if gS o l o' l' = 0 then l' else l
def nP (room : Int) (o : List UInt8) (l : List RSet) (ds : List DeltaR) (o' : List UInt8) (l' : List RSet) : List DeltaR := if gS o l o' l' = 0 then mX room (ds ++ [qZ o l o l']) else ds
structure JOk (o : List UInt8) (l : List RSet) (room : Int) (ds : List DeltaR) : Prop where
 zone : ZoneOk o l
 fits : 0 ≤ room ∧ room ≤ 20
 len : (ds.length : Int) ≤ room
 each : ∀ d ∈ ds, d.gone.length ≤ 4000 ∧ d.new.length ≤ 4000
theorem GO {o o' : List UInt8} {l l' : List RSet} (h : gS o l o' l' = 0) : o' = o ∧ ZoneOk o l' ∧ dQ (bD o l').serial (bD o l).serial = true := by
 unfold gS at h
 split at h
 ·rename_i q; exact absurd h q
 ·rename_i q
  split at h
  ·cases h
  ·rename_i q2
   have e : o' = o := by simpa using q2
   subst e
   split at h
   ·cases h
   ·rename_i q3
    exact ⟨rfl, eW (by simpa using q), by simpa using q3⟩
theorem ND {o : List UInt8} {l l' : List RSet} (h : ZoneOk o l) (h' : ZoneOk o l') : (qZ o l o l').gone.length ≤ 4000 ∧ (qZ o l o l').new.length ≤ 4000 := by
 rw [(OE (LB h h')).2.2.2]
 have a := (nO h).2.2.2
 have b := (nO h').2.2.2
 unfold eQ
 exact ⟨Nat.le_trans (List.length_filter_le _ _) a, Nat.le_trans (List.length_filter_le _ _) b⟩
theorem JOk.next {o : List UInt8} {l : List RSet} {room : Int} {ds : List DeltaR} (h : JOk o l room ds) (o' : List UInt8) (l' : List RSet) : JOk o (rB o l o' l') room (nP room o l ds o' l') := by
 unfold rB nP
 split
 ·rename_i q
  obtain ⟨rfl, hz, _⟩ := GO q
  refine ⟨hz, h.fits, ?_, ?_⟩
  ·rw [LA _ _ h.fits.1]
   exact Int.min_le_right _ _
  ·intro d hd
   rcases List.mem_append.1 (List.mem_of_mem_drop hd) with hd | hd
   ·exact h.each d hd
   ·rw [List.mem_singleton.1 hd]
    exact ND h.zone hz
 ·exact h
theorem GP {o : List UInt8} {l : List RSet} {room : Int} (h : iW o l room = 0) : JOk o l room [] := by
 unfold iW at h
 split at h
 ·rename_i q; exact absurd h q
 ·rename_i q
  split at h
  ·cases h
  ·rename_i q2
   exact ⟨eW (by simpa using q), by omega, by simp; omega, by simp⟩
theorem zQ {w0 w : World} {b : Nat} {o : List UInt8} {l : List RSet} {room : Int} {ds : List DeltaR} (h : JAt w0 w b o l room ds) (hk : JOk o l room ds)
 (o' : List UInt8) (v' : Value) (l' : List RSet) (hv0 : SetsAt w0 v' l') (hb' : ∀ s ∈ l', s.data.length ≤ 1000000) (hd' : ∀ s ∈ l', ∀ d ∈ s.data, d.length ≤ 4611686018427387904) :
 Calls Tryz.prog 16 #[.pointer (some ⟨b, 0, none⟩), .agg #[aH o', v']] w fun e w' => e = .returned (.int .i64 (gS o l o' l')) ∧ Keep [84, 90] w w' ∧ JAt w0 w' b o (rB o l o' l') room (nP room o l ds o' l') := by
 have hl := hk.len
 have hr := hk.fits
 obtain ⟨v, dv, hbk, _⟩ := h.out
 refine (KV h hk.zone hk.fits (by omega) o' v' l' hv0 hb' hd').mono ?_
 rintro e w' ⟨rfl, hK, h1, h2⟩
 refine ⟨rfl, hK.keep hbk, ?_⟩
 by_cases q : gS o l o' l' = 0
 ·rw [rB, if_pos q, nP, if_pos q]; exact h2 q
 ·rw [rB, if_neg q, nP, if_neg q]; exact h1 q
theorem DL {w0 w : World} {b : Nat} {o : List UInt8} {l : List RSet} {room : Int} {ds : List DeltaR} (h : KAt w0 w b o l room ds) (hk : JOk o l room ds)
 (o' : List UInt8) (v' : Value) (l' : List RSet) (hv0 : SetsAt w0 v' l') (hb' : ∀ s ∈ l', s.data.length ≤ 1000000) (hd' : ∀ s ∈ l', ∀ d ∈ s.data, d.length ≤ 4611686018427387904) :
 Calls Tryz.prog 17 #[.pointer (some ⟨b, 0, none⟩), .agg #[aH o', v']] w fun e w' => e = .returned (.int .i64 (gS o l o' l')) ∧ Keep [87, 93] w w' ∧ KAt w0 w' b o (rB o l o' l') room (nP room o l ds o' l') := by
 have hl := hk.len
 have hr := hk.fits
 obtain ⟨v, dv, hbk, _⟩ := h.out
 refine (FJ h hk.zone hk.fits (by omega) hk.len o' v' l' hv0 hb' hd').mono ?_
 rintro e w' ⟨rfl, hK, h1, h2⟩
 refine ⟨rfl, hK.keep hbk, ?_⟩
 by_cases q : gS o l o' l' = 0
 ·rw [rB, if_pos q, nP, if_pos q]; exact h2 q
 ·rw [rB, if_neg q, nP, if_neg q]; exact h1 q
theorem JOk.small {o : List UInt8} {l : List RSet} {room : Int} {ds : List DeltaR} (h : JOk o l room ds) : l.length ≤ 100000 ∧ (∀ s ∈ l, s.data.length ≤ 1000000) ∧ (∀ s ∈ l, ∀ d ∈ s.data, d.length ≤ 4611686018427387904) ∧ ds.length ≤ 1000 ∧ (∀ d ∈ ds, d.gone.length ≤ 100000 ∧ d.new.length ≤ 100000) := by
 obtain ⟨a, b, c, _⟩ := nO h.zone
 have hl := h.len
 have hr := h.fits
 refine ⟨by omega, fun s hs => by have := b s hs; omega, fun s hs d hd => by have := c s hs d hd; omega, by omega, fun d hd => by have := h.each d hd; omega⟩
section
variable {P : Program} {w : World} {ts : List Value} {df : List Deferred} {d : Option Nat} {ty : TypeId} {ps : String} {af : Array Edge} {g : Option (Nat × Bool)}
def rX (P : Program) (t : TypeId) : Bool := match P.underlying t with | some .bool => true | _ => false
theorem Runs.eqlB {t u : TypeId} {x y : Operand} {a b : Bool} (hx : (Act.mk ts.toArray df).eval x = .bool a) (hy : (Act.mk ts.toArray df).eval y = .bool b) (ht : rX P t = true) :
 Runs P (Oper.mk d (.binOp .eql t x y u) ty ps af g) (Act.mk ts.toArray df) w (.bool (a == b)) := by
 have hu : P.underlying t = some .bool := by
  unfold rX at ht; split at ht
  ·assumption
  ·cases ht
 constructor
 simp [execOp, hx, hy, eqGuard, binOp, run_equal_bool w t a b hu]
end
theorem FK {l : List RSet} (h : tL l = true) : l.length ≤ 25 ∧ (∀ s ∈ l, s.data.length ≤ 12) ∧ (∀ s ∈ l, s.name.length ≤ 300) ∧ ∀ s ∈ l, ∀ d ∈ s.data, d.length ≤ 300 := by
 simp only [tL, Bool.and_eq_true, decide_eq_true_eq, List.all_eq_true, oZ] at h
 exact ⟨h.1, fun s hs => (h.2 s hs).1.1, fun s hs => (h.2 s hs).1.2, fun s hs d hd => (h.2 s hs).2 d hd⟩
section
variable {P : Program} {a : Act} {w : World} {d : Option Nat} {ty : TypeId} {ps : String} {af : Array Edge} {g : Option (Nat × Bool)}
end
section
variable {P : Program} {w : World} {ts : List Value} {df : List Deferred} {d : Option Nat} {ty : TypeId} {ps : String} {af : Array Edge} {g : Option (Nat × Bool)}
theorem Runs.neqB2 {t u : TypeId} {x y : Operand} {a b : Bool} (hx : (Act.mk ts.toArray df).eval x = .bool a) (hy : (Act.mk ts.toArray df).eval y = .bool b) (ht : rX P t = true) :
 Runs P (Oper.mk d (.binOp .neq t x y u) ty ps af g) (Act.mk ts.toArray df) w (.bool (a != b)) := by
 have hu : P.underlying t = some .bool := by
  unfold rX at ht; split at ht
  ·assumption
  ·cases ht
 constructor
 simp [execOp, hx, hy, eqGuard, binOp, run_equal_bool w t a b hu, bne]
end
set_option maxHeartbeats 4000000 in
theorem IE {w0 w : World} {b : Nat} {o : List UInt8} {l : List RSet} {room : Int} {ds : List DeltaR} (h : KAt w0 w b o l room ds) (hb : ∀ s ∈ l, s.data.length ≤ 1000000) (hd : ∀ s ∈ l, ∀ d ∈ s.data, d.length ≤ 4611686018427387904)
 (hl : ds.length ≤ 1000) (hg : ∀ d ∈ ds, d.gone.length ≤ 100000 ∧ d.new.length ≤ 100000) (s : Int) :
 Calls Tryz.prog 54 #[.pointer (some ⟨b, 0, none⟩), .int .i64 s] w (jK w fun r w' => ∃ y, r = .tuple #[y, .bool (cU o l ds s).2] ∧ DelsK w.heap.size w' y (cU o l ds s).1) := by
 obtain ⟨v, dv, hbk, hs, hdl⟩ := h.out
 obtain ⟨css, hdo, hdlen, hdat⟩ := hdl.out
 go_enter Tryz.func54, Tryz.ntmps54
 refine_lift MG ?_; intro _ _ _ _ _
 refine aB (enters_of Tryz.func49 rfl rfl) rfl rfl (vU h hb hd) ?_; intro w1 x1; refine aA ?_
 ((with_reducible refine bJ ?_); (first | (refine fY ?_; refine iI ?_) | (refine iH ?_; refine jG ?_; (with_reducible refine bJ ?_); refine fY ?_; refine iI ?_)))
 by_cases q1 : s = (bD o l).serial
 ·rw [decide_eq_true q1]
  refine_lift aP ?_
  go_ret2
  rw [cU, if_pos q1]
  exact ⟨_, rfl, x1, _, rfl, DelsK.nil _ _⟩
 ·rw [decide_eq_false q1]
  have hbk1 := x1.at hbk
  obtain ⟨hp, hp0⟩ := lJ hbk1
  have hp3 : Pts w1 (bG (.pointer (some ⟨b, 0, none⟩)) 3) [dv] := hp.part 3
  have hsl := hdo.sl.ext x1
  have hcl : css.length ≤ 1000 := by omega
  refine_lift gO fun _ _ _ _ => ?_
  refine aN (Runs.fieldJ (off := 3) rfl (by decide +kernel)) ?_
  refine aA ?_
  refine_lift aP ?_
  go_loopw [6] (fun i wr => ∃ k : Nat, k ≤ css.length ∧ i = .int .i64 ((k : Int) - 1) ∧ wr = w1 ∧ iK ds s ds.length = iK ds s k) (fun i _ => GM 0 i)
  case atStart => exact ⟨css.length, Nat.le_refl _, rfl, rfl, by rw [hdlen]⟩
  case round =>
   obtain ⟨k, hk, rfl, hw, hso⟩ := hrel
   have hw := hw.symm
   subst hw
   cases k with
   | zero =>
    refine_lift fG fun _ => ?_
    go_ret2
    rw [cU, if_neg q1, hso]
    exact ⟨_, rfl, x1, _, rfl, DelsK.nil _ _⟩
   | succ k =>
    have hk1 : ((k + 1 : Nat) : Int) - 1 = (k : Int) := by omega
    simp only [hk1]
    have hkd : k < ds.length := by omega
    obtain ⟨g, n, hc, og, on⟩ := hdat k _ (List.getElem?_eq_getElem hkd)
    have hpe := hsl.elem hc
    have hkc : k < css.length := by omega
    refine_lift nX ?_; intro _ _ _ _ _ _
    refine aN (Runs.fieldJ (off := 3) rfl (by decide +kernel)) ?_
    refine aA ?_
    refine_lift JJ (fun _ => ?_) (fun _ _ _ => ?_)
    ·have hf : ds[k].fr = s := by assumption
     have hso' : iK ds s ds.length = some k := by rw [hso, iK, if_pos (by rw [List.getElem?_eq_getElem hkd]; simpa using hf)]
     have hR : cU o l ds s = (ds.drop k, true) := by rw [cU, if_neg q1, hso']
     clear hpe hp hp0 hp3
     go_loopw [7, 8] (fun out j wr => ∃ m : Nat, k + m ≤ ds.length ∧ j = .int .i64 ((k + m : Nat) : Int) ∧ Ext w1 wr ∧ DelsK w1.heap.size wr out ((ds.drop k).take m)) (fun _ j _ => ds.length - (intOf j).toNat)
     case atStart => exact ⟨0, by omega, rfl, Ext.refl _, by simpa using DelsK.nil _ _⟩
     case round =>
      obtain ⟨m, hm, rfl, hx, hD⟩ := hrel
      have hbk2 := hx.at hbk1
      obtain ⟨hp, hp0⟩ := lJ hbk2
      have hp3 : Pts wr (bG (.pointer (some ⟨b, 0, none⟩)) 3) [dv] := hp.part 3
      have hsl2 := hsl.ext hx
      by_cases hlt : k + m < ds.length
      ·obtain ⟨g', n', hc', og', on'⟩ := hdat (k + m) _ (List.getElem?_eq_getElem hlt)
       have hpe := hsl2.elem hc'
       have hkm : k + m < css.length := by omega
       obtain ⟨gb1, gb2⟩ := hg _ (List.getElem_mem hlt)
       refine_lift MG ?_; intro _ _ _ _ _
       refine aN (Runs.fieldJ (off := 3) rfl (by decide +kernel)) ?_
       refine aA ?_
       refine_lift kT fun _ _ _ => ?_
       refine aN (Runs.fieldJ (off := 3) rfl (by decide +kernel)) ?_
       refine aA ?_
       refine_lift aP ?_
       refine aI (enters_of Tryz.func104 rfl rfl) rfl rfl (KT (d := ds[k + m]) _ ⟨g', n', rfl, og'.sl.ext (x1.trans hx), on'.sl.ext (x1.trans hx)⟩ gb1 gb2) ?_
       rintro _ w3 x3 ⟨g3, n3, rfl, og3, on3⟩
       refine aA ?_
       refine_lift aP ?_
       refine bR (e := 93) (k := 4) (bytes := 64) (xs := [.agg #[.int .i64 ds[k + m].fr, .int .i64 ds[k + m].to, g3, n3]]) rfl rfl rfl (by simp [Value.cells]) (by decide +kernel) (by simp) ?_
       intro v4 w4 x4 s4 sl4 o4
       refine aA ?_
       have x34 := x3.trans x4
       obtain ⟨cs, ho, hlen, hat⟩ := hD.ext x34
       have hlen2 : cs.length = m := by rw [hlen, List.length_take, List.length_drop]; omega
       have hg1 := og3.sl.one
       have hn1 := on3.sl.one
       have h41 : ∀ f ∈ [[Value.int .i64 ds[k + m].fr, .int .i64 ds[k + m].to, g3, n3]], ∀ u ∈ f, u.oneCell' = true := by
        intro f hf u hu
        simp only [List.mem_singleton] at hf
        subst hf
        simp at hu
        rcases hu with rfl | rfl | rfl | rfl
        ·rfl
        ·rfl
        ·exact hg1
        ·exact hn1
       refine kV (e := 93) (k := 4) rfl ho rfl sl4 (by simp) h41 (hx.trans x34).size (by rw [hlen2]; simp; omega) ?_
       intro v5 w5 o5 m5 _
       refine aA ?_
       refine_lift aP ?_
       have hz := hx.size
       have hD5 := DelsK.add (D := ds[k + m]) ho hlen hat m5 o5 ((og3.ext x4).weaken hz) ((on3.ext x4).weaken hz)
       have hx5 : Ext w1 w5 := (hx.trans x34).move m5 (fun r hr => (ho.type hr).1)
       have e : (ds.drop k).take (m + 1) = (ds.drop k).take m ++ [ds[k + m]] := by
        rw [List.take_add_one, List.getElem?_drop, List.getElem?_eq_getElem hlt]
        rfl
       exact ⟨⟨m + 1, by omega, by go_num, hx5, by rw [e]; exact hD5⟩, by simp [intOf]; omega⟩
      ·have hke : k + m = ds.length := by omega
       have hkm : k + m = css.length := by omega
       refine_lift MG ?_; intro _ _ _ _ _
       refine aN (Runs.fieldJ (off := 3) rfl (by decide +kernel)) ?_
       refine aA ?_
       refine_lift fG fun _ => ?_
       go_ret2
       have e : (ds.drop k).take m = ds.drop k := List.take_of_length_le (by rw [List.length_drop]; omega)
       rw [e] at hD
       rw [hR]
       exact ⟨_, rfl, x1.trans hx, _, rfl, hD.weaken x1.size⟩
    ·have hf : ds[k].fr ≠ s := by assumption
     exact ⟨⟨k, by omega, rfl, trivial, by rw [hso, iK, if_neg (by rw [List.getElem?_eq_getElem hkd]; simpa using hf)]⟩, by simp [GM, intOf]⟩
def FL : List UInt8 := [2, 110, 115, 1, 97, 0, 1, 109, 0, 0, 0, 0, 5, 0, 0, 0, 10, 0, 0, 0, 3, 0, 0, 0, 100, 0, 0, 0, 4]
def LC : List UInt8 := [2, 110, 115, 1, 97, 0, 1, 109, 0, 0, 0, 0, 6, 0, 0, 0, 10, 0, 0, 0, 3, 0, 0, 0, 100, 0, 0, 0, 4]
def DM : List Rec := [⟨[1, 97], 6, 9, FL⟩, ⟨[1, 97], 2, 9, [2, 110, 115, 1, 97, 0]⟩, ⟨[2, 110, 115, 1, 97], 1, 9, [49, 49, 49, 49]⟩]
def mN : List RSet := [⟨[1, 97], 2, 9, [[2, 110, 115, 1, 97, 0]]⟩, ⟨[1, 97], 6, 9, [FL]⟩, ⟨[2, 110, 115, 1, 97], 1, 9, [[49, 49, 49, 49]]⟩]
def xV : List RSet := [⟨[1, 97], 2, 9, [[2, 110, 115, 1, 97, 0]]⟩, ⟨[1, 97], 6, 9, [LC]⟩, ⟨[2, 110, 115, 1, 97], 1, 9, [[49, 49, 49, 49]]⟩]
theorem RK : aQ [1, 97] mN = 0 := by decide +kernel
theorem LD : xR [1, 97] mN 6 = 0 := by decide +kernel
theorem LE : MW [1, 97] mN 6 = xV := by decide +kernel
theorem LF : MX [1, 97] mN 6 = [1, 97] := by decide +kernel
theorem GQ : ∀ s ∈ mN, s.data.length ≤ 1000000 := by decide +kernel
theorem RL : ∀ s ∈ mN, ∀ d ∈ s.data, d.length ≤ 4611686018427387904 := by decide +kernel
theorem PM : ∀ s ∈ xV, s.data.length ≤ 1000000 := by decide +kernel
theorem PN : ∀ s ∈ xV, ∀ d ∈ s.data, d.length ≤ 4611686018427387904 := by decide +kernel
theorem RM : ∀ r ∈ DM, r.data.length ≤ 4611686018427387904 := by decide +kernel
theorem LG (w : World) : Calls Tryz.prog 37 #[] w (jK w fun r w' => Sl 4 w' r (aC DM)) := by
 go_enter Tryz.func37, Tryz.ntmps37
 refine_lift rF ?_; intro _ _ _
 refine_lift bS fun _ _ => ?_
 refine aU (v := .agg #[aH [1, 97], .int .i64 6, .int .i64 9, aH FL]) rfl (Runs.build rfl (by kernel_rfl)) ?_
 refine aA ?_
 refine aU (v := .agg #[aH [1, 97], .int .i64 2, .int .i64 9, aH [2, 110, 115, 1, 97, 0]]) rfl (Runs.build rfl (by kernel_rfl)) ?_
 refine aA ?_
 refine aU (v := .agg #[aH [2, 110, 115, 1, 97], .int .i64 1, .int .i64 9, aH [49, 49, 49, 49]]) rfl (Runs.build rfl (by kernel_rfl)) ?_
 refine aA ?_
 refine bR (e := 47) (k := 4) (bytes := 48) (xs := DM.map fun r => .agg r.cells.toArray) rfl rfl rfl (by intro x hx; obtain ⟨r, _, rfl⟩ := List.mem_map.1 hx; rfl) (by decide +kernel) (by decide +kernel) ?_
 intro v1 w1 x1 s1 sl1 _
 have sl1' : Sl 4 w1 v1 (aC DM) := by simpa [aC, Value.cells, List.map_map, Function.comp_def] using sl1
 refine aA ?_
 refine_lift aP ?_
 go_ret
 exact ⟨_, rfl, x1, sl1'⟩
theorem zS {o o' : List UInt8} {u v : Value} {a b : List RSet} {w : World} (hu : SetsAt w u a) (hv : SetsAt w v b) (ho : o = o') (hab : a = b) : Calls Tryz.prog 23 #[.agg #[aH o, u], .agg #[aH o', v]] w (bC w (.bool true)) := by
 have := NA o o' u v a b w hu hv
 rw [decide_eq_true ho, decide_eq_true hab] at this
 exact this
def ST (w : World) (e : Ending) (w' : World) : Prop := e = .returned (.bool true) ∧ Ext w w'
def SU : DeltaR := ⟨5, 6, [⟨[1, 97], 6, 9, FL⟩], [⟨[1, 97], 6, 9, LC⟩]⟩
theorem RN {o : List UInt8} {l : List RSet} (h : (decide ((o.length : Int) ≤ 300) && tL l) = true) : l.length ≤ 25 ∧ (∀ s ∈ l, s.data.length ≤ 1000000) ∧ (∀ s ∈ l, ∀ d ∈ s.data, d.length ≤ 4611686018427387904) ∧ o.length ≤ 300 ∧ (∀ s ∈ l, s.data.length ≤ 12) ∧ (∀ s ∈ l, ∀ d ∈ s.data, d.length ≤ 300) := by
 simp only [Bool.and_eq_true, decide_eq_true_eq] at h
 obtain ⟨b1, b2, b3, b4⟩ := FK h.2
 exact ⟨b1, fun s hs => by have := b2 s hs; omega, fun s hs d hd => by have := b4 s hs d hd; omega, by omega, b2, b4⟩
section
variable {P : Program} {w w' : World} {a : Act} {d : Option Nat} {ty : TypeId} {ps : String} {af : Array Edge} {g : Option (Nat × Bool)}
end
def LH (o : List UInt8) (v : Value) (room : Int) (lv : Value) (s : Int) : List Value := [aH o, v, .int .i64 room, lv, .int .i64 s]
theorem mO : ∀ (g h l : List Rec), gP l (g ++ h) = (gP l g).bind fun m => gP m h
 | [], h, l => by simp [gP]
 | r :: g, h, l => by
   rw [List.cons_append, gP, gP]
   split
   ·exact mO g h _
   ·rfl
theorem nQ : ∀ (g h l : List Rec), mM l (g ++ h) = (mM l g).bind fun m => mM m h
 | [], h, l => by simp [mM]
 | r :: g, h, l => by
   rw [List.cons_append, mM, mM]
   split
   ·rfl
   ·exact nQ g h _
theorem IF {l m g : List Rec} {k : Nat} (hk : k < g.length) (h : gP l (g.take k) = some m) : gP l (g.take (k + 1)) = if g[k] ∈ m then some (m.erase g[k]) else none := by
 rw [List.take_succ_eq_append_getElem hk, mO, h]
 simp [gP]
theorem LI {l m g : List Rec} {k : Nat} (hk : k < g.length) (h : mM l (g.take k) = some m) : mM l (g.take (k + 1)) = if g[k] ∈ m then none else some (m ++ [g[k]]) := by
 rw [List.take_succ_eq_append_getElem hk, nQ, h]
 simp [mM]
theorem LJ {l m g : List Rec} {k : Nat} (hk : k < g.length) (h : gP l (g.take k) = some m) (hn : g[k] ∉ m) : gP l g = none := by
 rw [← List.take_append_drop k g, mO, h, List.drop_eq_getElem_cons hk]
 simp [gP, hn]
theorem NE {l m g : List Rec} {k : Nat} (hk : k < g.length) (h : mM l (g.take k) = some m) (hn : g[k] ∈ m) : mM l g = none := by
 rw [← List.take_append_drop k g, nQ, h, List.drop_eq_getElem_cons hk]
 simp [mM, hn]
theorem DN : ∀ {g l m : List Rec}, gP l g = some m → m.length ≤ l.length ∧ ∀ r ∈ m, r ∈ l
 | [], l, m, h => by rw [gP] at h; cases h; exact ⟨Nat.le_refl _, fun _ h => h⟩
 | r :: g, l, m, h => by
   rw [gP] at h
   split at h
   ·obtain ⟨h1, h2⟩ := DN h
    exact ⟨Nat.le_trans h1 (List.length_erase_le), fun q hq => List.mem_of_mem_erase (h2 q hq)⟩
   ·cases h
theorem GR : ∀ {g l m : List Rec}, mM l g = some m → m.length = l.length + g.length ∧ ∀ r ∈ m, r ∈ l ∨ r ∈ g
 | [], l, m, h => by rw [mM] at h; cases h; exact ⟨by simp, fun _ h => .inl h⟩
 | r :: g, l, m, h => by
   rw [mM] at h
   split at h
   ·cases h
   ·obtain ⟨h1, h2⟩ := GR h
    refine ⟨by rw [h1]; simp; omega, fun q hq => ?_⟩
    rcases h2 q hq with h3 | h3
    ·rcases List.mem_append.1 h3 with h4 | h4
     ·exact .inl h4
     ·exact .inr (by rw [List.mem_singleton.1 h4]; simp)
    ·exact .inr (List.mem_cons_of_mem _ h3)
theorem NF {m : List Rec} {r : Rec} (h : r ∈ m) : ∃ i, i < m.length ∧ mG (fun q => decide (r = q)) m = (i : Nat) ∧ m.eraseIdx i = m.erase r := by
 have hlt := List.idxOf_lt_length_of_mem h
 refine ⟨m.idxOf r, hlt, rU hlt ?_ ?_, (List.erase_eq_eraseIdx_of_idxOf rfl).symm⟩
 ·rw [rA, decide_eq_false_iff_not]
  intro hm
  obtain ⟨j, hj, he⟩ := List.getElem_of_mem hm
  rw [List.length_take] at hj
  rw [List.getElem_take] at he
  have := List.not_of_lt_findIdx (p := (· == r)) (xs := m) (i := j) (by unfold List.idxOf at hj; omega)
  simp [he] at this
 ·have := List.getElem_idxOf hlt
  rw [this]; simp
theorem LK {m : List Rec} {r : Rec} (h : r ∉ m) : mG (fun q => decide (r = q)) m = -1 := rV (by rw [rA, decide_eq_false h])
theorem DO {s : RSet} : (dY s).length = s.data.length := by simp [dY]
theorem zT (r : Rec) : ∀ gs : List RSet, (aL (gZ r gs)).length ≤ (aL gs).length + 1
 | [] => by simp [gZ, aL, dY, cO]
 | g :: gs => by
   have ih := zT r gs
   unfold aL at ih ⊢
   rw [gZ]
   split
   ·simp only [List.map_cons, List.flatten_cons, List.length_append] at ih ⊢; omega
   ·split
    ·simp only [List.map_cons, List.flatten_cons, List.length_append]
     have : (dY (cO r)).length = 1 := rfl
     omega
    ·simp only [List.map_cons, List.flatten_cons, List.length_append]
     have h1 : (dY ⟨fold r.name, r.kind, min r.ttl g.ttl, iU r.data g.data⟩).length ≤ (dY g).length + 1 := by
      rw [DO, DO]
      exact rW _ _
     omega
theorem tD (l : List Rec) : ∀ k, k ≤ l.length → (aL (bP (l.take k))).length ≤ k
 | 0, _ => by simp [bP, aL]
 | k + 1, h => by
   rw [kN h]
   have := zT l[k] (bP (l.take k))
   have ih := tD l k (by omega)
   omega
theorem BB {o : List UInt8} {m : List Rec} {n : Nat} (hm : ∀ r ∈ m, r.data.length ≤ n) : (∀ s ∈ dF o m, s.data.length ≤ m.length) ∧ (∀ s ∈ dF o m, ∀ d ∈ s.data, d.length ≤ n) ∧ (aL (dF o m)).length ≤ m.length := by
 unfold dF
 split
 ·refine ⟨vP m, fun s hs d hd => ?_, ?_⟩
  ·obtain ⟨r, hr, rfl⟩ := tB hs hd
   exact hm r hr
  ·have := tD m m.length (Nat.le_refl _)
   rwa [List.take_length] at this
 ·simp [aL]
theorem IG {l : List RSet} {n : Nat} (h : ∀ s ∈ l, ∀ d ∈ s.data, d.length ≤ n) : ∀ r ∈ aL l, r.data.length ≤ n := by
 intro r hr
 unfold aL at hr
 obtain ⟨x, hx, hr⟩ := List.mem_flatten.1 hr
 obtain ⟨s, hs, rfl⟩ := List.mem_map.1 hx
 unfold dY at hr
 obtain ⟨d, hd, rfl⟩ := List.mem_map.1 hr
 exact h s hs d hd
def AppU (B : Nat) (o : List UInt8) (l : List RSet) (d : DeltaR) (q : Value) (w : World) : Prop := ∃ y, q = .tuple #[.agg #[aH (xS o l d), y], .int .i64 (kE o l d)] ∧ SetsO B w y (DH o l d)
theorem AppU.bad {B : Nat} {o : List UInt8} {l : List RSet} {d : DeltaR} {e : Int} {w : World} (h : kE o l d = e) (he : e ≠ 0) : AppU B o l d (.tuple #[.agg aZ.toArray, .int .i64 e]) w := by
 refine ⟨.slice none 0 0, ?_, ?_⟩
 ·rw [xS, if_neg (by rw [h]; exact he), h]; rfl
 ·rw [DH, if_neg (by rw [h]; exact he)]; exact SetsO.nil _ _
theorem zU {o : List UInt8} {l : List RSet} {d : DeltaR} (q0 : aQ o l = 0) (q1 : (bD o l).serial = d.fr) (h : pH (aL l) d = none) : kE o l d = 5 := by rw [kE, if_pos q0, if_pos q1, h]
theorem IH {o : List UInt8} {l : List RSet} {d : DeltaR} {x : List Rec} (q0 : aQ o l = 0) (q1 : (bD o l).serial = d.fr) (h : pH (aL l) d = some x) : kE o l d = DG o x d.to := by rw [kE, if_pos q0, if_pos q1, h]
theorem FM {l : List Rec} {d : DeltaR} (h : gP l d.gone = none) : pH l d = none := by rw [pH, h]; rfl
theorem NG {l m : List Rec} {d : DeltaR} (h : gP l d.gone = some m) : pH l d = mM m d.new := by rw [pH, h]; rfl
end Go.Proofs.X
