/- Laws and walks that the proof of the statement is made of (part 16). -/
import Derived.Test.YteofaejlmdplhaaGreatP15
set_option linter.unusedSimpArgs false
set_option linter.unusedVariables false
namespace Go.Proofs.X
open Go.RowKit
set_option maxRecDepth 100000
set_option maxHeartbeats 12000000 in
theorem yJ (v : Value) (l : List RSet) (w : World) (hv : SetsAt w v l) (hb : (aF l).length ≤ 100000) : Calls Tryz.prog 43 #[v] w (jE w fun r w' => Own w.heap.size 4 47 w' r (aD (aF l))) := by
 obtain ⟨cv, hv1, hvl⟩ := hv.sl
 have hle := hv1.le
 go_enter Tryz.func43, Tryz.ntmps43
 refine_lift kL ?_; intro _ _ _
 go_loopw [3, 4, 5] (fun o i _ wr => ∃ k : Nat, k ≤ l.length ∧ i = .int .i64 k ∧ Ext w wr ∧ Own w.heap.size 4 47 wr o (aD (iB l k))) (fun _ i _ _ => l.length - (intOf i).toNat)
 case atStart => exact ⟨0, Nat.zero_le _, rfl, Ext.refl _, Own.nil _ _ _ _⟩
 case round =>
  obtain ⟨k, hk, rfl, hx, ho⟩ := hrel
  have hv2 := hv1.ext hx
  by_cases hlt : k < l.length
  ·obtain ⟨x, h4, h4d⟩ := hv.elem (List.getElem?_eq_getElem hlt)
   have hdl := aR l[k].data
   have hdle := h4d.le
   refine_lift gV ?_; intro _ _ _ _
   go_loopw [3, 5] (fun o i wq => ∃ j : Nat, j ≤ l[k].data.length ∧ i = .int .i64 j ∧ Ext w wq ∧ Own w.heap.size 4 47 wq o (aD (iB l k ++ (l[k].data.take j).map (eM l[k])))) (fun _ i _ => l[k].data.length - (intOf i).toNat)
   case atStart => exact ⟨0, Nat.zero_le _, rfl, hx, by simpa using ho⟩
   case round =>
    obtain ⟨j, hj, rfl, hxq, hoq⟩ := hrel
    have hv3 := hv1.ext hxq
    have h4q := h4.ext hxq
    have h4dq := h4d.ext hxq
    by_cases hlt2 : j < l[k].data.length
    ·have h3 := h4d.elem (eA hlt2)
     have hle1 := DQ l (k + 1)
     rw [kE hlt, List.length_append] at hle1
     have hle2 : (dZ l[k]).length = l[k].data.length := by simp [dZ]
     have hcl : (aD (iB l k ++ (l[k].data.take j).map (eM l[k]))).length = (iB l k).length + j := by simp [aD]; omega
     refine_lift gV ?_; intro _ _ _ _
     clear hv2 hv3 h4q h4dq
     refine cC (S := fun w' => Ext w w') (by decide +kernel) ?_
     intro w5 x5 hh5
     refine tk 0 ?_; refine aA ?_; refine tk 1 ?_; refine aA ?_; refine tk 2 ?_; refine aA ?_; refine tk 3 ?_; refine aA ?_; refine tk 4 ?_; refine aA ?_; refine tk 5 ?_; refine aA ?_; refine tk 6 ?_; refine aA ?_; refine tk 7 ?_; refine aA ?_; refine tk 8 ?_; refine aA ?_; refine tk 9 ?_; refine aA ?_; refine tk 10 ?_; refine aA ?_; refine tk 11 ?_; refine aA ?_; refine tk 12 ?_; refine aA ?_; refine tk 13 ?_; refine aA ?_; refine tk 14 ?_; refine aA ?_; refine tk 15 ?_; refine aA ?_; refine tk 16 ?_; refine aA ?_; refine tk 17 ?_; refine aA ?_; refine tk 18 ?_; refine aA ?_; refine tk 19 ?_; refine aA ?_; refine tk 20 ?_; refine aA ?_; refine tk 21 ?_; refine aA ?_; refine tk 22 ?_; refine aA ?_; refine tk 23 ?_; refine aA ?_
     refine bP (i := 24) (v := .agg #[aI l[k].name, .int .i64 l[k].kind, .int .i64 l[k].ttl, aI l[k].data[j]]) rfl rfl (by decide +kernel) (by decide +kernel) (by decide +kernel) rfl (hxq.trans x5) (fun w' _ => Runs.build rfl (by kernel_rfl)) (fun _ _ _ h => h) ?_
     refine aA ?_
     refine aT (i := 25) (by decide +kernel) rfl rfl ?_
     refine bZ (e := 47) (k := 4) (bytes := 48) (xs := [.agg #[aI l[k].name, .int .i64 l[k].kind, .int .i64 l[k].ttl, aI l[k].data[j]]]) rfl rfl rfl (by simp [Value.cells]) (by decide +kernel) (by simp) ?_
     intro v8 w8 x8 s8 sl8 _
     refine aA ?_
     have hx8 := (hxq.trans x5).trans x8
     refine aJ ⟨hx8, ?_⟩
     refine aT (i := 26) (by decide +kernel) rfl rfl ?_
     have ho8 := (hoq.ext x5).ext x8
     refine cP (B := w.heap.size) (e := 47) (k := 4) rfl ho8 rfl sl8 (by simp [Value.cells, aI, Value.oneCell']) hx8.size (by rw [hcl]; simp; omega) ?_
     intro v9 w9 o9 m9 k9
     refine aA ?_
     have x9 : Ext w w9 := ho8.mvx m9 hx8 (Nat.le_refl _)
     have o9 : Own w.heap.size 4 47 w9 v9 (aD (iB l k ++ (l[k].data.take (j + 1)).map (eM l[k]))) := by
      rw [eS hlt2, ← List.append_assoc]
      simpa [aD, Rec.cells, eM, Value.cells] using o9
     refine aJ ⟨x9, ?_⟩
     refine aT (i := 27) (by decide +kernel) rfl rfl ?_
     refine_lift aS ?_
     refine ⟨x9, ?_⟩
     refine cB (by decide +kernel) ?_
     refine_lift aS ?_
     exact ⟨⟨j + 1, by omega, by go_num, x9, o9⟩, by simp [intOf]; omega⟩
    ·have : j = l[k].data.length := by omega
     subst this
     refine_lift fP fun _ => ?_
     refine ⟨⟨k + 1, by omega, by go_num, hxq, ?_⟩, by simp [intOf]; omega⟩
     rw [kE hlt]
     rw [List.take_length] at hoq
     exact hoq
  ·have : k = l.length := by omega
   subst this
   rw [sR] at ho
   refine_lift fP fun _ => ?_
   go_ret
   exact ⟨_, rfl, hx, ho⟩
set_option maxHeartbeats 8000000 in
theorem KG (o : List UInt8) (v : Value) (l : List RSet) {d : DeltaR} {r : Value} (w : World) (hv : SetsAt w v l) (hd : DelA d r w)
 (bl : ∀ s ∈ l, s.data.length ≤ 1000000) (dl : ∀ s ∈ l, ∀ d ∈ s.data, d.length ≤ 1000000) (h1 : (aF l).length ≤ 5000) (h2 : d.new.length ≤ 5000) (dn : ∀ q ∈ d.new, q.data.length ≤ 1000000) :
 Calls Tryz.prog 118 #[.agg #[aI o, v], r] w (jE w (AppU w.heap.size o l d)) := by
 obtain ⟨g, n, rfl, sg, sn⟩ := hd
 have lg := aL d.gone
 have ln := aL d.new
 have lgl := sg.le
 have lnl := sn.le
 go_enter Tryz.func118, Tryz.ntmps118
 refine_lift hY fun _ _ => ?_
 refine aZ (vs := [aI o, v]) rfl rfl ?_
 intro p w1 x1 hp
 refine aA ?_
 refine aZ (vs := [.int .i64 d.fr, .int .i64 d.to, g, n]) rfl rfl ?_
 intro q w2 x2 hq
 refine aA ?_
 refine aG (z := aM) rfl (by decide +kernel) ?_
 intro w3 x3 s3 h3
 refine aA ?_
 have hx3 := (x1.trans x2).trans x3
 have zz := (x1.trans x2).size
 have hp3 := (hp.ext x2).ext x3
 have hq3 := hq.ext x3
 refine_lift bY fun _ _ => ?_
 refine aB (enters_of Tryz.func47 rfl rfl) rfl rfl (sX o v l _ (hv.ext hx3) bl (fun s hs d hd => by have := dl s hs d hd; omega)) ?_; intro w4 x4; refine aA ?_
 have hx4 := hx3.trans x4
 refine_lift aS ?_
 refine aG (z := aV) rfl (by decide +kernel) ?_
 intro w5 x5 s5 h5
 refine aA ?_
 refine aC (v := .agg (aP o l).cells.toArray) rfl rfl rfl h5 (show aO Tryz.prog 67 7 = true by decide +kernel) rfl (dI _) ?_
 intro w6 p6
 have x46 : Ext w4 w6 := x5.move p6.mv (by rintro k ⟨⟩; exact Nat.le_refl _)
 have b6 : w6.heap[w4.heap.size]? = some (.cells (aP o l).cells.toArray 67 (0, 0)) := p6.this
 have x36 := x4.trans x46
 have hx6 := hx3.trans x36
 clear p6 h5 x5
 have h6 := x36.at h3
 have hp6 := hp3.ext x36
 have hq6 := hq3.ext x36
 refine_lift SH (fun _ _ _ _ _ => ?_) (fun _ _ _ _ _ => ?_)
 ·have q0 : ¬ aX o l = 0 := by simpa using (by assumption : (!decide (aX o l = 0)) = true)
  refine aQ (v := .agg aM.toArray) rfl (Runs.build0 (by kernel_rfl)) ?_
  refine aA ?_
  refine_lift aS ?_
  refine aC (v := .agg aM.toArray) rfl rfl rfl h6 (by decide +kernel) rfl (by decide +kernel) ?_
  intro wz pz
  have xz : Ext w wz := hx6.move pz.mv (by rintro k ⟨⟩; exact zz)
  refine_lift aS ?_
  refine bodyPost_ret (aH (cs := aM) rfl rfl pz.this (by decide +kernel)) rfl ⟨_, rfl, xz, ?_⟩
  exact AppU.bad (by rw [gL, if_neg q0]) q0
 ·have q0 : aX o l = 0 := by simpa using (by assumption : (!decide (aX o l = 0)) = false)
  have pb6 := aE b6
  have pb6' : Pts w6 (.pointer (some ⟨w4.heap.size, 0, none⟩)) [aI (aP o l).main, aI (aP o l).mail, .int .i64 (aP o l).serial, .int .i64 (aP o l).refresh, .int .i64 (aP o l).retry, .int .i64 (aP o l).expire, .int .i64 (aP o l).minimum] := pb6
  refine_lift yS (fun _ _ _ => ?_) (fun _ _ _ => ?_)
  ·have q1 : ¬ (aP o l).serial = d.fr := by simpa using (by assumption : (!decide ((aP o l).serial = d.fr)) = true)
   refine aQ (v := .agg aM.toArray) rfl (Runs.build0 (by kernel_rfl)) ?_
   refine aA ?_
   refine aC (v := .agg aM.toArray) rfl rfl rfl h6 (by decide +kernel) rfl (by decide +kernel) ?_
   intro wz pz
   have xz : Ext w wz := hx6.move pz.mv (by rintro k ⟨⟩; exact zz)
   refine_lift aS ?_
   refine bodyPost_ret (aH (cs := aM) rfl rfl pz.this (by decide +kernel)) rfl ⟨_, rfl, xz, ?_⟩
   exact AppU.bad (by rw [gL, if_pos q0, if_neg q1]) (by decide)
  ·have q1 : (aP o l).serial = d.fr := by simpa using (by assumption : (!decide ((aP o l).serial = d.fr)) = false)
   refine aK (enters_of Tryz.func43 rfl rfl) rfl rfl (yJ v l _ (hv.ext hx6) (by omega)) ?_
   intro r0 w7 x7 o7
   refine aA ?_
   have hq7 := hq6.ext x7
   have sg6 := sg.ext hx6
   have sn6 := sn.ext hx6
   have hrd := tB dl
   refine_lift bY fun _ _ => ?_
   go_loopw [8, 9] (fun o i wr => ∃ (k : Nat) (m : List Rec), k ≤ d.gone.length ∧ i = .int .i64 k ∧ Ext w6 wr ∧ Own w6.heap.size 4 47 wr o (aD m) ∧ fO (aF l) (d.gone.take k) = some m) (fun _ i _ => d.gone.length - (intOf i).toNat)
   case atStart => exact ⟨0, aF l, Nat.zero_le _, rfl, x7, o7, rfl⟩
   case round =>
    obtain ⟨k, m, hk, rfl, hx, ho, hg⟩ := hrel
    obtain ⟨gl, gm⟩ := wZ hg
    have hml := aL m
    have hsg := sg6.ext hx
    have hqr := hq6.ext hx
    have hpr := hp6.ext hx
    by_cases hlt : k < d.gone.length
    ·have hpe := hsg.elem (cT hlt)
     refine_lift UD ?_; intro _ _ _ _ _ _ _ _
     refine aB (enters_of Tryz.func158 rfl rfl) rfl rfl (CB _ m d.gone[k] _ ho.sl) ?_; intro w10 x10; refine aA ?_
     have hx10 := hx.trans x10
     have ho10 := ho.ext x10
     have hqr10 := hqr.ext x10
     have hsg10 := hsg.ext x10
     have hpe10 := hpe.ext x10
     by_cases hm : d.gone[k] ∈ m
     ·rw [decide_eq_true hm]
      have hst := AT hlt hg
      rw [if_pos hm] at hst
      refine_lift aS ?_
      refine aK (enters_of Tryz.func173 rfl rfl) rfl rfl (EQ _ m d.gone[k] _ ho10.sl (by omega)) ?_
      intro v11 w11 x11 o11
      refine aA ?_
      have hx11 := hx10.trans x11
      refine_lift aS ?_
      exact ⟨⟨k + 1, _, by omega, by go_num, hx11, o11.weaken hx10.size, hst⟩, by simp [intOf]; omega⟩
     ·rw [decide_eq_false hm]
      have hb := xL (ES hlt hg hm)
      refine_lift bY fun _ _ => ?_
      refine aQ (v := .agg aM.toArray) rfl (Runs.build0 (by kernel_rfl)) ?_
      refine aA ?_
      refine aC (v := .agg aM.toArray) rfl rfl rfl (hx10.at h6) (by decide +kernel) rfl (by decide +kernel) ?_
      intro wz pz
      have xz : Ext w wz := (hx6.trans hx10).move pz.mv (by rintro k ⟨⟩; exact zz)
      refine_lift aS ?_
      refine bodyPost_ret (aH (cs := aM) rfl rfl pz.this (by decide +kernel)) rfl ⟨_, rfl, xz, ?_⟩
      exact AppU.bad (oS q0 q1 hb) (by decide)
    ·have : k = d.gone.length := by omega
     subst this
     rw [List.take_length] at hg
     have hed := IE hg
     refine_lift kL fun _ _ _ => ?_
     go_loopw [8, 10] (fun o i wr => ∃ (k : Nat) (m' : List Rec), k ≤ d.new.length ∧ i = .int .i64 k ∧ Ext w6 wr ∧ Own w6.heap.size 4 47 wr o (aD m') ∧ kG m (d.new.take k) = some m') (fun _ i _ => d.new.length - (intOf i).toNat)
     case atStart => exact ⟨0, m, Nat.zero_le _, rfl, hx, ho, rfl⟩
     case round =>
      obtain ⟨k, m', hk, rfl, hx, ho, hn⟩ := hrel
      obtain ⟨nl, nm⟩ := CE hn
      have hml := aL m'
      have hsn := sn6.ext hx
      have hqr := hq6.ext hx
      have hpr := hp6.ext hx
      rw [List.length_take] at nl
      by_cases hlt : k < d.new.length
      ·have hpe := hsn.elem (cT hlt)
       have hst := ER hlt hn
       refine_lift UD ?_; intro _ _ _ _ _ _ _ _
       refine aB (enters_of Tryz.func158 rfl rfl) rfl rfl (CB _ m' d.new[k] _ ho.sl) ?_; intro w10 x10; refine aA ?_
       have hx10 := hx.trans x10
       have ho10 := ho.ext x10
       have hqr10 := hqr.ext x10
       have hsn10 := hsn.ext x10
       have hpe10 := hpe.ext x10
       by_cases hm : d.new[k] ∈ m'
       ·rw [decide_eq_true hm]
        have hb := ID hlt hn hm
        refine_lift bY fun _ _ => ?_
        refine aQ (v := .agg aM.toArray) rfl (Runs.build0 (by kernel_rfl)) ?_
        refine aA ?_
        refine aC (v := .agg aM.toArray) rfl rfl rfl (hx10.at h6) (by decide +kernel) rfl (by decide +kernel) ?_
        intro wz pz
        have xz : Ext w wz := (hx6.trans hx10).move pz.mv (by rintro k ⟨⟩; exact zz)
        refine_lift aS ?_
        refine bodyPost_ret (aH (cs := aM) rfl rfl pz.this (by decide +kernel)) rfl ⟨_, rfl, xz, ?_⟩
        exact AppU.bad (oS q0 q1 (hed.trans hb)) (by decide)
       ·rw [decide_eq_false hm]
        rw [if_neg hm] at hst
        refine_lift aS ?_
        refine FS [aI d.new[k].name, .int .i64 d.new[k].kind, .int .i64 d.new[k].ttl, aI d.new[k].data] hx10 ho10 (by omega) ?_ (lN rfl)
        intro s5 v5 w11 w12 x11 m12 x12 o12
        refine aA ?_
        refine_lift aS ?_
        refine ⟨⟨k + 1, _, by omega, by go_num, x12, ?_, hst⟩, by simp [intOf]; omega⟩
        simpa [aD, Rec.cells] using o12
      ·have : k = d.new.length := by omega
       subst this
       rw [List.take_length] at hn
       rw [hn] at hed
       have hmd : ∀ q ∈ m', q.data.length ≤ 1000000 := by
        intro q hq
        rcases nm q hq with h | h
        ·exact hrd q (gm q h)
        ·exact dn q (List.mem_of_mem_take h)
       have hm5 : m'.length ≤ 10000 := by omega
       obtain ⟨lb1, lb2, lb3⟩ := rW (o := o) hmd
       have hend := AV q0 q1 hed
       refine_lift kL fun _ _ _ => ?_
       refine aK (enters_of Tryz.func68 rfl rfl) rfl rfl (HY o _ m' _ ho.sl hm5 (fun q hq => by have := hmd q hq; omega)) ?_
       rintro _ w20 x20 ⟨y, rfl, sy⟩
       refine aA ?_
       have hx20 := hx.trans x20
       obtain ⟨ya, yn, yc, hys⟩ : ∃ a n c, y = .slice a n c := by obtain ⟨css, h, _⟩ := sy.out; exact h.slf
       have hy1 : y.oneCell' = true := by rw [hys]; rfl
       refine_lift aS ?_
       refine aG (z := aM) rfl (by decide +kernel) ?_
       intro w21 x21 s21 h21
       refine aA ?_
       refine aC (v := .agg #[aI (cH o m'), y]) rfl rfl rfl h21 (show aO Tryz.prog 25 2 = true by decide +kernel) rfl (bE hy1) ?_
       intro w22 p22
       have x2022 : Ext w20 w22 := x21.move p22.mv (by rintro k ⟨⟩; exact Nat.le_refl _)
       have z22 : w22.heap[w20.heap.size]? = some (.cells [aI (cH o m'), y].toArray 25 (0, 0)) := p22.this
       have hx22 := hx20.trans x2022
       have sy22 := sy.ext x2022
       have ho22 := ho.ext (x20.trans x2022)
       clear p22 h21 x21
       refine_lift rG (fun _ _ _ => ?_) (fun _ _ _ _ _ => ?_)
       ·have q2 : ¬ dE o m' = 0 := by simpa using (by assumption : (!decide (dE o m' = 0)) = true)
        refine aQ (v := .agg aM.toArray) rfl (Runs.build0 (by kernel_rfl)) ?_
        refine aA ?_
        refine_lift aS ?_
        refine aC (v := .agg aM.toArray) rfl rfl rfl (hx22.at h6) (by decide +kernel) rfl (by decide +kernel) ?_
        intro wz pz
        have xz : Ext w wz := (hx6.trans hx22).move pz.mv (by rintro k ⟨⟩; exact zz)
        refine_lift aS ?_
        refine bodyPost_ret (aH (cs := aM) rfl rfl pz.this (by decide +kernel)) rfl ⟨_, rfl, xz, ?_⟩
        exact AppU.bad (by rw [hend, qU, if_neg q2]) q2
       ·have q2 : dE o m' = 0 := by simpa using (by assumption : (!decide (dE o m' = 0)) = false)
        have pz22 := aE z22
        refine_lift aS ?_
        refine aB (enters_of Tryz.func47 rfl rfl) rfl rfl (sX (cH o m') y (bT o m') _ sy22.sets (fun s hs => by have := lb1 s hs; omega) (fun s hs d hd => by have := lb2 s hs d hd; omega)) ?_; intro w23 x23; refine aA ?_
        have hx23 := hx22.trans x23
        refine_lift aS ?_
        refine aG (z := aV) rfl (by decide +kernel) ?_
        intro wq xq sq hq'
        refine aA ?_
        refine aC (v := .agg (aP (cH o m') (bT o m')).cells.toArray) rfl rfl rfl hq' (show aO Tryz.prog 67 7 = true by decide +kernel) rfl (dI _) ?_
        intro w24 p24
        have e3 := hx.size
        have xq24 : Ext w23 w24 := xq.move p24.mv (by rintro k ⟨⟩; exact Nat.le_refl _)
        have x24 : Ext w3 w24 := (x36.trans hx23).trans xq24
        have hxw24 := hx3.trans x24
        have hq24 := hq3.ext x24
        have b24 : w24.heap[w23.heap.size]? = some (.cells [aI (aP (cH o m') (bT o m')).main, aI (aP (cH o m') (bT o m')).mail, .int .i64 (aP (cH o m') (bT o m')).serial, .int .i64 (aP (cH o m') (bT o m')).refresh, .int .i64 (aP (cH o m') (bT o m')).retry, .int .i64 (aP (cH o m') (bT o m')).expire, .int .i64 (aP (cH o m') (bT o m')).minimum].toArray 67 (0, 0)) := p24.this
        have h24 := xq24.at (hx23.at h6)
        have z24 := xq24.at (x23.at z22)
        have sy24 := (sy22.ext x23).ext xq24
        have ho24 := (ho22.ext x23).ext xq24
        have pz24 := aE z24
        have e5 : w2.heap.size < w6.heap.size := (Array.getElem?_eq_some_iff.1 h6).1
        clear p24 hq' xq
        refine_lift bY fun _ _ => ?_
        refine aK (enters_of Tryz.func43 rfl rfl) rfl rfl (yJ y (bT o m') _ sy24.sets (by omega)) ?_
        intro r5 w25 x25 o25
        refine aA ?_
        have hxw25 := hxw24.trans x25
        have h25 := x25.at h24
        have z25 := x25.at z24
        have pz25 := pz24.ext x25
        have pb25 := aE (x25.at b24)
        have hq25 := hq24.ext x25
        have sl25 := (ho24.ext x25).sl
        have sr25 := o25.sl
        have lr := aL (aF (bT o m'))
        refine_lift PO (fun _ _ hc hc _ _ => ?_) (fun _ _ hc _ _ => ?_) (fun _ _ _ _ hc hc => ?_)
        ·have q3 : (aP (cH o m') (bT o m')).serial = d.to := by simpa using (by assumption : (!decide ((aP (cH o m') (bT o m')).serial = d.to)) = false)
         have q4 : (aF (bT o m')).length = m'.length := by
          have : (↑(aD (aF (bT o m'))).length : Int) = ↑(aD m').length := by simpa using hc
          omega
         refine aK (enters_of Tryz.func100 rfl rfl) rfl rfl (MF _ r5 m' (aF (bT o m')) _ sl25 sr25 (by omega)) ?_
         intro r6 w26 x26 o26
         have sr26 := o26.sl
         have hxw26 := hxw25.trans x26
         have h26 := x26.at h25
         have z26 := x26.at z25
         have pz26 := pz25.ext x26
         have l6 := aL (cW m' (aF (bT o m')))
         have sy26 := (sy24.ext x25).ext x26
         refine aA ?_
         refine_lift yS (fun _ _ _ => ?_) (fun _ _ _ => ?_)
         ·have q5 : ¬ cW m' (aF (bT o m')) = [] := by
           intro e
           rw [e] at l6
           simp at l6
           have := (by assumption : (0 : Int) < ↑(aD (cW m' (aF (bT o m')))).length)
           rw [e] at this
           simp [aD] at this
          refine aQ (v := .agg aM.toArray) rfl (Runs.build0 (by kernel_rfl)) ?_
          refine aA ?_
          refine aC (v := .agg aM.toArray) rfl rfl rfl h26 (by decide +kernel) rfl (by decide +kernel) ?_
          intro wz pz
          have xz : Ext w wz := hxw26.move pz.mv (by rintro k ⟨⟩; exact zz)
          refine_lift aS ?_
          refine bodyPost_ret (aH (cs := aM) rfl rfl pz.this (by decide +kernel)) rfl ⟨_, rfl, xz, ?_⟩
          exact AppU.bad (by rw [hend, qU, if_pos q2, if_neg (fun h => q5 h.2.2)]) (by decide)
         ·have q5 : cW m' (aF (bT o m')) = [] := List.eq_nil_of_length_eq_zero (by omega)
          have hE : gL o l d = 0 := by rw [hend, qU, if_pos q2, if_pos ⟨q3, q4, q5⟩]
          refine_lift aS ?_
          refine aC (v := .agg #[aI (cH o m'), y]) rfl rfl rfl h26 (show aO Tryz.prog 25 2 = true by decide +kernel) rfl (bE hy1) ?_
          intro wz pz
          have xz : Ext w wz := hxw26.move pz.mv (by rintro k ⟨⟩; exact zz)
          refine_lift aS ?_
          refine bodyPost_ret (aH (cs := [aI (cH o m'), y]) rfl rfl pz.this (show dY Tryz.prog 25 2 = true by decide +kernel)) rfl ⟨_, rfl, xz, ?_⟩
          refine ⟨y, ?_, ?_⟩
          ·rw [lM, if_pos hE, hE, hed]; rfl
          ·rw [pK, if_pos hE, hed]
           exact (sy26.put pz (by omega)).weaken (hx6.trans hx).size
        ·have q4 : ¬ (aF (bT o m')).length = m'.length := by
          have : ¬ (↑(aD (aF (bT o m'))).length : Int) = ↑(aD m').length := by simpa using hc
          omega
         refine aQ (v := .agg aM.toArray) rfl (Runs.build0 (by kernel_rfl)) ?_
         refine aA ?_
         refine aC (v := .agg aM.toArray) rfl rfl rfl h25 (by decide +kernel) rfl (by decide +kernel) ?_
         intro wz pz
         have xz : Ext w wz := hxw25.move pz.mv (by rintro k ⟨⟩; exact zz)
         refine_lift aS ?_
         refine bodyPost_ret (aH (cs := aM) rfl rfl pz.this (by decide +kernel)) rfl ⟨_, rfl, xz, ?_⟩
         exact AppU.bad (by rw [hend, qU, if_pos q2, if_neg (fun h => q4 h.2.1)]) (by decide)
        ·have q3 : ¬ (aP (cH o m') (bT o m')).serial = d.to := by simpa using hc
         refine aQ (v := .agg aM.toArray) rfl (Runs.build0 (by kernel_rfl)) ?_
         refine aA ?_
         refine aC (v := .agg aM.toArray) rfl rfl rfl h25 (by decide +kernel) rfl (by decide +kernel) ?_
         intro wz pz
         have xz : Ext w wz := hxw25.move pz.mv (by rintro k ⟨⟩; exact zz)
         refine_lift aS ?_
         refine bodyPost_ret (aH (cs := aM) rfl rfl pz.this (by decide +kernel)) rfl ⟨_, rfl, xz, ?_⟩
         exact AppU.bad (by rw [hend, qU, if_pos q2, if_neg (fun h => q3 h.1)]) (by decide)
theorem KH {l : List Rec} {j : Nat} (h : j < l.length) : nextSoa (l.drop j) = if aU l[j] = true then 0 else nextSoa (l.drop (j + 1)) + 1 := by
 rw [List.drop_eq_getElem_cons h]
 rfl
set_option maxHeartbeats 1000000 in
theorem BD (v : Value) (l : List Rec) (k : Nat) (w : World) (hv : Sl 4 w v (aD l)) (hk : k ≤ l.length) (hl : l.length ≤ 1000000) : Calls Tryz.prog 117 #[v, .int .i64 (k : Int)] w (bG w (.int .i64 ((k + nextSoa (l.drop k) : Nat) : Int))) := by
 have hlen := aL l
 go_enter Tryz.func117, Tryz.ntmps117
 refine_lift gX fun _ _ => ?_
 go_loopw [1] (fun i wr => ∃ j : Nat, k ≤ j ∧ j ≤ l.length ∧ i = .int .i64 j ∧ Ext w wr ∧ k + nextSoa (l.drop k) = j + nextSoa (l.drop j)) (fun i _ => l.length - (intOf i).toNat)
 case atStart => exact ⟨k, Nat.le_refl _, hk, rfl, Ext.refl _, rfl⟩
 case round =>
  obtain ⟨j, hkj, hj, rfl, hx, he⟩ := hrel
  by_cases hlt : j < l.length
  ·have h1 := (hv.ext hx).elem (cT hlt)
   have hn := KH hlt
   by_cases hs : l[j].kind = 6
   ·rw [if_pos (by simp [aU, hs])] at hn
    refine_lift HP (fun hc _ => ?_) (fun hc => ?_) (fun hc _ => ?_)
    all_goals first
     | (exfalso; omega)
     | (exfalso; have hh := ‹(!decide (l[j].kind = 6)) = true›; simp [hs] at hh; done)
     | skip
    go_ret
    refine ⟨?_, hx⟩
    rw [he, hn]
    rfl
   ·rw [if_neg (by simp [aU, hs])] at hn
    refine_lift HP (fun hc _ => ?_) (fun hc => ?_) (fun hc _ => ?_)
    all_goals first
     | (exfalso; omega)
     | (exfalso; have hh := ‹(!decide (l[j].kind = 6)) = false›; simp [hs] at hh; done)
     | skip
    exact ⟨⟨j + 1, by omega, by omega, rfl, hx, by omega⟩, by simp [intOf]; omega⟩
  ·have hj2 : j = l.length := by omega
   have hn : nextSoa (l.drop j) = 0 := by rw [hj2, List.drop_length]; rfl
   (repeat' first | ((with_reducible refine cY ?_); go_step) | ((with_reducible refine bR ?_); first | refine iI ?_ | (refine dN ?_ ?_ <;> intro hc)) | fail)
   all_goals first
    | (exfalso; omega)
    | skip
   go_ret
   refine ⟨?_, hx⟩
   rw [he, hn]
   rfl
theorem FD {rs : List Rec} {k : Nat} (h : k < rs.length) : k + 1 + nextSoa (rs.drop (k + 1)) = k + partN (rs.drop k) := by
 unfold partN
 rw [List.drop_drop]
 omega
theorem NF {rs : List Rec} {k n : Nat} : (rs.take (k + n)).drop k = (rs.drop k).take n := by
 rw [List.drop_take]
 congr 1
 omega
theorem IN {v : Value} {l : List Rec} {w : World} (hv : Sl 4 w v (aD l)) {k n : Nat} (hn : k + n ≤ l.length) : Sl 4 w (cK v 4 k (k + n)) (aD ((l.drop k).take n)) := by
 have hlen := aL l
 have a := hv.cut (m := k) (n := k + n) (by omega) (by omega)
 rw [show ((aD l).take (k + n)).drop k = aD ((l.drop k).take n) by rw [← NF]; simp [aD, List.map_take, List.map_drop]] at a
 exact a
set_option maxHeartbeats 1600000 in
theorem HD (o : List UInt8) (v : Value) (l : List RSet) (rv : Value) (rs : List Rec) (w : World) (hv : SetsAt w v l) (hr : Sl 4 w rv (aD rs)) (bl : ∀ s ∈ l, s.data.length ≤ 1000000) (dl : ∀ s ∈ l, ∀ d ∈ s.data, d.length ≤ 1000000) (h1 : (aF l).length ≤ 5000) (h2 : rs.length ≤ 5000) (dn : ∀ q ∈ rs, q.data.length ≤ 1000000) (hne0 : rs ≠ []) :
 Calls Tryz.prog 69 #[.agg #[aI o, v], rv] w (jE w (ZEU w.heap.size (kW o l rs))) := by
 have hrl := aL rs
 go_enter Tryz.func69, Tryz.ntmps69
 refine_lift hY fun _ _ => ?_
 refine eD (vs := [aI o, v]) rfl rfl ?_
 intro w1 x1 s1 hb1
 refine aA ?_
 refine aG (z := aM) rfl (by decide +kernel) ?_
 intro w2 x2 s2 hb2
 refine aA ?_
 refine_lift gX fun _ _ => ?_
 have hb1' := x2.at hb1
 have hx2 := x1.trans x2
 have hvx := hv.ext hx2
 generalize hb1e : w.heap.size = b1 at *
 generalize hb2e : w1.heap.size = b2 at *
 go_loopw [6] (fun i wr => ∃ (k : Nat) (l' : List RSet) (o' : List UInt8) (v' : Value), k ≤ rs.length ∧ i = .int .i64 k ∧ wr.heap[b1]? = some (.cells [aI o', v'].toArray 25 (0, 0)) ∧ wr.heap[b2]? = some (.cells aM.toArray 25 (0, 0)) ∧ SetsAt wr v' l' ∧ kW o l rs = kW o' l' (rs.drop k) ∧ Ext w wr ∧ w2.heap.size ≤ wr.heap.size ∧ (∀ s ∈ l', s.data.length ≤ 1000000) ∧ (∀ s ∈ l', ∀ d ∈ s.data, d.length ≤ 1000000) ∧ (aF l').length ≤ 5000 ∧ (k = 0 ∨ SetsO w2.heap.size wr v' l')) (fun i _ => rs.length - (intOf i).toNat)
 case atStart => exact ⟨0, l, o, v, Nat.zero_le _, rfl, hb1', hb2, hvx, rfl, hx2, Nat.le_refl _, bl, dl, h1, .inl rfl⟩
 case round =>
  obtain ⟨k, l', o', v', hk, rfl, hz, hy, hv', hch, hx, hsz, bl', dl', h1', hown⟩ := hrel
  clear hb1' hvx hb1 hb2 x1 x2
  have hpz := aE (cs := [aI o', v']) hz
  have hv1' : v'.oneCell' = true := by obtain ⟨_, hq, _⟩ := hv'.sl; exact hq.one
  by_cases hlt : k < rs.length
  ·have hne : rs.drop k ≠ [] := by
    intro e
    have := congrArg List.length e
    simp only [List.length_drop, List.length_nil] at this
    omega
   have hpn := eN hne
   rw [List.length_drop] at hpn
   have hun := fun w' (x' : Ext wr w') => BD rv rs (k + 1) w' (hr.ext (hx.trans x')) (by omega) (by omega)
   rw [FD hlt] at hun
   have hstep := lP o' l' hne
   rw [List.drop_drop] at hstep
   generalize hmid : k + partN (rs.drop k) = mid at *
   rw [show ((k + 1 : Nat) : Int) = (k : Int) + 1 by omega] at hun
   refine_lift JA ?_; intro _ _ _ _
   all_goals first
    | (exfalso; omega)
    | skip
   refine aB (enters_of Tryz.func117 rfl rfl) rfl rfl (hun _ (Ext.refl _)) ?_; intro w3 x3; refine aA ?_
   have hy3 := x3.at hy
   have hx3 := hx.trans x3
   by_cases hml : mid = rs.length
   ·refine_lift SN fun _ _ _ _ _ => ?_
    all_goals first
     | (exfalso; omega)
     | skip
    refine aQ (v := .agg aM.toArray) rfl (Runs.build0 (by kernel_rfl)) ?_
    refine aA ?_
    refine aC (v := .agg aM.toArray) rfl rfl rfl hy3 (show aO Tryz.prog 25 2 = true by decide +kernel) rfl (by decide +kernel) ?_
    intro w4 p4
    refine_lift dA ?_
    have x4 : Ext w w4 := hx3.move p4.mv (by rintro k ⟨⟩; omega)
    refine bodyPost_ret (aH (cs := aM) rfl rfl p4.this (by decide +kernel)) rfl ⟨_, rfl, x4, ?_⟩
    rw [hch, hstep, if_pos (by rw [hml, List.drop_length])]
    exact ZEU.bad
   ·have hne2 : rs.drop mid ≠ [] := by
     intro e
     have := congrArg List.length e
     simp only [List.length_drop, List.length_nil] at this
     omega
    have hpn2 := eN hne2
    rw [List.length_drop] at hpn2
    have hun2 := fun w' (x' : Ext wr w') => BD rv rs (mid + 1) w' (hr.ext (hx.trans x')) (by omega) (by omega)
    rw [FD (show mid < rs.length by omega)] at hun2
    refine_lift RV fun _ _ _ => ?_
    all_goals first
     | (exfalso; omega)
     | skip
    refine aB (enters_of Tryz.func117 rfl rfl) rfl rfl (hun2 _ x3) ?_; intro w4 x4; refine aA ?_
    obtain ⟨gone, hgone⟩ : ∃ gone, gone = (rs.drop k).take (partN (rs.drop k)) := ⟨_, rfl⟩
    obtain ⟨come, hcome⟩ : ∃ come, come = (rs.drop mid).take (partN (rs.drop mid)) := ⟨_, rfl⟩
    have hx4 := hx3.trans x4
    have hsg := IN (hr.ext hx4) (k := k) (n := partN (rs.drop k)) (by omega)
    have hsc := IN (hr.ext hx4) (k := mid) (n := partN (rs.drop mid)) (by omega)
    rw [hmid, ← hgone] at hsg
    rw [← hcome] at hsc
    rw [← hgone, ← hcome, List.drop_drop, if_neg hne2] at hstep
    generalize hto : mid + partN (rs.drop mid) = to at *
    have x14 := x3.trans x4
    have hz4 := x14.at hz
    have hy4 := x14.at hy
    have hpz4 := hpz.ext x14
    have hv4 := hv'.ext x14
    have hr4 := hr.ext hx4
    have hlm : mid < rs.length := by omega
    have pg := hr4.elem (cT hlt)
    have pm := hr4.elem (cT hlm)
    have hge : bD gone = rs[k] := by
     rw [hgone, List.drop_eq_getElem_cons hlt]
     obtain ⟨n, hn⟩ : ∃ n, partN (rs[k] :: rs.drop (k + 1)) = n + 1 := ⟨nextSoa ((rs[k] :: rs.drop (k + 1)).drop 1), by unfold partN; omega⟩
     rw [hn]; rfl
    have hce : bD come = rs[mid] := by
     rw [hcome, List.drop_eq_getElem_cons hlm]
     obtain ⟨n, hn⟩ : ∃ n, partN (rs[mid] :: rs.drop (mid + 1)) = n + 1 := ⟨nextSoa ((rs[mid] :: rs.drop (mid + 1)).drop 1), by unfold partN; omega⟩
     rw [hn]; rfl
    have hmc : ∀ q ∈ come, q ∈ rs := fun q hq => List.mem_of_mem_drop (List.mem_of_mem_take (hcome ▸ hq))
    have hcl : come.length ≤ rs.length := by rw [hcome, List.length_take, List.length_drop]; omega
    have d1 := dn _ (List.getElem_mem hlt)
    have d2 := dn _ (List.getElem_mem hlm)
    obtain ⟨gv, hgv⟩ : ∃ gv, gv = cK rv 4 k mid := ⟨_, rfl⟩
    obtain ⟨cv, hcv⟩ : ∃ cv, cv = cK rv 4 mid to := ⟨_, rfl⟩
    rw [← hgv] at hsg
    rw [← hcv] at hsc
    have hD : ∀ w', Ext w4 w' → DelA (dR gone come) (.agg #[.int .i64 (dW rs[k]), .int .i64 (dW rs[mid]), gv, cv]) w' := fun w' x' => ⟨_, _, by rw [dR, hge, hce], hsg.ext x', hsc.ext x'⟩
    have hA : ∀ w', Ext w4 w' → Calls Tryz.prog 118 #[.agg #[aI o', v'], .agg #[.int .i64 (dW rs[k]), .int .i64 (dW rs[mid]), gv, cv]] w' (jE w' (AppU w'.heap.size o' l' (dR gone come))) := fun w' x' => KG o' v' l' w' (hv4.ext x') (hD w' x') bl' dl' h1' (by show come.length ≤ 5000; omega) (fun q hq => dn q (hmc q hq))
    refine_lift gX fun _ _ => ?_
    refine cC (S := fun w' => Ext w4 w') (by decide +kernel) ?_
    intro w21 x21 hh21
    refine eQ 0 ?_; refine aA ?_; refine eQ 1 ?_; refine aA ?_; refine eQ 2 ?_; refine aA ?_; refine eQ 3 ?_; refine aA ?_; refine eQ 4 ?_; refine aA ?_; refine eQ 6 ?_; refine aA ?_; refine eQ 7 ?_; refine aA ?_; refine eQ 8 ?_; refine aA ?_; refine eQ 9 ?_; refine aA ?_; refine eQ 11 ?_; refine aA ?_; refine eQ 12 ?_; refine aA ?_; refine eQ 13 ?_; refine aA ?_; refine eQ 14 ?_; refine aA ?_; refine eQ 15 ?_; refine aA ?_; refine eQ 16 ?_; refine aA ?_; refine eQ 17 ?_; refine aA ?_; refine eQ 18 ?_; refine aA ?_
    rw [← hgv, ← hcv]
    apply PU (F := fun (y : Value) (zk : Nat) (_ : Nat) w' => Ext w4 w' ∧ w4.heap.size ≤ zk ∧ w'.heap[zk]? = some (.cells [aI (lM o' l' (dR gone come)), y].toArray 25 (0, 0)) ∧ SetsO w4.heap.size w' y (pK o' l' (dR gone come)))
    ·intro hG
     obtain ⟨u0, -⟩ : ∃ u0 : Nat, u0 = u0 := ⟨0, rfl⟩
     have s21 := x21.size
     refine fJ (i := 5) (j := 24) (by decide +kernel) rfl rfl rfl ?_ ?_
     ·refine aB (enters_of Tryz.func70 rfl rfl) rfl rfl (show Calls Tryz.prog 70 #[.agg #[aI rs[k].name, .int .i64 rs[k].kind, .int .i64 rs[k].ttl, aI rs[k].data]] w21 (bG w21 (.int .i64 (dW rs[k]))) from gS rs[k] _ (by omega)) ?_
      intro wA ywA
      refine aA ?_
      have zwA := x21.trans ywA
      have rwA := ywA.size
      refine aJ ⟨zwA, ?_⟩
      refine fJ (i := 10) (j := 24) (by decide +kernel) rfl rfl rfl ?_ ?_
      ·refine aB (enters_of Tryz.func70 rfl rfl) rfl rfl (show Calls Tryz.prog 70 #[.agg #[aI rs[mid].name, .int .i64 rs[mid].kind, .int .i64 rs[mid].ttl, aI rs[mid].data]] wA (bG wA (.int .i64 (dW rs[mid]))) from gS rs[mid] _ (by omega)) ?_
       intro wB ywB
       refine aA ?_
       have zwB := zwA.trans ywB
       have rwB := ywB.size
       refine aJ ⟨zwB, ?_⟩
       refine bP (i := 19) (v := .agg #[.int .i64 (dW rs[k]), .int .i64 (dW rs[mid]), gv, cv]) rfl rfl (by decide +kernel) (by decide +kernel) (by decide +kernel) rfl zwB (fun w' _ => Runs.build rfl (by clear hG; obtain ⟨_, _, _, rfl⟩ := hsg.slf; obtain ⟨_, _, _, rfl⟩ := hsc.slf; kernel_rfl)) (fun _ _ _ h => h) ?_
       refine aA ?_
       refine fJ (i := 20) (j := 24) (by decide +kernel) rfl rfl rfl ?_ ?_
       ·refine aK (enters_of Tryz.func118 rfl rfl) rfl rfl (hA _ zwB) ?_
        rintro _ wC ywC ⟨y, rfl, hO⟩
        refine aA ?_
        have zwC := zwB.trans ywC
        have rwC := ywC.size
        have hy1 : y.oneCell' = true := by obtain ⟨_, hq, _⟩ := hO.sets.sl; exact hq.one
        have swC := zwB.size
        refine aJ ⟨zwC, ?_⟩
        refine eQ 21 ?_; refine aA ?_; refine eQ 22 ?_; refine aA ?_; refine eQ 23 ?_; refine aA ?_
        refine aT (i := 24) (by decide +kernel) rfl rfl ?_
        refine aG (z := aM) rfl (by decide +kernel) ?_
        intro wE ywE qwE awE
        refine aA ?_
        have zwE := zwC.trans ywE
        have rwE := ywE.size
        have twE := zwC.size
        refine aJ ⟨zwE, ?_⟩
        have hC : wE.heap[wC.heap.size]? = some (.cells aM.toArray 25 (0, 0)) := awE
        refine aT (i := 25) (by decide +kernel) rfl rfl ?_
        refine aC (v := .agg #[aI (lM o' l' (dR gone come)), y]) rfl rfl rfl hC (show aO Tryz.prog 25 2 = true by decide +kernel) rfl (bE hy1) ?_
        intro wF pF
        have xF : Ext w4 wF := zwE.move pF.mv (by rintro k ⟨⟩; omega)
        have hF := pF.this
        have hle : w4.heap.size ≤ wC.heap.size := by omega
        have hOF : SetsO w4.heap.size wF y (pK o' l' (dR gone come)) := (hO.ext (ywE.move pF.mv (by rintro k ⟨⟩; exact Nat.le_refl _))).weaken (by omega)
        refine aJ ⟨xF, ?_⟩
        clear pF hC
        generalize wC.heap.size = zk at *
        exact hG y zk u0 _ ⟨xF, hle, hF, hOF⟩
       ·refine aG (z := aM) rfl (by decide +kernel) ?_
        intro wD ywD qwD awD
        refine aA ?_
        have zwD := zwB.trans ywD
        have rwD := ywD.size
        have twD := zwB.size
        refine aJ ⟨zwD, ?_⟩
        refine aT (i := 20) (by decide +kernel) rfl rfl ?_
        refine aK (enters_of Tryz.func118 rfl rfl) rfl rfl (hA _ zwD) ?_
        rintro _ wC ywC ⟨y, rfl, hO⟩
        refine aA ?_
        have zwC := zwD.trans ywC
        have rwC := ywC.size
        have hy1 : y.oneCell' = true := by obtain ⟨_, hq, _⟩ := hO.sets.sl; exact hq.one
        have swC := zwD.size
        refine aJ ⟨zwC, ?_⟩
        refine eQ 21 ?_; refine aA ?_; refine eQ 22 ?_; refine aA ?_; refine eQ 23 ?_; refine aA ?_
        have hC : wC.heap[wB.heap.size]? = some (.cells aM.toArray 25 (0, 0)) := (ywC.at awD)
        refine aT (i := 25) (by decide +kernel) rfl rfl ?_
        refine aC (v := .agg #[aI (lM o' l' (dR gone come)), y]) rfl rfl rfl hC (show aO Tryz.prog 25 2 = true by decide +kernel) rfl (bE hy1) ?_
        intro wF pF
        have xF : Ext w4 wF := zwC.move pF.mv (by rintro k ⟨⟩; omega)
        have hF := pF.this
        have hle : w4.heap.size ≤ wB.heap.size := by omega
        have hOF : SetsO w4.heap.size wF y (pK o' l' (dR gone come)) := (hO.mvb pF.mv (by omega)).weaken (by omega)
        refine aJ ⟨xF, ?_⟩
        clear pF hC
        generalize wB.heap.size = zk at *
        exact hG y zk u0 _ ⟨xF, hle, hF, hOF⟩
      ·refine aG (z := aM) rfl (by decide +kernel) ?_
       intro wD ywD qwD awD
       refine aA ?_
       have zwD := zwA.trans ywD
       have rwD := ywD.size
       have twD := zwA.size
       refine aJ ⟨zwD, ?_⟩
       refine aT (i := 10) (by decide +kernel) rfl rfl ?_
       refine aB (enters_of Tryz.func70 rfl rfl) rfl rfl (show Calls Tryz.prog 70 #[.agg #[aI rs[mid].name, .int .i64 rs[mid].kind, .int .i64 rs[mid].ttl, aI rs[mid].data]] wD (bG wD (.int .i64 (dW rs[mid]))) from gS rs[mid] _ (by omega)) ?_
       intro wB ywB
       refine aA ?_
       have zwB := zwD.trans ywB
       have rwB := ywB.size
       refine aJ ⟨zwB, ?_⟩
       refine bP (i := 19) (v := .agg #[.int .i64 (dW rs[k]), .int .i64 (dW rs[mid]), gv, cv]) rfl rfl (by decide +kernel) (by decide +kernel) (by decide +kernel) rfl zwB (fun w' _ => Runs.build rfl (by clear hG; obtain ⟨_, _, _, rfl⟩ := hsg.slf; obtain ⟨_, _, _, rfl⟩ := hsc.slf; kernel_rfl)) (fun _ _ _ h => h) ?_
       refine aA ?_
       refine aT (i := 20) (by decide +kernel) rfl rfl ?_
       refine aK (enters_of Tryz.func118 rfl rfl) rfl rfl (hA _ zwB) ?_
       rintro _ wC ywC ⟨y, rfl, hO⟩
       refine aA ?_
       have zwC := zwB.trans ywC
       have rwC := ywC.size
       have hy1 : y.oneCell' = true := by obtain ⟨_, hq, _⟩ := hO.sets.sl; exact hq.one
       have swC := zwB.size
       refine aJ ⟨zwC, ?_⟩
       refine eQ 21 ?_; refine aA ?_; refine eQ 22 ?_; refine aA ?_; refine eQ 23 ?_; refine aA ?_
       have hC : wC.heap[wA.heap.size]? = some (.cells aM.toArray 25 (0, 0)) := (ywC.at (ywB.at awD))
       refine aT (i := 25) (by decide +kernel) rfl rfl ?_
       refine aC (v := .agg #[aI (lM o' l' (dR gone come)), y]) rfl rfl rfl hC (show aO Tryz.prog 25 2 = true by decide +kernel) rfl (bE hy1) ?_
       intro wF pF
       have xF : Ext w4 wF := zwC.move pF.mv (by rintro k ⟨⟩; omega)
       have hF := pF.this
       have hle : w4.heap.size ≤ wA.heap.size := by omega
       have hOF : SetsO w4.heap.size wF y (pK o' l' (dR gone come)) := (hO.mvb pF.mv (by omega)).weaken (by omega)
       refine aJ ⟨xF, ?_⟩
       clear pF hC
       generalize wA.heap.size = zk at *
       exact hG y zk u0 _ ⟨xF, hle, hF, hOF⟩
     ·refine aG (z := aM) rfl (by decide +kernel) ?_
      intro wD ywD qwD awD
      refine aA ?_
      have zwD := x21.trans ywD
      have rwD := ywD.size
      have twD := x21.size
      refine aJ ⟨zwD, ?_⟩
      refine aT (i := 5) (by decide +kernel) rfl rfl ?_
      refine aB (enters_of Tryz.func70 rfl rfl) rfl rfl (show Calls Tryz.prog 70 #[.agg #[aI rs[k].name, .int .i64 rs[k].kind, .int .i64 rs[k].ttl, aI rs[k].data]] wD (bG wD (.int .i64 (dW rs[k]))) from gS rs[k] _ (by omega)) ?_
      intro wA ywA
      refine aA ?_
      have zwA := zwD.trans ywA
      have rwA := ywA.size
      refine aJ ⟨zwA, ?_⟩
      refine aT (i := 10) (by decide +kernel) rfl rfl ?_
      refine aB (enters_of Tryz.func70 rfl rfl) rfl rfl (show Calls Tryz.prog 70 #[.agg #[aI rs[mid].name, .int .i64 rs[mid].kind, .int .i64 rs[mid].ttl, aI rs[mid].data]] wA (bG wA (.int .i64 (dW rs[mid]))) from gS rs[mid] _ (by omega)) ?_
      intro wB ywB
      refine aA ?_
      have zwB := zwA.trans ywB
      have rwB := ywB.size
      refine aJ ⟨zwB, ?_⟩
      refine bP (i := 19) (v := .agg #[.int .i64 (dW rs[k]), .int .i64 (dW rs[mid]), gv, cv]) rfl rfl (by decide +kernel) (by decide +kernel) (by decide +kernel) rfl zwB (fun w' _ => Runs.build rfl (by clear hG; obtain ⟨_, _, _, rfl⟩ := hsg.slf; obtain ⟨_, _, _, rfl⟩ := hsc.slf; kernel_rfl)) (fun _ _ _ h => h) ?_
      refine aA ?_
      refine aT (i := 20) (by decide +kernel) rfl rfl ?_
      refine aK (enters_of Tryz.func118 rfl rfl) rfl rfl (hA _ zwB) ?_
      rintro _ wC ywC ⟨y, rfl, hO⟩
      refine aA ?_
      have zwC := zwB.trans ywC
      have rwC := ywC.size
      have hy1 : y.oneCell' = true := by obtain ⟨_, hq, _⟩ := hO.sets.sl; exact hq.one
      have swC := zwB.size
      refine aJ ⟨zwC, ?_⟩
      refine eQ 21 ?_; refine aA ?_; refine eQ 22 ?_; refine aA ?_; refine eQ 23 ?_; refine aA ?_
      have hC : wC.heap[w21.heap.size]? = some (.cells aM.toArray 25 (0, 0)) := (ywC.at (ywB.at (ywA.at awD)))
      refine aT (i := 25) (by decide +kernel) rfl rfl ?_
      refine aC (v := .agg #[aI (lM o' l' (dR gone come)), y]) rfl rfl rfl hC (show aO Tryz.prog 25 2 = true by decide +kernel) rfl (bE hy1) ?_
      intro wF pF
      have xF : Ext w4 wF := zwC.move pF.mv (by rintro k ⟨⟩; omega)
      have hF := pF.this
      have hle : w4.heap.size ≤ w21.heap.size := by omega
      have hOF : SetsO w4.heap.size wF y (pK o' l' (dR gone come)) := (hO.mvb pF.mv (by omega)).weaken (by omega)
      refine aJ ⟨xF, ?_⟩
      clear pF hC
      generalize w21.heap.size = zk at *
      exact hG y zk u0 _ ⟨xF, hle, hF, hOF⟩
    ·rintro y zk _ w9 ⟨x9, hzk9, hz9, ho9⟩
     refine eQ 26 ?_; refine aA ?_
     refine cB (by decide +kernel) ?_
     have hx9 := hx4.trans x9
     have hz9' := x9.at hz4
     have hy9 := x9.at hy4
     have hy91 : y.oneCell' = true := by obtain ⟨_, hq, _⟩ := ho9.sets.sl; exact hq.one
     have hpz9 := aE (cs := [aI (lM o' l' (dR gone come)), y]) hz9
     have hs14 := x14.size
     have hs49 := x9.size
     clear hun hun2 hA hD hh21
     by_cases e0 : gL o' l' (dR gone come) = 0
     ·rw [if_pos e0] at hstep
      obtain ⟨z1, z2⟩ := xR e0
      obtain ⟨j1, j2, j3, j4⟩ := nX z1
      refine_lift ST (fun _ _ _ _ => ?_) (fun _ _ _ _ _ _ => ?_)
      all_goals first
       | (exfalso; omega)
       | (exfalso; have hh := ‹(!decide (gL o' l' (dR gone come) = 0)) = true›; simp [e0] at hh; done)
       | skip
      refine aC (v := .agg #[aI (lM o' l' (dR gone come)), y]) rfl rfl rfl hz9' (show aO Tryz.prog 25 2 = true by decide +kernel) rfl (bE hy91) ?_
      intro w10 p10
      refine_lift dA ?_
      have x10 : Ext w w10 := hx9.move p10.mv (by rintro k ⟨⟩; omega)
      have hO10 := (ho9.weaken (show w2.heap.size ≤ w4.heap.size by omega)).put p10 (by omega)
      exact ⟨⟨to, _, _, y, by omega, rfl, p10.this, p10.mv.at hy9 (by rintro ⟨⟩; omega), hO10.sets, hch.trans hstep, x10, by have := p10.size; omega, fun s hs => by have := j2 s hs; omega, fun s hs d hd => by have := j3 s hs d hd; omega, by omega, .inr hO10⟩, by simp [intOf]; omega⟩
     ·rw [if_neg e0] at hstep
      refine_lift SP (fun _ _ _ _ _ _ => ?_) (fun _ _ _ _ => ?_) (fun _ _ _ _ _ => ?_)
      all_goals first
       | (exfalso; have hh := ‹(!decide (gL o' l' (dR gone come) = 0)) = false›; simp [e0] at hh; done)
       | skip
      all_goals
       refine aQ (v := .agg aM.toArray) rfl (Runs.build0 (by kernel_rfl)) ?_
       refine aA ?_
       refine_lift dA ?_
       refine aC (v := .agg aM.toArray) rfl rfl rfl hy9 (show aO Tryz.prog 25 2 = true by decide +kernel) rfl (by decide +kernel) ?_
       intro w10 p10
       refine_lift dA ?_
       have x10 : Ext w w10 := hx9.move p10.mv (by rintro k ⟨⟩; omega)
       refine bodyPost_ret (aH (cs := aM) rfl rfl p10.this (by decide +kernel)) rfl ⟨_, rfl, x10, ?_⟩
       rw [hch, hstep]
      ·rw [if_pos (by assumption)]; exact ZEU.bad
      ·rw [if_neg (by assumption)]; exact ZEU.bad
  ·have hk2 : k = rs.length := by omega
   rw [hk2, List.drop_length, xP] at hch
   refine_lift RV fun _ _ _ => ?_
   all_goals first
    | (exfalso; omega)
    | skip
   refine aC (v := .agg #[aI o', v']) rfl rfl rfl hy (show aO Tryz.prog 25 2 = true by decide +kernel) rfl (bE hv1') ?_
   intro w3 p3
   refine_lift dA ?_
   have x3 : Ext w w3 := hx.move p3.mv (by rintro k ⟨⟩; omega)
   refine bodyPost_ret (aH (cs := [aI o', v']) rfl rfl p3.this (show dY Tryz.prog 25 2 = true by decide +kernel)) rfl ⟨_, rfl, x3, ?_⟩
   rw [hch]
   have hpos := List.length_pos_iff.2 hne0
   rcases hown with h | h
   ·omega
   ·exact ⟨v', rfl, (h.put p3 (by omega)).weaken (by have := hx2.size; omega)⟩
end Go.Proofs.X
