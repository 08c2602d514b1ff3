/- Laws and walks that the proof of the statement is made of (part 17). -/
import Derived.Test.YteofaejlmdplhaaGreatP16
set_option linter.unusedSimpArgs false
set_option linter.unusedVariables false
namespace Go.Proofs.X
open Go.RowKit
set_option maxRecDepth 100000
theorem KI (nm : List UInt8) (w : World) : Calls Tryz.prog 65 #[aI nm] w (bG w (.int .i64 (dT nm))) := by
 have h := nL nm w
 rwa [show (if (bF nm).isSome then (0 : Int) else 1) = dT nm by unfold dT; rfl] at h
theorem qW {w : World} {k : Nat} {o : Obj} (h : w.heap[k]? = some o) : k < w.heap.size := by
 rcases Array.getElem?_eq_some_iff.1 h with ⟨h, _⟩
 exact h
set_option maxHeartbeats 16000000 in
theorem FE (oo : List UInt8) (v : Value) (lo : List RSet) (og : List UInt8) (lv : Value) (l : List Rec) (w : World) (hv : SetsAt w v lo) (hl : Sl 4 w lv (aD l)) (bl : ∀ s ∈ lo, s.data.length ≤ 1000000) (dl : ∀ s ∈ lo, ∀ d ∈ s.data, d.length ≤ 1000000) (h1 : (aF lo).length ≤ 5000) (h2 : l.length ≤ 5000) (dn : ∀ q ∈ l, q.data.length ≤ 1000000) :
 Calls Tryz.prog 22 #[.agg #[aI oo, v], aI og, lv] w (jE w (ZEU w.heap.size (bW oo lo og l))) := by
 have hrl := aL l
 go_enter Tryz.func22, Tryz.ntmps22
 refine_lift hY fun _ _ => ?_
 refine eD (vs := [aI oo, v]) rfl rfl ?_
 intro w1 x1 s1 hb1
 refine aA ?_
 refine aG (z := aM) rfl (by decide +kernel) ?_
 intro w2 x2 s2 hb2
 have hx2 := x1.trans x2
 have hsz1 := x1.size
 have hb12 := x2.at hb1
 generalize hbe : w1.heap.size = b at *
 generalize hbo : w.heap.size = bo at *
 refine aA ?_
 refine_lift JA fun _ _ _ _ => ?_
 refine aB (enters_of Tryz.func65 rfl rfl) rfl rfl (KI og w2) ?_; intro w3 x3; refine aA ?_
 have hx3 := hx2.trans x3
 have hb3 := x3.at hb2
 have hb13 := x3.at hb12
 have hs3 := x3.size
 have hl3 := hl.ext hx3
 by_cases c1 : dT og = 0
 ·rw [c1]
  refine_lift gX fun _ _ => ?_
  go_loopw [8] (fun i wr => ∃ k : Nat, k ≤ l.length ∧ i = .int .i64 k ∧ Ext w3 wr ∧ (l.take k).all (fun r => decide (aW r = 0)) = true) (fun i _ => l.length - (intOf i).toNat)
  case atStart => exact ⟨0, Nat.zero_le _, rfl, Ext.refl _, rfl⟩
  case round =>
   obtain ⟨k, hk, rfl, xr, hall⟩ := hrel
   by_cases hlt : k < l.length
   ·have hpe := (hl3.ext xr).elem (cT hlt)
    have dk := dn _ (List.getElem_mem hlt)
    have hbr := xr.at hb3
    refine_lift SQ ?_; intro _ _ _ _ _ _
    all_goals first
     | (exfalso; omega)
     | skip
    refine aB (enters_of Tryz.func66 rfl rfl) rfl rfl (vZ l[k] _ (by omega)) ?_; intro w4 x4; refine aA ?_
    by_cases hc : aW l[k] = 0
    ·rw [hc]
     refine_lift dA ?_
     exact ⟨⟨k + 1, by omega, rfl, xr.trans x4, jB hlt hall (by simp [hc])⟩, by simp [intOf]; omega⟩
    ·have hE : bW oo lo og l = ZE.bad 1 := by
      rw [bW, if_pos (.inr (List.any_eq_true.2 ⟨l[k], List.getElem_mem hlt, by simp [hc]⟩))]
     refine_lift DM (fun _ => ?_) (fun _ _ _ => ?_)
     all_goals first
      | (exfalso; have hh := ‹(!decide (aW l[k] = 0)) = false›; simp [hc] at hh; done)
      | skip
     refine aQ (v := .agg aM.toArray) rfl (Runs.build0 (by kernel_rfl)) ?_; refine aA ?_; refine_lift dA ?_; refine aC (v := .agg aM.toArray) rfl rfl rfl (x4.at hbr) (show aO Tryz.prog 25 2 = true by decide +kernel) rfl (by decide +kernel) ?_; intro wz pz; refine_lift dA ?_; refine bodyPost_ret (aH (cs := aM) rfl rfl pz.this (by decide +kernel)) rfl ⟨_, rfl, Ext.move ((hx3.trans xr).trans x4) pz.mv (by rintro k ⟨⟩; omega), ?_⟩; rw [hE]
     exact ZEU.bad
   ·have hk2 : k = l.length := by omega
    rw [hk2, List.take_length] at hall
    have q1 : ¬ (dT og ≠ 0 ∨ l.any (fun r => !decide (aW r = 0)) = true) := by
     rintro (e | e)
     ·exact e c1
     ·obtain ⟨r, hr, hr2⟩ := List.any_eq_true.1 e
      have := List.all_eq_true.1 hall r hr
      simp_all
    have hbr := xr.at hb3
    have hb1r := xr.at hb13
    have hxr := hx3.trans xr
    have hsr := xr.size
    have hszr := hxr.size
    clear hall hl3 hb3 hb2 hb1 hb12 hb13
    by_cases hl0 : l = []
    ·have hE : bW oo lo og l = ZE.bad 2 := by rw [bW, if_neg q1, if_pos hl0]
     have hn0 : l.length = 0 := by rw [hl0]; rfl
     refine_lift UJ (fun _ _ _ hc _ _ => ?_) (fun _ _ _ _ _ hc => ?_)
     all_goals first
      | (exfalso; omega)
      | skip
     refine aQ (v := .agg aM.toArray) rfl (Runs.build0 (by kernel_rfl)) ?_; refine aA ?_; refine_lift dA ?_; refine aC (v := .agg aM.toArray) rfl rfl rfl (hbr) (show aO Tryz.prog 25 2 = true by decide +kernel) rfl (by decide +kernel) ?_; intro wz pz; refine_lift dA ?_; refine bodyPost_ret (aH (cs := aM) rfl rfl pz.this (by decide +kernel)) rfl ⟨_, rfl, Ext.move (hxr) pz.mv (by rintro k ⟨⟩; omega), ?_⟩; rw [hE]
     exact ZEU.bad
    ·have hln : 1 ≤ l.length := List.length_pos_iff.2 hl0
     have hh0 : l.getD 0 bA = bD l := by
      cases l with
      | nil => exact absurd rfl hl0
      | cons r t => rfl
     have hpt0 : Pts w (bX lv (0 * 4)) _ := hl.elem (oA (i := 0) (by omega))
     rw [hh0, Nat.zero_mul] at hpt0
     have hpt := hpt0.ext hxr
     by_cases hsoa : aU (bD l) = true
     ·have hk6 : (bD l).kind = 6 := by simpa [aU] using hsoa
      refine_lift PQ (fun _ _ _ hc hc _ _ => ?_) (fun _ _ _ hc _ _ => ?_) (fun _ _ _ _ _ hc hc => ?_)
      all_goals first
       | (exfalso; omega)
       | (exfalso; have hh := ‹(!decide ((bD l).kind = 6)) = true›; simp [hk6] at hh; done)
       | skip
      refine aB (enters_of Tryz.func67 rfl rfl) rfl rfl (gM (bD l).name _) ?_; intro w6 x6; refine aA ?_
      refine_lift dA ?_
      refine aB (enters_of Tryz.func67 rfl rfl) rfl rfl (gM og _) ?_; intro w7 x7; refine aA ?_
      have x57 := x6.trans x7
      have hx7 := hxr.trans x57
      have hb7 := x57.at hbr
      have hb17 := x57.at hb1r
      have hs7 := x57.size
      have hpt7 := hpt.ext x57
      clear hpt hbr hb1r
      by_cases hfo : fold (bD l).name = fold og
      ·have q2 : ¬ (aU (bD l) = false ∨ fold (bD l).name ≠ fold og) := by
        rintro (e | e)
        ·rw [hsoa] at e; cases e
        ·exact e hfo
       have hfo' : (!decide (fold (bD l).name = fold og)) = false := by simp [hfo]
       obtain ⟨last, hlast⟩ : ∃ n, n = l.length - 1 := ⟨_, rfl⟩
       refine_lift PP (fun _ _ _ _ _ _ => ?_) (fun _ _ _ _ _ _ => ?_) (fun _ _ _ => ?_)
       all_goals first
        | (exfalso; have hh := ‹(!decide (fold (bD l).name = fold og)) = true›; rw [hfo'] at hh; cases hh; done)
        | skip
       ·have hl1 : l.length = 1 := by
         have : ((aD l).length : Int) - 1 = 0 := by assumption
         omega
        have hE : bW oo lo og l = ZE.bad 5 := by rw [bW, if_neg q1, if_neg hl0, if_neg q2, if_pos hl1]
        refine aQ (v := .agg aM.toArray) rfl (Runs.build0 (by kernel_rfl)) ?_; refine aA ?_; refine_lift dA ?_; refine aC (v := .agg aM.toArray) rfl rfl rfl (hb7) (show aO Tryz.prog 25 2 = true by decide +kernel) rfl (by decide +kernel) ?_; intro wz pz; refine_lift dA ?_; refine bodyPost_ret (aH (cs := aM) rfl rfl pz.this (by decide +kernel)) rfl ⟨_, rfl, Ext.move (hx7) pz.mv (by rintro k ⟨⟩; omega), ?_⟩; rw [hE]
        exact ZEU.bad
       ·have hl1 : ¬ l.length = 1 := by
         have : ¬ ((aD l).length : Int) - 1 = 0 := by assumption
         omega
        rw [show ((aD l).length : Int) - 1 = (last : Int) by omega]
        have hpl : Pts w (bX lv (last * 4)) _ := hl.elem (oA (i := last) (by omega))
        have hpl7 := hpl.ext hx7
        refine bB (by decide +kernel) (by decide +kernel) ?_
        by_cases hl2 : last = 1
        ·have hE : bW oo lo og l = ZE.bad 3 := by rw [bW, if_neg q1, if_neg hl0, if_neg q2, if_neg hl1, if_pos (.inl (by omega))]
         refine_lift vE ?_
         rw [decide_eq_true (by omega : (last : Int) = 1)]
         refine_lift vE ?_
         intro w8 x8
         have hb8 := x8.at hb7
         have hs8 := x8.size
         refine_lift gX fun _ _ => ?_
         refine aQ (v := .agg aM.toArray) rfl (Runs.build0 (by kernel_rfl)) ?_; refine aA ?_; refine_lift dA ?_; refine aC (v := .agg aM.toArray) rfl rfl rfl (hb8) (show aO Tryz.prog 25 2 = true by decide +kernel) rfl (by decide +kernel) ?_; intro wz pz; refine_lift dA ?_; refine bodyPost_ret (aH (cs := aM) rfl rfl pz.this (by decide +kernel)) rfl ⟨_, rfl, Ext.move (hx7.trans x8) pz.mv (by rintro k ⟨⟩; omega), ?_⟩; rw [hE]
         exact ZEU.bad
        ·refine_lift vE ?_
         rw [decide_eq_false (by omega : ¬ (last : Int) = 1)]
         refine_lift vE ?_
         refine fU (fun w' _ => by exact Runs.neqRec (r := l.getD last bA) (q := bD l) rfl rfl) ?_
         refine aA ?_
         refine_lift vE ?_
         intro w8 x8
         have hx8 := hx7.trans x8
         have hb8 := x8.at hb7
         have hb18 := x8.at hb17
         have hs8 := x8.size
         have hpt8 := hpt7.ext x8
         clear hpl hpl7 hpt7 hb7 hb17
         by_cases heq : l.getD last bA = bD l
         ·have q3 : ¬ (l.length = 2 ∨ l.getD (l.length - 1) bA ≠ bD l) := by
           rw [← hlast]
           rintro (e | e)
           ·omega
           ·exact e heq
          have heq' : (!decide (l.getD last bA = bD l)) = false := by rw [decide_eq_true heq]; rfl
          rw [heq']
          have hpz8 := aE (cs := [aI oo, v]) hb18
          refine_lift gX fun _ _ => ?_
          have hv1 : v.oneCell' = true := by obtain ⟨_, hq, _⟩ := hv.sl; exact hq.one
          refine aG (z := aM) rfl (by decide +kernel) ?_
          intro w9 x9 s9 h9
          refine aA ?_
          refine aC (v := .agg #[aI oo, v]) rfl rfl rfl h9 (show aO Tryz.prog 25 2 = true by decide +kernel) rfl (bE hv1) ?_
          intro w10 p10
          have x810 : Ext w8 w10 := x9.move p10.mv (by rintro k ⟨⟩; exact Nat.le_refl _)
          have hk10 : w10.heap[w8.heap.size]? = some (.cells [aI oo, v].toArray 25 (0, 0)) := p10.this
          have s10 := p10.size
          have hx10 := hx8.trans x810
          have hb10 := x810.at hb8
          have hb110 := x810.at hb18
          have hpt10 := hpt8.ext x810
          have hw8 := hx8.size
          have hbz : b < w8.heap.size := by have := hx7.size; omega
          clear p10 h9 x9 hpz8 hpt8 hb18 hb8
          generalize hzk : w8.heap.size = zk at *
          have hpz10 := aE (cs := [aI oo, v]) hb110
          have hpo10 : Pts w10 (bL (.pointer (some ⟨bo, 0, none⟩)) 1) [v] := hpz10.part 1
          have hpt1 : Pts w (bX lv (1 * 4)) _ := hl.elem (oA (i := 1) (by omega))
          have hpt110 := hpt1.ext hx10
          have hl10 := hl.ext hx10
          have hcut := (parts hl10 (n := last) (by omega)).1
          have hdl : l.take last = l.dropLast := by rw [List.dropLast_eq_take, hlast]
          rw [hdl] at hcut
          have hok := IM (oo := oo) (lo := lo) (og := og) (l := l)
          have hI : bW oo lo og l = (let q := eF oo lo og l
           if q.e ≠ 0 then ZE.bad q.e else if (aP q.o q.l).serial ≠ dW (bD l) then ZE.bad 2 else if lo ≠ [] ∧ dB (aP q.o q.l).serial (aP oo lo).serial = false then ZE.bad 7 else q) := by
           rw [bW, if_neg q1, if_neg hl0, if_neg q2, if_neg hl1, if_neg q3]
          by_cases d1 : (l.getD 1 bA).kind = 6
          ·have ds : aU (l.getD 1 bA) = true := decide_eq_true d1
           obtain ⟨cv, hcv, hcl⟩ := (hv.ext hx10).sl
           by_cases d2 : lo = []
           ·have hT : eF oo lo og l = ZE.bad 5 := by rw [eF, if_neg (fun e => by rw [ds] at e; cases e), if_pos d2]
            rw [hT] at hI
            have hE : bW oo lo og l = ZE.bad 5 := by rw [hI]; rfl
            have hc0 : cv.length = 0 := by rw [hcl, d2]; rfl
            refine_lift UI (fun _ _ _ _ _ _ _ => ?_) (fun _ _ _ => ?_)
            all_goals first
             | (exfalso; have hh := ‹(!decide ((l.getD 1 bA).kind = 6)) = true›; rw [decide_eq_true d1] at hh; cases hh; done)
             | (exfalso; omega)
             | skip
            refine aQ (v := .agg aM.toArray) rfl (Runs.build0 (by kernel_rfl)) ?_; refine aA ?_; refine_lift dA ?_; refine aC (v := .agg aM.toArray) rfl rfl rfl (hb10) (show aO Tryz.prog 25 2 = true by decide +kernel) rfl (by decide +kernel) ?_; intro wz pz; refine_lift dA ?_; refine bodyPost_ret (aH (cs := aM) rfl rfl pz.this (by decide +kernel)) rfl ⟨_, rfl, Ext.move (hx10) pz.mv (by rintro k ⟨⟩; omega), ?_⟩; rw [hE]
            exact ZEU.bad
           ·have hT : eF oo lo og l = kW oo lo (l.dropLast.drop 1) := by rw [eF, if_neg (fun e => by rw [ds] at e; cases e), if_neg d2]
            have hc0 : 0 < cv.length := by rw [hcl]; exact List.length_pos_iff.2 d2
            have hcut1 : Sl 4 w10 (cK lv 4 1 last) (aD (l.dropLast.drop 1)) := by
             have h := hl10.cut (m := 1) (n := last) (by omega) (by omega)
             rwa [show ((aD l).take last).drop 1 = aD (l.dropLast.drop 1) by rw [← hdl]; simp [aD, List.map_take, List.map_drop]] at h
            have hne1 : l.dropLast.drop 1 ≠ [] := by
             intro e
             have := congrArg List.length e
             rw [List.length_drop, List.length_dropLast] at this
             simp only [List.length_nil] at this
             omega
            have hdl5 : (l.dropLast.drop 1).length ≤ 5000 := by rw [List.length_drop, List.length_dropLast]; omega
            have hld := fun w' (x' : Ext w10 w') => HD oo v lo (cK lv 4 1 last) (l.dropLast.drop 1) w' ((hv.ext hx10).ext x') (hcut1.ext x') bl dl h1 hdl5 (fun r hr => dn r ((List.dropLast_sublist l).subset (List.mem_of_mem_drop hr))) hne1
            rw [← hT] at hld
            obtain ⟨q, hq⟩ : ∃ q, q = eF oo lo og l := ⟨_, rfl⟩
            rw [← hq] at hI hok hld
            clear hcut1 hcut
            refine_lift UG (fun _ _ _ _ => ?_) (fun _ _ _ => ?_)
            all_goals first
             | (exfalso; have hh := ‹(!decide ((l.getD 1 bA).kind = 6)) = true›; rw [decide_eq_true d1] at hh; cases hh; done)
             | (exfalso; omega)
             | skip
            refine cG 8 (Ext w10) (by decide +kernel) ?_
            intro wq xq _
            refine ⟨xq, ?_⟩
            refine PI 0 ?_
            refine PJ 1 ?_; refine PJ 2 ?_
            refine PI 3 ?_
            refine bV (i := 4) (by decide +kernel) rfl rfl ?_
            refine aK (enters_of Tryz.func69 rfl rfl) rfl rfl (hld _ xq) ?_
            rintro _ w11 xr ⟨y, rfl, hO⟩
            have x11 := xq.trans xr
            have hO := hO.weaken xq.size
            have hy1 : y.oneCell' = true := by obtain ⟨_, hq, _⟩ := hO.sets.sl; exact hq.one
            refine aA ?_
            refine aJ ⟨dF x11, ?_⟩
            clear xq xr
            refine PJ 5 ?_; refine PJ 6 ?_; refine PJ 7 ?_
            refine bV (i := 8) (by decide +kernel) rfl rfl ?_
            refine aC (v := .agg #[aI q.o, y]) rfl rfl rfl (x11.at hk10) (show aO Tryz.prog 25 2 = true by decide +kernel) rfl (bE hy1) ?_
            intro w12 p12
            refine aJ ⟨cJ rfl, ?_⟩
            refine PJ 9 ?_
            refine cZ (by decide +kernel) ?_
            have hxc : Ext w w12 := (hx10.trans x11).move p12.mv (by rintro k ⟨⟩; omega)
            have hbc := p12.at (x11.at hb10) (by omega)
            have hboc := p12.at (x11.at hb110) (by omega)
            have hkc : w12.heap[zk]? = some (.cells [aI q.o, y].toArray 25 (0, 0)) := p12.this
            have hOc := (hO.put p12 (by omega)).weaken (show w.heap.size ≤ _ by omega)
            clear hO p12 x11 hb10 hb110 hk10 hpt10 hcv hld
            by_cases he : q.e = 0
            ·rw [if_neg (by simp [he])] at hI
             have hpz12 := aE (cs := [aI q.o, y]) hkc
             have hz := hok he (by omega)
             obtain ⟨zl, zb, zd, zr⟩ := nX hz
             refine_lift KX (fun _ _ _ => ?_) (fun _ _ _ _ _ => ?_)
             all_goals first
              | (exfalso; have hh := ‹(!decide (q.e = 0)) = true›; rw [he] at hh; cases hh; done)
              | skip
             refine aB (enters_of Tryz.func47 rfl rfl) rfl rfl (sX q.o y q.l _ hOc.sets (fun s hs => by have := zb s hs; omega) (fun s hs d hd => by have := zd s hs d hd; omega)) ?_; intro w13 x13; refine aA ?_
             refine_lift dA ?_
             refine aG (z := aV) rfl (by decide +kernel) ?_
             intro w14 x14 s14 h14
             refine aA ?_
             refine aC (v := .agg (aP q.o q.l).cells.toArray) rfl rfl rfl h14 (show aO Tryz.prog 67 7 = true by decide +kernel) rfl (dI _) ?_
             intro w15 p15
             have x1315 : Ext w13 w15 := x14.move p15.mv (by rintro k ⟨⟩; exact Nat.le_refl _)
             have hs15 : w15.heap[w13.heap.size]? = some (.cells (aP q.o q.l).cells.toArray 67 (0, 0)) := p15.this
             have x1215 := x13.trans x1315
             have hxd := hxc.trans x1215
             have hbd := x1215.at hbc
             have hbod := x1215.at hboc
             have hkd := x1215.at hkc
             have hOd := hOc.ext x1215
             generalize w13.heap.size = sk at *
             clear p15 h14 x14 hbc hboc hkc hOc hpz12 x1315
             have hps := aE (cs := (aP q.o q.l).cells) hs15
             have qa : Pts w15 (bL (.pointer (some ⟨sk, 0, none⟩)) 2) [.int .i64 (aP q.o q.l).serial, .int .i64 (aP q.o q.l).refresh, .int .i64 (aP q.o q.l).retry, .int .i64 (aP q.o q.l).expire, .int .i64 (aP q.o q.l).minimum] := hps.part 2
             have hgd := dn _ (kH hl0)
             have hptd := hpt0.ext hxd
             have hld := hl.ext hxd
             refine_lift JA fun _ _ _ _ => ?_
             refine bB (by decide +kernel) (by decide +kernel) ?_
             refine_lift vE ?_
             refine cA (enters_of Tryz.func70 rfl rfl) rfl rfl (fun w' _ => gS (bD l) w' (by omega)) ?_
             refine aA ?_
             refine_lift vE ?_
             intro w18 x18
             have hxe := hxd.trans x18
             have hbe := x18.at hbd
             have hboe := x18.at hbod
             have hke := x18.at hkd
             have hOe := hOd.ext x18
             have hse := x18.at hs15
             clear hbd hbod hkd hOd qa hps hs15 hptd x18 x13 x1215 hxd hxc
             by_cases hser : (aP q.o q.l).serial = dW (bD l)
             ·have hser' : (!decide ((aP q.o q.l).serial = dW (bD l))) = false := by rw [decide_eq_true hser]; rfl
              rw [if_neg (by simp [hser])] at hI
              rw [hser']
              have hpo18 := (aE (cs := [aI oo, v]) hboe)
              have hpo18' : Pts w18 (bL (.pointer (some ⟨bo, 0, none⟩)) 1) [v] := hpo18.part 1
              obtain ⟨cv, hcv, hcl⟩ := (hv.ext hxe).sl
              by_cases hlo : lo = []
              ·exact absurd hlo d2
              ·have hc0' : 0 < cv.length := by rw [hcl]; exact List.length_pos_iff.2 hlo
               refine_lift SN fun _ _ _ _ _ => ?_
               have hsze := hxe.size
               refine aB (enters_of Tryz.func47 rfl rfl) rfl rfl (sX oo v lo _ (hv.ext hxe) bl (fun s hs d hd => by have := dl s hs d hd; omega)) ?_; intro w19 x19; refine aA ?_
               refine_lift dA ?_
               refine aG (z := aV) rfl (by decide +kernel) ?_
               intro w20 x20 s20 h20
               refine aA ?_
               refine aC (v := .agg (aP oo lo).cells.toArray) rfl rfl rfl h20 (show aO Tryz.prog 67 7 = true by decide +kernel) rfl (dI _) ?_
               intro w21 p21
               have x1921 : Ext w19 w21 := x20.move p21.mv (by rintro k ⟨⟩; exact Nat.le_refl _)
               have hs21 : w21.heap[w19.heap.size]? = some (.cells (aP oo lo).cells.toArray 67 (0, 0)) := p21.this
               have x1821 := x19.trans x1921
               have hxf := hxe.trans x1821
               have hbf := x1821.at hbe
               have hkf := x1821.at hke
               have hOf := hOe.ext x1821
               have hsf := x1821.at hse
               generalize w19.heap.size = tk' at *
               clear p21 h20 x20 hbe hke hOe hse x1921 hboe hpo18 hpo18' hcv x19
               have qa := aE (cs := (aP q.o q.l).cells) hsf
               have qb := aE (cs := (aP oo lo).cells) hs21
               have qa' : Pts w21 (bL (.pointer (some ⟨sk, 0, none⟩)) 2) [.int .i64 (aP q.o q.l).serial, .int .i64 (aP q.o q.l).refresh, .int .i64 (aP q.o q.l).retry, .int .i64 (aP q.o q.l).expire, .int .i64 (aP q.o q.l).minimum] := qa.part 2
               have qb' : Pts w21 (bL (.pointer (some ⟨tk', 0, none⟩)) 2) [.int .i64 (aP oo lo).serial, .int .i64 (aP oo lo).refresh, .int .i64 (aP oo lo).retry, .int .i64 (aP oo lo).expire, .int .i64 (aP oo lo).minimum] := qb.part 2
               have hszf := hxf.size
               clear x1821 hxe
               refine_lift gX fun _ _ => ?_
               refine aB (enters_of Tryz.func48 rfl rfl) rfl rfl (FC _ _ _) ?_; intro w22 x22; refine aA ?_
               have hpzf := aE (cs := [aI q.o, y]) (x22.at hkf)
               cases hlt : dB (aP q.o q.l).serial (aP oo lo).serial with
               | false =>
                rw [if_pos ⟨hlo, hlt⟩] at hI
                refine_lift gX fun _ _ => ?_
                refine aQ (v := .agg aM.toArray) rfl (Runs.build0 (by kernel_rfl)) ?_; refine aA ?_; refine_lift dA ?_; refine aC (v := .agg aM.toArray) rfl rfl rfl (x22.at hbf) (show aO Tryz.prog 25 2 = true by decide +kernel) rfl (by decide +kernel) ?_; intro wz pz; refine_lift dA ?_; refine bodyPost_ret (aH (cs := aM) rfl rfl pz.this (by decide +kernel)) rfl ⟨_, rfl, Ext.move (hxf.trans x22) pz.mv (by rintro k ⟨⟩; omega), ?_⟩; rw [hI]
                exact ZEU.bad
               | true =>
                rw [if_neg (by rintro ⟨_, e⟩; rw [hlt] at e; cases e)] at hI
                refine_lift gX fun _ _ => ?_
                refine aK (enters_of Tryz.func20 rfl rfl) rfl rfl (uN q.o y q.l _ (hOf.ext x22).sets (by omega) (fun s hs => by have := zb s hs; omega)) ?_
                rintro _ wC xC ⟨yc, rfl, hyc⟩
                have hyc1 : yc.oneCell' = true := by obtain ⟨_, hq, _⟩ := hyc.sets.sl; exact hq.one
                refine aA ?_
                refine_lift dA ?_
                refine aC (v := .agg #[aI q.o, yc]) rfl rfl rfl (xC.at (x22.at hbf)) (show aO Tryz.prog 25 2 = true by decide +kernel) rfl (bE hyc1) ?_
                intro wz pz
                refine_lift dA ?_
                have xz : Ext w wz := ((hxf.trans x22).trans xC).move pz.mv (by rintro k ⟨⟩; omega)
                have hOz := (hyc.toO (Nat.le_refl _)).put pz (qW (x22.at hbf))
                refine bodyPost_ret (aH (cs := [aI q.o, yc]) rfl rfl pz.this (show dY Tryz.prog 25 2 = true by decide +kernel)) rfl ⟨_, rfl, xz, ?_⟩
                rw [hI]
                exact ⟨yc, by rw [he]; rfl, hOz.weaken (by have := (hxf.trans x22).size; omega)⟩
             ·have hser' : (!decide ((aP q.o q.l).serial = dW (bD l))) = true := by rw [decide_eq_false hser]; rfl
              rw [if_pos hser] at hI
              rw [hser']
              refine_lift gX fun _ _ => ?_
              refine aQ (v := .agg aM.toArray) rfl (Runs.build0 (by kernel_rfl)) ?_; refine aA ?_; refine_lift dA ?_; refine aC (v := .agg aM.toArray) rfl rfl rfl (hbe) (show aO Tryz.prog 25 2 = true by decide +kernel) rfl (by decide +kernel) ?_; intro wz pz; refine_lift dA ?_; refine bodyPost_ret (aH (cs := aM) rfl rfl pz.this (by decide +kernel)) rfl ⟨_, rfl, Ext.move (hxe) pz.mv (by rintro k ⟨⟩; omega), ?_⟩; rw [hI]
              exact ZEU.bad
            ·rw [if_pos he] at hI
             refine_lift KX (fun _ _ _ => ?_) (fun _ _ _ _ _ => ?_)
             all_goals first
              | (exfalso; have hh := ‹(!decide (q.e = 0)) = false›; rw [decide_eq_false he] at hh; cases hh; done)
              | skip
             refine aQ (v := .agg aM.toArray) rfl (Runs.build0 (by kernel_rfl)) ?_; refine aA ?_; refine_lift dA ?_; refine aC (v := .agg aM.toArray) rfl rfl rfl (hbc) (show aO Tryz.prog 25 2 = true by decide +kernel) rfl (by decide +kernel) ?_; intro wz pz; refine_lift dA ?_; refine bodyPost_ret (aH (cs := aM) rfl rfl pz.this (by decide +kernel)) rfl ⟨_, rfl, Ext.move (hxc) pz.mv (by rintro k ⟨⟩; omega), ?_⟩; rw [hI]
             exact ZEU.bad
          ·have hT : eF oo lo og l = ⟨dE og l.dropLast, cH og l.dropLast, bT og l.dropLast⟩ := by
            rw [eF, if_pos (show aU (l.getD 1 bA) = false from decide_eq_false d1)]
           rw [hT] at hI hok
           obtain ⟨q, hq⟩ : ∃ q, q = eF oo lo og l := ⟨_, rfl⟩
           rw [← hq] at hT
           rw [← hT] at hI hok
           have hld := fun w' (x' : Ext w10 w') => HY og (cK lv 4 0 last) l.dropLast w' (hcut.ext x') (by rw [List.length_dropLast]; omega) (fun r hr => by have := dn r ((List.dropLast_sublist l).subset hr); omega)
           unfold LoadU at hld
           rw [show dE og l.dropLast = q.e by rw [hT], show cH og l.dropLast = q.o by rw [hT], show bT og l.dropLast = q.l by rw [hT]] at hld
           refine_lift UH (fun _ _ _ _ _ => ?_) (fun _ _ _ => ?_)
           all_goals first
            | (exfalso; have hh := ‹(!decide ((l.getD 1 bA).kind = 6)) = false›; rw [decide_eq_false d1] at hh; cases hh; done)
            | skip
           refine aK (enters_of Tryz.func68 rfl rfl) rfl rfl (hld _ (Ext.refl _)) ?_
           rintro _ w11 x11 ⟨y, rfl, hO⟩
           refine aA ?_
           refine_lift dA ?_
           have hy1 : y.oneCell' = true := by obtain ⟨_, hq, _⟩ := hO.sets.sl; exact hq.one
           refine aC (v := .agg #[aI q.o, y]) rfl rfl rfl (x11.at hk10) (show aO Tryz.prog 25 2 = true by decide +kernel) rfl (bE hy1) ?_
           intro w12 p12
           have hxc : Ext w w12 := (hx10.trans x11).move p12.mv (by rintro k ⟨⟩; omega)
           have hbc := p12.at (x11.at hb10) (by omega)
           have hboc := p12.at (x11.at hb110) (by omega)
           have hkc : w12.heap[zk]? = some (.cells [aI q.o, y].toArray 25 (0, 0)) := p12.this
           have hOc := (hO.put p12 (by omega)).weaken (show w.heap.size ≤ _ by omega)
           clear hO p12 x11 hb10 hb110 hk10 hpt10 hcut
           by_cases he : q.e = 0
           ·rw [if_neg (by simp [he])] at hI
            have hpz12 := aE (cs := [aI q.o, y]) hkc
            have hz := hok he (by omega)
            obtain ⟨zl, zb, zd, zr⟩ := nX hz
            refine_lift KX (fun _ _ _ => ?_) (fun _ _ _ _ _ => ?_)
            all_goals first
             | (exfalso; have hh := ‹(!decide (q.e = 0)) = true›; rw [he] at hh; cases hh; done)
             | skip
            refine aB (enters_of Tryz.func47 rfl rfl) rfl rfl (sX q.o y q.l _ hOc.sets (fun s hs => by have := zb s hs; omega) (fun s hs d hd => by have := zd s hs d hd; omega)) ?_; intro w13 x13; refine aA ?_
            refine_lift dA ?_
            refine aG (z := aV) rfl (by decide +kernel) ?_
            intro w14 x14 s14 h14
            refine aA ?_
            refine aC (v := .agg (aP q.o q.l).cells.toArray) rfl rfl rfl h14 (show aO Tryz.prog 67 7 = true by decide +kernel) rfl (dI _) ?_
            intro w15 p15
            have x1315 : Ext w13 w15 := x14.move p15.mv (by rintro k ⟨⟩; exact Nat.le_refl _)
            have hs15 : w15.heap[w13.heap.size]? = some (.cells (aP q.o q.l).cells.toArray 67 (0, 0)) := p15.this
            have x1215 := x13.trans x1315
            have hxd := hxc.trans x1215
            have hbd := x1215.at hbc
            have hbod := x1215.at hboc
            have hkd := x1215.at hkc
            have hOd := hOc.ext x1215
            generalize w13.heap.size = sk at *
            clear p15 h14 x14 hbc hboc hkc hOc hpz12 x1315
            have hps := aE (cs := (aP q.o q.l).cells) hs15
            have qa : Pts w15 (bL (.pointer (some ⟨sk, 0, none⟩)) 2) [.int .i64 (aP q.o q.l).serial, .int .i64 (aP q.o q.l).refresh, .int .i64 (aP q.o q.l).retry, .int .i64 (aP q.o q.l).expire, .int .i64 (aP q.o q.l).minimum] := hps.part 2
            have hgd := dn _ (kH hl0)
            have hptd := hpt0.ext hxd
            have hld := hl.ext hxd
            refine_lift JA fun _ _ _ _ => ?_
            refine bB (by decide +kernel) (by decide +kernel) ?_
            refine_lift vE ?_
            refine cA (enters_of Tryz.func70 rfl rfl) rfl rfl (fun w' _ => gS (bD l) w' (by omega)) ?_
            refine aA ?_
            refine_lift vE ?_
            intro w18 x18
            have hxe := hxd.trans x18
            have hbe := x18.at hbd
            have hboe := x18.at hbod
            have hke := x18.at hkd
            have hOe := hOd.ext x18
            have hse := x18.at hs15
            clear hbd hbod hkd hOd qa hps hs15 hptd x18 x13 x1215 hxd hxc
            by_cases hser : (aP q.o q.l).serial = dW (bD l)
            ·have hser' : (!decide ((aP q.o q.l).serial = dW (bD l))) = false := by rw [decide_eq_true hser]; rfl
             rw [if_neg (by simp [hser])] at hI
             rw [hser']
             have hpo18 := (aE (cs := [aI oo, v]) hboe)
             have hpo18' : Pts w18 (bL (.pointer (some ⟨bo, 0, none⟩)) 1) [v] := hpo18.part 1
             obtain ⟨cv, hcv, hcl⟩ := (hv.ext hxe).sl
             by_cases hlo : lo = []
             ·have hc0' : cv.length = 0 := by rw [hcl, hlo]; rfl
              rw [if_neg (by rintro ⟨e, _⟩; exact e hlo)] at hI
              have hpzf := aE (cs := [aI q.o, y]) hke
              have hsze := hxe.size
              refine_lift RV fun _ _ _ => ?_
              refine aK (enters_of Tryz.func20 rfl rfl) rfl rfl (uN q.o y q.l _ hOe.sets (by omega) (fun s hs => by have := zb s hs; omega)) ?_
              rintro _ wC xC ⟨yc, rfl, hyc⟩
              have hyc1 : yc.oneCell' = true := by obtain ⟨_, hq, _⟩ := hyc.sets.sl; exact hq.one
              refine aA ?_
              refine_lift dA ?_
              refine aC (v := .agg #[aI q.o, yc]) rfl rfl rfl (xC.at hbe) (show aO Tryz.prog 25 2 = true by decide +kernel) rfl (bE hyc1) ?_
              intro wz pz
              refine_lift dA ?_
              have xz : Ext w wz := (hxe.trans xC).move pz.mv (by rintro k ⟨⟩; omega)
              have hOz := (hyc.toO (Nat.le_refl _)).put pz (qW hbe)
              refine bodyPost_ret (aH (cs := [aI q.o, yc]) rfl rfl pz.this (show dY Tryz.prog 25 2 = true by decide +kernel)) rfl ⟨_, rfl, xz, ?_⟩
              rw [hI]
              exact ⟨yc, by rw [he]; rfl, hOz.weaken (by have := hxe.size; omega)⟩
             ·have hc0' : 0 < cv.length := by rw [hcl]; exact List.length_pos_iff.2 hlo
              refine_lift SN fun _ _ _ _ _ => ?_
              have hsze := hxe.size
              refine aB (enters_of Tryz.func47 rfl rfl) rfl rfl (sX oo v lo _ (hv.ext hxe) bl (fun s hs d hd => by have := dl s hs d hd; omega)) ?_; intro w19 x19; refine aA ?_
              refine_lift dA ?_
              refine aG (z := aV) rfl (by decide +kernel) ?_
              intro w20 x20 s20 h20
              refine aA ?_
              refine aC (v := .agg (aP oo lo).cells.toArray) rfl rfl rfl h20 (show aO Tryz.prog 67 7 = true by decide +kernel) rfl (dI _) ?_
              intro w21 p21
              have x1921 : Ext w19 w21 := x20.move p21.mv (by rintro k ⟨⟩; exact Nat.le_refl _)
              have hs21 : w21.heap[w19.heap.size]? = some (.cells (aP oo lo).cells.toArray 67 (0, 0)) := p21.this
              have x1821 := x19.trans x1921
              have hxf := hxe.trans x1821
              have hbf := x1821.at hbe
              have hkf := x1821.at hke
              have hOf := hOe.ext x1821
              have hsf := x1821.at hse
              generalize w19.heap.size = tk' at *
              clear p21 h20 x20 hbe hke hOe hse x1921 hboe hpo18 hpo18' hcv x19
              have qa := aE (cs := (aP q.o q.l).cells) hsf
              have qb := aE (cs := (aP oo lo).cells) hs21
              have qa' : Pts w21 (bL (.pointer (some ⟨sk, 0, none⟩)) 2) [.int .i64 (aP q.o q.l).serial, .int .i64 (aP q.o q.l).refresh, .int .i64 (aP q.o q.l).retry, .int .i64 (aP q.o q.l).expire, .int .i64 (aP q.o q.l).minimum] := qa.part 2
              have qb' : Pts w21 (bL (.pointer (some ⟨tk', 0, none⟩)) 2) [.int .i64 (aP oo lo).serial, .int .i64 (aP oo lo).refresh, .int .i64 (aP oo lo).retry, .int .i64 (aP oo lo).expire, .int .i64 (aP oo lo).minimum] := qb.part 2
              have hszf := hxf.size
              clear x1821 hxe
              refine_lift gX fun _ _ => ?_
              refine aB (enters_of Tryz.func48 rfl rfl) rfl rfl (FC _ _ _) ?_; intro w22 x22; refine aA ?_
              have hpzf := aE (cs := [aI q.o, y]) (x22.at hkf)
              cases hlt : dB (aP q.o q.l).serial (aP oo lo).serial with
              | false =>
               rw [if_pos ⟨hlo, hlt⟩] at hI
               refine_lift gX fun _ _ => ?_
               refine aQ (v := .agg aM.toArray) rfl (Runs.build0 (by kernel_rfl)) ?_; refine aA ?_; refine_lift dA ?_; refine aC (v := .agg aM.toArray) rfl rfl rfl (x22.at hbf) (show aO Tryz.prog 25 2 = true by decide +kernel) rfl (by decide +kernel) ?_; intro wz pz; refine_lift dA ?_; refine bodyPost_ret (aH (cs := aM) rfl rfl pz.this (by decide +kernel)) rfl ⟨_, rfl, Ext.move (hxf.trans x22) pz.mv (by rintro k ⟨⟩; omega), ?_⟩; rw [hI]
               exact ZEU.bad
              | true =>
               rw [if_neg (by rintro ⟨_, e⟩; rw [hlt] at e; cases e)] at hI
               refine_lift gX fun _ _ => ?_
               refine aK (enters_of Tryz.func20 rfl rfl) rfl rfl (uN q.o y q.l _ (hOf.ext x22).sets (by omega) (fun s hs => by have := zb s hs; omega)) ?_
               rintro _ wC xC ⟨yc, rfl, hyc⟩
               have hyc1 : yc.oneCell' = true := by obtain ⟨_, hq, _⟩ := hyc.sets.sl; exact hq.one
               refine aA ?_
               refine_lift dA ?_
               refine aC (v := .agg #[aI q.o, yc]) rfl rfl rfl (xC.at (x22.at hbf)) (show aO Tryz.prog 25 2 = true by decide +kernel) rfl (bE hyc1) ?_
               intro wz pz
               refine_lift dA ?_
               have xz : Ext w wz := ((hxf.trans x22).trans xC).move pz.mv (by rintro k ⟨⟩; omega)
               have hOz := (hyc.toO (Nat.le_refl _)).put pz (qW (x22.at hbf))
               refine bodyPost_ret (aH (cs := [aI q.o, yc]) rfl rfl pz.this (show dY Tryz.prog 25 2 = true by decide +kernel)) rfl ⟨_, rfl, xz, ?_⟩
               rw [hI]
               exact ⟨yc, by rw [he]; rfl, hOz.weaken (by have := (hxf.trans x22).size; omega)⟩
            ·have hser' : (!decide ((aP q.o q.l).serial = dW (bD l))) = true := by rw [decide_eq_false hser]; rfl
             rw [if_pos hser] at hI
             rw [hser']
             refine_lift gX fun _ _ => ?_
             refine aQ (v := .agg aM.toArray) rfl (Runs.build0 (by kernel_rfl)) ?_; refine aA ?_; refine_lift dA ?_; refine aC (v := .agg aM.toArray) rfl rfl rfl (hbe) (show aO Tryz.prog 25 2 = true by decide +kernel) rfl (by decide +kernel) ?_; intro wz pz; refine_lift dA ?_; refine bodyPost_ret (aH (cs := aM) rfl rfl pz.this (by decide +kernel)) rfl ⟨_, rfl, Ext.move (hxe) pz.mv (by rintro k ⟨⟩; omega), ?_⟩; rw [hI]
             exact ZEU.bad
           ·rw [if_pos he] at hI
            refine_lift KX (fun _ _ _ => ?_) (fun _ _ _ _ _ => ?_)
            all_goals first
             | (exfalso; have hh := ‹(!decide (q.e = 0)) = false›; rw [decide_eq_false he] at hh; cases hh; done)
             | skip
            refine aQ (v := .agg aM.toArray) rfl (Runs.build0 (by kernel_rfl)) ?_; refine aA ?_; refine_lift dA ?_; refine aC (v := .agg aM.toArray) rfl rfl rfl (hbc) (show aO Tryz.prog 25 2 = true by decide +kernel) rfl (by decide +kernel) ?_; intro wz pz; refine_lift dA ?_; refine bodyPost_ret (aH (cs := aM) rfl rfl pz.this (by decide +kernel)) rfl ⟨_, rfl, Ext.move (hxc) pz.mv (by rintro k ⟨⟩; omega), ?_⟩; rw [hI]
            exact ZEU.bad
         ·have hE : bW oo lo og l = ZE.bad 3 := by rw [bW, if_neg q1, if_neg hl0, if_neg q2, if_neg hl1, if_pos (.inr (by rw [← hlast]; exact heq))]
          have heq' : (!decide (l.getD last bA = bD l)) = true := by rw [decide_eq_false heq]; rfl
          rw [heq']
          refine_lift gX fun _ _ => ?_
          refine aQ (v := .agg aM.toArray) rfl (Runs.build0 (by kernel_rfl)) ?_; refine aA ?_; refine_lift dA ?_; refine aC (v := .agg aM.toArray) rfl rfl rfl (hb8) (show aO Tryz.prog 25 2 = true by decide +kernel) rfl (by decide +kernel) ?_; intro wz pz; refine_lift dA ?_; refine bodyPost_ret (aH (cs := aM) rfl rfl pz.this (by decide +kernel)) rfl ⟨_, rfl, Ext.move (hx8) pz.mv (by rintro k ⟨⟩; omega), ?_⟩; rw [hE]
          exact ZEU.bad
      ·have hE : bW oo lo og l = ZE.bad 2 := by rw [bW, if_neg q1, if_neg hl0, if_pos (.inr hfo)]
       have hfo' : (!decide (fold (bD l).name = fold og)) = true := by simp [hfo]
       refine_lift PP (fun _ _ _ _ _ _ => ?_) (fun _ _ _ _ _ _ => ?_) (fun _ _ _ => ?_)
       all_goals first
        | (exfalso; have hh := ‹(!decide (fold (bD l).name = fold og)) = false›; rw [hfo'] at hh; cases hh; done)
        | skip
       refine aQ (v := .agg aM.toArray) rfl (Runs.build0 (by kernel_rfl)) ?_; refine aA ?_; refine_lift dA ?_; refine aC (v := .agg aM.toArray) rfl rfl rfl (hb7) (show aO Tryz.prog 25 2 = true by decide +kernel) rfl (by decide +kernel) ?_; intro wz pz; refine_lift dA ?_; refine bodyPost_ret (aH (cs := aM) rfl rfl pz.this (by decide +kernel)) rfl ⟨_, rfl, Ext.move (hx7) pz.mv (by rintro k ⟨⟩; omega), ?_⟩; rw [hE]
       exact ZEU.bad
     ·have hE : bW oo lo og l = ZE.bad 2 := by rw [bW, if_neg q1, if_neg hl0, if_pos (.inl (by simpa using hsoa))]
      have hk6 : ¬ (bD l).kind = 6 := by simpa [aU] using hsoa
      refine_lift PQ (fun _ _ _ hc hc _ _ => ?_) (fun _ _ _ hc _ _ => ?_) (fun _ _ _ _ _ hc hc => ?_)
      all_goals first
       | (exfalso; omega)
       | (exfalso; have hh := ‹(!decide ((bD l).kind = 6)) = false›; simp [hk6] at hh; done)
       | skip
      refine aQ (v := .agg aM.toArray) rfl (Runs.build0 (by kernel_rfl)) ?_; refine aA ?_; refine_lift dA ?_; refine aC (v := .agg aM.toArray) rfl rfl rfl (hbr) (show aO Tryz.prog 25 2 = true by decide +kernel) rfl (by decide +kernel) ?_; intro wz pz; refine_lift dA ?_; refine bodyPost_ret (aH (cs := aM) rfl rfl pz.this (by decide +kernel)) rfl ⟨_, rfl, Ext.move (hxr) pz.mv (by rintro k ⟨⟩; omega), ?_⟩; rw [hE]
      exact ZEU.bad
 ·have hE : bW oo lo og l = ZE.bad 1 := by rw [bW, if_pos (.inl c1)]
  refine_lift NT (fun _ _ _ => ?_) (fun _ _ _ => ?_)
  all_goals first
   | (exfalso; have hh := ‹(!decide (dT og = 0)) = false›; simp [c1] at hh; done)
   | skip
  refine aQ (v := .agg aM.toArray) rfl (Runs.build0 (by kernel_rfl)) ?_; refine aA ?_; refine_lift dA ?_; refine aC (v := .agg aM.toArray) rfl rfl rfl (hb3) (show aO Tryz.prog 25 2 = true by decide +kernel) rfl (by decide +kernel) ?_; intro wz pz; refine_lift dA ?_; refine bodyPost_ret (aH (cs := aM) rfl rfl pz.this (by decide +kernel)) rfl ⟨_, rfl, Ext.move (hx3) pz.mv (by rintro k ⟨⟩; omega), ?_⟩; rw [hE]
  exact ZEU.bad
def eV (q : MsgR) (l : List Rec) : MsgR := ⟨q.id, true, 0, true, false, false, false, 0, q.qs, l, [], [], 0⟩
def iG : Nat → Nat → List Rec → List (List Rec)
 | 0, _, l => [l]
 | f + 1, n, l => if l.length ≤ n then [l] else l.take n :: iG f n (l.drop n)
def iT (n : Nat) (l : List Rec) : List (List Rec) := iG l.length n l
theorem uC {n : Nat} (hn : 1 ≤ n) : ∀ (k f g : Nat) (l : List Rec), l.length ≤ k → l.length ≤ f → l.length ≤ g → iG f n l = iG g n l
 | _, 0, 0, l, _, _, _ => rfl
 | _, 0, g + 1, l, _, h, _ => by
   have : l.length ≤ n := by omega
   rw [iG, iG, if_pos this]
 | _, f + 1, 0, l, _, _, h => by
   have : l.length ≤ n := by omega
   rw [iG, iG, if_pos this]
 | 0, f + 1, g + 1, l, h, _, _ => by
   have : l.length ≤ n := by omega
   rw [iG, iG, if_pos this, if_pos this]
 | k + 1, f + 1, g + 1, l, hk, hf, hg => by
   rw [iG, iG]
   by_cases h : l.length ≤ n
   ·rw [if_pos h, if_pos h]
   ·rw [if_neg h, if_neg h, uC hn k f g (l.drop n) (by rw [List.length_drop]; omega) (by rw [List.length_drop]; omega) (by rw [List.length_drop]; omega)]
theorem yK {n : Nat} {l : List Rec} (h : l.length ≤ n) : iT n l = [l] := by
 unfold iT
 cases hl : l.length with
 | zero => rfl
 | succ k => rw [iG, if_pos h]
theorem FF {n : Nat} {l : List Rec} (hn : 1 ≤ n) (h : n < l.length) : iT n l = l.take n :: iT n (l.drop n) := by
 unfold iT
 obtain ⟨k, hk⟩ : ∃ k, l.length = k + 1 := ⟨l.length - 1, by omega⟩
 rw [hk, iG, if_neg (by omega), uC hn k k (l.drop n).length (l.drop n) (by rw [List.length_drop]; omega) (by rw [List.length_drop]; omega) (Nat.le_refl _)]
def sG (q : MsgR) (l : List Rec) (most : Int) : Bool := decide (fA q = 0) && (decide (q.qs.length = 1) && (decide (1 ≤ most) && decide (most ≤ 200))) && !(l.any fun r => !decide (aW r = 0))
def BE (q : MsgR) (l : List Rec) (most : Int) : Int := if sG q l most = true then 0 else 1
def pY (q : MsgR) (l : List Rec) (most : Int) : List MsgR := if sG q l most = true then (iT most.toNat l).map (eV q) else []
structure MsgsV (B : Nat) (w : World) (v : Value) (ms : List MsgR) : Prop where
 out : ∃ css, Own B 13 55 w v css ∧ css.length = ms.length ∧ ∀ (i : Nat) (m : MsgR), ms[i]? = some m → ∃ q a, css[i]? = some (fX m q a (.slice none 0 0) (.slice none 0 0)) ∧ Own B 2 78 w q (dL m.qs) ∧ Own B 4 47 w a (aD m.an) ∧ m.au = [] ∧ m.ex = []
theorem MsgsV.nil (B : Nat) (w : World) : MsgsV B w (.slice none 0 0) [] := ⟨[], Own.nil _ _ _ _, rfl, by simp⟩
theorem MsgsV.ext {B : Nat} {w w' : World} {v : Value} {ms : List MsgR} (h : MsgsV B w v ms) (hx : Ext w w') : MsgsV B w' v ms := by
 obtain ⟨css, h1, h2, h3⟩ := h
 exact ⟨css, h1.ext hx, h2, fun i m hi => let ⟨q, a, b, c, d, e, f⟩ := h3 i m hi; ⟨q, a, b, c.ext hx, d.ext hx, e, f⟩⟩
theorem MsgsV.weaken {B C : Nat} {w : World} {v : Value} {ms : List MsgR} (h : MsgsV B w v ms) (hc : C ≤ B) : MsgsV C w v ms := by
 obtain ⟨css, h1, h2, h3⟩ := h
 exact ⟨css, h1.weaken hc, h2, fun i m hi => let ⟨q, a, b, c, d, e, f⟩ := h3 i m hi; ⟨q, a, b, c.weaken hc, d.weaken hc, e, f⟩⟩
theorem MsgsV.msgs {B : Nat} {w : World} {v : Value} {ms : List MsgR} (h : MsgsV B w v ms) : MsgsAt w v ms := by
 obtain ⟨css, h1, h2, h3⟩ := h
 exact ⟨css, h1.sl, h2, fun i m hi => let ⟨q, a, b, c, d, e, f⟩ := h3 i m hi; ⟨q, a, _, _, b, c.sl, d.sl, by rw [e]; exact Sl.nil _ _, by rw [f]; exact Sl.nil _ _⟩⟩
theorem MsgsV.put {B b t : Nat} {w w' : World} {v : Value} {ms : List MsgR} {cs : Array Value} {fz : Nat × Nat} {o : Obj} (h : MsgsV B w v ms) (hb : w.heap[b]? = some (.cells cs t fz)) (h1 : t ≠ 55) (h2 : t ≠ 78) (h3 : t ≠ 47) (hp : Put w w' b o) : MsgsV B w' v ms := by
 obtain ⟨css, a, c, e⟩ := h
 exact ⟨css, a.mv hp.mv (.inr (a.neBlock hb h1)), c, fun i d hi => let ⟨g, n, x, y, z, u⟩ := e i d hi; ⟨g, n, x, y.mv hp.mv (.inr (y.neBlock hb h2)), z.mv hp.mv (.inr (z.neBlock hb h3)), u⟩⟩
theorem MsgsV.add {B : Nat} {w w' : World} {v v' q a : Value} {ms : List MsgR} {m : MsgR} {css : List (List Value)} (h1 : Own B 13 55 w v css) (h2 : css.length = ms.length)
 (h3 : ∀ (i : Nat) (m : MsgR), ms[i]? = some m → ∃ q a, css[i]? = some (fX m q a (.slice none 0 0) (.slice none 0 0)) ∧ Own B 2 78 w q (dL m.qs) ∧ Own B 4 47 w a (aD m.an) ∧ m.au = [] ∧ m.ex = []) (hm : Mv v.ownBlock w w')
 (o : Own B 13 55 w' v' (css ++ [fX m q a (.slice none 0 0) (.slice none 0 0)])) (hq : Own B 2 78 w q (dL m.qs)) (ha : Own B 4 47 w a (aD m.an)) (hu : m.au = []) (he : m.ex = []) : MsgsV B w' v' (ms ++ [m]) := by
 refine ⟨_, o, by simp [h2], fun i x hi => ?_⟩
 by_cases hlt : i < ms.length
 ·rw [List.getElem?_append_left hlt] at hi
  obtain ⟨q', a', b, c, d, e⟩ := h3 i x hi
  exact ⟨q', a', by rw [List.getElem?_append_left (by omega)]; exact b, c.mv hm (c.ne h1 (by decide)), d.mv hm (d.ne h1 (by decide)), e⟩
 ·rw [List.getElem?_append_right (by omega)] at hi
  have hi0 : i - ms.length = 0 := by
   have := (List.getElem?_eq_some_iff.1 hi).1
   simp only [List.length_cons, List.length_nil] at this
   omega
  rw [hi0] at hi
  have hx : m = x := by simpa using hi
  subst hx
  have : i = css.length := by omega
  subst this
  exact ⟨q, a, by rw [List.getElem?_append_right (Nat.le_refl _)]; simp, hq.mv hm (hq.ne h1 (by decide)), ha.mv hm (ha.ne h1 (by decide)), hu, he⟩
theorem HE {l : List FJ} : ∀ f ∈ dL l, ∀ u ∈ f, u.oneCell' = true := by
 intro f hf u hu
 simp only [dL, List.mem_map] at hf
 obtain ⟨q, _, rfl⟩ := hf
 simp only [List.mem_cons, List.not_mem_nil, or_false] at hu
 rcases hu with rfl | rfl <;> rfl
set_option maxHeartbeats 1000000 in
theorem PC (r : Rec) (w : World) : Calls Tryz.prog 73 #[.agg #[aI r.name, .int .i64 r.kind, .int .i64 r.ttl, aI r.data]] w (bG w (.bool (!decide (aW r = 0)))) := by
 go_enter Tryz.func73, Tryz.ntmps73
 refine_lift hY fun _ _ => ?_
 refine aZ (vs := [aI r.name, .int .i64 r.kind, .int .i64 r.ttl, aI r.data]) rfl rfl ?_
 intro p w1 x1 hp
 refine aA ?_
 refine_lift gX fun _ _ => ?_
 refine aB (enters_of Tryz.func60 rfl rfl) rfl rfl (SW r _) ?_; intro w2 x2; refine aA ?_
 refine_lift dA ?_
 go_ret
 exact ⟨rfl, x1.trans x2⟩
set_option maxHeartbeats 3000000 in
theorem NG (v : Value) (l : List FJ) (w : World) (hv : Sl 2 w v (dL l)) (hl : l.length ≤ 1000000) : Calls Tryz.prog 75 #[v] w (jE w fun v' w' => Own w.heap.size 2 78 w' v' (dL l)) := by
 have hlen := eG l
 go_enter Tryz.func75, Tryz.ntmps75
 (repeat' first | ((with_reducible refine cY ?_); go_step) | ((with_reducible refine bR ?_); first | refine iI ?_ | (refine dN ?_ ?_ <;> intro hc)) | fail)
 ·have hn := ‹uS v = true›
  go_ret
  have : dL l = [] := hv.isNil hn
  refine ⟨_, rfl, Ext.refl _, ?_⟩
  rw [this]
  exact Own.nil _ _ _ _
 ·refine jX (t := 53) (e := 78) (k := 2) (bytes := 24) (by decide +kernel) rfl ?_
  intro v2 w2 x2 s2 o2
  refine aA ?_
  refine_lift dA ?_
  refine cP (B := w.heap.size) (e := 78) rfl o2 rfl (hv.ext x2) HE x2.size (by simp; omega) ?_
  intro v3 w3 o3 m3 _
  have x3 := o2.mvx m3 x2 (Nat.le_refl _)
  refine aA ?_
  refine_lift dA ?_
  go_ret
  exact ⟨_, rfl, x3, by simpa using o3⟩
set_option maxHeartbeats 1000000 in
theorem IP (m : MsgR) (q a u e pq v : Value) (l : List Rec) (w : World) (hm : MsgV w m q a u e) (hp : Pts w pq (fX m q a u e)) (hv : Sl 4 w v (aD l)) (hl : l.length ≤ 1000) (hq : m.qs.length ≤ 1000) :
 Calls Tryz.prog 74 #[v, pq] w (jE w fun r w' => ∃ q' a', r = .agg (fX (eV m l) q' a' (.slice none 0 0) (.slice none 0 0)).toArray ∧ Own w.heap.size 2 78 w' q' (dL m.qs) ∧ Own w.heap.size 4 47 w' a' (aD l)) := by
 go_enter Tryz.func74, Tryz.ntmps74
 unfold fX at hp
 refine_lift uL ?_; intro _ _ _
 refine aG (z := RF) rfl (by decide +kernel) ?_
 intro w1 x1 s1 h1
 refine aA ?_
 have hp1 := hp.ext x1
 have hv1 := hv.ext x1
 have hq1 := hm.qs.ext x1
 refine_lift gX fun _ _ => ?_
 refine cG 8 (Ext w1) (by decide +kernel) ?_
 intro w2 x2 _
 refine ⟨x2, ?_⟩
 refine PI 0 ?_; refine PI 1 ?_; refine PI 2 ?_; refine PI 3 ?_
 refine PJ 5 ?_
 refine bV (i := 4) (by decide +kernel) rfl rfl ?_
 refine aK (enters_of Tryz.func75 rfl rfl) rfl rfl (NG q m.qs _ (hq1.ext x2) (by omega)) ?_
 intro q' w3 x3 oq
 refine aA ?_
 refine aJ ⟨dF (x2.trans x3), ?_⟩
 refine bV (i := 6) (by decide +kernel) rfl rfl ?_
 refine aK (enters_of Tryz.func52 rfl rfl) rfl rfl (nU v l _ (hv1.ext (x2.trans x3)) (by omega)) ?_
 intro a' w4 x4 oa
 have hx4 := (x2.trans x3).trans x4
 refine aA ?_
 refine aJ ⟨dF hx4, ?_⟩
 have hq2 := oq.one
 have ha2 := oa.one
 obtain ⟨qa, qn, qc, rfl⟩ := oq.sl.slf
 obtain ⟨aa, an, ac, rfl⟩ := oa.sl.slf
 refine kK 7 (v := .agg (fX (eV m l) (.slice qa qn qc) (.slice aa an ac) (.slice none 0 0) (.slice none 0 0)).toArray) rfl (fun _ => Runs.build rfl (by kernel_rfl)) ?_
 refine aA ?_
 refine bV (i := 8) (by decide +kernel) rfl rfl ?_
 have hk4 := hx4.at h1
 have hm4 : MsgV w4 (eV m l) (.slice qa qn qc) (.slice aa an ac) (.slice none 0 0) (.slice none 0 0) := ⟨(oq.ext x4).sl, oa.sl, Sl.nil _ _, Sl.nil _ _⟩
 refine aC (v := .agg (fX (eV m l) (.slice qa qn qc) (.slice aa an ac) (.slice none 0 0) (.slice none 0 0)).toArray) rfl rfl rfl hk4 (show aO Tryz.prog 55 13 = true by decide +kernel) rfl (CO hm4) ?_
 intro w5 p5
 refine aJ ⟨cJ rfl, ?_⟩
 refine cZ (by decide +kernel) ?_
 have hk5 : w5.heap[w.heap.size]? = some (.cells (fX (eV m l) (.slice qa qn qc) (.slice aa an ac) (.slice none 0 0) (.slice none 0 0)).toArray 55 (0, 0)) := p5.this
 have hx5 : Ext w w5 := (x1.trans hx4).move p5.mv (by rintro k ⟨⟩; exact Nat.le_refl _)
 have oq5 := (((oq.ext x4).mv p5.mv (.inr ((oq.ext x4).neBlock hk4 (by decide)))).weaken (Ext.size (x1.trans x2)))
 have oa5 := ((oa.mv p5.mv (.inr (oa.neBlock hk4 (by decide)))).weaken (Ext.size (x1.trans (x2.trans x3))))
 refine_lift dA ?_
 refine bodyPost_ret (fL (cs := fX (eV m l) (.slice qa qn qc) (.slice aa an ac) (.slice none 0 0) (.slice none 0 0)) rfl rfl hk5 (show dY Tryz.prog 55 13 = true by decide +kernel)) rfl ⟨_, rfl, hx5, _, _, rfl, oq5, oa5⟩
def RG (v : Value) (k m n : Nat) : Value := match v with | .slice a _ cap => .slice (if n = m then a else a.map (·.add (m * k))) (n - m) (n - m) | v => v
section
variable {P : Program} {a : Act} {w : World} {d : Option Nat} {ty : TypeId} {ps : String} {af : Array Edge} {g : Option (Nat × Bool)}
theorem Runs.cutX {t : TypeId} {x lo hi mx : Operand} {k m n : Nat} {es : List (List Value)} (h1 : a.eval lo = .int .i64 (m : Nat)) (h2 : a.eval hi = .int .i64 (n : Nat)) (h3 : a.eval mx = .int .i64 (n : Nat)) (h : Sl k w (a.eval x) es) (hmn : m ≤ n) (hn : n ≤ es.length) (ht : dO P t k = true) :
 Runs P (Oper.mk d (.slice t x (some lo) (some hi) (some mx)) ty ps af g) a w (X.RG (a.eval x) k m n) := by
 obtain ⟨ad, cap, h4, h5, _⟩ := h
 obtain ⟨e, ie, ht, hie, hz⟩ := cS ht
 constructor
 simp [execOp, h4, h1, h2, h3, Instr.sliceAt, Instr.slice, run_underlying ht, Instr.sliceBounds, Instr.sliceBound, asIntOf, sizeOf, typeInfo, hie, hz, hmn, show n ≤ cap by omega, X.RG]
end
theorem Sl.cutX {k : Nat} {w : World} {v : Value} {es : List (List Value)} (h : Sl k w v es) {m n : Nat} (hmn : m ≤ n) (hn : n ≤ es.length) : Sl k w (X.RG v k m n) ((es.take n).drop m) := by
 have hs := h.cut hmn hn
 obtain ⟨ad, cap, rfl, h4, h5, h6, h7, h8⟩ := h
 have hlen : ((es.take n).drop m).length = n - m := by simp; omega
 refine ⟨if n = m then ad else ad.map (·.add (m * k)), n - m, by rw [hlen]; rfl, by omega, by omega, fun e he => h6 e (List.mem_of_mem_take (List.mem_of_mem_drop he)), ?_, ?_⟩
 ·intro hnone
  split at hnone
  ·omega
  ·have := h7 (by simpa using hnone); omega
 ·intro hne
  have hlt : m < n := by
   rcases Nat.lt_or_ge m n with h | h
   ·exact h
   ·exact absurd (List.eq_nil_of_length_eq_zero (by omega)) hne
  obtain ⟨a2, c2, e2, _, _, _, _, h9⟩ := hs
  obtain ⟨b, o, e3, hc⟩ := h9 hne
  refine ⟨b, o, ?_, hc⟩
  rw [if_neg (by omega)]
  simp only [cK, Value.slice.injEq] at e2
  rw [if_neg (by omega)] at e2
  rw [e2.1, e3]
theorem PD (v : Value) (hv : v.cells = #[v]) (n : Nat) (hn : 1 ≤ n) (w : World) : Calls Tryz.prog 76 #[v, .int .i64 n] w fun e w' => e = .returned (.func (.func 125) #[] #[.pointer (some ⟨w.heap.size, 0, none⟩), .pointer (some ⟨w.heap.size + 1, 0, none⟩)]) ∧ Ext w w' ∧ w'.heap.size = w.heap.size + 2 ∧ w'.heap[w.heap.size]? = some (.cells #[v] 31 (0, 0)) ∧ w'.heap[w.heap.size + 1]? = some (.cells #[.int .i64 n] 3 (0, 0)) := by
 go_enter Tryz.func76, Tryz.ntmps76
 refine_lift uL ?_; intro _ _ _
 refine eD (vs := [v]) rfl hv ?_
 intro w1 x1 s1 h1
 refine aA ?_
 refine eD (vs := [.int .i64 n]) rfl rfl ?_
 intro w2 x2 s2 h2
 refine aA ?_
 rw [s1] at h2 ⊢
 have hp2 := aE (cs := [.int .i64 n]) h2
 refine_lift RU fun _ => ?_
 all_goals first
  | (exfalso; omega)
  | skip
 go_ret
 exact ⟨rfl, x1.trans x2, by omega, x2.at h1, h2⟩
theorem RH (l b bn : Nat) (lp : Loop) (J : Nat → World → Prop) (hp : lp.params.size = 1) (hL : ∀ k W, J k W → W.heap[l]? = some (.loop lp)) (hG : ∀ k W W', J k W → Ext W W' → J k W')
 (v : Value) (rs : List Rec) (n : Nat) (hn : 1 ≤ n) (hn2 : n ≤ 200) (hb : ∀ k W, J k W → W.heap[b]? = some (.cells #[v] 31 (0, 0))) (hbn : ∀ k W, J k W → W.heap[bn]? = some (.cells #[.int .i64 n] 3 (0, 0))) (hv : ∀ k W, J k W → Sl 4 W v (aD rs)) (hl : rs.length ≤ 1000)
 (hy : ∀ i u W, i < rs.length → Sl 4 W u (aD ((rs.drop i).take n)) → J i W → RoundIn Fence.wide 0 Tryz.prog l lp.fn ((lp.params.zip #[u]).foldl (fun tmps (t, a) => tmps.setIfInBounds t a) lp.tmps) lp.assign lp.body W
  fun e W' => e = .returned (.bool true) ∧ J (i + n) W') (W : World) (h0 : J 0 W) :
 Calls Tryz.prog 125 #[.func (.yield l) #[] #[], .pointer (some ⟨b, 0, none⟩), .pointer (some ⟨bn, 0, none⟩)] W fun e w' => e = .returned (.tuple #[]) ∧ ∃ i, rs.length ≤ i ∧ i ≤ rs.length + n ∧ J i w' := by
 have hlen := aL rs
 have hbW := aE (cs := [v]) (hb _ _ h0)
 have hnW := aE (cs := [.int .i64 n]) (hbn _ _ h0)
 have hvW := hv _ _ h0
 go_enter Tryz.func125, Tryz.ntmps125
 refine_lift RU ?_; intro _
 go_loopw [4] (fun i wr => ∃ k : Nat, i = .int .i64 k ∧ k ≤ rs.length + n ∧ J k wr) (fun i _ => rs.length - (intOf i).toNat)
 case atStart => exact ⟨0, rfl, Nat.zero_le _, h0⟩
 case round =>
  obtain ⟨k, rfl, hk, hJ⟩ := hrel
  have hbr := aE (cs := [v]) (hb _ _ hJ)
  have hnr := aE (cs := [.int .i64 n]) (hbn _ _ hJ)
  have hvr := hv _ _ hJ
  clear hbW hnW hvW h0
  by_cases hlt : k < rs.length
  ·obtain ⟨c, hc⟩ : ∃ c, c = min n (rs.length - k) := ⟨_, rfl⟩
   have hdr : Sl 4 wr (cK v 4 k (aD rs).length) (aD (rs.drop k)) := by
    have h := hvr.cut (m := k) (n := (aD rs).length) (by omega) (Nat.le_refl _)
    rwa [List.take_length, show (aD rs).drop k = aD (rs.drop k) by simp [aD, List.map_drop]] at h
   have hdl : (aD (rs.drop k)).length = rs.length - k := by rw [aL, List.length_drop]
   have hcI : min (n : Int) ((aD (rs.drop k)).length : Int) = (c : Int) := by omega
   have hpart : Sl 4 wr (RG v 4 k (k + c)) (aD ((rs.drop k).take n)) := by
    have h := hvr.cutX (m := k) (n := k + c) (by omega) (by omega)
    rwa [show ((aD rs).take (k + c)).drop k = aD ((rs.drop k).take n) by
     rw [List.drop_take, show k + c - k = c by omega, hc]
     simp only [aD, ← List.map_drop, ← List.map_take]
     congr 1
     rw [List.take_eq_take_iff]
     rw [List.length_drop]
     omega] at h
   refine_lift SQ ?_; intro _ _ _ _ _ _
   refine bB (by decide +kernel) (by decide +kernel) ?_
   refine_lift vE ?_
   rw [hcI]
   intro w4 x4
   have hbr4 := hbr.ext x4
   have hvr4 := hvr.ext x4
   have hnr4 := hnr.ext x4
   have hJ4 := hG _ _ _ hJ x4
   have hp4 := hpart.ext x4
   have hL4 := hL _ _ hJ4
   repeat' (first | (refine cE (id := 3) ?_) | (refine cE (id := 4) ?_) | ((with_reducible apply gY); (rfl); exact QC; refine aA ?_) | (with_reducible (apply iY)) | ((with_reducible refine bR ?_); (first | (refine gW ?_; refine FQ ?_) | (refine jG ?_; first | refine kJ ?_ | refine pP ?_ | refine pR ?_ | refine pQ ?_ | ((first | refine pG ?_ ?_ | refine pH ?_ ?_) <;> intro hc)))) | ((fail_if_success (with_reducible refine bR ?_)); go_step))
   refine gY (v := RG v 4 k (k + c)) rfl (Runs.cutX (k := 4) (m := k) (n := k + c) rfl rfl rfl hvr4 (by omega) (by omega) (by decide +kernel)) ?_
   refine aA ?_
   refine lU (lp := lp) (vs := [RG v 4 k (k + c)]) rfl rfl rfl hL4 (by simp [hp]) (hy k _ _ hlt hp4 hJ4) ?_
   rintro e W' ⟨rfl, hJ'⟩
   refine ⟨_, rfl, ?_⟩
   simp only [List.set_cons_succ, List.set_cons_zero]
   have hnr5 := aE (cs := [.int .i64 n]) (hbn _ _ hJ')
   clear hbr4 hvr4 hnr4 hp4 hbr hvr hnr hpart hdr
   repeat' (first | (refine cE (id := 3) ?_) | (refine cE (id := 4) ?_) | ((with_reducible apply gY); (rfl); exact QC; refine aA ?_) | (with_reducible (apply iY)) | ((with_reducible refine bR ?_); (first | (refine gW ?_; refine FQ ?_) | (refine jG ?_; first | refine kJ ?_ | refine pP ?_ | refine pR ?_ | refine pQ ?_ | ((first | refine pG ?_ ?_ | refine pH ?_ ?_) <;> intro hc)))) | ((fail_if_success (with_reducible refine bR ?_)); go_step))
   refine_lift dA ?_
   exact ⟨⟨k + n, rfl, by omega, hJ'⟩, by simp [intOf]; omega⟩
  ·refine_lift RU fun _ => ?_
   exact bodyPost_end (results_none rfl _ _ _) rfl ⟨rfl, k, by omega, hk, hJ⟩
end Go.Proofs.X
