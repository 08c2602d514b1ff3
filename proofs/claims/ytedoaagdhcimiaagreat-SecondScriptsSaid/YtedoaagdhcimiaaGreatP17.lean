/- Laws and walks that the proof of the statement is made of (part 17). -/
import Derived.Test.YtedoaagdhcimiaaGreatProg
import Derived.Shelf.RegionOpenPlain
import Derived.Lib.Strings
import Derived.Lib.Slices
import Derived.Lib.Walk
import Derived.Lib.Builder
import Derived.Lib.AppendStr
import Derived.Lib.UnsafeStr
import Derived.Lib.MakeNoZero
import Derived.WalkKit
import Derived.Laws.Externs
import Derived.Laws.IdiomCopy
import Derived.Laws.BitsLemmas
import GoSem.Claims
import Derived.Test.YtedoaagdhcimiaaGreatShelf
import Derived.Laws.Pointers
import Derived.OrdersIn
import Derived.LoopIn
import Derived.WalkMore
import Derived.ScopeJumps
import Derived.OwnWalk
import Derived.Shelf.SlSortCmp.NoneTotal
import Derived.Lib.Hide
import Derived.Test.YtedoaagdhcimiaaGreatP1
import Derived.Test.YtedoaagdhcimiaaGreatP2
import Derived.Test.YtedoaagdhcimiaaGreatP3
import Derived.Test.YtedoaagdhcimiaaGreatP4
import Derived.Test.YtedoaagdhcimiaaGreatP5
import Derived.Test.YtedoaagdhcimiaaGreatP7
import Derived.Test.YtedoaagdhcimiaaGreatP8
import Derived.Test.YtedoaagdhcimiaaGreatP9
import Derived.Test.YtedoaagdhcimiaaGreatP10
import Derived.Test.YtedoaagdhcimiaaGreatP11
import Derived.Test.YtedoaagdhcimiaaGreatP12
import Derived.Test.YtedoaagdhcimiaaGreatP13
import Derived.Test.YtedoaagdhcimiaaGreatP14
import Derived.Test.YtedoaagdhcimiaaGreatP15
import Derived.Test.YtedoaagdhcimiaaGreatP16
set_option linter.unusedSimpArgs false
set_option linter.unusedVariables false
namespace Go.Proofs.X
open Go.RowKit
set_option maxRecDepth 100000
theorem r1_CheckE (nm : List UInt8) (w : World) : Calls Tryz.prog 73 #[str nm] w (RetV w (.int .i64 (checkE nm))) := by
 have h := r1_Check nm w
 rwa [show (if (labels nm).isSome then (0 : Int) else 1) = checkE nm by unfold checkE; rfl] at h
theorem lt_of_some {w : World} {k : Nat} {o : Obj} (h : w.heap[k]? = some o) : k < w.heap.size := by
 rcases Array.getElem?_eq_some_iff.1 h with ⟨h, _⟩
 exact h
set_option maxHeartbeats 16000000 in
theorem r16_Install (oo : List UInt8) (v : Value) (lo : List RSet) (og : List UInt8) (lv : Value) (l : List Rec) (w : World) (hv : SetsAt w v lo) (hl : Sl 4 w lv (rcells l)) (bl : ∀ s ∈ lo, s.data.length ≤ 1000000) (dl : ∀ s ∈ lo, ∀ d ∈ s.data, d.length ≤ 1000000) (h1 : (recordsS lo).length ≤ 5000) (h2 : l.length ≤ 5000) (dn : ∀ q ∈ l, q.data.length ≤ 1000000) :
 Calls Tryz.prog 53 #[.agg #[str oo, v], str og, lv] w (Ret w (ZEU w.heap.size (instZ oo lo og l))) := by
 have hrl := rcells_length l
 go_enter Tryz.func53, Tryz.ntmps53
 repeat' (first | ((with_reducible refine nx0 ?_); go_step) | fail)
 refine wpl_boxB (vs := [str oo, v]) rfl rfl ?_
 intro w1 x1 s1 hb1
 refine gset ?_
 refine wpl_allocB (z := zzone) rfl (by decide +kernel) ?_
 intro w2 x2 s2 hb2
 have hx2 := x1.trans x2
 have hsz1 := x1.size
 have hb12 := x2.at hb1
 generalize hbe : w1.heap.size = b at *
 generalize hbo : w.heap.size = bo at *
 refine gset ?_
 (repeat' first | ((with_reducible refine nx0 ?_); go_step) | ((with_reducible refine o_s ?_); first | refine wk1 ?_ | (refine wg0 ?_ ?_ <;> intro hc)) | fail)
 refine wpl_callV (enters_of Tryz.func73 rfl rfl) rfl rfl (r1_CheckE og w2) ?_; intro w3 x3; refine gset ?_
 have hx3 := hx2.trans x3
 have hb3 := x3.at hb2
 have hb13 := x3.at hb12
 have hs3 := x3.size
 have hl3 := hl.ext hx3
 by_cases c1 : checkE og = 0
 ·rw [c1]
  (repeat' first | ((with_reducible refine nx0 ?_); go_step) | ((with_reducible refine o_s ?_); first | refine wk1 ?_ | (refine wg0 ?_ ?_ <;> intro hc)) | fail)
  go_loopw [8] (fun i wr => ∃ k : Nat, k ≤ l.length ∧ i = .int .i64 k ∧ Ext w3 wr ∧ (l.take k).all (fun r => decide (checkR r = 0)) = true) (fun i _ => l.length - (intOf i).toNat)
  case atStart => exact ⟨0, Nat.zero_le _, rfl, Ext.refl _, rfl⟩
  case round =>
   obtain ⟨k, hk, rfl, xr, hall⟩ := hrel
   by_cases hlt : k < l.length
   ·have hpe := (hl3.ext xr).elem (rcells_at hlt)
    have dk := dn _ (List.getElem_mem hlt)
    have hbr := xr.at hb3
    (repeat' first | ((with_reducible refine nx0 ?_); go_step) | ((with_reducible refine o_s ?_); first | refine wk1 ?_ | (refine wg0 ?_ ?_ <;> intro hc)) | fail)
    all_goals first
     | (exfalso; omega)
     | skip
    refine wpl_callV (enters_of Tryz.func112 rfl rfl) rfl rfl (r3_Check l[k] _ (by omega)) ?_; intro w4 x4; refine gset ?_
    by_cases hc : checkR l[k] = 0
    ·rw [hc]
     (repeat' first | ((with_reducible refine nx0 ?_); go_step) | ((with_reducible refine o_s ?_); first | refine wk1 ?_ | (refine wg0 ?_ ?_ <;> intro hc)) | fail)
     exact ⟨⟨k + 1, by omega, rfl, xr.trans x4, all_take hlt hall (by simp [hc])⟩, by simp [intOf]; omega⟩
    ·have hE : instZ oo lo og l = ZE.bad 1 := by
      rw [instZ, if_pos (.inr (List.any_eq_true.2 ⟨l[k], List.getElem_mem hlt, by simp [hc]⟩))]
     (repeat' first | ((with_reducible refine nx0 ?_); go_step) | ((with_reducible refine o_s ?_); first | refine wk1 ?_ | (refine wg0 ?_ ?_ <;> intro hc)) | fail)
     all_goals first
      | (exfalso; have hh := ‹(!decide (checkR l[k] = 0)) = false›; simp [hc] at hh; done)
      | skip
     refine wpl_run (v := .agg zzone.toArray) rfl (Runs.build0 (by kernel_rfl)) ?_; refine gset ?_; (repeat' first | ((with_reducible refine nx0 ?_); go_step) | ((with_reducible refine o_s ?_); first | refine wk1 ?_ | (refine wg0 ?_ ?_ <;> intro hc)) | fail); refine wpl_storeB (v := .agg zzone.toArray) rfl rfl rfl (x4.at hbr) (show sizeTy Tryz.prog 34 2 = true by decide +kernel) rfl (by decide +kernel) ?_; intro wz pz; (repeat' first | ((with_reducible refine nx0 ?_); go_step) | ((with_reducible refine o_s ?_); first | refine wk1 ?_ | (refine wg0 ?_ ?_ <;> intro hc)) | fail); refine bodyPost_ret (results_cellT (cs := zzone) rfl rfl pz.this (by decide +kernel)) rfl ⟨_, rfl, Ext.move ((hx3.trans xr).trans x4) pz.mv (by rintro k ⟨⟩; omega), ?_⟩; rw [hE]
     exact ZEU.bad
   ·have hk2 : k = l.length := by omega
    rw [hk2, List.take_length] at hall
    have q1 : ¬ (checkE og ≠ 0 ∨ l.any (fun r => !decide (checkR r = 0)) = true) := by
     rintro (e | e)
     ·exact e c1
     ·obtain ⟨r, hr, hr2⟩ := List.any_eq_true.1 e
      have := List.all_eq_true.1 hall r hr
      simp_all
    have hbr := xr.at hb3
    have hb1r := xr.at hb13
    have hxr := hx3.trans xr
    have hsr := xr.size
    have hszr := hxr.size
    clear hall hl3 hb3 hb2 hb1 hb12 hb13
    by_cases hl0 : l = []
    ·have hE : instZ oo lo og l = ZE.bad 2 := by rw [instZ, if_neg q1, if_pos hl0]
     have hn0 : l.length = 0 := by rw [hl0]; rfl
     (repeat' first | ((with_reducible refine nx0 ?_); go_step) | ((with_reducible refine o_s ?_); first | refine wk1 ?_ | (refine wg0 ?_ ?_ <;> intro hc)) | fail)
     all_goals first
      | (exfalso; omega)
      | skip
     refine wpl_run (v := .agg zzone.toArray) rfl (Runs.build0 (by kernel_rfl)) ?_; refine gset ?_; (repeat' first | ((with_reducible refine nx0 ?_); go_step) | ((with_reducible refine o_s ?_); first | refine wk1 ?_ | (refine wg0 ?_ ?_ <;> intro hc)) | fail); refine wpl_storeB (v := .agg zzone.toArray) rfl rfl rfl (hbr) (show sizeTy Tryz.prog 34 2 = true by decide +kernel) rfl (by decide +kernel) ?_; intro wz pz; (repeat' first | ((with_reducible refine nx0 ?_); go_step) | ((with_reducible refine o_s ?_); first | refine wk1 ?_ | (refine wg0 ?_ ?_ <;> intro hc)) | fail); refine bodyPost_ret (results_cellT (cs := zzone) rfl rfl pz.this (by decide +kernel)) rfl ⟨_, rfl, Ext.move (hxr) pz.mv (by rintro k ⟨⟩; omega), ?_⟩; rw [hE]
     exact ZEU.bad
    ·have hln : 1 ≤ l.length := List.length_pos_iff.2 hl0
     have hh0 : l.getD 0 zeroRec = headOf l := by
      cases l with
      | nil => exact absurd rfl hl0
      | cons r t => rfl
     have hpt0 : Pts w (elemPtr lv (0 * 4)) _ := hl.elem (rc_at (i := 0) (by omega))
     rw [hh0, Nat.zero_mul] at hpt0
     have hpt := hpt0.ext hxr
     by_cases hsoa : isSoaR (headOf l) = true
     ·have hk6 : (headOf l).kind = 6 := by simpa [isSoaR] using hsoa
      (repeat' first | ((with_reducible refine nx0 ?_); go_step) | ((with_reducible refine o_s ?_); first | refine wk1 ?_ | (refine wg0 ?_ ?_ <;> intro hc)) | fail)
      all_goals first
       | (exfalso; omega)
       | (exfalso; have hh := ‹(!decide ((headOf l).kind = 6)) = true›; simp [hk6] at hh; done)
       | skip
      refine wpl_callV (enters_of Tryz.func113 rfl rfl) rfl rfl (r1_Fold (headOf l).name _) ?_; intro w6 x6; refine gset ?_
      (repeat' first | ((with_reducible refine nx0 ?_); go_step) | ((with_reducible refine o_s ?_); first | refine wk1 ?_ | (refine wg0 ?_ ?_ <;> intro hc)) | fail)
      refine wpl_callV (enters_of Tryz.func113 rfl rfl) rfl rfl (r1_Fold og _) ?_; intro w7 x7; refine gset ?_
      have x57 := x6.trans x7
      have hx7 := hxr.trans x57
      have hb7 := x57.at hbr
      have hb17 := x57.at hb1r
      have hs7 := x57.size
      have hpt7 := hpt.ext x57
      clear hpt hbr hb1r
      by_cases hfo : fold (headOf l).name = fold og
      ·have q2 : ¬ (isSoaR (headOf l) = false ∨ fold (headOf l).name ≠ fold og) := by
        rintro (e | e)
        ·rw [hsoa] at e; cases e
        ·exact e hfo
       have hfo' : (!decide (fold (headOf l).name = fold og)) = false := by simp [hfo]
       obtain ⟨last, hlast⟩ : ∃ n, n = l.length - 1 := ⟨_, rfl⟩
       (repeat' first | ((with_reducible refine nx0 ?_); go_step) | ((with_reducible refine o_s ?_); first | refine wk1 ?_ | (refine wg0 ?_ ?_ <;> intro hc)) | fail)
       all_goals first
        | (exfalso; have hh := ‹(!decide (fold (headOf l).name = fold og)) = true›; rw [hfo'] at hh; cases hh; done)
        | skip
       ·have hl1 : l.length = 1 := by
         have : ((rcells l).length : Int) - 1 = 0 := by assumption
         omega
        have hE : instZ oo lo og l = ZE.bad 5 := by rw [instZ, if_neg q1, if_neg hl0, if_neg q2, if_pos hl1]
        refine wpl_run (v := .agg zzone.toArray) rfl (Runs.build0 (by kernel_rfl)) ?_; refine gset ?_; (repeat' first | ((with_reducible refine nx0 ?_); go_step) | ((with_reducible refine o_s ?_); first | refine wk1 ?_ | (refine wg0 ?_ ?_ <;> intro hc)) | fail); refine wpl_storeB (v := .agg zzone.toArray) rfl rfl rfl (hb7) (show sizeTy Tryz.prog 34 2 = true by decide +kernel) rfl (by decide +kernel) ?_; intro wz pz; (repeat' first | ((with_reducible refine nx0 ?_); go_step) | ((with_reducible refine o_s ?_); first | refine wk1 ?_ | (refine wg0 ?_ ?_ <;> intro hc)) | fail); refine bodyPost_ret (results_cellT (cs := zzone) rfl rfl pz.this (by decide +kernel)) rfl ⟨_, rfl, Ext.move (hx7) pz.mv (by rintro k ⟨⟩; omega), ?_⟩; rw [hE]
        exact ZEU.bad
       ·have hl1 : ¬ l.length = 1 := by
         have : ¬ ((rcells l).length : Int) - 1 = 0 := by assumption
         omega
        rw [show ((rcells l).length : Int) - 1 = (last : Int) by omega]
        have hpl : Pts w (elemPtr lv (last * 4)) _ := hl.elem (rc_at (i := last) (by omega))
        have hpl7 := hpl.ext hx7
        refine wpq_region (by decide +kernel) (by decide +kernel) ?_
        by_cases hl2 : last = 1
        ·have hE : instZ oo lo og l = ZE.bad 3 := by rw [instZ, if_neg q1, if_neg hl0, if_neg q2, if_neg hl1, if_pos (.inl (by omega))]
         (try ((with_reducible refine qh0 ?_); refine qk1 ?_))
         rw [decide_eq_true (by omega : (last : Int) = 1)]
         (try ((with_reducible refine qh0 ?_); refine qk1 ?_))
         intro w8 x8
         have hb8 := x8.at hb7
         have hs8 := x8.size
         (repeat' first | ((with_reducible refine nx0 ?_); go_step) | ((with_reducible refine o_s ?_); first | refine wk1 ?_ | (refine wg0 ?_ ?_ <;> intro hc)) | fail)
         refine wpl_run (v := .agg zzone.toArray) rfl (Runs.build0 (by kernel_rfl)) ?_; refine gset ?_; (repeat' first | ((with_reducible refine nx0 ?_); go_step) | ((with_reducible refine o_s ?_); first | refine wk1 ?_ | (refine wg0 ?_ ?_ <;> intro hc)) | fail); refine wpl_storeB (v := .agg zzone.toArray) rfl rfl rfl (hb8) (show sizeTy Tryz.prog 34 2 = true by decide +kernel) rfl (by decide +kernel) ?_; intro wz pz; (repeat' first | ((with_reducible refine nx0 ?_); go_step) | ((with_reducible refine o_s ?_); first | refine wk1 ?_ | (refine wg0 ?_ ?_ <;> intro hc)) | fail); refine bodyPost_ret (results_cellT (cs := zzone) rfl rfl pz.this (by decide +kernel)) rfl ⟨_, rfl, Ext.move (hx7.trans x8) pz.mv (by rintro k ⟨⟩; omega), ?_⟩; rw [hE]
         exact ZEU.bad
        ·(try ((with_reducible refine qh0 ?_); refine qk1 ?_))
         rw [decide_eq_false (by omega : ¬ (last : Int) = 1)]
         (try ((with_reducible refine qh0 ?_); refine qk1 ?_))
         refine wpq_run0 (fun w' _ => by exact Runs.neqRec (r := l.getD last zeroRec) (q := headOf l) rfl rfl) ?_
         refine gset ?_
         (try ((with_reducible refine qh0 ?_); refine qk1 ?_))
         intro w8 x8
         have hx8 := hx7.trans x8
         have hb8 := x8.at hb7
         have hb18 := x8.at hb17
         have hs8 := x8.size
         have hpt8 := hpt7.ext x8
         clear hpl hpl7 hpt7 hb7 hb17
         by_cases heq : l.getD last zeroRec = headOf l
         ·have q3 : ¬ (l.length = 2 ∨ l.getD (l.length - 1) zeroRec ≠ headOf l) := by
           rw [← hlast]
           rintro (e | e)
           ·omega
           ·exact e heq
          have heq' : (!decide (l.getD last zeroRec = headOf l)) = false := by rw [decide_eq_true heq]; rfl
          rw [heq']
          have hpz8 := pts_block (cs := [str oo, v]) hb18
          (repeat' first | ((with_reducible refine nx0 ?_); go_step) | ((with_reducible refine o_s ?_); first | refine wk1 ?_ | (refine wg0 ?_ ?_ <;> intro hc)) | fail)
          have hv1 : v.oneCell' = true := by obtain ⟨_, hq, _⟩ := hv.sl; exact hq.one
          refine wpl_allocB (z := zzone) rfl (by decide +kernel) ?_
          intro w9 x9 s9 h9
          refine gset ?_
          refine wpl_storeB (v := .agg #[str oo, v]) rfl rfl rfl h9 (show sizeTy Tryz.prog 34 2 = true by decide +kernel) rfl (zone_one hv1) ?_
          intro w10 p10
          have x810 : Ext w8 w10 := x9.move p10.mv (by rintro k ⟨⟩; exact Nat.le_refl _)
          have hk10 : w10.heap[w8.heap.size]? = some (.cells [str oo, v].toArray 34 (0, 0)) := p10.this
          have s10 := p10.size
          have hx10 := hx8.trans x810
          have hb10 := x810.at hb8
          have hb110 := x810.at hb18
          have hpt10 := hpt8.ext x810
          have hw8 := hx8.size
          have hbz : b < w8.heap.size := by have := hx7.size; omega
          clear p10 h9 x9 hpz8 hpt8 hb18 hb8
          generalize hzk : w8.heap.size = zk at *
          have hpz10 := pts_block (cs := [str oo, v]) hb110
          have hpo10 : Pts w10 (partPtr (.pointer (some ⟨bo, 0, none⟩)) 1) [v] := hpz10.part 1
          have hpt1 : Pts w (elemPtr lv (1 * 4)) _ := hl.elem (rc_at (i := 1) (by omega))
          have hpt110 := hpt1.ext hx10
          have hl10 := hl.ext hx10
          have hcut := (parts hl10 (n := last) (by omega)).1
          have hdl : l.take last = l.dropLast := by rw [List.dropLast_eq_take, hlast]
          rw [hdl] at hcut
          have hok := told_ok (oo := oo) (lo := lo) (og := og) (l := l)
          have hI : instZ oo lo og l = (let q := toldZ oo lo og l
           if q.e ≠ 0 then ZE.bad q.e else if (soaZ q.o q.l).serial ≠ serOf (headOf l) then ZE.bad 2 else if lo ≠ [] ∧ laterB (soaZ q.o q.l).serial (soaZ oo lo).serial = false then ZE.bad 7 else q) := by
           rw [instZ, if_neg q1, if_neg hl0, if_neg q2, if_neg hl1, if_neg q3]
          by_cases d1 : (l.getD 1 zeroRec).kind = 6
          ·have ds : isSoaR (l.getD 1 zeroRec) = true := decide_eq_true d1
           obtain ⟨cv, hcv, hcl⟩ := (hv.ext hx10).sl
           by_cases d2 : lo = []
           ·have hT : toldZ oo lo og l = ZE.bad 5 := by rw [toldZ, if_neg (fun e => by rw [ds] at e; cases e), if_pos d2]
            rw [hT] at hI
            have hE : instZ oo lo og l = ZE.bad 5 := by rw [hI]; rfl
            have hc0 : cv.length = 0 := by rw [hcl, d2]; rfl
            (repeat' first | ((with_reducible refine nx0 ?_); go_step) | ((with_reducible refine o_s ?_); first | refine wk1 ?_ | (refine wg0 ?_ ?_ <;> intro hc)) | fail)
            all_goals first
             | (exfalso; have hh := ‹(!decide ((l.getD 1 zeroRec).kind = 6)) = true›; rw [decide_eq_true d1] at hh; cases hh; done)
             | (exfalso; omega)
             | skip
            refine wpl_run (v := .agg zzone.toArray) rfl (Runs.build0 (by kernel_rfl)) ?_; refine gset ?_; (repeat' first | ((with_reducible refine nx0 ?_); go_step) | ((with_reducible refine o_s ?_); first | refine wk1 ?_ | (refine wg0 ?_ ?_ <;> intro hc)) | fail); refine wpl_storeB (v := .agg zzone.toArray) rfl rfl rfl (hb10) (show sizeTy Tryz.prog 34 2 = true by decide +kernel) rfl (by decide +kernel) ?_; intro wz pz; (repeat' first | ((with_reducible refine nx0 ?_); go_step) | ((with_reducible refine o_s ?_); first | refine wk1 ?_ | (refine wg0 ?_ ?_ <;> intro hc)) | fail); refine bodyPost_ret (results_cellT (cs := zzone) rfl rfl pz.this (by decide +kernel)) rfl ⟨_, rfl, Ext.move (hx10) pz.mv (by rintro k ⟨⟩; omega), ?_⟩; rw [hE]
            exact ZEU.bad
           ·have hT : toldZ oo lo og l = chgZ oo lo (l.dropLast.drop 1) := by rw [toldZ, if_neg (fun e => by rw [ds] at e; cases e), if_neg d2]
            have hc0 : 0 < cv.length := by rw [hcl]; exact List.length_pos_iff.2 d2
            have hcut1 : Sl 4 w10 (cutSl lv 4 1 last) (rcells (l.dropLast.drop 1)) := by
             have h := hl10.cut (m := 1) (n := last) (by omega) (by omega)
             rwa [show ((rcells l).take last).drop 1 = rcells (l.dropLast.drop 1) by rw [← hdl]; simp [rcells, List.map_take, List.map_drop]] at h
            have hne1 : l.dropLast.drop 1 ≠ [] := by
             intro e
             have := congrArg List.length e
             rw [List.length_drop, List.length_dropLast] at this
             simp only [List.length_nil] at this
             omega
            have hdl5 : (l.dropLast.drop 1).length ≤ 5000 := by rw [List.length_drop, List.length_dropLast]; omega
            have hld := fun w' (x' : Ext w10 w') => r16_deltas oo v lo (cutSl lv 4 1 last) (l.dropLast.drop 1) w' ((hv.ext hx10).ext x') (hcut1.ext x') bl dl h1 hdl5 (fun r hr => dn r ((List.dropLast_sublist l).subset (List.mem_of_mem_drop hr))) hne1
            rw [← hT] at hld
            obtain ⟨q, hq⟩ : ∃ q, q = toldZ oo lo og l := ⟨_, rfl⟩
            rw [← hq] at hI hok hld
            clear hcut1 hcut
            (repeat' first | ((with_reducible refine nx0 ?_); go_step) | ((with_reducible refine o_s ?_); first | refine wk1 ?_ | (refine wg0 ?_ ?_ <;> intro hc)) | fail)
            all_goals first
             | (exfalso; have hh := ‹(!decide ((l.getD 1 zeroRec).kind = 6)) = true›; rw [decide_eq_true d1] at hh; cases hh; done)
             | (exfalso; omega)
             | skip
            refine wpi_region 8 (Ext w10) (by decide +kernel) ?_
            intro wq xq _
            refine ⟨xq, ?_⟩
            refine it1 0 ?_
            refine ip1 1 ?_; refine ip1 2 ?_
            refine it1 3 ?_
            refine wpi_op (i := 4) (by decide +kernel) rfl rfl ?_
            refine wpl_callR (enters_of Tryz.func115 rfl rfl) rfl rfl (hld _ xq) ?_
            rintro _ w11 xr ⟨y, rfl, hO⟩
            have x11 := xq.trans xr
            have hO := hO.weaken xq.size
            have hy1 : y.oneCell' = true := by obtain ⟨_, hq, _⟩ := hO.sets.sl; exact hq.one
            refine gset ?_
            refine wph_nil ⟨till_yes x11, ?_⟩
            clear xq xr
            refine ip1 5 ?_; refine ip1 6 ?_; refine ip1 7 ?_
            refine wpi_op (i := 8) (by decide +kernel) rfl rfl ?_
            refine wpl_storeB (v := .agg #[str q.o, y]) rfl rfl rfl (x11.at hk10) (show sizeTy Tryz.prog 34 2 = true by decide +kernel) rfl (zone_one hy1) ?_
            intro w12 p12
            refine wph_nil ⟨till_no rfl, ?_⟩
            refine ip1 9 ?_
            refine wpi_done (by decide +kernel) ?_
            have hxc : Ext w w12 := (hx10.trans x11).move p12.mv (by rintro k ⟨⟩; omega)
            have hbc := p12.at (x11.at hb10) (by omega)
            have hboc := p12.at (x11.at hb110) (by omega)
            have hkc : w12.heap[zk]? = some (.cells [str q.o, y].toArray 34 (0, 0)) := p12.this
            have hOc := (hO.put p12 (by omega)).weaken (show w.heap.size ≤ _ by omega)
            clear hO p12 x11 hb10 hb110 hk10 hpt10 hcv hld
            by_cases he : q.e = 0
            ·rw [if_neg (by simp [he])] at hI
             have hpz12 := pts_block (cs := [str q.o, y]) hkc
             have hz := hok he (by omega)
             obtain ⟨zl, zb, zd, zr⟩ := zoneJ hz
             (repeat' first | ((with_reducible refine nx0 ?_); go_step) | ((with_reducible refine o_s ?_); first | refine wk1 ?_ | (refine wg0 ?_ ?_ <;> intro hc)) | fail)
             all_goals first
              | (exfalso; have hh := ‹(!decide (q.e = 0)) = true›; rw [he] at hh; cases hh; done)
              | skip
             refine wpl_callV (enters_of Tryz.func96 rfl rfl) rfl rfl (r8_Soa q.o y q.l _ hOc.sets (fun s hs => by have := zb s hs; omega) (fun s hs d hd => by have := zd s hs d hd; omega)) ?_; intro w13 x13; refine gset ?_
             (repeat' first | ((with_reducible refine nx0 ?_); go_step) | ((with_reducible refine o_s ?_); first | refine wk1 ?_ | (refine wg0 ?_ ?_ <;> intro hc)) | fail)
             refine wpl_allocB (z := zeroSoa) rfl (by decide +kernel) ?_
             intro w14 x14 s14 h14
             refine gset ?_
             refine wpl_storeB (v := .agg (soaZ q.o q.l).cells.toArray) rfl rfl rfl h14 (show sizeTy Tryz.prog 61 7 = true by decide +kernel) rfl (soaR_one _) ?_
             intro w15 p15
             have x1315 : Ext w13 w15 := x14.move p15.mv (by rintro k ⟨⟩; exact Nat.le_refl _)
             have hs15 : w15.heap[w13.heap.size]? = some (.cells (soaZ q.o q.l).cells.toArray 61 (0, 0)) := p15.this
             have x1215 := x13.trans x1315
             have hxd := hxc.trans x1215
             have hbd := x1215.at hbc
             have hbod := x1215.at hboc
             have hkd := x1215.at hkc
             have hOd := hOc.ext x1215
             generalize w13.heap.size = sk at *
             clear p15 h14 x14 hbc hboc hkc hOc hpz12 x1315
             have hps := pts_block (cs := (soaZ q.o q.l).cells) hs15
             have qa : Pts w15 (partPtr (.pointer (some ⟨sk, 0, none⟩)) 2) [.int .i64 (soaZ q.o q.l).serial, .int .i64 (soaZ q.o q.l).refresh, .int .i64 (soaZ q.o q.l).retry, .int .i64 (soaZ q.o q.l).expire, .int .i64 (soaZ q.o q.l).minimum] := hps.part 2
             have hgd := dn _ (headOf_mem hl0)
             have hptd := hpt0.ext hxd
             have hld := hl.ext hxd
             (repeat' first | ((with_reducible refine nx0 ?_); go_step) | ((with_reducible refine o_s ?_); first | refine wk1 ?_ | (refine wg0 ?_ ?_ <;> intro hc)) | fail)
             refine wpq_region (by decide +kernel) (by decide +kernel) ?_
             (try ((with_reducible refine qh0 ?_); refine qk1 ?_))
             refine wpq_call (enters_of Tryz.func116 rfl rfl) rfl rfl (fun w' _ => r16_serial (headOf l) w' (by omega)) ?_
             refine gset ?_
             (try ((with_reducible refine qh0 ?_); refine qk1 ?_))
             intro w18 x18
             have hxe := hxd.trans x18
             have hbe := x18.at hbd
             have hboe := x18.at hbod
             have hke := x18.at hkd
             have hOe := hOd.ext x18
             have hse := x18.at hs15
             clear hbd hbod hkd hOd qa hps hs15 hptd x18 x13 x1215 hxd hxc
             by_cases hser : (soaZ q.o q.l).serial = serOf (headOf l)
             ·have hser' : (!decide ((soaZ q.o q.l).serial = serOf (headOf l))) = false := by rw [decide_eq_true hser]; rfl
              rw [if_neg (by simp [hser])] at hI
              rw [hser']
              have hpo18 := (pts_block (cs := [str oo, v]) hboe)
              have hpo18' : Pts w18 (partPtr (.pointer (some ⟨bo, 0, none⟩)) 1) [v] := hpo18.part 1
              obtain ⟨cv, hcv, hcl⟩ := (hv.ext hxe).sl
              by_cases hlo : lo = []
              ·exact absurd hlo d2
              ·have hc0' : 0 < cv.length := by rw [hcl]; exact List.length_pos_iff.2 hlo
               (repeat' first | ((with_reducible refine nx0 ?_); go_step) | ((with_reducible refine o_s ?_); first | refine wk1 ?_ | (refine wg0 ?_ ?_ <;> intro hc)) | fail)
               have hsze := hxe.size
               refine wpl_callV (enters_of Tryz.func96 rfl rfl) rfl rfl (r8_Soa oo v lo _ (hv.ext hxe) bl (fun s hs d hd => by have := dl s hs d hd; omega)) ?_; intro w19 x19; refine gset ?_
               (repeat' first | ((with_reducible refine nx0 ?_); go_step) | ((with_reducible refine o_s ?_); first | refine wk1 ?_ | (refine wg0 ?_ ?_ <;> intro hc)) | fail)
               refine wpl_allocB (z := zeroSoa) rfl (by decide +kernel) ?_
               intro w20 x20 s20 h20
               refine gset ?_
               refine wpl_storeB (v := .agg (soaZ oo lo).cells.toArray) rfl rfl rfl h20 (show sizeTy Tryz.prog 61 7 = true by decide +kernel) rfl (soaR_one _) ?_
               intro w21 p21
               have x1921 : Ext w19 w21 := x20.move p21.mv (by rintro k ⟨⟩; exact Nat.le_refl _)
               have hs21 : w21.heap[w19.heap.size]? = some (.cells (soaZ oo lo).cells.toArray 61 (0, 0)) := p21.this
               have x1821 := x19.trans x1921
               have hxf := hxe.trans x1821
               have hbf := x1821.at hbe
               have hkf := x1821.at hke
               have hOf := hOe.ext x1821
               have hsf := x1821.at hse
               generalize w19.heap.size = tk' at *
               clear p21 h20 x20 hbe hke hOe hse x1921 hboe hpo18 hpo18' hcv x19
               have qa := pts_block (cs := (soaZ q.o q.l).cells) hsf
               have qb := pts_block (cs := (soaZ oo lo).cells) hs21
               have qa' : Pts w21 (partPtr (.pointer (some ⟨sk, 0, none⟩)) 2) [.int .i64 (soaZ q.o q.l).serial, .int .i64 (soaZ q.o q.l).refresh, .int .i64 (soaZ q.o q.l).retry, .int .i64 (soaZ q.o q.l).expire, .int .i64 (soaZ q.o q.l).minimum] := qa.part 2
               have qb' : Pts w21 (partPtr (.pointer (some ⟨tk', 0, none⟩)) 2) [.int .i64 (soaZ oo lo).serial, .int .i64 (soaZ oo lo).refresh, .int .i64 (soaZ oo lo).retry, .int .i64 (soaZ oo lo).expire, .int .i64 (soaZ oo lo).minimum] := qb.part 2
               have hszf := hxf.size
               clear x1821 hxe
               (repeat' first | ((with_reducible refine nx0 ?_); go_step) | ((with_reducible refine o_s ?_); first | refine wk1 ?_ | (refine wg0 ?_ ?_ <;> intro hc)) | fail)
               refine wpl_callV (enters_of Tryz.func97 rfl rfl) rfl rfl (r2_Later _ _ _) ?_; intro w22 x22; refine gset ?_
               have hpzf := pts_block (cs := [str q.o, y]) (x22.at hkf)
               cases hlt : laterB (soaZ q.o q.l).serial (soaZ oo lo).serial with
               | false =>
                rw [if_pos ⟨hlo, hlt⟩] at hI
                (repeat' first | ((with_reducible refine nx0 ?_); go_step) | ((with_reducible refine o_s ?_); first | refine wk1 ?_ | (refine wg0 ?_ ?_ <;> intro hc)) | fail)
                refine wpl_run (v := .agg zzone.toArray) rfl (Runs.build0 (by kernel_rfl)) ?_; refine gset ?_; (repeat' first | ((with_reducible refine nx0 ?_); go_step) | ((with_reducible refine o_s ?_); first | refine wk1 ?_ | (refine wg0 ?_ ?_ <;> intro hc)) | fail); refine wpl_storeB (v := .agg zzone.toArray) rfl rfl rfl (x22.at hbf) (show sizeTy Tryz.prog 34 2 = true by decide +kernel) rfl (by decide +kernel) ?_; intro wz pz; (repeat' first | ((with_reducible refine nx0 ?_); go_step) | ((with_reducible refine o_s ?_); first | refine wk1 ?_ | (refine wg0 ?_ ?_ <;> intro hc)) | fail); refine bodyPost_ret (results_cellT (cs := zzone) rfl rfl pz.this (by decide +kernel)) rfl ⟨_, rfl, Ext.move (hxf.trans x22) pz.mv (by rintro k ⟨⟩; omega), ?_⟩; rw [hI]
                exact ZEU.bad
               | true =>
                rw [if_neg (by rintro ⟨_, e⟩; rw [hlt] at e; cases e)] at hI
                (repeat' first | ((with_reducible refine nx0 ?_); go_step) | ((with_reducible refine o_s ?_); first | refine wk1 ?_ | (refine wg0 ?_ ?_ <;> intro hc)) | fail)
                refine wpl_callR (enters_of Tryz.func51 rfl rfl) rfl rfl (r8_Copy q.o y q.l _ (hOf.ext x22).sets (by omega) (fun s hs => by have := zb s hs; omega)) ?_
                rintro _ wC xC ⟨yc, rfl, hyc⟩
                have hyc1 : yc.oneCell' = true := by obtain ⟨_, hq, _⟩ := hyc.sets.sl; exact hq.one
                refine gset ?_
                (repeat' first | ((with_reducible refine nx0 ?_); go_step) | ((with_reducible refine o_s ?_); first | refine wk1 ?_ | (refine wg0 ?_ ?_ <;> intro hc)) | fail)
                refine wpl_storeB (v := .agg #[str q.o, yc]) rfl rfl rfl (xC.at (x22.at hbf)) (show sizeTy Tryz.prog 34 2 = true by decide +kernel) rfl (zone_one hyc1) ?_
                intro wz pz
                (repeat' first | ((with_reducible refine nx0 ?_); go_step) | ((with_reducible refine o_s ?_); first | refine wk1 ?_ | (refine wg0 ?_ ?_ <;> intro hc)) | fail)
                have xz : Ext w wz := ((hxf.trans x22).trans xC).move pz.mv (by rintro k ⟨⟩; omega)
                have hOz := (hyc.toO (Nat.le_refl _)).put pz (lt_of_some (x22.at hbf))
                refine bodyPost_ret (results_cellT (cs := [str q.o, yc]) rfl rfl pz.this (show aggTy Tryz.prog 34 2 = true by decide +kernel)) rfl ⟨_, rfl, xz, ?_⟩
                rw [hI]
                exact ⟨yc, by rw [he]; rfl, hOz.weaken (by have := (hxf.trans x22).size; omega)⟩
             ·have hser' : (!decide ((soaZ q.o q.l).serial = serOf (headOf l))) = true := by rw [decide_eq_false hser]; rfl
              rw [if_pos hser] at hI
              rw [hser']
              (repeat' first | ((with_reducible refine nx0 ?_); go_step) | ((with_reducible refine o_s ?_); first | refine wk1 ?_ | (refine wg0 ?_ ?_ <;> intro hc)) | fail)
              refine wpl_run (v := .agg zzone.toArray) rfl (Runs.build0 (by kernel_rfl)) ?_; refine gset ?_; (repeat' first | ((with_reducible refine nx0 ?_); go_step) | ((with_reducible refine o_s ?_); first | refine wk1 ?_ | (refine wg0 ?_ ?_ <;> intro hc)) | fail); refine wpl_storeB (v := .agg zzone.toArray) rfl rfl rfl (hbe) (show sizeTy Tryz.prog 34 2 = true by decide +kernel) rfl (by decide +kernel) ?_; intro wz pz; (repeat' first | ((with_reducible refine nx0 ?_); go_step) | ((with_reducible refine o_s ?_); first | refine wk1 ?_ | (refine wg0 ?_ ?_ <;> intro hc)) | fail); refine bodyPost_ret (results_cellT (cs := zzone) rfl rfl pz.this (by decide +kernel)) rfl ⟨_, rfl, Ext.move (hxe) pz.mv (by rintro k ⟨⟩; omega), ?_⟩; rw [hI]
              exact ZEU.bad
            ·rw [if_pos he] at hI
             (repeat' first | ((with_reducible refine nx0 ?_); go_step) | ((with_reducible refine o_s ?_); first | refine wk1 ?_ | (refine wg0 ?_ ?_ <;> intro hc)) | fail)
             all_goals first
              | (exfalso; have hh := ‹(!decide (q.e = 0)) = false›; rw [decide_eq_false he] at hh; cases hh; done)
              | skip
             refine wpl_run (v := .agg zzone.toArray) rfl (Runs.build0 (by kernel_rfl)) ?_; refine gset ?_; (repeat' first | ((with_reducible refine nx0 ?_); go_step) | ((with_reducible refine o_s ?_); first | refine wk1 ?_ | (refine wg0 ?_ ?_ <;> intro hc)) | fail); refine wpl_storeB (v := .agg zzone.toArray) rfl rfl rfl (hbc) (show sizeTy Tryz.prog 34 2 = true by decide +kernel) rfl (by decide +kernel) ?_; intro wz pz; (repeat' first | ((with_reducible refine nx0 ?_); go_step) | ((with_reducible refine o_s ?_); first | refine wk1 ?_ | (refine wg0 ?_ ?_ <;> intro hc)) | fail); refine bodyPost_ret (results_cellT (cs := zzone) rfl rfl pz.this (by decide +kernel)) rfl ⟨_, rfl, Ext.move (hxc) pz.mv (by rintro k ⟨⟩; omega), ?_⟩; rw [hI]
             exact ZEU.bad
          ·have hT : toldZ oo lo og l = ⟨loadE og l.dropLast, loadO og l.dropLast, loadL og l.dropLast⟩ := by
            rw [toldZ, if_pos (show isSoaR (l.getD 1 zeroRec) = false from decide_eq_false d1)]
           rw [hT] at hI hok
           obtain ⟨q, hq⟩ : ∃ q, q = toldZ oo lo og l := ⟨_, rfl⟩
           rw [← hq] at hT
           rw [← hT] at hI hok
           have hld := fun w' (x' : Ext w10 w') => r8_Load og (cutSl lv 4 0 last) l.dropLast w' (hcut.ext x') (by rw [List.length_dropLast]; omega) (fun r hr => by have := dn r ((List.dropLast_sublist l).subset hr); omega)
           unfold LoadU at hld
           rw [show loadE og l.dropLast = q.e by rw [hT], show loadO og l.dropLast = q.o by rw [hT], show loadL og l.dropLast = q.l by rw [hT]] at hld
           (repeat' first | ((with_reducible refine nx0 ?_); go_step) | ((with_reducible refine o_s ?_); first | refine wk1 ?_ | (refine wg0 ?_ ?_ <;> intro hc)) | fail)
           all_goals first
            | (exfalso; have hh := ‹(!decide ((l.getD 1 zeroRec).kind = 6)) = false›; rw [decide_eq_false d1] at hh; cases hh; done)
            | skip
           refine wpl_callR (enters_of Tryz.func114 rfl rfl) rfl rfl (hld _ (Ext.refl _)) ?_
           rintro _ w11 x11 ⟨y, rfl, hO⟩
           refine gset ?_
           (repeat' first | ((with_reducible refine nx0 ?_); go_step) | ((with_reducible refine o_s ?_); first | refine wk1 ?_ | (refine wg0 ?_ ?_ <;> intro hc)) | fail)
           have hy1 : y.oneCell' = true := by obtain ⟨_, hq, _⟩ := hO.sets.sl; exact hq.one
           refine wpl_storeB (v := .agg #[str q.o, y]) rfl rfl rfl (x11.at hk10) (show sizeTy Tryz.prog 34 2 = true by decide +kernel) rfl (zone_one hy1) ?_
           intro w12 p12
           have hxc : Ext w w12 := (hx10.trans x11).move p12.mv (by rintro k ⟨⟩; omega)
           have hbc := p12.at (x11.at hb10) (by omega)
           have hboc := p12.at (x11.at hb110) (by omega)
           have hkc : w12.heap[zk]? = some (.cells [str q.o, y].toArray 34 (0, 0)) := p12.this
           have hOc := (hO.put p12 (by omega)).weaken (show w.heap.size ≤ _ by omega)
           clear hO p12 x11 hb10 hb110 hk10 hpt10 hcut
           by_cases he : q.e = 0
           ·rw [if_neg (by simp [he])] at hI
            have hpz12 := pts_block (cs := [str q.o, y]) hkc
            have hz := hok he (by omega)
            obtain ⟨zl, zb, zd, zr⟩ := zoneJ hz
            (repeat' first | ((with_reducible refine nx0 ?_); go_step) | ((with_reducible refine o_s ?_); first | refine wk1 ?_ | (refine wg0 ?_ ?_ <;> intro hc)) | fail)
            all_goals first
             | (exfalso; have hh := ‹(!decide (q.e = 0)) = true›; rw [he] at hh; cases hh; done)
             | skip
            refine wpl_callV (enters_of Tryz.func96 rfl rfl) rfl rfl (r8_Soa q.o y q.l _ hOc.sets (fun s hs => by have := zb s hs; omega) (fun s hs d hd => by have := zd s hs d hd; omega)) ?_; intro w13 x13; refine gset ?_
            (repeat' first | ((with_reducible refine nx0 ?_); go_step) | ((with_reducible refine o_s ?_); first | refine wk1 ?_ | (refine wg0 ?_ ?_ <;> intro hc)) | fail)
            refine wpl_allocB (z := zeroSoa) rfl (by decide +kernel) ?_
            intro w14 x14 s14 h14
            refine gset ?_
            refine wpl_storeB (v := .agg (soaZ q.o q.l).cells.toArray) rfl rfl rfl h14 (show sizeTy Tryz.prog 61 7 = true by decide +kernel) rfl (soaR_one _) ?_
            intro w15 p15
            have x1315 : Ext w13 w15 := x14.move p15.mv (by rintro k ⟨⟩; exact Nat.le_refl _)
            have hs15 : w15.heap[w13.heap.size]? = some (.cells (soaZ q.o q.l).cells.toArray 61 (0, 0)) := p15.this
            have x1215 := x13.trans x1315
            have hxd := hxc.trans x1215
            have hbd := x1215.at hbc
            have hbod := x1215.at hboc
            have hkd := x1215.at hkc
            have hOd := hOc.ext x1215
            generalize w13.heap.size = sk at *
            clear p15 h14 x14 hbc hboc hkc hOc hpz12 x1315
            have hps := pts_block (cs := (soaZ q.o q.l).cells) hs15
            have qa : Pts w15 (partPtr (.pointer (some ⟨sk, 0, none⟩)) 2) [.int .i64 (soaZ q.o q.l).serial, .int .i64 (soaZ q.o q.l).refresh, .int .i64 (soaZ q.o q.l).retry, .int .i64 (soaZ q.o q.l).expire, .int .i64 (soaZ q.o q.l).minimum] := hps.part 2
            have hgd := dn _ (headOf_mem hl0)
            have hptd := hpt0.ext hxd
            have hld := hl.ext hxd
            (repeat' first | ((with_reducible refine nx0 ?_); go_step) | ((with_reducible refine o_s ?_); first | refine wk1 ?_ | (refine wg0 ?_ ?_ <;> intro hc)) | fail)
            refine wpq_region (by decide +kernel) (by decide +kernel) ?_
            (try ((with_reducible refine qh0 ?_); refine qk1 ?_))
            refine wpq_call (enters_of Tryz.func116 rfl rfl) rfl rfl (fun w' _ => r16_serial (headOf l) w' (by omega)) ?_
            refine gset ?_
            (try ((with_reducible refine qh0 ?_); refine qk1 ?_))
            intro w18 x18
            have hxe := hxd.trans x18
            have hbe := x18.at hbd
            have hboe := x18.at hbod
            have hke := x18.at hkd
            have hOe := hOd.ext x18
            have hse := x18.at hs15
            clear hbd hbod hkd hOd qa hps hs15 hptd x18 x13 x1215 hxd hxc
            by_cases hser : (soaZ q.o q.l).serial = serOf (headOf l)
            ·have hser' : (!decide ((soaZ q.o q.l).serial = serOf (headOf l))) = false := by rw [decide_eq_true hser]; rfl
             rw [if_neg (by simp [hser])] at hI
             rw [hser']
             have hpo18 := (pts_block (cs := [str oo, v]) hboe)
             have hpo18' : Pts w18 (partPtr (.pointer (some ⟨bo, 0, none⟩)) 1) [v] := hpo18.part 1
             obtain ⟨cv, hcv, hcl⟩ := (hv.ext hxe).sl
             by_cases hlo : lo = []
             ·have hc0' : cv.length = 0 := by rw [hcl, hlo]; rfl
              rw [if_neg (by rintro ⟨e, _⟩; exact e hlo)] at hI
              have hpzf := pts_block (cs := [str q.o, y]) hke
              have hsze := hxe.size
              (repeat' first | ((with_reducible refine nx0 ?_); go_step) | ((with_reducible refine o_s ?_); first | refine wk1 ?_ | (refine wg0 ?_ ?_ <;> intro hc)) | fail)
              refine wpl_callR (enters_of Tryz.func51 rfl rfl) rfl rfl (r8_Copy q.o y q.l _ hOe.sets (by omega) (fun s hs => by have := zb s hs; omega)) ?_
              rintro _ wC xC ⟨yc, rfl, hyc⟩
              have hyc1 : yc.oneCell' = true := by obtain ⟨_, hq, _⟩ := hyc.sets.sl; exact hq.one
              refine gset ?_
              (repeat' first | ((with_reducible refine nx0 ?_); go_step) | ((with_reducible refine o_s ?_); first | refine wk1 ?_ | (refine wg0 ?_ ?_ <;> intro hc)) | fail)
              refine wpl_storeB (v := .agg #[str q.o, yc]) rfl rfl rfl (xC.at hbe) (show sizeTy Tryz.prog 34 2 = true by decide +kernel) rfl (zone_one hyc1) ?_
              intro wz pz
              (repeat' first | ((with_reducible refine nx0 ?_); go_step) | ((with_reducible refine o_s ?_); first | refine wk1 ?_ | (refine wg0 ?_ ?_ <;> intro hc)) | fail)
              have xz : Ext w wz := (hxe.trans xC).move pz.mv (by rintro k ⟨⟩; omega)
              have hOz := (hyc.toO (Nat.le_refl _)).put pz (lt_of_some hbe)
              refine bodyPost_ret (results_cellT (cs := [str q.o, yc]) rfl rfl pz.this (show aggTy Tryz.prog 34 2 = true by decide +kernel)) rfl ⟨_, rfl, xz, ?_⟩
              rw [hI]
              exact ⟨yc, by rw [he]; rfl, hOz.weaken (by have := hxe.size; omega)⟩
             ·have hc0' : 0 < cv.length := by rw [hcl]; exact List.length_pos_iff.2 hlo
              (repeat' first | ((with_reducible refine nx0 ?_); go_step) | ((with_reducible refine o_s ?_); first | refine wk1 ?_ | (refine wg0 ?_ ?_ <;> intro hc)) | fail)
              have hsze := hxe.size
              refine wpl_callV (enters_of Tryz.func96 rfl rfl) rfl rfl (r8_Soa oo v lo _ (hv.ext hxe) bl (fun s hs d hd => by have := dl s hs d hd; omega)) ?_; intro w19 x19; refine gset ?_
              (repeat' first | ((with_reducible refine nx0 ?_); go_step) | ((with_reducible refine o_s ?_); first | refine wk1 ?_ | (refine wg0 ?_ ?_ <;> intro hc)) | fail)
              refine wpl_allocB (z := zeroSoa) rfl (by decide +kernel) ?_
              intro w20 x20 s20 h20
              refine gset ?_
              refine wpl_storeB (v := .agg (soaZ oo lo).cells.toArray) rfl rfl rfl h20 (show sizeTy Tryz.prog 61 7 = true by decide +kernel) rfl (soaR_one _) ?_
              intro w21 p21
              have x1921 : Ext w19 w21 := x20.move p21.mv (by rintro k ⟨⟩; exact Nat.le_refl _)
              have hs21 : w21.heap[w19.heap.size]? = some (.cells (soaZ oo lo).cells.toArray 61 (0, 0)) := p21.this
              have x1821 := x19.trans x1921
              have hxf := hxe.trans x1821
              have hbf := x1821.at hbe
              have hkf := x1821.at hke
              have hOf := hOe.ext x1821
              have hsf := x1821.at hse
              generalize w19.heap.size = tk' at *
              clear p21 h20 x20 hbe hke hOe hse x1921 hboe hpo18 hpo18' hcv x19
              have qa := pts_block (cs := (soaZ q.o q.l).cells) hsf
              have qb := pts_block (cs := (soaZ oo lo).cells) hs21
              have qa' : Pts w21 (partPtr (.pointer (some ⟨sk, 0, none⟩)) 2) [.int .i64 (soaZ q.o q.l).serial, .int .i64 (soaZ q.o q.l).refresh, .int .i64 (soaZ q.o q.l).retry, .int .i64 (soaZ q.o q.l).expire, .int .i64 (soaZ q.o q.l).minimum] := qa.part 2
              have qb' : Pts w21 (partPtr (.pointer (some ⟨tk', 0, none⟩)) 2) [.int .i64 (soaZ oo lo).serial, .int .i64 (soaZ oo lo).refresh, .int .i64 (soaZ oo lo).retry, .int .i64 (soaZ oo lo).expire, .int .i64 (soaZ oo lo).minimum] := qb.part 2
              have hszf := hxf.size
              clear x1821 hxe
              (repeat' first | ((with_reducible refine nx0 ?_); go_step) | ((with_reducible refine o_s ?_); first | refine wk1 ?_ | (refine wg0 ?_ ?_ <;> intro hc)) | fail)
              refine wpl_callV (enters_of Tryz.func97 rfl rfl) rfl rfl (r2_Later _ _ _) ?_; intro w22 x22; refine gset ?_
              have hpzf := pts_block (cs := [str q.o, y]) (x22.at hkf)
              cases hlt : laterB (soaZ q.o q.l).serial (soaZ oo lo).serial with
              | false =>
               rw [if_pos ⟨hlo, hlt⟩] at hI
               (repeat' first | ((with_reducible refine nx0 ?_); go_step) | ((with_reducible refine o_s ?_); first | refine wk1 ?_ | (refine wg0 ?_ ?_ <;> intro hc)) | fail)
               refine wpl_run (v := .agg zzone.toArray) rfl (Runs.build0 (by kernel_rfl)) ?_; refine gset ?_; (repeat' first | ((with_reducible refine nx0 ?_); go_step) | ((with_reducible refine o_s ?_); first | refine wk1 ?_ | (refine wg0 ?_ ?_ <;> intro hc)) | fail); refine wpl_storeB (v := .agg zzone.toArray) rfl rfl rfl (x22.at hbf) (show sizeTy Tryz.prog 34 2 = true by decide +kernel) rfl (by decide +kernel) ?_; intro wz pz; (repeat' first | ((with_reducible refine nx0 ?_); go_step) | ((with_reducible refine o_s ?_); first | refine wk1 ?_ | (refine wg0 ?_ ?_ <;> intro hc)) | fail); refine bodyPost_ret (results_cellT (cs := zzone) rfl rfl pz.this (by decide +kernel)) rfl ⟨_, rfl, Ext.move (hxf.trans x22) pz.mv (by rintro k ⟨⟩; omega), ?_⟩; rw [hI]
               exact ZEU.bad
              | true =>
               rw [if_neg (by rintro ⟨_, e⟩; rw [hlt] at e; cases e)] at hI
               (repeat' first | ((with_reducible refine nx0 ?_); go_step) | ((with_reducible refine o_s ?_); first | refine wk1 ?_ | (refine wg0 ?_ ?_ <;> intro hc)) | fail)
               refine wpl_callR (enters_of Tryz.func51 rfl rfl) rfl rfl (r8_Copy q.o y q.l _ (hOf.ext x22).sets (by omega) (fun s hs => by have := zb s hs; omega)) ?_
               rintro _ wC xC ⟨yc, rfl, hyc⟩
               have hyc1 : yc.oneCell' = true := by obtain ⟨_, hq, _⟩ := hyc.sets.sl; exact hq.one
               refine gset ?_
               (repeat' first | ((with_reducible refine nx0 ?_); go_step) | ((with_reducible refine o_s ?_); first | refine wk1 ?_ | (refine wg0 ?_ ?_ <;> intro hc)) | fail)
               refine wpl_storeB (v := .agg #[str q.o, yc]) rfl rfl rfl (xC.at (x22.at hbf)) (show sizeTy Tryz.prog 34 2 = true by decide +kernel) rfl (zone_one hyc1) ?_
               intro wz pz
               (repeat' first | ((with_reducible refine nx0 ?_); go_step) | ((with_reducible refine o_s ?_); first | refine wk1 ?_ | (refine wg0 ?_ ?_ <;> intro hc)) | fail)
               have xz : Ext w wz := ((hxf.trans x22).trans xC).move pz.mv (by rintro k ⟨⟩; omega)
               have hOz := (hyc.toO (Nat.le_refl _)).put pz (lt_of_some (x22.at hbf))
               refine bodyPost_ret (results_cellT (cs := [str q.o, yc]) rfl rfl pz.this (show aggTy Tryz.prog 34 2 = true by decide +kernel)) rfl ⟨_, rfl, xz, ?_⟩
               rw [hI]
               exact ⟨yc, by rw [he]; rfl, hOz.weaken (by have := (hxf.trans x22).size; omega)⟩
            ·have hser' : (!decide ((soaZ q.o q.l).serial = serOf (headOf l))) = true := by rw [decide_eq_false hser]; rfl
             rw [if_pos hser] at hI
             rw [hser']
             (repeat' first | ((with_reducible refine nx0 ?_); go_step) | ((with_reducible refine o_s ?_); first | refine wk1 ?_ | (refine wg0 ?_ ?_ <;> intro hc)) | fail)
             refine wpl_run (v := .agg zzone.toArray) rfl (Runs.build0 (by kernel_rfl)) ?_; refine gset ?_; (repeat' first | ((with_reducible refine nx0 ?_); go_step) | ((with_reducible refine o_s ?_); first | refine wk1 ?_ | (refine wg0 ?_ ?_ <;> intro hc)) | fail); refine wpl_storeB (v := .agg zzone.toArray) rfl rfl rfl (hbe) (show sizeTy Tryz.prog 34 2 = true by decide +kernel) rfl (by decide +kernel) ?_; intro wz pz; (repeat' first | ((with_reducible refine nx0 ?_); go_step) | ((with_reducible refine o_s ?_); first | refine wk1 ?_ | (refine wg0 ?_ ?_ <;> intro hc)) | fail); refine bodyPost_ret (results_cellT (cs := zzone) rfl rfl pz.this (by decide +kernel)) rfl ⟨_, rfl, Ext.move (hxe) pz.mv (by rintro k ⟨⟩; omega), ?_⟩; rw [hI]
             exact ZEU.bad
           ·rw [if_pos he] at hI
            (repeat' first | ((with_reducible refine nx0 ?_); go_step) | ((with_reducible refine o_s ?_); first | refine wk1 ?_ | (refine wg0 ?_ ?_ <;> intro hc)) | fail)
            all_goals first
             | (exfalso; have hh := ‹(!decide (q.e = 0)) = false›; rw [decide_eq_false he] at hh; cases hh; done)
             | skip
            refine wpl_run (v := .agg zzone.toArray) rfl (Runs.build0 (by kernel_rfl)) ?_; refine gset ?_; (repeat' first | ((with_reducible refine nx0 ?_); go_step) | ((with_reducible refine o_s ?_); first | refine wk1 ?_ | (refine wg0 ?_ ?_ <;> intro hc)) | fail); refine wpl_storeB (v := .agg zzone.toArray) rfl rfl rfl (hbc) (show sizeTy Tryz.prog 34 2 = true by decide +kernel) rfl (by decide +kernel) ?_; intro wz pz; (repeat' first | ((with_reducible refine nx0 ?_); go_step) | ((with_reducible refine o_s ?_); first | refine wk1 ?_ | (refine wg0 ?_ ?_ <;> intro hc)) | fail); refine bodyPost_ret (results_cellT (cs := zzone) rfl rfl pz.this (by decide +kernel)) rfl ⟨_, rfl, Ext.move (hxc) pz.mv (by rintro k ⟨⟩; omega), ?_⟩; rw [hI]
            exact ZEU.bad
         ·have hE : instZ oo lo og l = ZE.bad 3 := by rw [instZ, if_neg q1, if_neg hl0, if_neg q2, if_neg hl1, if_pos (.inr (by rw [← hlast]; exact heq))]
          have heq' : (!decide (l.getD last zeroRec = headOf l)) = true := by rw [decide_eq_false heq]; rfl
          rw [heq']
          (repeat' first | ((with_reducible refine nx0 ?_); go_step) | ((with_reducible refine o_s ?_); first | refine wk1 ?_ | (refine wg0 ?_ ?_ <;> intro hc)) | fail)
          refine wpl_run (v := .agg zzone.toArray) rfl (Runs.build0 (by kernel_rfl)) ?_; refine gset ?_; (repeat' first | ((with_reducible refine nx0 ?_); go_step) | ((with_reducible refine o_s ?_); first | refine wk1 ?_ | (refine wg0 ?_ ?_ <;> intro hc)) | fail); refine wpl_storeB (v := .agg zzone.toArray) rfl rfl rfl (hb8) (show sizeTy Tryz.prog 34 2 = true by decide +kernel) rfl (by decide +kernel) ?_; intro wz pz; (repeat' first | ((with_reducible refine nx0 ?_); go_step) | ((with_reducible refine o_s ?_); first | refine wk1 ?_ | (refine wg0 ?_ ?_ <;> intro hc)) | fail); refine bodyPost_ret (results_cellT (cs := zzone) rfl rfl pz.this (by decide +kernel)) rfl ⟨_, rfl, Ext.move (hx8) pz.mv (by rintro k ⟨⟩; omega), ?_⟩; rw [hE]
          exact ZEU.bad
      ·have hE : instZ oo lo og l = ZE.bad 2 := by rw [instZ, if_neg q1, if_neg hl0, if_pos (.inr hfo)]
       have hfo' : (!decide (fold (headOf l).name = fold og)) = true := by simp [hfo]
       (repeat' first | ((with_reducible refine nx0 ?_); go_step) | ((with_reducible refine o_s ?_); first | refine wk1 ?_ | (refine wg0 ?_ ?_ <;> intro hc)) | fail)
       all_goals first
        | (exfalso; have hh := ‹(!decide (fold (headOf l).name = fold og)) = false›; rw [hfo'] at hh; cases hh; done)
        | skip
       refine wpl_run (v := .agg zzone.toArray) rfl (Runs.build0 (by kernel_rfl)) ?_; refine gset ?_; (repeat' first | ((with_reducible refine nx0 ?_); go_step) | ((with_reducible refine o_s ?_); first | refine wk1 ?_ | (refine wg0 ?_ ?_ <;> intro hc)) | fail); refine wpl_storeB (v := .agg zzone.toArray) rfl rfl rfl (hb7) (show sizeTy Tryz.prog 34 2 = true by decide +kernel) rfl (by decide +kernel) ?_; intro wz pz; (repeat' first | ((with_reducible refine nx0 ?_); go_step) | ((with_reducible refine o_s ?_); first | refine wk1 ?_ | (refine wg0 ?_ ?_ <;> intro hc)) | fail); refine bodyPost_ret (results_cellT (cs := zzone) rfl rfl pz.this (by decide +kernel)) rfl ⟨_, rfl, Ext.move (hx7) pz.mv (by rintro k ⟨⟩; omega), ?_⟩; rw [hE]
       exact ZEU.bad
     ·have hE : instZ oo lo og l = ZE.bad 2 := by rw [instZ, if_neg q1, if_neg hl0, if_pos (.inl (by simpa using hsoa))]
      have hk6 : ¬ (headOf l).kind = 6 := by simpa [isSoaR] using hsoa
      (repeat' first | ((with_reducible refine nx0 ?_); go_step) | ((with_reducible refine o_s ?_); first | refine wk1 ?_ | (refine wg0 ?_ ?_ <;> intro hc)) | fail)
      all_goals first
       | (exfalso; omega)
       | (exfalso; have hh := ‹(!decide ((headOf l).kind = 6)) = false›; simp [hk6] at hh; done)
       | skip
      refine wpl_run (v := .agg zzone.toArray) rfl (Runs.build0 (by kernel_rfl)) ?_; refine gset ?_; (repeat' first | ((with_reducible refine nx0 ?_); go_step) | ((with_reducible refine o_s ?_); first | refine wk1 ?_ | (refine wg0 ?_ ?_ <;> intro hc)) | fail); refine wpl_storeB (v := .agg zzone.toArray) rfl rfl rfl (hbr) (show sizeTy Tryz.prog 34 2 = true by decide +kernel) rfl (by decide +kernel) ?_; intro wz pz; (repeat' first | ((with_reducible refine nx0 ?_); go_step) | ((with_reducible refine o_s ?_); first | refine wk1 ?_ | (refine wg0 ?_ ?_ <;> intro hc)) | fail); refine bodyPost_ret (results_cellT (cs := zzone) rfl rfl pz.this (by decide +kernel)) rfl ⟨_, rfl, Ext.move (hxr) pz.mv (by rintro k ⟨⟩; omega), ?_⟩; rw [hE]
      exact ZEU.bad
 ·have hE : instZ oo lo og l = ZE.bad 1 := by rw [instZ, if_pos (.inl c1)]
  (repeat' first | ((with_reducible refine nx0 ?_); go_step) | ((with_reducible refine o_s ?_); first | refine wk1 ?_ | (refine wg0 ?_ ?_ <;> intro hc)) | fail)
  all_goals first
   | (exfalso; have hh := ‹(!decide (checkE og = 0)) = false›; simp [c1] at hh; done)
   | skip
  refine wpl_run (v := .agg zzone.toArray) rfl (Runs.build0 (by kernel_rfl)) ?_; refine gset ?_; (repeat' first | ((with_reducible refine nx0 ?_); go_step) | ((with_reducible refine o_s ?_); first | refine wk1 ?_ | (refine wg0 ?_ ?_ <;> intro hc)) | fail); refine wpl_storeB (v := .agg zzone.toArray) rfl rfl rfl (hb3) (show sizeTy Tryz.prog 34 2 = true by decide +kernel) rfl (by decide +kernel) ?_; intro wz pz; (repeat' first | ((with_reducible refine nx0 ?_); go_step) | ((with_reducible refine o_s ?_); first | refine wk1 ?_ | (refine wg0 ?_ ?_ <;> intro hc)) | fail); refine bodyPost_ret (results_cellT (cs := zzone) rfl rfl pz.this (by decide +kernel)) rfl ⟨_, rfl, Ext.move (hx3) pz.mv (by rintro k ⟨⟩; omega), ?_⟩; rw [hE]
  exact ZEU.bad
def kecPE (og : List UInt8) (retry : Int) (w' : World) (p : Value) (B : Nat) : Prop := if secE og retry = 0 then ∃ b, p = .pointer (some ⟨b, 0, none⟩) ∧ b < w'.heap.size ∧ B ≤ b ∧ KSt w'.heap.size w' b (secNew og retry) else p = .pointer none
set_option maxHeartbeats 1000000 in
theorem r17_New (og : List UInt8) (retry : Int) (w : World) : Calls Tryz.prog 26 #[str og, .int .i64 retry] w (Ret w fun r w' => ∃ p, r = .tuple #[p, .int .i64 (secE og retry)] ∧ kecPE og retry w' p w.heap.size) := by
 go_enter Tryz.func26, Tryz.ntmps26
 (repeat' first | ((with_reducible refine nx0 ?_); go_step) | ((with_reducible refine o_s ?_); first | refine wk1 ?_ | (refine wg0 ?_ ?_ <;> intro hc)) | fail)
 refine wpl_callV (enters_of Tryz.func73 rfl rfl) rfl rfl (r1_CheckE og w) ?_; intro w1 x1; refine gset ?_
 by_cases hE : secE og retry = 0
 ·have h0 := hE
  unfold secE at h0
  split at h0
  ·cases h0
  ·rename_i c
   have c1 : checkE og = 0 := Decidable.byContradiction fun e => c (.inl e)
   rw [c1]
   (repeat' first | ((with_reducible refine nx0 ?_); go_step) | ((with_reducible refine o_s ?_); first | refine wk1 ?_ | (refine wg0 ?_ ?_ <;> intro hc)) | fail)
   all_goals first
    | (exfalso; omega)
    | skip
   refine wpl_run (v := .agg (kecC (secNew og retry) (.slice none 0 0)).toArray) rfl (Runs.build rfl (by kernel_rfl)) ?_
   refine gset ?_
   refine wpl_boxB (vs := kecC (secNew og retry) (.slice none 0 0)) rfl rfl ?_
   intro w2 x2 s2 h2
   refine gset ?_
   (repeat' first | ((with_reducible refine nx0 ?_); go_step) | ((with_reducible refine o_s ?_); first | refine wk1 ?_ | (refine wg0 ?_ ?_ <;> intro hc)) | fail)
   go_ret2
   refine ⟨_, rfl, x1.trans x2, _, by rw [hE]; rfl, ?_⟩
   unfold kecPE
   rw [if_pos hE]
   exact ⟨_, rfl, by omega, x1.size, by omega, .slice none 0 0, h2, SetsO.nil _ _⟩
 ·have hE1 : secE og retry = 1 := by
   unfold secE at hE ⊢
   split at hE
   ·rename_i c; rw [if_pos c]
   ·exact absurd rfl hE
  have hnE : ¬ (checkE og = 0 ∧ 1 ≤ retry ∧ retry ≤ 2147483647) := by
   intro hh
   apply hE
   unfold secE
   rw [if_neg (by rintro (e | e | e) <;> omega)]
  (repeat' first | ((with_reducible refine nx0 ?_); go_step) | ((with_reducible refine o_s ?_); first | refine wk1 ?_ | (refine wg0 ?_ ?_ <;> intro hc)) | fail)
  all_goals first
   | (exfalso
      refine hnE ⟨?_, by omega, by omega⟩
      have hh := ‹(!decide (checkE og = 0)) = false›
      simpa using hh)
   | (go_ret2
      exact ⟨_, rfl, x1, .pointer none, by rw [hE1]; rfl, by unfold kecPE; rw [if_neg hE]⟩)
set_option maxHeartbeats 1000000 in
theorem r17_Got {B : Nat} {w : World} {b : Nat} {s : SecR} (h : KSt B w b s) (hs : SecOk s) (hB : B ≤ w.heap.size) (lv : Value) (l : List Rec) (now : Int) (hl : Sl 4 w lv (rcells l)) (h2 : l.length ≤ 5000) (dn : ∀ q ∈ l, q.data.length ≤ 1000000) :
 Calls Tryz.prog 31 #[.pointer (some ⟨b, 0, none⟩), lv, .int .i64 now] w fun e w' => e = .returned (.int .i64 (s.gotE l now)) ∧ KSt B w' b (s.got l now) ∧ Mv (some b) w w' := by
 obtain ⟨v, hb, hp, h1, hh2, h3, h5, h6, h7, hO⟩ := h.pts
 obtain ⟨bl, dl, br⟩ := hs.bounds
 go_enter Tryz.func31, Tryz.ntmps31
 (repeat' first | ((with_reducible refine nx0 ?_); go_step) | ((with_reducible refine o_s ?_); first | refine wk1 ?_ | (refine wg0 ?_ ?_ <;> intro hc)) | fail)
 refine wpl_callV (enters_of Tryz.func74 rfl rfl) rfl rfl (r12_Time now _) ?_; intro w1 x1; refine gset ?_
 cases ht : okTime now with
 | false =>
  (repeat' first | ((with_reducible refine nx0 ?_); go_step) | ((with_reducible refine o_s ?_); first | refine wk1 ?_ | (refine wg0 ?_ ?_ <;> intro hc)) | fail)
  go_ret
  refine ⟨by rw [SecR.gotE, if_pos ht]; rfl, ?_, x1.mv _⟩
  rw [SecR.got, if_pos ht]
  exact h.grow x1
 | true =>
  have q1 : ¬ okTime now = false := by simp [ht]
  have hE : s.gotE l now = (s.inst l).e := by rw [SecR.gotE, if_neg q1]
  have hG : s.got l now = if (s.inst l).e = 5 ∧ s.z.isSome = true then s.fresh now else if (s.inst l).e ≠ 0 then s.failed now else (s.withZ (s.inst l)).fresh now := by rw [SecR.got, if_neg q1]
  have hwz := hs.withZ (l := l)
  have h31 := h3.ext x1
  have hl1 := hl.ext x1
  have hp1 := hp.ext x1
  have hOg : Pts w1 (partPtr (.pointer (some ⟨b, 0, none⟩)) 0) (kecC s v) := hp1.part 0
  have hcI : ∀ w', Ext w1 w' → Calls Tryz.prog 53 #[.agg #[str s.o, v], str s.og, lv] w' (Ret w' (ZEU w'.heap.size (s.inst l))) := fun w' x' => r16_Install s.o v s.l s.og lv l w' ((hO.ext x1).ext x').sets (hl1.ext x') bl dl br h2 dn
  have hb1 := x1.at hb
  have hA1 := h.grow x1
  generalize s.inst l = q at *
  clear hp hp1
  (repeat' first | ((with_reducible refine nx0 ?_); go_step) | ((with_reducible refine o_s ?_); first | refine wk1 ?_ | (refine wg0 ?_ ?_ <;> intro hc)) | fail)
  refine wph_region (S := fun w' => Ext w1 w') (by decide +kernel) ?_
  intro w21 x21 hh21
  refine tk1 0 ?_; refine gset ?_; refine tk1 1 ?_; refine gset ?_; refine tk1 2 ?_; refine gset ?_; refine tk1 3 ?_; refine gset ?_; refine tk1 4 ?_; refine gset ?_; refine tk1 5 ?_; refine gset ?_; refine tk1 6 ?_; refine gset ?_; refine tk1 7 ?_; refine gset ?_; refine tk1 8 ?_; refine gset ?_
  refine join5s1 9 10 11 12 13 14 22 12 23 24 7 (fun b1 b2 b3 b4 b5 b6 => (!b2 || b1) && (!b3 || b2) && (!b4 || b2) && (!b6 || b1) && (!b6 || b3) && (!b6 || b5)) (fun b1 b2 b3 b4 b5 b6 => !b2 && !b6) (fun b1 b2 b3 b4 b5 b6 => b1 && !b3 && !b4) (fun b1 b2 b3 b4 b5 b6 => b2 && !b6) (fun b1 b2 b3 b4 b5 b6 => b2) (fun b1 b2 b3 b4 b5 b6 => !b6) (fun b1 b2 b3 b4 b5 b6 => b1 && b3 && b5) (fun b1 b2 b3 b4 b5 b6 v1 v2 v3 v4 v5 w' => ∃ y zk, y.oneCell' = true ∧ Ext w1 w' ∧ (b1 = true → v1 = .tuple #[.agg #[str q.o, y], .int .i64 q.e] ∧ SetsO w1.heap.size w' y q.l ∧ (b5 = true → ∀ w3, Mv (some zk) w' w3 → SetsO w1.heap.size w3 y q.l)) ∧ (b2 = true → v2 = .tuple #[.agg #[str q.o, y], .int .i64 q.e]) ∧ (b3 = true → v3 = .agg #[str q.o, y]) ∧ (b4 = true → v4 = .int .i64 q.e) ∧ (b5 = true → v5 = .pointer (some ⟨zk, 0, none⟩) ∧ w1.heap.size ≤ zk ∧ w'.heap[zk]? = some (.cells (bif b6 then [str q.o, y] else zzone).toArray 34 (0, 0)))) ?_ ?_ ?_ ?_ ?_ ?_ ?_ ?_
  ·exact ⟨.int .i64 0, 0, rfl, x21, by simp, by simp, by simp, by simp, by simp⟩
  ·rintro b1 b2 b3 b4 b5 b6 v1 v2 v3 v4 v5 w2 hq ⟨y0, zk, -, x2, f1, f2, f3, f4, f5⟩
   have hb2 : b2 = false := by revert hq; cases b2 <;> simp
   have hb6 : b6 = false := by revert hq; cases b6 <;> simp
   have hb3 : b3 = false := by revert hq; subst hb2; cases b3 <;> simp
   have hb4 : b4 = false := by revert hq; subst hb2; cases b4 <;> simp
   subst hb2 hb3 hb4 hb6
   refine gset ?_
   refine wpl_callR (enters_of Tryz.func53 rfl rfl) rfl rfl (hcI _ x2) ?_
   rintro _ w3 x3 hU
   obtain ⟨y, rfl, hOy, hy1⟩ := hU.cell
   refine gset ?_
   refine wph_nil ⟨x2.trans x3, _, rfl, y, zk, hy1, x2.trans x3, fun _ => ⟨rfl, hOy.weaken x2.size, fun e w4 m4 => ?_⟩, by simp, by simp, by simp, fun e => ?_⟩
   ·obtain ⟨g1, g2, g3⟩ := f5 e
    exact (hOy.mvb m4 (lt_of_some g3)).weaken x2.size
   ·obtain ⟨g1, g2, g3⟩ := f5 e
    exact ⟨g1, g2, x3.at g3⟩
  ·rintro b1 b2 b3 b4 b5 b6 v1 v2 v3 v4 v5 w2 hq ⟨y, zk, hy, x2, f1, f2, f3, f4, f5⟩
   have hb1 : b1 = true := by revert hq; cases b1 <;> simp
   have hb3 : b3 = false := by revert hq; cases b3 <;> simp
   have hb4 : b4 = false := by revert hq; cases b4 <;> simp
   subst hb1 hb3 hb4
   obtain ⟨rfl, g1⟩ := f1 rfl
   refine gset ?_
   ((with_reducible refine o_s ?_); (first | (refine o_1 ?_; refine o_21 ?_) | (refine o_g ?_; refine o_u ?_; (with_reducible refine o_s ?_); refine o_1 ?_; refine o_21 ?_)))
   refine wph_nil ⟨x2, _, rfl, y, zk, hy, x2, fun _ => ⟨rfl, g1⟩, fun _ => rfl, by simp, by simp, f5⟩
  ·rintro b1 b2 b3 b4 b5 b6 v1 v2 v3 v4 v5 w2 hq ⟨y, zk, hy, x2, f1, f2, f3, f4, f5⟩
   have hb2 : b2 = true := by revert hq; cases b2 <;> simp
   have hb6 : b6 = false := by revert hq; cases b6 <;> simp
   subst hb2 hb6
   have g2 := f2 rfl
   subst g2
   refine gset ?_
   ((with_reducible refine o_s ?_); (first | (refine o_1 ?_; refine o_21 ?_) | (refine o_g ?_; refine o_u ?_; (with_reducible refine o_s ?_); refine o_1 ?_; refine o_21 ?_)))
   refine wph_nil ⟨x2, _, rfl, y, zk, hy, x2, f1, fun _ => rfl, fun _ => rfl, f4, f5⟩
  ·rintro b1 b2 b3 b4 b5 b6 v1 v2 v3 v4 v5 w2 hq ⟨y, zk, hy, x2, f1, f2, f3, f4, f5⟩
   have hb2 : b2 = true := by revert hq; cases b2 <;> simp
   subst hb2
   have g2 := f2 rfl
   subst g2
   refine gset ?_
   ((with_reducible refine o_s ?_); (first | (refine o_1 ?_; refine o_21 ?_) | (refine o_g ?_; refine o_u ?_; (with_reducible refine o_s ?_); refine o_1 ?_; refine o_21 ?_)))
   refine wph_nil ⟨x2, _, rfl, y, zk, hy, x2, f1, fun _ => rfl, f3, fun _ => rfl, f5⟩
  ·rintro b1 b2 b3 b4 b5 b6 v1 v2 v3 v4 v5 w2 hq ⟨y, zk, hy, x2, f1, f2, f3, f4, f5⟩
   have hb6 : b6 = false := by revert hq; cases b6 <;> simp
   subst hb6
   refine gset ?_
   refine wpl_allocB (z := zzone) rfl (by decide +kernel) ?_
   intro w3 x3 s3 h3
   refine gset ?_
   refine wph_nil ⟨x2.trans x3, _, rfl, y, _, hy, x2.trans x3, fun e => ⟨(f1 e).1, (f1 e).2.1.ext x3, fun _ w4 m4 => ?_⟩, f2, f3, f4, fun _ => ⟨rfl, x2.size, h3⟩⟩
   exact (f1 e).2.1.ext (x3.move m4 (by rintro k ⟨⟩; exact Nat.le_refl _))
  ·rintro b1 b2 b3 b4 b5 b6 v1 v2 v3 v4 v5 w2 hq ⟨y, zk, hy, x2, f1, f2, f3, f4, f5⟩
   have hb1 : b1 = true := by revert hq; cases b1 <;> simp
   have hb3 : b3 = true := by revert hq; cases b3 <;> simp
   have hb5 : b5 = true := by revert hq; cases b5 <;> simp
   subst hb1 hb3 hb5
   have g3 := f3 rfl
   subst g3
   obtain ⟨rfl, g5, g6⟩ := f5 rfl
   obtain ⟨g1, -, g7⟩ := f1 rfl
   refine gset ?_
   refine wpl_storeB (v := .agg #[str q.o, y]) rfl rfl rfl g6 (show sizeTy Tryz.prog 34 2 = true by decide +kernel) rfl (zone_one hy) ?_
   intro w3 p3
   have x3 : Ext w1 w3 := x2.move p3.mv (by rintro k ⟨⟩; exact g5)
   refine wph_nil ⟨x3, rfl, y, _, hy, x3, fun _ => ⟨g1, g7 rfl _ p3.mv, fun _ w4 m4 => g7 rfl _ (p3.mv.trans m4)⟩, f2, fun _ => rfl, f4, fun _ => ⟨rfl, g5, p3.this⟩⟩
  ·rintro v1 v2 v3 v4 v5 w9 ⟨y, zk, hy, x9, f1, f2, f3, f4, f5⟩
   obtain ⟨g1, g2, g3⟩ := f1 rfl
   have k2 := f2 rfl
   have k3 := f3 rfl
   have k4 := f4 rfl
   obtain ⟨k5, k6, k7⟩ := f5 rfl
   clear f1 f2 f3 f4 f5 g3
   subst g1 k2 k3 k4 k5
   refine gset ?_
   refine tk1 15 ?_; refine gset ?_
   refine wph_done (by decide +kernel) ?_
   have k7' : w9.heap[zk]? = some (.cells [str q.o, y].toArray 34 (0, 0)) := k7
   have hA9 := hA1.grow x9
   have hb9 := x9.at hb1
   have hx19 := x1.trans x9
   have hsz := x1.size
   have h29 := hh2.ext hx19
   have hpz := pts_block (cs := [str q.o, y]) k7'
   have kE : s.gotE l now = q.e := hE
   clear h31 hl1 hOg hcI k7
   by_cases c5 : q.e = 5 ∧ s.z.isSome = true
   ·have hg : s.got l now = s.fresh now := by rw [hG, if_pos c5]
    obtain ⟨c5a, c5b⟩ := c5
    rw [c5b] at h29
    (repeat' first | ((with_reducible refine nx0 ?_); go_step) | ((with_reducible refine o_s ?_); first | refine wk1 ?_ | (refine wg0 ?_ ?_ <;> intro hc)) | fail)
    all_goals first
     | (exfalso; omega)
     | (refine wpl_callG (enters_of Tryz.func78 rfl rfl) rfl rfl (r17_fresh hA9 hs now ht) ?_; rintro _ w10 ⟨rfl, o10, m10⟩; refine ⟨_, rfl, ?_⟩; refine gset ?_
        (repeat' first | ((with_reducible refine nx0 ?_); go_step) | ((with_reducible refine o_s ?_); first | refine wk1 ?_ | (refine wg0 ?_ ?_ <;> intro hc)) | fail)
        go_ret
        exact ⟨by rw [kE]; rfl, by rw [hg]; exact o10, (hx19.mv _).trans m10⟩)
   ·by_cases c0 : q.e = 0
    ·have hg : s.got l now = (s.withZ q).fresh now := by rw [hG, if_neg c5, if_neg (by omega)]
     have hwz1 := hwz c0
     (repeat' first | ((with_reducible refine nx0 ?_); go_step) | ((with_reducible refine o_s ?_); first | refine wk1 ?_ | (refine wg0 ?_ ?_ <;> intro hc)) | fail)
     all_goals first
      | (exfalso; omega)
      | (exfalso; have hh := ‹(!decide (q.e = 0)) = true›; rw [c0] at hh; cases hh; done)
      | skip
     refine wpl_storeS (n := 3) (vs := [str q.o, y]) hb9 rfl rfl rfl rfl (by simp [kecC]) (show sizeTy Tryz.prog 34 2 = true by decide +kernel) (by intro u hu; simp only [List.mem_cons, List.not_mem_nil, or_false] at hu; rcases hu with rfl | rfl; rfl; exact hy) ?_
     intro w10 p10
     have hb10 : w10.heap[b]? = some (.cells [str s.og, .int .i64 s.retry, .bool s.z.isSome, str q.o, y, .int .i64 s.next, .int .i64 s.til, .bool s.take].toArray 55 (0, 0)) := p10.this
     (repeat' first | ((with_reducible refine nx0 ?_); go_step) | ((with_reducible refine o_s ?_); first | refine wk1 ?_ | (refine wg0 ?_ ?_ <;> intro hc)) | fail)
     refine wpl_storeF (n := 2) (v := .bool true) hb10 rfl rfl rfl (by simp) (by decide +kernel) rfl ?_
     intro w11 p11
     have hb11 : w11.heap[b]? = some (.cells (kecC (s.withZ q) y).toArray 55 (0, 0)) := p11.this
     have hbB := h.lt
     have m911 := p10.mv.trans p11.mv
     have hK11 : KSt B w11 b (s.withZ q) := ⟨hbB, y, hb11, ((g2.mvb m911 (by omega)).weaken (by omega))⟩
     (repeat' first | ((with_reducible refine nx0 ?_); go_step) | ((with_reducible refine o_s ?_); first | refine wk1 ?_ | (refine wg0 ?_ ?_ <;> intro hc)) | fail)
     refine wpl_callG (enters_of Tryz.func78 rfl rfl) rfl rfl (r17_fresh hK11 hwz1 now ht) ?_; rintro _ w12 ⟨rfl, o12, m12⟩; refine ⟨_, rfl, ?_⟩; refine gset ?_
     (repeat' first | ((with_reducible refine nx0 ?_); go_step) | ((with_reducible refine o_s ?_); first | refine wk1 ?_ | (refine wg0 ?_ ?_ <;> intro hc)) | fail)
     go_ret
     exact ⟨by rw [kE, c0]; rfl, by rw [hg]; exact o12, ((hx19.mv _).trans m911).trans m12⟩
    ·have hg : s.got l now = s.failed now := by rw [hG, if_neg c5, if_pos c0]
     (repeat' first | ((with_reducible refine nx0 ?_); go_step) | ((with_reducible refine o_s ?_); first | refine wk1 ?_ | (refine wg0 ?_ ?_ <;> intro hc)) | fail)
     all_goals first
      | (exfalso; exact c5 ⟨by assumption, by assumption⟩)
      | (exfalso; have hh := ‹(!decide (q.e = 0)) = false›; simp [c0] at hh; done)
      | (refine wpl_callG (enters_of Tryz.func30 rfl rfl) rfl rfl (r17_Failed hA9 hs now) ?_; rintro _ w10 ⟨rfl, o10, m10⟩; refine ⟨_, rfl, ?_⟩; refine gset ?_
         (repeat' first | ((with_reducible refine nx0 ?_); go_step) | ((with_reducible refine o_s ?_); first | refine wk1 ?_ | (refine wg0 ?_ ?_ <;> intro hc)) | fail)
         go_ret
         exact ⟨by rw [kE]; rfl, by rw [hg]; exact o10, (hx19.mv _).trans m10⟩)
end Go.Proofs.X
