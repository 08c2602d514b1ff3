/- Laws and walks that the proof of the statement is made of (part 10). -/
import Derived.Test.YtedoaagdhcimiaaGreatProg
import Derived.Lib.Hide
import Derived.Test.YtedoaagdhcimiaaGreatShelf
import Derived.Shelf.SlSortCmp.NoneTotal
import Derived.OwnWalk
import Derived.Shelf.RegionOpenPlain
import Derived.Lib.Strings
import Derived.Lib.Slices
import Derived.Lib.Walk
import Derived.Lib.Builder
import Derived.Lib.AppendStr
import Derived.Lib.UnsafeStr
import Derived.Lib.MakeNoZero
import Derived.WalkKit
import Derived.Laws.Externs
import Derived.Laws.IdiomCopy
import Derived.Laws.BitsLemmas
import GoSem.Claims
import Derived.Laws.Pointers
import Derived.OrdersIn
import Derived.LoopIn
import Derived.Test.YtedoaagdhcimiaaGreatP1
import Derived.Test.YtedoaagdhcimiaaGreatP2
import Derived.Test.YtedoaagdhcimiaaGreatP3
import Derived.Test.YtedoaagdhcimiaaGreatP4
import Derived.Test.YtedoaagdhcimiaaGreatP5
import Derived.Test.YtedoaagdhcimiaaGreatP6
import Derived.Test.YtedoaagdhcimiaaGreatP7
import Derived.Test.YtedoaagdhcimiaaGreatP8
import Derived.Test.YtedoaagdhcimiaaGreatP9
set_option linter.unusedSimpArgs false
set_option linter.unusedVariables false
namespace Go.Proofs.X
open Go.RowKit
set_option maxRecDepth 100000
set_option maxHeartbeats 8000000 in
theorem p_Apply (o : List UInt8) (v : Value) (l : List RSet) {d : DeltaR} {r : Value} (w : World) (hv : SetsAt w v l) (hd : DelA d r w)
    (bl : ∀ s ∈ l, s.data.length ≤ 1000000) (dl : ∀ s ∈ l, ∀ d ∈ s.data, d.length ≤ 1000000) (h1 : (recordsS l).length ≤ 5000) (h2 : d.new.length ≤ 5000) (dn : ∀ q ∈ d.new, q.data.length ≤ 1000000) :
    Calls Tryz.prog 215 #[.agg #[str o, v], r] w (Ret w (AppU w.heap.size o l d)) := by
  obtain ⟨g, n, rfl, sg, sn⟩ := hd
  have lg := rcells_length d.gone
  have ln := rcells_length d.new
  have lgl := sg.le
  have lnl := sn.le
  go_enter Tryz.func215, Tryz.ntmps215
  repeat' (first | ((with_reducible refine nx0 ?_); go_step) | fail)
  refine wpl_box (vs := [str o, v]) rfl rfl ?_
  intro p w1 x1 hp
  refine gset ?_
  refine wpl_box (vs := [.int .i64 d.fr, .int .i64 d.to, g, n]) rfl rfl ?_
  intro q w2 x2 hq
  refine gset ?_
  refine wpl_allocB (z := zzone) rfl (by decide +kernel) ?_
  intro w3 x3 s3 h3
  refine gset ?_
  have hx3 := (x1.trans x2).trans x3
  have zz := (x1.trans x2).size
  have hp3 := (hp.ext x2).ext x3
  have hq3 := hq.ext x3
  repeat' (first | ((with_reducible refine nx0 ?_); go_step) | ((with_reducible refine o_s ?_); first | refine wk0 ?_ | (refine wg0 ?_ ?_ <;> intro hc)) | fail)
  refine wpl_callV (enters_of Tryz.func40 rfl rfl) rfl rfl (p_Soa o v l _ (hv.ext hx3) bl (fun s hs d hd => by have := dl s hs d hd; omega)) ?_; intro w4 x4; refine gset ?_
  have hx4 := hx3.trans x4
  repeat' (first | ((with_reducible refine nx0 ?_); go_step) | ((with_reducible refine o_s ?_); first | refine wk0 ?_ | (refine wg0 ?_ ?_ <;> intro hc)) | fail)
  refine wpl_allocB (z := zeroSoa) rfl (by decide +kernel) ?_
  intro w5 x5 s5 h5
  refine gset ?_
  refine wpl_storeB (v := .agg (soaZ o l).cells.toArray) rfl rfl rfl h5 (show sizeTy Tryz.prog 61 7 = true by decide +kernel) rfl (soaR_one _) ?_
  intro w6 p6
  have x46 : Ext w4 w6 := x5.move p6.mv (by rintro k ⟨⟩; exact Nat.le_refl _)
  have b6 : w6.heap[w4.heap.size]? = some (.cells (soaZ o l).cells.toArray 61 (0, 0)) := p6.this
  have x36 := x4.trans x46
  have hx6 := hx3.trans x36
  clear p6 h5 x5
  have h6 := x36.at h3
  have hp6 := hp3.ext x36
  have hq6 := hq3.ext x36
  repeat' (first | ((with_reducible refine nx0 ?_); go_step) | ((with_reducible refine o_s ?_); first | refine wk0 ?_ | (refine wg0 ?_ ?_ <;> intro hc)) | fail)
  · have q0 : ¬ zoneR o l = 0 := by simpa using (by assumption : (!decide (zoneR o l = 0)) = true)
    refine wpl_run (v := .agg zzone.toArray) rfl (Runs.build0 (by kernel_rfl)) ?_
    refine gset ?_
    repeat' (first | ((with_reducible refine nx0 ?_); go_step) | ((with_reducible refine o_s ?_); first | refine wk0 ?_ | (refine wg0 ?_ ?_ <;> intro hc)) | fail)
    refine wpl_storeB (v := .agg zzone.toArray) rfl rfl rfl h6 (by decide +kernel) rfl (by decide +kernel) ?_
    intro wz pz
    have xz : Ext w wz := hx6.move pz.mv (by rintro k ⟨⟩; exact zz)
    repeat' (first | ((with_reducible refine nx0 ?_); go_step) | ((with_reducible refine o_s ?_); first | refine wk0 ?_ | (refine wg0 ?_ ?_ <;> intro hc)) | fail)
    refine bodyPost_ret (results_cellT (cs := zzone) rfl rfl pz.this (by decide +kernel)) rfl ⟨_, rfl, xz, ?_⟩
    exact AppU.bad (by rw [appE, if_neg q0]) q0
  · have q0 : zoneR o l = 0 := by simpa using (by assumption : (!decide (zoneR o l = 0)) = false)
    have pb6 := pts_block b6
    have pb6' : Pts w6 (.pointer (some ⟨w4.heap.size, 0, none⟩)) [str (soaZ o l).main, str (soaZ o l).mail, .int .i64 (soaZ o l).serial, .int .i64 (soaZ o l).refresh, .int .i64 (soaZ o l).retry, .int .i64 (soaZ o l).expire, .int .i64 (soaZ o l).minimum] := pb6
    repeat' (first | ((with_reducible refine nx0 ?_); go_step) | ((with_reducible refine o_s ?_); first | refine wk0 ?_ | (refine wg0 ?_ ?_ <;> intro hc)) | fail)
    · have q1 : ¬ (soaZ o l).serial = d.fr := by simpa using (by assumption : (!decide ((soaZ o l).serial = d.fr)) = true)
      refine wpl_run (v := .agg zzone.toArray) rfl (Runs.build0 (by kernel_rfl)) ?_
      refine gset ?_
      refine wpl_storeB (v := .agg zzone.toArray) rfl rfl rfl h6 (by decide +kernel) rfl (by decide +kernel) ?_
      intro wz pz
      have xz : Ext w wz := hx6.move pz.mv (by rintro k ⟨⟩; exact zz)
      repeat' (first | ((with_reducible refine nx0 ?_); go_step) | ((with_reducible refine o_s ?_); first | refine wk0 ?_ | (refine wg0 ?_ ?_ <;> intro hc)) | fail)
      refine bodyPost_ret (results_cellT (cs := zzone) rfl rfl pz.this (by decide +kernel)) rfl ⟨_, rfl, xz, ?_⟩
      exact AppU.bad (by rw [appE, if_pos q0, if_neg q1]) (by decide)
    · have q1 : (soaZ o l).serial = d.fr := by simpa using (by assumption : (!decide ((soaZ o l).serial = d.fr)) = false)
      refine wpl_callR (enters_of Tryz.func71 rfl rfl) rfl rfl (t10 v l _ (hv.ext hx6) (by omega)) ?_
      intro r0 w7 x7 o7
      refine gset ?_
      have hq7 := hq6.ext x7
      have sg6 := sg.ext hx6
      have sn6 := sn.ext hx6
      have hrd := recs_data dl
      repeat' (first | ((with_reducible refine nx0 ?_); go_step) | ((with_reducible refine o_s ?_); first | refine wk0 ?_ | (refine wg0 ?_ ?_ <;> intro hc)) | fail)
      go_loopw [8, 10, 11, 39] (fun o _ _ i wr => ∃ (k : Nat) (m : List Rec), k ≤ d.gone.length ∧ i = .int .i64 k ∧ Ext w6 wr ∧ Own w6.heap.size 4 81 wr o (rcells m) ∧ goneF (recordsS l) (d.gone.take k) = some m) (fun _ _ _ i _ => d.gone.length - (intOf i).toNat)
      case atStart => exact ⟨0, recordsS l, Nat.zero_le _, rfl, x7, o7, rfl⟩
      case round =>
        obtain ⟨k, m, hk, rfl, hx, ho, hg⟩ := hrel
        obtain ⟨gl, gm⟩ := gone_len hg
        have hml := rcells_length m
        have hsg := sg6.ext hx
        have hqr := hq6.ext hx
        have hpr := hp6.ext hx
        by_cases hlt : k < d.gone.length
        · have hpe := hsg.elem (rcells_at hlt)
          repeat' (first | ((with_reducible refine nx0 ?_); go_step) | ((with_reducible refine o_s ?_); first | refine wk0 ?_ | (refine wg0 ?_ ?_ <;> intro hc)) | fail)
          refine wpl_allocB (z := zrec) rfl (by decide +kernel) ?_
          intro w8 x8 s8 h8
          refine gset ?_
          refine wpl_storeB (v := .agg #[str d.gone[k].name, .int .i64 d.gone[k].kind, .int .i64 d.gone[k].ttl, str d.gone[k].data]) rfl rfl rfl h8 (show sizeTy Tryz.prog 81 4 = true by decide +kernel) rfl (all4 rfl rfl rfl rfl) ?_
          intro w9 p9
          have x9 : Ext wr w9 := x8.move p9.mv (by rintro k ⟨⟩; exact Nat.le_refl _)
          have hp9 := pts_block (cs := [str d.gone[k].name, .int .i64 d.gone[k].kind, .int .i64 d.gone[k].ttl, str d.gone[k].data]) p9.this
          have hx9 := hx.trans x9
          have ho9 := ho.ext x9
          clear p9 h8 x8
          repeat' (first | ((with_reducible refine nx0 ?_); go_step) | ((with_reducible refine o_s ?_); first | refine wk0 ?_ | (refine wg0 ?_ ?_ <;> intro hc)) | fail)
          refine wpl_callV (enters_of Tryz.func253 rfl rfl) rfl rfl (p_Index _ m d.gone[k] _ ho9.sl) ?_; intro w10 x10; refine gset ?_
          have hx10 := hx9.trans x10
          have ho10 := ho9.ext x10
          by_cases hm : d.gone[k] ∈ m
          · obtain ⟨i, hi, ei, ee⟩ := idx_mem hm
            rw [ei]
            have hst := gone_step hlt hg
            rw [if_pos hm] at hst
            repeat' (first | ((with_reducible refine nx0 ?_); go_step) | ((with_reducible refine o_s ?_); first | refine wk0 ?_ | (refine wg0 ?_ ?_ <;> intro hc)) | fail)
            refine wpl_callG (enters_of Tryz.func257 rfl rfl) rfl rfl (p_Delete ho10 hi (by omega)) ?_
            rintro _ w11 ⟨v11, rfl, o11, m11, k11⟩
            refine ⟨_, rfl, ?_⟩
            refine gset ?_
            rw [ee] at o11
            have hx11 : Ext w6 w11 := ho10.mvx m11 hx10 (Nat.le_refl _)
            repeat' (first | ((with_reducible refine nx0 ?_); go_step) | ((with_reducible refine o_s ?_); first | refine wk0 ?_ | (refine wg0 ?_ ?_ <;> intro hc)) | fail)
            exact ⟨⟨k + 1, _, by omega, by go_num, hx11, o11, hst⟩, by simp [intOf]; omega⟩
          · rw [idx_none hm]
            have hb := edit_none1 (gone_bad hlt hg hm)
            repeat' (first | ((with_reducible refine nx0 ?_); go_step) | ((with_reducible refine o_s ?_); first | refine wk0 ?_ | (refine wg0 ?_ ?_ <;> intro hc)) | fail)
            refine wpl_run (v := .agg zzone.toArray) rfl (Runs.build0 (by kernel_rfl)) ?_
            refine gset ?_
            refine wpl_storeB (v := .agg zzone.toArray) rfl rfl rfl (hx10.at h6) (by decide +kernel) rfl (by decide +kernel) ?_
            intro wz pz
            have xz : Ext w wz := (hx6.trans hx10).move pz.mv (by rintro k ⟨⟩; exact zz)
            repeat' (first | ((with_reducible refine nx0 ?_); go_step) | ((with_reducible refine o_s ?_); first | refine wk0 ?_ | (refine wg0 ?_ ?_ <;> intro hc)) | fail)
            refine bodyPost_ret (results_cellT (cs := zzone) rfl rfl pz.this (by decide +kernel)) rfl ⟨_, rfl, xz, ?_⟩
            exact AppU.bad (appE_none q0 q1 hb) (by decide)
        · have : k = d.gone.length := by omega
          subst this
          rw [List.take_length] at hg
          have hed := edit_of hg
          repeat' (first | ((with_reducible refine nx0 ?_); go_step) | ((with_reducible refine o_s ?_); first | refine wk0 ?_ | (refine wg0 ?_ ?_ <;> intro hc)) | fail)
          go_loopw [8, 13, 58] (fun o _ i wr => ∃ (k : Nat) (m' : List Rec), k ≤ d.new.length ∧ i = .int .i64 k ∧ Ext w6 wr ∧ Own w6.heap.size 4 81 wr o (rcells m') ∧ newF m (d.new.take k) = some m') (fun _ _ i _ => d.new.length - (intOf i).toNat)
          case atStart => exact ⟨0, m, Nat.zero_le _, rfl, hx, ho, rfl⟩
          case round =>
            obtain ⟨k, m', hk, rfl, hx, ho, hn⟩ := hrel
            obtain ⟨nl, nm⟩ := new_len hn
            have hml := rcells_length m'
            have hsn := sn6.ext hx
            have hqr := hq6.ext hx
            have hpr := hp6.ext hx
            rw [List.length_take] at nl
            by_cases hlt : k < d.new.length
            · have hpe := hsn.elem (rcells_at hlt)
              have hst := new_step hlt hn
              repeat' (first | ((with_reducible refine nx0 ?_); go_step) | ((with_reducible refine o_s ?_); first | refine wk0 ?_ | (refine wg0 ?_ ?_ <;> intro hc)) | fail)
              refine wpl_allocB (z := zrec) rfl (by decide +kernel) ?_
              intro w8 x8 s8 h8
              refine gset ?_
              refine wpl_storeB (v := .agg #[str d.new[k].name, .int .i64 d.new[k].kind, .int .i64 d.new[k].ttl, str d.new[k].data]) rfl rfl rfl h8 (show sizeTy Tryz.prog 81 4 = true by decide +kernel) rfl (all4 rfl rfl rfl rfl) ?_
              intro w9 p9
              have x9 : Ext wr w9 := x8.move p9.mv (by rintro k ⟨⟩; exact Nat.le_refl _)
              have hp9 := pts_block (cs := [str d.new[k].name, .int .i64 d.new[k].kind, .int .i64 d.new[k].ttl, str d.new[k].data]) p9.this
              have hx9 := hx.trans x9
              have ho9 := ho.ext x9
              clear p9 h8 x8
              repeat' (first | ((with_reducible refine nx0 ?_); go_step) | ((with_reducible refine o_s ?_); first | refine wk0 ?_ | (refine wg0 ?_ ?_ <;> intro hc)) | fail)
              refine wpl_callV (enters_of Tryz.func206 rfl rfl) rfl rfl (p_Contains _ m' d.new[k] _ ho9.sl) ?_; intro w10 x10; refine gset ?_
              have hx10 := hx9.trans x10
              have ho10 := ho9.ext x10
              have hp10 := hp9.ext x10
              by_cases hm : d.new[k] ∈ m'
              · rw [decide_eq_true hm]
                have hb := new_bad hlt hn hm
                repeat' (first | ((with_reducible refine nx0 ?_); go_step) | ((with_reducible refine o_s ?_); first | refine wk0 ?_ | (refine wg0 ?_ ?_ <;> intro hc)) | fail)
                refine wpl_run (v := .agg zzone.toArray) rfl (Runs.build0 (by kernel_rfl)) ?_
                refine gset ?_
                refine wpl_storeB (v := .agg zzone.toArray) rfl rfl rfl (hx10.at h6) (by decide +kernel) rfl (by decide +kernel) ?_
                intro wz pz
                have xz : Ext w wz := (hx6.trans hx10).move pz.mv (by rintro k ⟨⟩; exact zz)
                repeat' (first | ((with_reducible refine nx0 ?_); go_step) | ((with_reducible refine o_s ?_); first | refine wk0 ?_ | (refine wg0 ?_ ?_ <;> intro hc)) | fail)
                refine bodyPost_ret (results_cellT (cs := zzone) rfl rfl pz.this (by decide +kernel)) rfl ⟨_, rfl, xz, ?_⟩
                exact AppU.bad (appE_none q0 q1 (hed.trans hb)) (by decide)
              · rw [decide_eq_false hm]
                rw [if_neg hm] at hst
                repeat' (first | ((with_reducible refine nx0 ?_); go_step) | ((with_reducible refine o_s ?_); first | refine wk0 ?_ | (refine wg0 ?_ ?_ <;> intro hc)) | fail)
                refine ap1 [str d.new[k].name, .int .i64 d.new[k].kind, .int .i64 d.new[k].ttl, str d.new[k].data] hx10 ho10 (by omega) ?_ (rec_elem rfl)
                intro s5 v5 w11 w12 x11 m12 x12 o12
                refine gset ?_
                repeat' (first | ((with_reducible refine nx0 ?_); go_step) | ((with_reducible refine o_s ?_); first | refine wk0 ?_ | (refine wg0 ?_ ?_ <;> intro hc)) | fail)
                refine ⟨⟨k + 1, _, by omega, by go_num, x12, ?_, hst⟩, by simp [intOf]; omega⟩
                simpa [rcells, Rec.cells] using o12
            · have : k = d.new.length := by omega
              subst this
              rw [List.take_length] at hn
              rw [hn] at hed
              have hmd : ∀ q ∈ m', q.data.length ≤ 1000000 := by
                intro q hq
                rcases nm q hq with h | h
                · exact hrd q (gm q h)
                · exact dn q (List.mem_of_mem_take h)
              have hm5 : m'.length ≤ 10000 := by omega
              obtain ⟨lb1, lb2, lb3⟩ := loadL_bounds (o := o) hmd
              have hend := appE_some q0 q1 hed
              repeat' (first | ((with_reducible refine nx0 ?_); go_step) | ((with_reducible refine o_s ?_); first | refine wk0 ?_ | (refine wg0 ?_ ?_ <;> intro hc)) | fail)
              refine wpl_callR (enters_of Tryz.func21 rfl rfl) rfl rfl (p_Load o _ m' _ ho.sl hm5 (fun q hq => by have := hmd q hq; omega)) ?_
              rintro _ w20 x20 ⟨y, rfl, sy⟩
              refine gset ?_
              have hx20 := hx.trans x20
              obtain ⟨ya, yn, yc, hys⟩ : ∃ a n c, y = .slice a n c := by obtain ⟨css, h, _⟩ := sy.out; exact h.slf
              have hy1 : y.oneCell' = true := by rw [hys]; rfl
              repeat' (first | ((with_reducible refine nx0 ?_); go_step) | ((with_reducible refine o_s ?_); first | refine wk0 ?_ | (refine wg0 ?_ ?_ <;> intro hc)) | fail)
              refine wpl_allocB (z := zzone) rfl (by decide +kernel) ?_
              intro w21 x21 s21 h21
              refine gset ?_
              refine wpl_storeB (v := .agg #[str (loadO o m'), y]) rfl rfl rfl h21 (show sizeTy Tryz.prog 34 2 = true by decide +kernel) rfl (zone_one hy1) ?_
              intro w22 p22
              have x2022 : Ext w20 w22 := x21.move p22.mv (by rintro k ⟨⟩; exact Nat.le_refl _)
              have z22 : w22.heap[w20.heap.size]? = some (.cells [str (loadO o m'), y].toArray 34 (0, 0)) := p22.this
              have hx22 := hx20.trans x2022
              have sy22 := sy.ext x2022
              have ho22 := ho.ext (x20.trans x2022)
              clear p22 h21 x21
              repeat' (first | ((with_reducible refine nx0 ?_); go_step) | ((with_reducible refine o_s ?_); first | refine wk0 ?_ | (refine wg0 ?_ ?_ <;> intro hc)) | fail)
              · have q2 : ¬ loadE o m' = 0 := by simpa using (by assumption : (!decide (loadE o m' = 0)) = true)
                refine wpl_run (v := .agg zzone.toArray) rfl (Runs.build0 (by kernel_rfl)) ?_
                refine gset ?_
                repeat' (first | ((with_reducible refine nx0 ?_); go_step) | ((with_reducible refine o_s ?_); first | refine wk0 ?_ | (refine wg0 ?_ ?_ <;> intro hc)) | fail)
                refine wpl_storeB (v := .agg zzone.toArray) rfl rfl rfl (hx22.at h6) (by decide +kernel) rfl (by decide +kernel) ?_
                intro wz pz
                have xz : Ext w wz := (hx6.trans hx22).move pz.mv (by rintro k ⟨⟩; exact zz)
                repeat' (first | ((with_reducible refine nx0 ?_); go_step) | ((with_reducible refine o_s ?_); first | refine wk0 ?_ | (refine wg0 ?_ ?_ <;> intro hc)) | fail)
                refine bodyPost_ret (results_cellT (cs := zzone) rfl rfl pz.this (by decide +kernel)) rfl ⟨_, rfl, xz, ?_⟩
                exact AppU.bad (by rw [hend, endE, if_neg q2]) q2
              · have q2 : loadE o m' = 0 := by simpa using (by assumption : (!decide (loadE o m' = 0)) = false)
                have pz22 := pts_block z22
                repeat' (first | ((with_reducible refine nx0 ?_); go_step) | ((with_reducible refine o_s ?_); first | refine wk0 ?_ | (refine wg0 ?_ ?_ <;> intro hc)) | fail)
                refine wpl_callV (enters_of Tryz.func40 rfl rfl) rfl rfl (p_Soa (loadO o m') y (loadL o m') _ sy22.sets (fun s hs => by have := lb1 s hs; omega) (fun s hs d hd => by have := lb2 s hs d hd; omega)) ?_; intro w23 x23; refine gset ?_
                have hx23 := hx22.trans x23
                have b23 := hx23.at b6
                repeat' (first | ((with_reducible refine nx0 ?_); go_step) | ((with_reducible refine o_s ?_); first | refine wk0 ?_ | (refine wg0 ?_ ?_ <;> intro hc)) | fail)
                refine wpl_storeB (v := .agg (soaZ (loadO o m') (loadL o m')).cells.toArray) rfl rfl rfl b23 (show sizeTy Tryz.prog 61 7 = true by decide +kernel) rfl (soaR_one _) ?_
                intro w24 p24
                have e1 := x4.size
                have e2 := x46.size
                have e3 := hx.size
                have e4 := x20.size
                have e5 : w4.heap.size < w6.heap.size := (Array.getElem?_eq_some_iff.1 b6).1
                have x24 : Ext w3 w24 := (x36.trans hx23).move p24.mv (by rintro k ⟨⟩; exact e1)
                have hxw24 := hx3.trans x24
                have hq24 := hq3.ext x24
                have b24 : w24.heap[w4.heap.size]? = some (.cells [str (soaZ (loadO o m') (loadL o m')).main, str (soaZ (loadO o m') (loadL o m')).mail, .int .i64 (soaZ (loadO o m') (loadL o m')).serial, .int .i64 (soaZ (loadO o m') (loadL o m')).refresh, .int .i64 (soaZ (loadO o m') (loadL o m')).retry, .int .i64 (soaZ (loadO o m') (loadL o m')).expire, .int .i64 (soaZ (loadO o m') (loadL o m')).minimum].toArray 61 (0, 0)) := p24.this
                have h24 := p24.at (hx23.at h6) (by omega)
                have z24 := p24.at (x23.at z22) (by omega)
                have sy24 := (sy22.ext x23).put p24 (by omega)
                have ho24 := (ho22.ext x23).mv p24.mv (.inr ((ho22.ext x23).neBlock b23 (by decide)))
                have pz24 := pts_block z24
                clear p24 b23
                repeat' (first | ((with_reducible refine nx0 ?_); go_step) | ((with_reducible refine o_s ?_); first | refine wk0 ?_ | (refine wg0 ?_ ?_ <;> intro hc)) | fail)
                refine wpl_callR (enters_of Tryz.func71 rfl rfl) rfl rfl (t10 y (loadL o m') _ sy24.sets (by omega)) ?_
                intro r5 w25 x25 o25
                refine gset ?_
                have hxw25 := hxw24.trans x25
                have h25 := x25.at h24
                have z25 := x25.at z24
                have pz25 := pz24.ext x25
                have pb25 := pts_block (x25.at b24)
                have hq25 := hq24.ext x25
                have sl25 := (ho24.ext x25).sl
                have sr25 := o25.sl
                have lr := rcells_length (recordsS (loadL o m'))
                repeat' (first | ((with_reducible refine nx0 ?_); go_step) | ((with_reducible refine o_s ?_); first | refine wk0 ?_ | (refine wg0 ?_ ?_ <;> intro hc)) | fail)
                · have q3 : (soaZ (loadO o m') (loadL o m')).serial = d.to := by simpa using (by assumption : (!decide ((soaZ (loadO o m') (loadL o m')).serial = d.to)) = false)
                  have q4 : (recordsS (loadL o m')).length = m'.length := by
                    have : (↑(rcells (recordsS (loadL o m'))).length : Int) = ↑(rcells m').length := by simpa using hc
                    omega
                  refine wpl_callR (enters_of Tryz.func156 rfl rfl) rfl rfl (p_less _ r5 m' (recordsS (loadL o m')) _ sl25 sr25 (by omega)) ?_
                  intro r6 w26 x26 o26
                  have sr26 := o26.sl
                  have hxw26 := hxw25.trans x26
                  have h26 := x26.at h25
                  have z26 := x26.at z25
                  have pz26 := pz25.ext x26
                  have l6 := rcells_length (lessR m' (recordsS (loadL o m')))
                  have sy26 := (sy24.ext x25).ext x26
                  refine gset ?_
                  repeat' (first | ((with_reducible refine nx0 ?_); go_step) | ((with_reducible refine o_s ?_); first | refine wk0 ?_ | (refine wg0 ?_ ?_ <;> intro hc)) | fail)
                  · have q5 : ¬ lessR m' (recordsS (loadL o m')) = [] := by
                      intro e
                      rw [e] at l6
                      simp at l6
                      have := (by assumption : (0 : Int) < ↑(rcells (lessR m' (recordsS (loadL o m')))).length)
                      rw [e] at this
                      simp [rcells] at this
                    refine wpl_run (v := .agg zzone.toArray) rfl (Runs.build0 (by kernel_rfl)) ?_
                    refine gset ?_
                    refine wpl_storeB (v := .agg zzone.toArray) rfl rfl rfl h26 (by decide +kernel) rfl (by decide +kernel) ?_
                    intro wz pz
                    have xz : Ext w wz := hxw26.move pz.mv (by rintro k ⟨⟩; exact zz)
                    repeat' (first | ((with_reducible refine nx0 ?_); go_step) | ((with_reducible refine o_s ?_); first | refine wk0 ?_ | (refine wg0 ?_ ?_ <;> intro hc)) | fail)
                    refine bodyPost_ret (results_cellT (cs := zzone) rfl rfl pz.this (by decide +kernel)) rfl ⟨_, rfl, xz, ?_⟩
                    exact AppU.bad (by rw [hend, endE, if_pos q2, if_neg (fun h => q5 h.2.2)]) (by decide)
                  · have q5 : lessR m' (recordsS (loadL o m')) = [] := List.eq_nil_of_length_eq_zero (by omega)
                    have hE : appE o l d = 0 := by rw [hend, endE, if_pos q2, if_pos ⟨q3, q4, q5⟩]
                    repeat' (first | ((with_reducible refine nx0 ?_); go_step) | ((with_reducible refine o_s ?_); first | refine wk0 ?_ | (refine wg0 ?_ ?_ <;> intro hc)) | fail)
                    refine wpl_storeB (v := .agg #[str (loadO o m'), y]) rfl rfl rfl h26 (show sizeTy Tryz.prog 34 2 = true by decide +kernel) rfl (zone_one hy1) ?_
                    intro wz pz
                    have xz : Ext w wz := hxw26.move pz.mv (by rintro k ⟨⟩; exact zz)
                    repeat' (first | ((with_reducible refine nx0 ?_); go_step) | ((with_reducible refine o_s ?_); first | refine wk0 ?_ | (refine wg0 ?_ ?_ <;> intro hc)) | fail)
                    refine bodyPost_ret (results_cellT (cs := [str (loadO o m'), y]) rfl rfl pz.this (show aggTy Tryz.prog 34 2 = true by decide +kernel)) rfl ⟨_, rfl, xz, ?_⟩
                    refine ⟨y, ?_, ?_⟩
                    · rw [appO, if_pos hE, hE, hed]; rfl
                    · rw [appL, if_pos hE, hed]
                      exact (sy26.put pz (by omega)).weaken (hx6.trans hx).size
                · have q4 : ¬ (recordsS (loadL o m')).length = m'.length := by
                    have : ¬ (↑(rcells (recordsS (loadL o m'))).length : Int) = ↑(rcells m').length := by simpa using hc
                    omega
                  refine wpl_run (v := .agg zzone.toArray) rfl (Runs.build0 (by kernel_rfl)) ?_
                  refine gset ?_
                  refine wpl_storeB (v := .agg zzone.toArray) rfl rfl rfl h25 (by decide +kernel) rfl (by decide +kernel) ?_
                  intro wz pz
                  have xz : Ext w wz := hxw25.move pz.mv (by rintro k ⟨⟩; exact zz)
                  repeat' (first | ((with_reducible refine nx0 ?_); go_step) | ((with_reducible refine o_s ?_); first | refine wk0 ?_ | (refine wg0 ?_ ?_ <;> intro hc)) | fail)
                  refine bodyPost_ret (results_cellT (cs := zzone) rfl rfl pz.this (by decide +kernel)) rfl ⟨_, rfl, xz, ?_⟩
                  exact AppU.bad (by rw [hend, endE, if_pos q2, if_neg (fun h => q4 h.2.1)]) (by decide)
                · have q3 : ¬ (soaZ (loadO o m') (loadL o m')).serial = d.to := by simpa using hc
                  refine wpl_run (v := .agg zzone.toArray) rfl (Runs.build0 (by kernel_rfl)) ?_
                  refine gset ?_
                  refine wpl_storeB (v := .agg zzone.toArray) rfl rfl rfl h25 (by decide +kernel) rfl (by decide +kernel) ?_
                  intro wz pz
                  have xz : Ext w wz := hxw25.move pz.mv (by rintro k ⟨⟩; exact zz)
                  repeat' (first | ((with_reducible refine nx0 ?_); go_step) | ((with_reducible refine o_s ?_); first | refine wk0 ?_ | (refine wg0 ?_ ?_ <;> intro hc)) | fail)
                  refine bodyPost_ret (results_cellT (cs := zzone) rfl rfl pz.this (by decide +kernel)) rfl ⟨_, rfl, xz, ?_⟩
                  exact AppU.bad (by rw [hend, endE, if_pos q2, if_neg (fun h => q3 h.1)]) (by decide)
def soaTE (d : List UInt8) : Int := if (parseSoa d).isSome then 0 else 2
theorem p_ParseSoaT (d : List UInt8) (w : World) (hl : d.length ≤ 4611686018427387904) : Calls Tryz.prog 88 #[str d] w (RetV w (.tuple #[.agg (soaT d).cells.toArray, .int .i64 (soaTE d)])) := by
  have h := t38 d w hl
  unfold soaT soaTE
  cases hp : parseSoa d <;> (rw [hp] at h; exact h)
set_option maxHeartbeats 2000000 in
theorem p_serialOf (r : Rec) (w : World) (hl : r.data.length ≤ 4611686018427387904) : Calls Tryz.prog 111 #[.agg #[str r.name, .int .i64 r.kind, .int .i64 r.ttl, str r.data]] w (RetV w (.int .i64 (serOf r))) := by
  go_enter Tryz.func111, Tryz.ntmps111
  repeat' (first | ((with_reducible refine nx0 ?_); go_step) | fail)
  refine wpl_box (vs := [str r.name, .int .i64 r.kind, .int .i64 r.ttl, str r.data]) rfl rfl ?_
  intro p w1 x1 hp
  refine gset ?_
  (repeat' first | ((with_reducible refine nx0 ?_); go_step) | ((with_reducible refine o_s ?_); first | refine wk0 ?_ | (refine wg0 ?_ ?_ <;> intro hc)) | fail)
  refine wpl_callV (enters_of Tryz.func88 rfl rfl) rfl rfl (p_ParseSoaT r.data w1 hl) ?_; intro w2 x2; refine gset ?_
  (repeat' first | ((with_reducible refine nx0 ?_); go_step) | ((with_reducible refine o_s ?_); first | refine wk0 ?_ | (refine wg0 ?_ ?_ <;> intro hc)) | fail)
  refine wpl_allocB (z := zeroSoa) rfl (by decide +kernel) ?_
  intro w3 x3 s3 h3
  refine gset ?_
  refine wpl_storeB (v := .agg (soaT r.data).cells.toArray) rfl rfl rfl h3 (show sizeTy Tryz.prog 61 7 = true by decide +kernel) rfl (soaR_one _) ?_
  intro w4 p4
  have x4 : Ext w2 w4 := x3.move p4.mv (by rintro k ⟨⟩; exact Nat.le_refl _)
  have hs4 := pts_block (cs := (soaT r.data).cells) p4.this
  have hs42 : Pts w4 (partPtr (.pointer (some ⟨w2.heap.size, 0, none⟩)) 2) [.int .i64 (soaT r.data).serial, .int .i64 (soaT r.data).refresh, .int .i64 (soaT r.data).retry, .int .i64 (soaT r.data).expire, .int .i64 (soaT r.data).minimum] := hs4.part 2
  (repeat' first | ((with_reducible refine nx0 ?_); go_step) | ((with_reducible refine o_s ?_); first | refine wk0 ?_ | (refine wg0 ?_ ?_ <;> intro hc)) | fail)
  go_ret
  exact ⟨rfl, (x1.trans x2).trans x4⟩
section
variable {P : Program} {w : World} {ts : List Value} {df : List Deferred} {d : Option Nat} {ty : TypeId} {ps : String} {af : Array Edge} {g : Option (Nat × Bool)}
def boolTy (P : Program) (t : TypeId) : Bool := match P.underlying t with | some .bool => true | _ => false
theorem Runs.eqlB {t u : TypeId} {x y : Operand} {a b : Bool} (hx : (Act.mk ts.toArray df).eval x = .bool a) (hy : (Act.mk ts.toArray df).eval y = .bool b) (ht : boolTy P t = true) :
    Runs P (Oper.mk d (.binOp .eql t x y u) ty ps af g) (Act.mk ts.toArray df) w (.bool (a == b)) := by
  have hu : P.underlying t = some .bool := by
    unfold boolTy at ht; split at ht
    · assumption
    · cases ht
  constructor
  simp [execOp, hx, hy, eqGuard, binOp, run_equal_bool w t a b hu]
end
def insAt {α : Type} (os : List α) (q : Nat) (x : α) : List α := os.take q ++ x :: os.drop q
section
variable {α : Type} {os : List α} {q : Nat} {x : α}
theorem insAt_length (h : q ≤ os.length) : (insAt os q x).length = os.length + 1 := by
  simp [insAt]; omega
theorem insAt_at (h : q ≤ os.length) : (insAt os q x)[q]? = some x := by
  unfold insAt
  rw [List.getElem?_append_right (by simp; omega)]
  simp [Nat.min_eq_left h]
theorem insAt_before {i : Nat} (hi : i < q) (h : q ≤ os.length) : (insAt os q x)[i]? = os[i]? := by
  unfold insAt
  rw [List.getElem?_append_left (by simp; omega), List.getElem?_take, if_pos hi]
theorem insAt_behind {i : Nat} (hi : q < i) (h : q ≤ os.length) : (insAt os q x)[i]? = os[i - 1]? := by
  unfold insAt
  rw [List.getElem?_append_right (by simp; omega)]
  have e : i - (os.take q).length = (i - 1 - q) + 1 := by simp; omega
  rw [e, List.getElem?_cons_succ, List.getElem?_drop]
  congr 1; omega
theorem insAt_swap (h : q < os.length) : ((insAt os (q + 1) x).set (q + 1) os[q]).set q x = insAt os q x := by
  apply List.ext_getElem?
  intro i
  by_cases h1 : i = q
  · subst h1
    rw [List.getElem?_set_self (by rw [List.length_set, insAt_length (by omega)]; omega), insAt_at (by omega)]
  · rw [List.getElem?_set_ne (fun e => h1 e.symm)]
    by_cases h2 : i = q + 1
    · subst h2
      rw [List.getElem?_set_self (by rw [insAt_length (by omega)]; omega), insAt_behind (by omega) (by omega)]
      simp [List.getElem?_eq_getElem h]
    · rw [List.getElem?_set_ne (fun e => h2 e.symm)]
      by_cases h3 : i < q
      · rw [insAt_before (by omega) (by omega), insAt_before h3 (by omega)]
      · rw [insAt_behind (by omega) (by omega), insAt_behind (by omega) (by omega)]
theorem insAt_swap' (h : q < os.length) : ((insAt os (q + 1) x).set q x).set (q + 1) os[q] = insAt os q x := by
  rw [List.set_comm _ _ (by omega)]
  exact insAt_swap h
end
def headR (l : List Rec) : List Rec := l.filter isSoaR ++ l.filter fun r => !isSoaR r
theorem headR_none {l : List Rec} (h : ∀ r ∈ l, isSoaR r = false) : headR l = l := by
  unfold headR
  rw [List.filter_eq_nil_iff.2 (by simpa using h), List.nil_append, List.filter_eq_self]
  simpa using h
theorem headR_one {os : List Rec} {q : Nat} {x : Rec} (h : ∀ r ∈ os, isSoaR r = false) (hx : isSoaR x = true) : headR (insAt os q x) = insAt os 0 x := by
  have h1 : ∀ r ∈ os.take q, isSoaR r = false := fun r hr => h r (List.mem_of_mem_take hr)
  have h2 : ∀ r ∈ os.drop q, isSoaR r = false := fun r hr => h r (List.mem_of_mem_drop hr)
  have e1 : (os.take q).filter isSoaR = [] := List.filter_eq_nil_iff.2 (by simpa using h1)
  have e2 : (os.drop q).filter isSoaR = [] := List.filter_eq_nil_iff.2 (by simpa using h2)
  have e3 : (os.take q).filter (fun r => !isSoaR r) = os.take q := List.filter_eq_self.2 (by simpa using h1)
  have e4 : (os.drop q).filter (fun r => !isSoaR r) = os.drop q := List.filter_eq_self.2 (by simpa using h2)
  unfold headR insAt
  simp only [List.filter_append, List.filter_cons, hx, e1, e2, e3, e4, if_true, Bool.not_true, Bool.false_eq_true, if_false]
  simp
theorem one_soa : ∀ (l : List Rec), (l.filter isSoaR).length ≤ 1 → (∀ r ∈ l, isSoaR r = false) ∨ ∃ os q x, q ≤ os.length ∧ l = insAt os q x ∧ isSoaR x = true ∧ ∀ r ∈ os, isSoaR r = false
  | [], _ => .inl (by simp)
  | r :: t, h => by
    by_cases hr : isSoaR r = true
    · refine .inr ⟨t, 0, r, Nat.zero_le _, by simp [insAt], hr, fun s hs => ?_⟩
      rw [List.filter_cons, if_pos hr, List.length_cons] at h
      have h0 : t.filter isSoaR = [] := List.eq_nil_of_length_eq_zero (by omega)
      have := List.filter_eq_nil_iff.1 h0 s hs
      simpa using this
    · rw [List.filter_cons, if_neg hr] at h
      have hrf : isSoaR r = false := by simpa using hr
      rcases one_soa t h with h1 | ⟨os, q, x, h1, h2, h3, h4⟩
      · exact .inl (by simpa [hrf] using h1)
      · refine .inr ⟨r :: os, q + 1, x, by simp; omega, by rw [h2]; simp [insAt], h3, ?_⟩
        intro s hs
        rcases List.mem_cons.1 hs with rfl | hs
        · exact hrf
        · exact h4 s hs
def wholeR (o : List UInt8) (l : List RSet) : List Rec := if zoneR o l = 0 then headR (recordsS l) ++ [headOf (headR (recordsS l))] else []
def stR (x : Option Rec) (os : List Rec) (q : Nat) : List Rec := match x with | some r => insAt os q r | none => os
def stN (x : Option Rec) (os : List Rec) : Nat := os.length + (match x with | some _ => 1 | none => 0)
structure Sx (x : Option Rec) (os : List Rec) (q : Nat) : Prop where
  non : ∀ r ∈ os, isSoaR r = false
  is : ∀ r, x = some r → isSoaR r = true ∧ q ≤ os.length
  no : x = none → os.length ≤ q
theorem stR_len {x : Option Rec} {os : List Rec} {q : Nat} (h : Sx x os q) : (stR x os q).length = stN x os := by
  unfold stR stN
  split
  · rename_i r; exact insAt_length (h.is r rfl).2
  · rfl
theorem stR_soa {x : Option Rec} {os : List Rec} {q i : Nat} (h : Sx x os q) (hi : i < stN x os) : ∃ r, (stR x os q)[i]? = some r ∧ isSoaR r = decide (i = q) := by
  cases x with
  | none =>
    have h1 : i < os.length := by simpa [stN] using hi
    have := h.no rfl
    refine ⟨os[i], by simp [stR, h1], ?_⟩
    rw [h.non _ (List.getElem_mem h1), decide_eq_false (by omega)]
  | some r =>
    obtain ⟨h1, h2⟩ := h.is r rfl
    have h3 : i < os.length + 1 := by simpa [stN] using hi
    by_cases e : i = q
    · subst e
      exact ⟨r, insAt_at h2, by rw [h1, decide_eq_true rfl]⟩
    · rw [decide_eq_false e]
      by_cases e2 : i < q
      · refine ⟨os[i], ?_, h.non _ (List.getElem_mem (by omega))⟩
        rw [stR, insAt_before e2 h2, List.getElem?_eq_getElem (by omega)]
      · refine ⟨os[i - 1], ?_, h.non _ (List.getElem_mem (by omega))⟩
        rw [stR, insAt_behind (by omega) h2, List.getElem?_eq_getElem (by omega)]
theorem Sx.to {x : Option Rec} {os : List Rec} {q q' : Nat} (h : Sx x os q) (hq : q < stN x os) (hq' : q' < stN x os) : Sx x os q' := by
  cases x with
  | none => have := h.no rfl; simp [stN] at hq; omega
  | some r => exact ⟨h.non, fun r' e => ⟨(h.is r' e).1, by simp [stN] at hq'; omega⟩, fun e => by cases e⟩
theorem stR_swap {x : Option Rec} {os : List Rec} {q : Nat} (h : Sx x os (q + 1)) (hq : q + 1 < stN x os) : ∃ a b, (stR x os (q + 1))[q]? = some a ∧ (stR x os (q + 1))[q + 1]? = some b ∧ ((stR x os (q + 1)).set (q + 1) a).set q b = stR x os q ∧ ((stR x os (q + 1)).set q b).set (q + 1) a = stR x os q := by
  cases x with
  | none => have := h.no rfl; simp [stN] at hq; omega
  | some r =>
    have h2 := (h.is r rfl).2
    refine ⟨os[q], r, ?_, insAt_at h2, insAt_swap (by omega), insAt_swap' (by omega)⟩
    rw [stR, insAt_before (by omega) h2, List.getElem?_eq_getElem (by omega)]
def cmpH (a b : Rec) : Int := if isSoaR a = isSoaR b then 0 else if isSoaR a = true then -1 else 1
theorem cmpH_lt (a b : Rec) : decide (cmpH a b < 0) = (isSoaR a && !isSoaR b) := by
  unfold cmpH
  cases isSoaR a <;> cases isSoaR b <;> rfl
def rotR (D : List Rec) (a m : Nat) : Nat → List Rec
  | 0 => D
  | k + 1 => ((rotR D a m k).set (a + k) ((rotR D a m k).getD m zeroRec)).set m ((rotR D a m k).getD (a + k) zeroRec)
theorem rotR_len (D : List Rec) (a m : Nat) : ∀ k, (rotR D a m k).length = D.length
  | 0 => rfl
  | k + 1 => by rw [rotR, List.length_set, List.length_set, rotR_len D a m k]
theorem rotR_at {D : List Rec} {a m : Nat} (hm : m < D.length) : ∀ k, a + k ≤ m → ∀ i, (rotR D a m k)[i]? = if k = 0 then D[i]? else if i < a ∨ m < i then D[i]? else if i = a then D[m]? else if i < a + k then D[i - 1]? else if i = m then D[a + k - 1]? else D[i]?
  | 0, _, i => by simp [rotR]
  | k + 1, h, i => by
    have ih := rotR_at (D := D) (a := a) hm k (by omega)
    have hl := rotR_len D a m k
    have e1 : (rotR D a m k)[m]? = if k = 0 then D[m]? else D[a + k - 1]? := by
      rw [ih m]
      by_cases hk : k = 0
      · rw [if_pos hk, if_pos hk]
      · rw [if_neg hk, if_neg hk, if_neg (by omega), if_neg (by omega), if_neg (by omega), if_pos rfl]
    have e2 : (rotR D a m k)[a + k]? = D[a + k]? := by
      rw [ih (a + k)]
      by_cases hk : k = 0
      · rw [if_pos hk]
      · rw [if_neg hk, if_neg (by omega), if_neg (by omega), if_neg (by omega), if_neg (by omega)]
    rw [if_neg (by omega), rotR]
    have g1 : (rotR D a m k).getD m zeroRec = (if k = 0 then D[m] else D[a + k - 1]) := by
      rw [List.getD_eq_getElem?_getD, e1]
      split <;> rw [List.getElem?_eq_getElem (by omega)] <;> rfl
    have g2 : (rotR D a m k).getD (a + k) zeroRec = D[a + k] := by
      rw [List.getD_eq_getElem?_getD, e2, List.getElem?_eq_getElem (by omega)]; rfl
    rw [g1, g2]
    by_cases im : i = m
    · subst im
      rw [List.getElem?_set_self (by rw [List.length_set, hl]; exact hm), if_neg (by omega), if_neg (by omega), if_neg (by omega), if_pos rfl, show a + (k + 1) - 1 = a + k by omega, List.getElem?_eq_getElem (by omega)]
    · rw [List.getElem?_set_ne (fun e => im e.symm)]
      by_cases ik : i = a + k
      · subst ik
        rw [List.getElem?_set_self (by rw [hl]; omega)]
        by_cases hk : k = 0
        · subst hk
          rw [if_pos rfl, if_neg (by omega), if_pos (by omega), List.getElem?_eq_getElem hm]
        · rw [if_neg hk, if_neg (by omega), if_neg (by omega), if_pos (by omega), List.getElem?_eq_getElem (by omega)]
      · rw [List.getElem?_set_ne (fun e => ik e.symm), ih i]
        by_cases hk : k = 0
        · subst hk
          rw [if_pos rfl]
          by_cases c : i < a ∨ m < i
          · rw [if_pos c]
          · rw [if_neg c, if_neg (by omega), if_neg (by omega), if_neg im]
        · rw [if_neg hk]
          by_cases c : i < a ∨ m < i
          · rw [if_pos c, if_pos c]
          · rw [if_neg c, if_neg c]
            by_cases c2 : i = a
            · rw [if_pos c2, if_pos c2]
            · rw [if_neg c2, if_neg c2]
              by_cases c3 : i < a + k
              · rw [if_pos c3, if_pos (by omega)]
              · rw [if_neg c3, if_neg im, if_neg (by omega), if_neg im]
theorem rotR_all {x : Option Rec} {os : List Rec} {a m : Nat} (h : Sx x os m) (hm : m < stN x os) (ha : a < m) : rotR (stR x os m) a m (m - a) = stR x os a := by
  cases x with
  | none => have := h.no rfl; simp [stN] at hm; omega
  | some r =>
    have h2 := (h.is r rfl).2
    have hl := stR_len h
    apply List.ext_getElem?
    intro i
    rw [rotR_at (by omega) _ (by omega), if_neg (by omega)]
    simp only [stR]
    by_cases c : i < a ∨ m < i
    · rw [if_pos c]
      rcases c with c | c
      · rw [insAt_before (by omega) h2, insAt_before c (by omega)]
      · rw [insAt_behind c h2, insAt_behind (by omega) (by omega)]
    · rw [if_neg c]
      by_cases c2 : i = a
      · subst c2
        rw [if_pos rfl, insAt_at h2, insAt_at (by omega)]
      · rw [if_neg c2]
        by_cases c3 : i < a + (m - a)
        · rw [if_pos c3, insAt_before (by omega) h2, insAt_behind (by omega) (by omega)]
        · rw [if_neg c3, if_pos (by omega), insAt_before (by omega) h2, insAt_behind (by omega) (by omega)]
          congr 1; omega
theorem p_isSoa (r : Rec) (w : World) : Calls Tryz.prog 109 #[.agg #[str r.name, .int .i64 r.kind, .int .i64 r.ttl, str r.data]] w (RetV w (.bool (isSoaR r))) := by
  go_enter Tryz.func109, Tryz.ntmps109
  repeat' (first | ((with_reducible refine nx0 ?_); go_step) | fail)
  refine wpl_box (vs := [str r.name, .int .i64 r.kind, .int .i64 r.ttl, str r.data]) rfl rfl ?_
  intro p w1 x1 hp
  refine gset ?_
  repeat' (first | ((with_reducible refine nx0 ?_); go_step) | ((with_reducible refine o_s ?_); first | refine wk0 ?_ | (refine wg0 ?_ ?_ <;> intro hc)) | fail)
  go_ret
  exact ⟨rfl, x1⟩
theorem p_cmpH (a b : Rec) (w : World) : Calls Tryz.prog 133 #[.agg #[str a.name, .int .i64 a.kind, .int .i64 a.ttl, str a.data], .agg #[str b.name, .int .i64 b.kind, .int .i64 b.ttl, str b.data]] w (RetV w (.int .i64 (cmpH a b))) := by
  go_enter Tryz.func133, Tryz.ntmps133
  repeat' (first | ((with_reducible refine nx0 ?_); go_step) | fail)
  refine wpl_box (vs := [str a.name, .int .i64 a.kind, .int .i64 a.ttl, str a.data]) rfl rfl ?_
  intro p w1 x1 hp
  refine gset ?_
  refine wpl_box (vs := [str b.name, .int .i64 b.kind, .int .i64 b.ttl, str b.data]) rfl rfl ?_
  intro q w2 x2 hq
  refine gset ?_
  repeat' (first | ((with_reducible refine nx0 ?_); go_step) | ((with_reducible refine o_s ?_); first | refine wk0 ?_ | (refine wg0 ?_ ?_ <;> intro hc)) | fail)
  have hp2 := hp.ext x2
  refine wpq_region (by decide +kernel) (by decide +kernel) ?_
  (try ((with_reducible refine qh0 ?_); refine qk0 ?_))
  refine wpq_call (enters_of Tryz.func109 rfl rfl) rfl rfl (fun w' _ => p_isSoa a w') ?_
  refine gset ?_
  (try ((with_reducible refine qh0 ?_); refine qk0 ?_))
  refine wpq_call (enters_of Tryz.func109 rfl rfl) rfl rfl (fun w' _ => p_isSoa b w') ?_
  refine gset ?_
  (try ((with_reducible refine qh0 ?_); refine qk0 ?_))
  refine wpq_run0 (fun w' _ => Runs.eqlB (a := isSoaR a) (b := isSoaR b) rfl rfl (by decide +kernel)) ?_
  refine gset ?_
  (try ((with_reducible refine qh0 ?_); refine qk0 ?_))
  intro w3 x3
  have hp3 := hp2.ext x3
  cases ha : isSoaR a <;> cases hb : isSoaR b
  · have e : cmpH a b = 0 := by simp [cmpH, ha, hb]
    repeat' (first | ((with_reducible refine nx0 ?_); go_step) | ((with_reducible refine o_s ?_); first | refine wk0 ?_ | (refine wg0 ?_ ?_ <;> intro hc)) | fail)
    go_ret
    exact ⟨by rw [e]; rfl, (x1.trans x2).trans x3⟩
  · have e : cmpH a b = 1 := by simp [cmpH, ha, hb]
    repeat' (first | ((with_reducible refine nx0 ?_); go_step) | ((with_reducible refine o_s ?_); first | refine wk0 ?_ | (refine wg0 ?_ ?_ <;> intro hc)) | fail)
    refine wpl_callV (enters_of Tryz.func109 rfl rfl) rfl rfl (p_isSoa a _) ?_; intro w4 x4; refine gset ?_
    rw [ha]
    repeat' (first | ((with_reducible refine nx0 ?_); go_step) | ((with_reducible refine o_s ?_); first | refine wk0 ?_ | (refine wg0 ?_ ?_ <;> intro hc)) | fail)
    go_ret
    exact ⟨by rw [e]; rfl, ((x1.trans x2).trans x3).trans x4⟩
  · have e : cmpH a b = -1 := by simp [cmpH, ha, hb]
    repeat' (first | ((with_reducible refine nx0 ?_); go_step) | ((with_reducible refine o_s ?_); first | refine wk0 ?_ | (refine wg0 ?_ ?_ <;> intro hc)) | fail)
    refine wpl_callV (enters_of Tryz.func109 rfl rfl) rfl rfl (p_isSoa a _) ?_; intro w4 x4; refine gset ?_
    rw [ha]
    repeat' (first | ((with_reducible refine nx0 ?_); go_step) | ((with_reducible refine o_s ?_); first | refine wk0 ?_ | (refine wg0 ?_ ?_ <;> intro hc)) | fail)
    go_ret
    exact ⟨by rw [e]; rfl, ((x1.trans x2).trans x3).trans x4⟩
  · have e : cmpH a b = 0 := by simp [cmpH, ha, hb]
    repeat' (first | ((with_reducible refine nx0 ?_); go_step) | ((with_reducible refine o_s ?_); first | refine wk0 ?_ | (refine wg0 ?_ ?_ <;> intro hc)) | fail)
    go_ret
    exact ⟨by rw [e]; rfl, (x1.trans x2).trans x3⟩
section
variable {P : Program} {w w' : World} {d : Option Nat} {ty : TypeId} {ps : String} {af : Array Edge} {g : Option (Nat × Bool)}
theorem Runs.pred {t u : TypeId} {x y : Operand} {a : Act} {m : Nat} (hx : a.eval x = .int .i64 ((m + 1 : Nat) : Int)) (hy : a.eval y = .int .i64 1) (h : m < 4611686018427387904) :
    Runs P (Oper.mk d (.binOp .sub t x y u) ty ps af g) a w (.int .i64 (m : Nat)) := by
  have h1 := Runs.sub (P := P) (w := w) (d := d) (ty := ty) (ps := ps) (af := af) (g := g) (t := t) (u := u) hx hy (by omega)
  rwa [show ((m + 1 : Nat) : Int) - 1 = (m : Nat) by omega] at h1
end
section
variable {P : Program} {w w' : World} {d : Option Nat} {ty : TypeId} {ps : String} {af : Array Edge} {g : Option (Nat × Bool)}
theorem Runs.addN {t u : TypeId} {x y : Operand} {a : Act} {m n : Nat} (hx : a.eval x = .int .i64 (m : Nat)) (hy : a.eval y = .int .i64 (n : Nat)) (h : m + n < 4611686018427387904) :
    Runs P (Oper.mk d (.binOp .add t x y u) ty ps af g) a w (.int .i64 ((m + n : Nat) : Int)) := by
  have h1 := Runs.add (P := P) (w := w) (d := d) (ty := ty) (ps := ps) (af := af) (g := g) (t := t) (u := u) hx hy (by omega)
  rwa [show (m : Int) + (n : Int) = ((m + n : Nat) : Int) by omega] at h1
theorem Runs.add0 {t u : TypeId} {x y : Operand} {a : Act} {m : Nat} (hx : a.eval x = .int .i64 (m : Nat)) (hy : a.eval y = .int .i64 ((0 : Nat) : Int)) (h : m < 4611686018427387904) :
    Runs P (Oper.mk d (.binOp .add t x y u) ty ps af g) a w (.int .i64 (m : Nat)) := Runs.addN (n := 0) hx hy h
end
section
variable {P : Program} {ops : Array Oper} {rest : List Oper} {ts : List Value} {df : List Deferred} {ty : TypeId} {ps : String} {af : Array Edge} {g : Option (Nat × Bool)} {tys : Array TypeId}
theorem wpq_callT {w0 : World} {QQ : Act → Prop} {f : FuncId} {m d : Nat} {caps : Array Value} {xs : List Operand} {vs : List Value} {v : Value} (he : Enters P f) (hw : Region.wanted (Oper.mk (some d) (.call ⟨.value (.tmp m), xs.toArray, tys⟩) ty ps af g) (yielded ops ts.toArray) = true)
    (hm : ts.getD m undef = .func (.func f) #[] caps) (hxs : xs.map (Act.mk ts.toArray df).eval = vs) (hc : ∀ w, Ext w0 w → Calls P f (vs.toArray ++ caps) w (RetV w v)) (h : wpQuiet P ops (Ext w0) QQ rest (Act.mk (ts.set d v).toArray df)) :
    wpQuiet P ops (Ext w0) QQ (Oper.mk (some d) (.call ⟨.value (.tmp m), xs.toArray, tys⟩) ty ps af g :: rest) (Act.mk ts.toArray df) := by
  subst hxs
  unfold wpQuiet
  rw [if_pos hw]
  refine ⟨v, fun w hx => ?_, by simpa [Act.put] using h⟩
  have e1 : (Act.mk ts.toArray df).eval (.tmp m) = .func (.func f) #[] caps := by rw [evalT]; exact hm
  have hr : (execOp (Act.mk ts.toArray df).eval (Oper.mk (some d) (.call ⟨.value (.tmp m), xs.toArray, tys⟩) ty ps af g)).run P w = .ok (.enter f ((xs.map (Act.mk ts.toArray df).eval).toArray ++ caps)) w := by
    have h1 := he ((xs.map (Act.mk ts.toArray df).eval).toArray ++ caps) w
    simpa [execOp, resolve, e1, Deferred.ofValue, invoke] using h1
  unfold Oper.quietAt
  rw [hr]
  exact ⟨rfl, (hc w hx).mono fun e w' ⟨h1, h2⟩ => ⟨h1, hx.trans h2⟩⟩
end
def swR (D : List Rec) (i j : Nat) : List Rec := (D.set i (D.getD j zeroRec)).set j (D.getD i zeroRec)
theorem rcells_set (D : List Rec) (i : Nat) (r : Rec) : (rcells D).set i r.cells = rcells (D.set i r) := by
  unfold rcells; rw [List.map_set]
theorem getD_at {D : List Rec} {i : Nat} (h : i < D.length) : (rcells D)[i]? = some (D.getD i zeroRec).cells := by
  rw [rcells, List.getElem?_map, List.getElem?_eq_getElem h, List.getD_eq_getElem?_getD, List.getElem?_eq_getElem h]
  rfl
theorem Rec.cells1 (r : Rec) : ∀ u ∈ r.cells, u.oneCell' = true := by
  intro u hu
  simp only [Rec.cells, List.mem_cons, List.not_mem_nil, or_false] at hu
  rcases hu with rfl | rfl | rfl | rfl <;> rfl
set_option maxHeartbeats 4000000 in
theorem p_swap1 {B : Nat} (v : Value) (D : List Rec) (i j : Nat) (f : Value) (w : World) (ho : Own B 4 81 w v (rcells D)) (hi : i < D.length) (hj : j < D.length) (hl : D.length ≤ 1000000) :
    Calls Tryz.prog 276 #[v, .int .i64 i, .int .i64 j, .int .i64 1, f] w fun e w' => e = .returned (.tuple #[]) ∧ Own B 4 81 w' v (rcells (swR D i j)) ∧ Mv v.ownBlock w w' := by
  go_enter Tryz.func276, Tryz.ntmps276
  repeat' (first | ((with_reducible refine nx0 ?_); go_step) | ((with_reducible refine o_s ?_); first | refine wk0 ?_ | (refine wg0 ?_ ?_ <;> intro hc)) | fail)
  go_loopw [10] (fun a wr => ∃ k : Nat, k ≤ 1 ∧ a = .int .i64 k ∧ Own B 4 81 wr v (rcells (if k = 0 then D else swR D i j)) ∧ Mv v.ownBlock w wr) (fun a _ => 1 - (intOf a).toNat)
  case atStart => exact ⟨0, Nat.zero_le _, rfl, ho, Mv.refl _ _⟩
  case round =>
    obtain ⟨k, hk, rfl, ho1, m1⟩ := hrel
    by_cases hk0 : k = 0
    · subst hk0
      rw [if_pos rfl] at ho1
      have hs := ho1.sl
      have hlen := rcells_length D
      have hei : Pts wr (elemPtr v (i * 4)) [str (D.getD i zeroRec).name, .int .i64 (D.getD i zeroRec).kind, .int .i64 (D.getD i zeroRec).ttl, str (D.getD i zeroRec).data] := hs.elem (getD_at hi)
      have hej : Pts wr (elemPtr v (j * 4)) [str (D.getD j zeroRec).name, .int .i64 (D.getD j zeroRec).kind, .int .i64 (D.getD j zeroRec).ttl, str (D.getD j zeroRec).data] := hs.elem (getD_at hj)
      repeat' (first | ((with_reducible refine nx0 ?_); go_step) | ((with_reducible refine o_s ?_); first | refine wk0 ?_ | (refine wg0 ?_ ?_ <;> intro hc)) | fail)
      refine wpi_region 21 (Ext wr) (by decide +kernel) ?_
      intro w1 x1 _
      refine ⟨x1, ?_⟩
      refine ip0 0 ?_; refine ip0 1 ?_; refine ip0 2 ?_
      refine ipr0 3 rfl (fun _ => Runs.add0 (m := i) rfl rfl (by omega)) ?_; refine gset ?_
      refine ip0 4 ?_; refine ip0 5 ?_; refine ip0 6 ?_
      refine ipr0 7 rfl (fun _ => Runs.add0 (m := j) rfl rfl (by omega)) ?_; refine gset ?_
      refine ip0 8 ?_; refine ip0 9 ?_; refine ip0 10 ?_
      refine ipr0 11 rfl (fun _ => Runs.add0 (m := j) rfl rfl (by omega)) ?_; refine gset ?_
      refine it0 12 ?_; refine it0 13 ?_
      refine ip0 14 ?_; refine ip0 15 ?_; refine ip0 16 ?_
      refine ipr0 17 rfl (fun _ => Runs.add0 (m := i) rfl rfl (by omega)) ?_; refine gset ?_
      refine it0 18 ?_; refine it0 19 ?_
      refine ipr0 20 rfl (fun _ => Runs.idxW (n := i) rfl hs (by omega) (by decide +kernel)) ?_; refine gset ?_
      have ho2 := ho1.ext x1
      refine wpi_op (i := 21) (by decide +kernel) rfl rfl ?_
      refine wpl_storeEk (i := i) (f := (D.getD j zeroRec).cells) rfl rfl rfl ho2 (by omega) rfl rfl (Rec.cells1 _) (by decide +kernel) ?_
      intro w2 o2 m2
      refine wph_nil ⟨till_no rfl, ?_⟩
      refine ipr0 22 rfl (fun _ => Runs.idxW (n := j) rfl hs (by omega) (by decide +kernel)) ?_; refine gset ?_
      refine wpi_op (i := 23) (by decide +kernel) rfl rfl ?_
      refine wpl_storeEk (i := j) (f := (D.getD i zeroRec).cells) rfl rfl rfl o2 (by rw [List.length_set]; omega) rfl rfl (Rec.cells1 _) (by decide +kernel) ?_
      intro w3 o3 m3
      refine wph_nil ⟨till_no rfl, ?_⟩
      refine wpi_done (by decide +kernel) ?_
      rw [rcells_set, rcells_set] at o3
      repeat' (first | ((with_reducible refine nx0 ?_); go_step) | ((with_reducible refine o_s ?_); first | refine wk0 ?_ | (refine wg0 ?_ ?_ <;> intro hc)) | fail)
      exact ⟨⟨1, Nat.le_refl _, by go_num, by rw [if_neg (by omega)]; exact o3, ((m1.trans (x1.mv _)).trans m2).trans m3⟩, by simp [intOf]⟩
    · have : k = 1 := by omega
      subst this
      rw [if_neg hk0] at ho1
      repeat' (first | ((with_reducible refine nx0 ?_); go_step) | ((with_reducible refine o_s ?_); first | refine wk0 ?_ | (refine wg0 ?_ ?_ <;> intro hc)) | fail)
      go_end0
      exact ⟨rfl, ho1, m1⟩
theorem stR_lt {x : Option Rec} {os : List Rec} {q i j : Nat} (h : Sx x os q) (hi : i < stN x os) (hj : j < stN x os) : decide (cmpH ((stR x os q).getD i zeroRec) ((stR x os q).getD j zeroRec) < 0) = (decide (i = q) && !decide (j = q)) := by
  obtain ⟨r, h1, h2⟩ := stR_soa h hi
  obtain ⟨s, h3, h4⟩ := stR_soa h hj
  rw [cmpH_lt, List.getD_eq_getElem?_getD, List.getD_eq_getElem?_getD, h1, h3]
  simp only [Option.getD_some, h2, h4]
theorem stR_sw {x : Option Rec} {os : List Rec} {q : Nat} (h : Sx x os (q + 1)) (hq : q + 1 < stN x os) : swR (stR x os (q + 1)) (q + 1) q = stR x os q ∧ swR (stR x os (q + 1)) q (q + 1) = stR x os q := by
  obtain ⟨a, b, h1, h2, h3, h4⟩ := stR_swap h hq
  unfold swR
  rw [List.getD_eq_getElem?_getD, List.getD_eq_getElem?_getD, h1, h2]
  exact ⟨h3, h4⟩
def insQ (a b q : Nat) : Nat := if a ≤ q ∧ q < b then a else q
set_option maxHeartbeats 4000000 in
theorem p_insertion {B : Nat} (v : Value) (x : Option Rec) (os : List Rec) (q a b : Nat) (w : World) (h : Sx x os q) (ho : Own B 4 81 w v (rcells (stR x os q))) (hab : a ≤ b) (hb : b ≤ stN x os) (hl : stN x os ≤ 1000000) :
    Calls Tryz.prog 247 #[v, .int .i64 a, .int .i64 b, .func (.func 133) #[] #[]] w fun e w' => e = .returned (.tuple #[]) ∧ Own B 4 81 w' v (rcells (stR x os (insQ a b q))) ∧ Mv v.ownBlock w w' := by
  go_enter Tryz.func247, Tryz.ntmps247
  repeat' (first | ((with_reducible refine nx0 ?_); go_step) | ((with_reducible refine o_s ?_); first | refine wk0 ?_ | (refine wg0 ?_ ?_ <;> intro hc)) | fail)
  go_loopw [8, 9] (fun i _ wr => ∃ k : Nat, a + 1 ≤ k ∧ (k ≤ b ∨ k = a + 1) ∧ i = .int .i64 k ∧ Own B 4 81 wr v (rcells (stR x os (insQ a k q))) ∧ Mv v.ownBlock w wr) (fun i _ _ => b - (intOf i).toNat)
  case atStart =>
    refine ⟨a + 1, Nat.le_refl _, .inr rfl, by go_num, ?_, Mv.refl _ _⟩
    have : insQ a (a + 1) q = q := by unfold insQ; split <;> omega
    rw [this]; exact ho
  case round =>
    obtain ⟨k, hk, hk2, rfl, ho1, m1⟩ := hrel
    by_cases hlt : k < b
    · repeat' (first | ((with_reducible refine nx0 ?_); go_step) | ((with_reducible refine o_s ?_); first | refine wk0 ?_ | (refine wg0 ?_ ?_ <;> intro hc)) | fail)
      have hq : Sx x os (insQ a k q) := by
        unfold insQ; split
        · exact h.to (by omega) (by omega)
        · exact h
      have hqk : insQ a k q = q ∨ insQ a k q = a := by unfold insQ; split <;> simp
      obtain ⟨Q, hQe⟩ : ∃ Q, Q = insQ a k q := ⟨_, rfl⟩
      rw [← hQe] at ho1 hq hqk
      go_loopw [9] (fun j w2 => ∃ m : Nat, a ≤ m ∧ m ≤ k ∧ (Q ≠ k → m = k) ∧ j = .int .i64 m ∧ Own B 4 81 w2 v (rcells (stR x os (if Q = k then m else Q))) ∧ Mv v.ownBlock w w2) (fun j _ => (intOf j).toNat)
      case atStart =>
        have e : (if Q = k then k else Q) = Q := by split <;> omega
        exact ⟨k, by omega, Nat.le_refl _, fun _ => rfl, rfl, by rw [e]; exact ho1, m1⟩
      case round =>
        obtain ⟨m, hm1, hm2, hm3, rfl, ho2, m2⟩ := hrel
        repeat' (first | ((with_reducible refine nx0 ?_); go_step) | fail)
        refine wpq_region (by decide +kernel) (by decide +kernel) ?_
        (try ((with_reducible refine qh0 ?_); refine qk0 ?_))
        have hQk : Q = k → k < stN x os := fun _ => by omega
        obtain ⟨s, hs⟩ : ∃ s, s = (if Q = k then m else Q) := ⟨_, rfl⟩
        rw [← hs] at ho2
        have hS : Sx x os s := by
          rw [hs]; split
          · rename_i e; exact hq.to (by omega) (by omega)
          · exact hq
        have hDl := stR_len hS
        have hrl := rcells_length (stR x os s)
        have hsl := ho2.sl
        by_cases hma : a < m
        · obtain ⟨n, rfl⟩ : ∃ n, m = n + 1 := ⟨m - 1, by omega⟩
          have hcm := stR_lt hS (i := n + 1) (j := n) (by omega) (by omega)
          have hl1 : n + 1 < (stR x os s).length := by omega
          have hl2 : n < (stR x os s).length := by omega
          have g1 := getD_at hl1
          have g2 := getD_at hl2
          generalize hA : (stR x os s).getD (n + 1) zeroRec = A at *
          generalize hC : (stR x os s).getD n zeroRec = C at *
          have he1 : Pts wr (elemPtr v ((n + 1) * 4)) [str A.name, .int .i64 A.kind, .int .i64 A.ttl, str A.data] := hsl.elem g1
          have he2 : Pts wr (elemPtr v (n * 4)) [str C.name, .int .i64 C.kind, .int .i64 C.ttl, str C.data] := hsl.elem g2
          rw [decide_eq_true (by omega : (a : Int) < ((n + 1 : Nat) : Int))]
          have he3 : Pts wr (elemPtr v ((((n + 1 : Nat) : Int) - 1).toNat * 4)) [str C.name, .int .i64 C.kind, .int .i64 C.ttl, str C.data] := by
            rw [show (((n + 1 : Nat) : Int) - 1).toNat = n by omega]; exact he2
          (try ((with_reducible refine qh0 ?_); refine qk0 ?_))
          refine wpq_callT (enters_of Tryz.func133 rfl rfl) rfl rfl rfl (fun w' _ => p_cmpH A C w') ?_
          refine gset ?_
          (try ((with_reducible refine qh0 ?_); refine qk0 ?_))
          rw [hcm]
          (try ((with_reducible refine qh0 ?_); refine qk0 ?_))
          intro w3 x3
          have ho3 := ho2.ext x3
          have hmv3 := (m2.trans (x3.mv _))
          by_cases hsm : n + 1 = s
          · rw [decide_eq_true hsm, decide_eq_false (by omega : ¬ n = s)]
            simp only [Bool.not_false, Bool.and_true]
            repeat' (first | ((with_reducible refine nx0 ?_); go_step) | ((with_reducible refine o_s ?_); first | refine wk0 ?_ | (refine wg0 ?_ ?_ <;> intro hc)) | fail)
            refine wpi_region 15 (Ext w3) (by decide +kernel) ?_
            intro w4 x4 _
            refine ⟨x4, ?_⟩
            have hsl3 := ho3.sl
            refine ip0 0 ?_; refine ip0 1 ?_; refine ip0 2 ?_; refine ip0 3 ?_
            refine ipr0 4 rfl (fun _ => Runs.pred (m := n) rfl rfl (by omega)) ?_; refine gset ?_
            refine ip0 5 ?_; refine ip0 6 ?_
            refine ipr0 7 rfl (fun _ => Runs.pred (m := n) rfl rfl (by omega)) ?_; refine gset ?_
            refine it0 8 ?_; refine it0 9 ?_
            refine ip0 10 ?_; refine ip0 11 ?_
            refine it0 12 ?_; refine it0 13 ?_
            refine ipr0 14 rfl (fun _ => Runs.idxW (n := n + 1) rfl hsl3 (by omega) (by decide +kernel)) ?_; refine gset ?_
            refine wpi_op (i := 15) (by decide +kernel) rfl rfl ?_
            refine wpl_storeEk (i := n + 1) (f := C.cells) rfl rfl rfl (ho3.ext x4) (by omega) rfl rfl (Rec.cells1 _) (by decide +kernel) ?_
            intro w5 o5 m5
            refine wph_nil ⟨till_no rfl, ?_⟩
            refine ipr0 16 rfl (fun _ => Runs.idxW (n := n) rfl hsl3 (by omega) (by decide +kernel)) ?_; refine gset ?_
            refine wpi_op (i := 17) (by decide +kernel) rfl rfl ?_
            refine wpl_storeEk (i := n) (f := A.cells) rfl rfl rfl o5 (by rw [List.length_set]; omega) rfl rfl (Rec.cells1 _) (by decide +kernel) ?_
            intro w6 o6 m6
            refine wph_nil ⟨till_no rfl, ?_⟩
            refine wpi_done (by decide +kernel) ?_
            rw [rcells_set, rcells_set] at o6
            subst hsm
            have hsw := (stR_sw hS (by omega)).1
            unfold swR at hsw
            rw [hA, hC] at hsw
            rw [hsw] at o6
            have hQ : Q = k := by
              by_cases e : Q = k
              · exact e
              · rw [if_neg e] at hs; have := hm3 e; omega
            repeat' (first | ((with_reducible refine nx0 ?_); go_step) | ((with_reducible refine o_s ?_); first | refine wk0 ?_ | (refine wg0 ?_ ?_ <;> intro hc)) | fail)
            refine ⟨⟨n, by omega, by omega, fun e => absurd hQ e, by go_num, by rw [if_pos hQ]; exact o6, ((hmv3.trans (x4.mv _)).trans m5).trans m6⟩, by simp [intOf]⟩
          · rw [decide_eq_false hsm]
            simp only [Bool.false_and]
            have hQ : Q ≠ k := by
              intro e
              rw [if_pos e] at hs
              exact hsm hs.symm
            rw [if_neg hQ] at hs
            have hm := hm3 hQ
            have e : insQ a (k + 1) q = s := by
              rw [hs, hQe]
              unfold insQ at hQe ⊢
              split at hQe <;> split <;> omega
            repeat' (first | ((with_reducible refine nx0 ?_); go_step) | ((with_reducible refine o_s ?_); first | refine wk0 ?_ | (refine wg0 ?_ ?_ <;> intro hc)) | fail)
            refine ⟨⟨k + 1, by omega, .inl (by omega), rfl, by rw [e]; exact ho3, hmv3⟩, by simp [intOf]; omega⟩
        · have hma' : m = a := by omega
          subst hma'
          have hQ : Q = k := by
            by_cases e : Q = k
            · exact e
            · have := hm3 e; omega
          rw [if_pos hQ] at hs
          have e : insQ m (k + 1) q = s := by
            rw [hs]
            unfold insQ at hQe ⊢
            split at hQe <;> split <;> omega
          rw [decide_eq_false (by omega : ¬ ((m : Int) < (m : Int)))]
          (try ((with_reducible refine qh0 ?_); refine qk0 ?_))
          intro w3 x3
          have ho3 := ho2.ext x3
          have hmv3 := (m2.trans (x3.mv _))
          repeat' (first | ((with_reducible refine nx0 ?_); go_step) | ((with_reducible refine o_s ?_); first | refine wk0 ?_ | (refine wg0 ?_ ?_ <;> intro hc)) | fail)
          refine ⟨⟨k + 1, by omega, .inl (by omega), rfl, by rw [e]; exact ho3, hmv3⟩, by simp [intOf]; omega⟩
    · repeat' (first | ((with_reducible refine nx0 ?_); go_step) | ((with_reducible refine o_s ?_); first | refine wk0 ?_ | (refine wg0 ?_ ?_ <;> intro hc)) | fail)
      go_end0
      have e : insQ a k q = insQ a b q := by
        rcases hk2 with hk2 | hk2
        · rw [show k = b by omega]
        · unfold insQ
          split <;> split <;> omega
      exact ⟨rfl, by rw [← e]; exact ho1, m1⟩
def RecFn (f : FuncId) (l : List Rec) (p : Rec → Bool) : Prop := ∀ r ∈ l, ∀ w', Calls Tryz.prog f #[.agg #[str r.name, .int .i64 r.kind, .int .i64 r.ttl, str r.data]] w' (RetV w' (.bool (p r)))
set_option maxHeartbeats 3000000 in
theorem p_IndexFuncR (v : Value) (l : List Rec) (f : FuncId) (p : Rec → Bool) (w : World) (hv : Sl 4 w v (rcells l)) (he : Enters Tryz.prog f) (hf : RecFn f l p) : Calls Tryz.prog 165 #[v, .func (.func f) #[] #[]] w (RetV w (.int .i64 (idxI p l))) := by
  have hle := hv.le
  have hlen := rcells_length l
  go_enter Tryz.func165, Tryz.ntmps165
  (repeat' first | ((with_reducible refine nx0 ?_); go_step) | ((with_reducible refine o_s ?_); first | refine wk0 ?_ | (refine wg0 ?_ ?_ <;> intro hc)) | fail)
  go_loopw [5, 8] (fun _ i wr => ∃ k : Nat, k ≤ l.length ∧ i = .int .i64 k ∧ Ext w wr ∧ (l.take k).any p = false) (fun _ i _ => l.length - (intOf i).toNat)
  case atStart => exact ⟨0, Nat.zero_le _, rfl, Ext.refl _, rfl⟩
  case round =>
    obtain ⟨k, hk, rfl, hx, hall⟩ := hrel
    have hv2 := hv.ext hx
    by_cases hlt : k < l.length
    · have hpe := hv2.elem (rcells_at hlt)
      (repeat' first | ((with_reducible refine nx0 ?_); go_step) | ((with_reducible refine o_s ?_); first | refine wk0 ?_ | (refine wg0 ?_ ?_ <;> intro hc)) | fail)
      refine wpl_callT he rfl rfl rfl (hf _ (List.getElem_mem hlt) _) ?_
      rintro e w2 ⟨rfl, x2⟩
      refine ⟨_, rfl, ?_⟩
      refine gset ?_
      cases hp : p l[k] with
      | true =>
        (repeat' first | ((with_reducible refine nx0 ?_); go_step) | ((with_reducible refine o_s ?_); first | refine wk0 ?_ | (refine wg0 ?_ ?_ <;> intro hc)) | fail)
        go_ret
        exact ⟨by rw [idx_at hlt hall hp]; rfl, hx.trans x2⟩
      | false =>
        (repeat' first | ((with_reducible refine nx0 ?_); go_step) | ((with_reducible refine o_s ?_); first | refine wk0 ?_ | (refine wg0 ?_ ?_ <;> intro hc)) | fail)
        exact ⟨⟨k + 1, by omega, by go_num, hx.trans x2, any_take hlt hall hp⟩, by simp [intOf]; omega⟩
    · have : k = l.length := by omega
      subst this
      rw [List.take_length] at hall
      (repeat' first | ((with_reducible refine nx0 ?_); go_step) | ((with_reducible refine o_s ?_); first | refine wk0 ?_ | (refine wg0 ?_ ?_ <;> intro hc)) | fail)
      go_ret
      exact ⟨by rw [idx_no hall]; rfl, hx⟩
theorem p_ContainsFuncR (v : Value) (l : List Rec) (f : FuncId) (p : Rec → Bool) (w : World) (hv : Sl 4 w v (rcells l)) (he : Enters Tryz.prog f) (hf : RecFn f l p) : Calls Tryz.prog 106 #[v, .func (.func f) #[] #[]] w (RetV w (.bool (l.any p))) := by
  go_enter Tryz.func106, Tryz.ntmps106
  (repeat' first | ((with_reducible refine nx0 ?_); go_step) | ((with_reducible refine o_s ?_); first | refine wk0 ?_ | (refine wg0 ?_ ?_ <;> intro hc)) | fail)
  refine wpl_callV (enters_of Tryz.func165 rfl rfl) rfl rfl (p_IndexFuncR v l f p _ hv he hf) ?_; intro w1 x1; refine gset ?_
  (repeat' first | ((with_reducible refine nx0 ?_); go_step) | ((with_reducible refine o_s ?_); first | refine wk0 ?_ | (refine wg0 ?_ ?_ <;> intro hc)) | fail)
  go_ret
  exact ⟨by rw [← idx_any]; rfl, x1⟩
theorem p_Install1 (r : Rec) (w : World) : Calls Tryz.prog 107 #[.agg #[str r.name, .int .i64 r.kind, .int .i64 r.ttl, str r.data]] w (RetV w (.bool (!decide (checkR r = 0)))) := by
  go_enter Tryz.func107, Tryz.ntmps107
  repeat' (first | ((with_reducible refine nx0 ?_); go_step) | fail)
  refine wpl_box (vs := [str r.name, .int .i64 r.kind, .int .i64 r.ttl, str r.data]) rfl rfl ?_
  intro p w1 x1 hp
  refine gset ?_
  (repeat' first | ((with_reducible refine nx0 ?_); go_step) | ((with_reducible refine o_s ?_); first | refine wk0 ?_ | (refine wg0 ?_ ?_ <;> intro hc)) | fail)
  refine wpl_callV (enters_of Tryz.func108 rfl rfl) rfl rfl (t16 r _) ?_; intro w2 x2; refine gset ?_
  (repeat' first | ((with_reducible refine nx0 ?_); go_step) | ((with_reducible refine o_s ?_); first | refine wk0 ?_ | (refine wg0 ?_ ?_ <;> intro hc)) | fail)
  go_ret
  exact ⟨rfl, x1.trans x2⟩
theorem next_idx : ∀ m : List Rec, idxI isSoaR m = -1 ∧ nextSoa m = m.length ∨ idxI isSoaR m = (nextSoa m : Int) ∧ nextSoa m < m.length
  | [] => .inl ⟨rfl, rfl⟩
  | r :: t => by
    unfold idxI nextSoa
    rw [List.findIdx?_cons]
    by_cases h : isSoaR r = true
    · rw [if_pos h, if_pos h]
      exact .inr ⟨rfl, by simp⟩
    · rw [if_neg h, if_neg h]
      have ih := next_idx t
      unfold idxI at ih
      cases hf : t.findIdx? isSoaR with
      | none =>
        rw [hf] at ih
        rcases ih with ⟨_, h2⟩ | ⟨h1, _⟩
        · exact .inl ⟨rfl, by rw [h2, List.length_cons]⟩
        · exfalso
          simp only at h1
          omega
      | some i =>
        rw [hf] at ih
        simp only at ih
        rcases ih with ⟨h1, _⟩ | ⟨h1, h2⟩
        · omega
        · refine .inr ⟨?_, by simp; omega⟩
          simp only [Option.map_some]
          omega
theorem parts {v : Value} {l : List Rec} {w : World} (hv : Sl 4 w v (rcells l)) {n : Nat} (hn : n ≤ l.length) : Sl 4 w (cutSl v 4 0 n) (rcells (l.take n)) ∧ Sl 4 w (cutSl v 4 n l.length) (rcells (l.drop n)) := by
  have hlen := rcells_length l
  have a := hv.cut (m := 0) (n := n) (by omega) (by omega)
  have b := hv.cut (m := n) (n := l.length) (by omega) (by omega)
  rw [← hlen, List.take_length, hlen] at b
  exact ⟨by simpa [rcells, List.map_take] using a, by simpa [rcells, List.map_drop] using b⟩
set_option maxHeartbeats 3000000 in
theorem p_part (v : Value) (l : List Rec) (w : World) (hv : Sl 4 w v (rcells l)) (hne : l ≠ []) (hl : l.length ≤ 1000000) : Calls Tryz.prog 214 #[v] w (RetV w (.tuple #[cutSl v 4 0 (partN l), cutSl v 4 (partN l) l.length])) := by
  have hlen := rcells_length l
  have hpos : 1 ≤ l.length := List.length_pos_iff.2 hne
  have hd1 := hv.cut (m := 1) (n := (rcells l).length) (by omega) (Nat.le_refl _)
  rw [List.take_length, show (rcells l).drop 1 = rcells (l.drop 1) by simp [rcells, List.map_drop]] at hd1
  go_enter Tryz.func214, Tryz.ntmps214
  (repeat' first | ((with_reducible refine nx0 ?_); go_step) | ((with_reducible refine o_s ?_); first | refine wk0 ?_ | (refine wg0 ?_ ?_ <;> intro hc)) | fail)
  refine wpl_callV (enters_of Tryz.func165 rfl rfl) rfl rfl (p_IndexFuncR _ (l.drop 1) _ isSoaR w hd1 (enters_of Tryz.func109 rfl rfl) (fun r _ w' => p_isSoa r w')) ?_; intro w2 x2; refine gset ?_
  have hv2 := hv.ext x2
  have hq := partN_le hne
  have hpn : partN l = 1 + nextSoa (l.drop 1) := rfl
  rcases next_idx (l.drop 1) with ⟨h1, h2⟩ | ⟨h1, h2⟩
  · rw [h1]
    have e : partN l = l.length := by rw [hpn, h2, List.length_drop]; omega
    (repeat' first | ((with_reducible refine nx0 ?_); go_step) | ((with_reducible refine o_s ?_); first | refine wk0 ?_ | (refine wg0 ?_ ?_ <;> intro hc)) | fail)
    rw [show ((rcells l).length : Int) = ((partN l : Nat) : Int) by rw [hlen, e]]
    refine wpq_region (by decide +kernel) (by decide +kernel) ?_
    (try ((with_reducible refine qh0 ?_); refine qk0 ?_))
    intro w3 x3
    (repeat' first | ((with_reducible refine nx0 ?_); go_step) | ((with_reducible refine o_s ?_); first | refine wk0 ?_ | (refine wg0 ?_ ?_ <;> intro hc)) | fail)
    go_ret2
    exact ⟨by rw [hlen]; rfl, x2.trans x3⟩
  · rw [h1]
    (repeat' first | ((with_reducible refine nx0 ?_); go_step) | ((with_reducible refine o_s ?_); first | refine wk0 ?_ | (refine wg0 ?_ ?_ <;> intro hc)) | fail)
    rw [show (1 : Int) + (nextSoa (l.drop 1) : Int) = ((partN l : Nat) : Int) by rw [hpn]; omega]
    refine wpq_region (by decide +kernel) (by decide +kernel) ?_
    (try ((with_reducible refine qh0 ?_); refine qk0 ?_))
    intro w3 x3
    (repeat' first | ((with_reducible refine nx0 ?_); go_step) | ((with_reducible refine o_s ?_); first | refine wk0 ?_ | (refine wg0 ?_ ?_ <;> intro hc)) | fail)
    go_ret2
    exact ⟨by rw [hlen]; rfl, x2.trans x3⟩
end Go.Proofs.X
