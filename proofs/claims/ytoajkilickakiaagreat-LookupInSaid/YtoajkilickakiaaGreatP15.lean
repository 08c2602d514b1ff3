/- Laws and walks that the proof of the statement is made of (part 15). -/
import Derived.Test.YtoajkilickakiaaGreatProg
import Derived.Test.YtoajkilickakiaaGreatShelf
import Derived.Shelf.SlSortCmp.NoneTotal
import Derived.Shelf.RegionOpenPlain
import Derived.Lib.Strings
import Derived.Lib.Slices
import Derived.Lib.Walk
import Derived.Lib.Builder
import Derived.Lib.AppendStr
import Derived.Lib.UnsafeStr
import Derived.Lib.MakeNoZero
import Derived.WalkKit
import Derived.Laws.Externs
import Derived.Laws.IdiomCopy
import Derived.Laws.BitsLemmas
import GoSem.Claims
import Derived.Lib.Hide
import Derived.OwnWalk
import Derived.Test.YtoajkilickakiaaGreatP1
import Derived.Test.YtoajkilickakiaaGreatP2
import Derived.Test.YtoajkilickakiaaGreatP3
import Derived.Test.YtoajkilickakiaaGreatP4
import Derived.Test.YtoajkilickakiaaGreatP5
import Derived.Test.YtoajkilickakiaaGreatP6
import Derived.Test.YtoajkilickakiaaGreatP7
import Derived.Test.YtoajkilickakiaaGreatP8
import Derived.Test.YtoajkilickakiaaGreatP9
import Derived.Test.YtoajkilickakiaaGreatP10
import Derived.Test.YtoajkilickakiaaGreatP11
import Derived.Test.YtoajkilickakiaaGreatP12
import Derived.Test.YtoajkilickakiaaGreatP14
set_option linter.unusedSimpArgs false
set_option linter.unusedVariables false
namespace Go.Proofs.X
open Go.RowKit
set_option maxRecDepth 100000
set_option maxHeartbeats 8000000 in
theorem p_Apply (o : List UInt8) (v : Value) (l : List RSet) {d : DeltaR} {r : Value} (w : World) (hv : SetsAt w v l) (hd : DelA d r w)
    (bl : ∀ s ∈ l, s.data.length ≤ 1000000) (dl : ∀ s ∈ l, ∀ d ∈ s.data, d.length ≤ 1000000) (h1 : (recordsS l).length ≤ 5000) (h2 : d.new.length ≤ 5000) (dn : ∀ q ∈ d.new, q.data.length ≤ 1000000) :
    Calls Tryz.prog 28 #[.agg #[str o, v], r] w (Ret w (AppU w.heap.size o l d)) := by
  obtain ⟨g, n, rfl, sg, sn⟩ := hd
  have lg := rcells_length d.gone
  have ln := rcells_length d.new
  have lgl := sg.le
  have lnl := sn.le
  go_enter Tryz.func28, Tryz.ntmps28
  repeat' ((fail_if_success (with_reducible refine o_s ?_)); go_step)
  refine wpl_box (vs := [str o, v]) rfl rfl ?_
  intro p w1 x1 hp
  refine gset ?_
  refine wpl_box (vs := [.int .i64 d.fr, .int .i64 d.to, g, n]) rfl rfl ?_
  intro q w2 x2 hq
  refine gset ?_
  refine wpl_allocB (z := zzone) rfl (by decide +kernel) ?_
  intro w3 x3 s3 h3
  refine gset ?_
  have hx3 := (x1.trans x2).trans x3
  have zz := (x1.trans x2).size
  have hp3 := (hp.ext x2).ext x3
  have hq3 := hq.ext x3
  repeat' (first | ((with_reducible refine o_s ?_); (first | (refine o_1 ?_; refine o_2 ?_) | (refine o_g ?_; first | refine o_u ?_ | refine o_k ?_ | refine o_n ?_ | refine o_v ?_ | ((first | refine o_G ?_ ?_ | refine o_N ?_ ?_) <;> intro hc)))) | ((fail_if_success (with_reducible refine o_s ?_)); go_step))
  refine wpl_callV (enters_of Tryz.func63 rfl rfl) rfl rfl (p_Soa o v l _ (hv.ext hx3) bl (fun s hs d hd => by have := dl s hs d hd; omega)) ?_; intro w4 x4; refine gset ?_
  have hx4 := hx3.trans x4
  repeat' (first | ((with_reducible refine o_s ?_); (first | (refine o_1 ?_; refine o_2 ?_) | (refine o_g ?_; first | refine o_u ?_ | refine o_k ?_ | refine o_n ?_ | refine o_v ?_ | ((first | refine o_G ?_ ?_ | refine o_N ?_ ?_) <;> intro hc)))) | ((fail_if_success (with_reducible refine o_s ?_)); go_step))
  refine wpl_allocB (z := zeroSoa) rfl (by decide +kernel) ?_
  intro w5 x5 s5 h5
  refine gset ?_
  refine wpl_storeB (v := .agg (soaZ o l).cells.toArray) rfl rfl rfl h5 (show sizeTy Tryz.prog 103 7 = true by decide +kernel) rfl (soaR_one _) ?_
  intro w6 p6
  have x46 : Ext w4 w6 := x5.move p6.mv (by rintro k ⟨⟩; exact Nat.le_refl _)
  have b6 : w6.heap[w4.heap.size]? = some (.cells (soaZ o l).cells.toArray 103 (0, 0)) := p6.this
  have x36 := x4.trans x46
  have hx6 := hx3.trans x36
  clear p6 h5 x5
  have h6 := x36.at h3
  have hp6 := hp3.ext x36
  have hq6 := hq3.ext x36
  repeat' (first | ((with_reducible refine o_s ?_); (first | (refine o_1 ?_; refine o_2 ?_) | (refine o_g ?_; first | refine o_u ?_ | refine o_k ?_ | refine o_n ?_ | refine o_v ?_ | ((first | refine o_G ?_ ?_ | refine o_N ?_ ?_) <;> intro hc)))) | ((fail_if_success (with_reducible refine o_s ?_)); go_step))
  · have q0 : ¬ zoneR o l = 0 := by simpa using (by assumption : (!decide (zoneR o l = 0)) = true)
    refine wpl_run (v := .agg zzone.toArray) rfl (Runs.build0 (by kernel_rfl)) ?_
    refine gset ?_
    repeat' (first | ((with_reducible refine o_s ?_); (first | (refine o_1 ?_; refine o_2 ?_) | (refine o_g ?_; first | refine o_u ?_ | refine o_k ?_ | refine o_n ?_ | refine o_v ?_ | ((first | refine o_G ?_ ?_ | refine o_N ?_ ?_) <;> intro hc)))) | ((fail_if_success (with_reducible refine o_s ?_)); go_step))
    refine wpl_storeB (v := .agg zzone.toArray) rfl rfl rfl h6 (by decide +kernel) rfl (by decide +kernel) ?_
    intro wz pz
    have xz : Ext w wz := hx6.move pz.mv (by rintro k ⟨⟩; exact zz)
    repeat' (first | ((with_reducible refine o_s ?_); (first | (refine o_1 ?_; refine o_2 ?_) | (refine o_g ?_; first | refine o_u ?_ | refine o_k ?_ | refine o_n ?_ | refine o_v ?_ | ((first | refine o_G ?_ ?_ | refine o_N ?_ ?_) <;> intro hc)))) | ((fail_if_success (with_reducible refine o_s ?_)); go_step))
    refine bodyPost_ret (results_cellT (cs := zzone) rfl rfl pz.this (by decide +kernel)) rfl ⟨_, rfl, xz, ?_⟩
    exact AppU.bad (by rw [appE, if_neg q0]) q0
  · have q0 : zoneR o l = 0 := by simpa using (by assumption : (!decide (zoneR o l = 0)) = false)
    have pb6 := pts_block b6
    have pb6' : Pts w6 (.pointer (some ⟨w4.heap.size, 0, none⟩)) [str (soaZ o l).main, str (soaZ o l).mail, .int .i64 (soaZ o l).serial, .int .i64 (soaZ o l).refresh, .int .i64 (soaZ o l).retry, .int .i64 (soaZ o l).expire, .int .i64 (soaZ o l).minimum] := pb6
    repeat' (first | ((with_reducible refine o_s ?_); (first | (refine o_1 ?_; refine o_2 ?_) | (refine o_g ?_; first | refine o_u ?_ | refine o_k ?_ | refine o_n ?_ | refine o_v ?_ | ((first | refine o_G ?_ ?_ | refine o_N ?_ ?_) <;> intro hc)))) | ((fail_if_success (with_reducible refine o_s ?_)); go_step))
    · have q1 : ¬ (soaZ o l).serial = d.fr := by simpa using (by assumption : (!decide ((soaZ o l).serial = d.fr)) = true)
      refine wpl_run (v := .agg zzone.toArray) rfl (Runs.build0 (by kernel_rfl)) ?_
      refine gset ?_
      refine wpl_storeB (v := .agg zzone.toArray) rfl rfl rfl h6 (by decide +kernel) rfl (by decide +kernel) ?_
      intro wz pz
      have xz : Ext w wz := hx6.move pz.mv (by rintro k ⟨⟩; exact zz)
      repeat' (first | ((with_reducible refine o_s ?_); (first | (refine o_1 ?_; refine o_2 ?_) | (refine o_g ?_; first | refine o_u ?_ | refine o_k ?_ | refine o_n ?_ | refine o_v ?_ | ((first | refine o_G ?_ ?_ | refine o_N ?_ ?_) <;> intro hc)))) | ((fail_if_success (with_reducible refine o_s ?_)); go_step))
      refine bodyPost_ret (results_cellT (cs := zzone) rfl rfl pz.this (by decide +kernel)) rfl ⟨_, rfl, xz, ?_⟩
      exact AppU.bad (by rw [appE, if_pos q0, if_neg q1]) (by decide)
    · have q1 : (soaZ o l).serial = d.fr := by simpa using (by assumption : (!decide ((soaZ o l).serial = d.fr)) = false)
      refine wpl_callR (enters_of Tryz.func43 rfl rfl) rfl rfl (t10 v l _ (hv.ext hx6) (by omega)) ?_
      intro r0 w7 x7 o7
      refine gset ?_
      have hq7 := hq6.ext x7
      have sg6 := sg.ext hx6
      have sn6 := sn.ext hx6
      have hrd := recs_data dl
      repeat' (first | ((with_reducible refine o_s ?_); (first | (refine o_1 ?_; refine o_2 ?_) | (refine o_g ?_; first | refine o_u ?_ | refine o_k ?_ | refine o_n ?_ | refine o_v ?_ | ((first | refine o_G ?_ ?_ | refine o_N ?_ ?_) <;> intro hc)))) | ((fail_if_success (with_reducible refine o_s ?_)); go_step))
      go_loopw [8, 10, 11, 39] (fun o _ _ i wr => ∃ (k : Nat) (m : List Rec), k ≤ d.gone.length ∧ i = .int .i64 k ∧ Ext w6 wr ∧ Own w6.heap.size 4 75 wr o (rcells m) ∧ goneF (recordsS l) (d.gone.take k) = some m) (fun _ _ _ i _ => d.gone.length - (intOf i).toNat)
      case atStart => exact ⟨0, recordsS l, Nat.zero_le _, rfl, x7, o7, rfl⟩
      case round =>
        obtain ⟨k, m, hk, rfl, hx, ho, hg⟩ := hrel
        obtain ⟨gl, gm⟩ := gone_len hg
        have hml := rcells_length m
        have hsg := sg6.ext hx
        have hqr := hq6.ext hx
        have hpr := hp6.ext hx
        by_cases hlt : k < d.gone.length
        · have hpe := hsg.elem (rcells_at hlt)
          repeat' (first | ((with_reducible refine o_s ?_); (first | (refine o_1 ?_; refine o_2 ?_) | (refine o_g ?_; first | refine o_u ?_ | refine o_k ?_ | refine o_n ?_ | refine o_v ?_ | ((first | refine o_G ?_ ?_ | refine o_N ?_ ?_) <;> intro hc)))) | ((fail_if_success (with_reducible refine o_s ?_)); go_step))
          refine wpl_allocB (z := zrec) rfl (by decide +kernel) ?_
          intro w8 x8 s8 h8
          refine gset ?_
          refine wpl_storeB (v := .agg #[str d.gone[k].name, .int .i64 d.gone[k].kind, .int .i64 d.gone[k].ttl, str d.gone[k].data]) rfl rfl rfl h8 (show sizeTy Tryz.prog 75 4 = true by decide +kernel) rfl (all4 rfl rfl rfl rfl) ?_
          intro w9 p9
          have x9 : Ext wr w9 := x8.move p9.mv (by rintro k ⟨⟩; exact Nat.le_refl _)
          have hp9 := pts_block (cs := [str d.gone[k].name, .int .i64 d.gone[k].kind, .int .i64 d.gone[k].ttl, str d.gone[k].data]) p9.this
          have hx9 := hx.trans x9
          have ho9 := ho.ext x9
          clear p9 h8 x8
          repeat' (first | ((with_reducible refine o_s ?_); (first | (refine o_1 ?_; refine o_2 ?_) | (refine o_g ?_; first | refine o_u ?_ | refine o_k ?_ | refine o_n ?_ | refine o_v ?_ | ((first | refine o_G ?_ ?_ | refine o_N ?_ ?_) <;> intro hc)))) | ((fail_if_success (with_reducible refine o_s ?_)); go_step))
          refine wpl_callV (enters_of Tryz.func74 rfl rfl) rfl rfl (p_Index _ m d.gone[k] _ ho9.sl) ?_; intro w10 x10; refine gset ?_
          have hx10 := hx9.trans x10
          have ho10 := ho9.ext x10
          by_cases hm : d.gone[k] ∈ m
          · obtain ⟨i, hi, ei, ee⟩ := idx_mem hm
            rw [ei]
            have hst := gone_step hlt hg
            rw [if_pos hm] at hst
            repeat' (first | ((with_reducible refine o_s ?_); (first | (refine o_1 ?_; refine o_2 ?_) | (refine o_g ?_; first | refine o_u ?_ | refine o_k ?_ | refine o_n ?_ | refine o_v ?_ | ((first | refine o_G ?_ ?_ | refine o_N ?_ ?_) <;> intro hc)))) | ((fail_if_success (with_reducible refine o_s ?_)); go_step))
            refine wpl_callG (enters_of Tryz.func75 rfl rfl) rfl rfl (p_Delete ho10 hi (by omega)) ?_
            rintro _ w11 ⟨v11, rfl, o11, m11, k11⟩
            refine ⟨_, rfl, ?_⟩
            refine gset ?_
            rw [ee] at o11
            have hx11 : Ext w6 w11 := ho10.mvx m11 hx10 (Nat.le_refl _)
            repeat' (first | ((with_reducible refine o_s ?_); (first | (refine o_1 ?_; refine o_2 ?_) | (refine o_g ?_; first | refine o_u ?_ | refine o_k ?_ | refine o_n ?_ | refine o_v ?_ | ((first | refine o_G ?_ ?_ | refine o_N ?_ ?_) <;> intro hc)))) | ((fail_if_success (with_reducible refine o_s ?_)); go_step))
            exact ⟨⟨k + 1, _, by omega, by go_num, hx11, o11, hst⟩, by simp [intOf]; omega⟩
          · rw [idx_none hm]
            have hb := edit_none1 (gone_bad hlt hg hm)
            repeat' (first | ((with_reducible refine o_s ?_); (first | (refine o_1 ?_; refine o_2 ?_) | (refine o_g ?_; first | refine o_u ?_ | refine o_k ?_ | refine o_n ?_ | refine o_v ?_ | ((first | refine o_G ?_ ?_ | refine o_N ?_ ?_) <;> intro hc)))) | ((fail_if_success (with_reducible refine o_s ?_)); go_step))
            refine wpl_run (v := .agg zzone.toArray) rfl (Runs.build0 (by kernel_rfl)) ?_
            refine gset ?_
            refine wpl_storeB (v := .agg zzone.toArray) rfl rfl rfl (hx10.at h6) (by decide +kernel) rfl (by decide +kernel) ?_
            intro wz pz
            have xz : Ext w wz := (hx6.trans hx10).move pz.mv (by rintro k ⟨⟩; exact zz)
            repeat' (first | ((with_reducible refine o_s ?_); (first | (refine o_1 ?_; refine o_2 ?_) | (refine o_g ?_; first | refine o_u ?_ | refine o_k ?_ | refine o_n ?_ | refine o_v ?_ | ((first | refine o_G ?_ ?_ | refine o_N ?_ ?_) <;> intro hc)))) | ((fail_if_success (with_reducible refine o_s ?_)); go_step))
            refine bodyPost_ret (results_cellT (cs := zzone) rfl rfl pz.this (by decide +kernel)) rfl ⟨_, rfl, xz, ?_⟩
            exact AppU.bad (appE_none q0 q1 hb) (by decide)
        · have : k = d.gone.length := by omega
          subst this
          rw [List.take_length] at hg
          have hed := edit_of hg
          repeat' (first | ((with_reducible refine o_s ?_); (first | (refine o_1 ?_; refine o_2 ?_) | (refine o_g ?_; first | refine o_u ?_ | refine o_k ?_ | refine o_n ?_ | refine o_v ?_ | ((first | refine o_G ?_ ?_ | refine o_N ?_ ?_) <;> intro hc)))) | ((fail_if_success (with_reducible refine o_s ?_)); go_step))
          go_loopw [8, 13, 58] (fun o _ i wr => ∃ (k : Nat) (m' : List Rec), k ≤ d.new.length ∧ i = .int .i64 k ∧ Ext w6 wr ∧ Own w6.heap.size 4 75 wr o (rcells m') ∧ newF m (d.new.take k) = some m') (fun _ _ i _ => d.new.length - (intOf i).toNat)
          case atStart => exact ⟨0, m, Nat.zero_le _, rfl, hx, ho, rfl⟩
          case round =>
            obtain ⟨k, m', hk, rfl, hx, ho, hn⟩ := hrel
            obtain ⟨nl, nm⟩ := new_len hn
            have hml := rcells_length m'
            have hsn := sn6.ext hx
            have hqr := hq6.ext hx
            have hpr := hp6.ext hx
            rw [List.length_take] at nl
            by_cases hlt : k < d.new.length
            · have hpe := hsn.elem (rcells_at hlt)
              have hst := new_step hlt hn
              repeat' (first | ((with_reducible refine o_s ?_); (first | (refine o_1 ?_; refine o_2 ?_) | (refine o_g ?_; first | refine o_u ?_ | refine o_k ?_ | refine o_n ?_ | refine o_v ?_ | ((first | refine o_G ?_ ?_ | refine o_N ?_ ?_) <;> intro hc)))) | ((fail_if_success (with_reducible refine o_s ?_)); go_step))
              refine wpl_allocB (z := zrec) rfl (by decide +kernel) ?_
              intro w8 x8 s8 h8
              refine gset ?_
              refine wpl_storeB (v := .agg #[str d.new[k].name, .int .i64 d.new[k].kind, .int .i64 d.new[k].ttl, str d.new[k].data]) rfl rfl rfl h8 (show sizeTy Tryz.prog 75 4 = true by decide +kernel) rfl (all4 rfl rfl rfl rfl) ?_
              intro w9 p9
              have x9 : Ext wr w9 := x8.move p9.mv (by rintro k ⟨⟩; exact Nat.le_refl _)
              have hp9 := pts_block (cs := [str d.new[k].name, .int .i64 d.new[k].kind, .int .i64 d.new[k].ttl, str d.new[k].data]) p9.this
              have hx9 := hx.trans x9
              have ho9 := ho.ext x9
              clear p9 h8 x8
              repeat' (first | ((with_reducible refine o_s ?_); (first | (refine o_1 ?_; refine o_2 ?_) | (refine o_g ?_; first | refine o_u ?_ | refine o_k ?_ | refine o_n ?_ | refine o_v ?_ | ((first | refine o_G ?_ ?_ | refine o_N ?_ ?_) <;> intro hc)))) | ((fail_if_success (with_reducible refine o_s ?_)); go_step))
              refine wpl_callV (enters_of Tryz.func76 rfl rfl) rfl rfl (p_Contains _ m' d.new[k] _ ho9.sl) ?_; intro w10 x10; refine gset ?_
              have hx10 := hx9.trans x10
              have ho10 := ho9.ext x10
              have hp10 := hp9.ext x10
              by_cases hm : d.new[k] ∈ m'
              · rw [decide_eq_true hm]
                have hb := new_bad hlt hn hm
                repeat' (first | ((with_reducible refine o_s ?_); (first | (refine o_1 ?_; refine o_2 ?_) | (refine o_g ?_; first | refine o_u ?_ | refine o_k ?_ | refine o_n ?_ | refine o_v ?_ | ((first | refine o_G ?_ ?_ | refine o_N ?_ ?_) <;> intro hc)))) | ((fail_if_success (with_reducible refine o_s ?_)); go_step))
                refine wpl_run (v := .agg zzone.toArray) rfl (Runs.build0 (by kernel_rfl)) ?_
                refine gset ?_
                refine wpl_storeB (v := .agg zzone.toArray) rfl rfl rfl (hx10.at h6) (by decide +kernel) rfl (by decide +kernel) ?_
                intro wz pz
                have xz : Ext w wz := (hx6.trans hx10).move pz.mv (by rintro k ⟨⟩; exact zz)
                repeat' (first | ((with_reducible refine o_s ?_); (first | (refine o_1 ?_; refine o_2 ?_) | (refine o_g ?_; first | refine o_u ?_ | refine o_k ?_ | refine o_n ?_ | refine o_v ?_ | ((first | refine o_G ?_ ?_ | refine o_N ?_ ?_) <;> intro hc)))) | ((fail_if_success (with_reducible refine o_s ?_)); go_step))
                refine bodyPost_ret (results_cellT (cs := zzone) rfl rfl pz.this (by decide +kernel)) rfl ⟨_, rfl, xz, ?_⟩
                exact AppU.bad (appE_none q0 q1 (hed.trans hb)) (by decide)
              · rw [decide_eq_false hm]
                rw [if_neg hm] at hst
                repeat' (first | ((with_reducible refine o_s ?_); (first | (refine o_1 ?_; refine o_2 ?_) | (refine o_g ?_; first | refine o_u ?_ | refine o_k ?_ | refine o_n ?_ | refine o_v ?_ | ((first | refine o_G ?_ ?_ | refine o_N ?_ ?_) <;> intro hc)))) | ((fail_if_success (with_reducible refine o_s ?_)); go_step))
                refine ap1 [str d.new[k].name, .int .i64 d.new[k].kind, .int .i64 d.new[k].ttl, str d.new[k].data] hx10 ho10 (by omega) ?_ (rec_elem rfl)
                intro s5 v5 w11 w12 x11 m12 x12 o12
                refine gset ?_
                repeat' (first | ((with_reducible refine o_s ?_); (first | (refine o_1 ?_; refine o_2 ?_) | (refine o_g ?_; first | refine o_u ?_ | refine o_k ?_ | refine o_n ?_ | refine o_v ?_ | ((first | refine o_G ?_ ?_ | refine o_N ?_ ?_) <;> intro hc)))) | ((fail_if_success (with_reducible refine o_s ?_)); go_step))
                refine ⟨⟨k + 1, _, by omega, by go_num, x12, ?_, hst⟩, by simp [intOf]; omega⟩
                simpa [rcells, Rec.cells] using o12
            · have : k = d.new.length := by omega
              subst this
              rw [List.take_length] at hn
              rw [hn] at hed
              have hmd : ∀ q ∈ m', q.data.length ≤ 1000000 := by
                intro q hq
                rcases nm q hq with h | h
                · exact hrd q (gm q h)
                · exact dn q (List.mem_of_mem_take h)
              have hm5 : m'.length ≤ 10000 := by omega
              obtain ⟨lb1, lb2, lb3⟩ := loadL_bounds (o := o) hmd
              have hend := appE_some q0 q1 hed
              repeat' (first | ((with_reducible refine o_s ?_); (first | (refine o_1 ?_; refine o_2 ?_) | (refine o_g ?_; first | refine o_u ?_ | refine o_k ?_ | refine o_n ?_ | refine o_v ?_ | ((first | refine o_G ?_ ?_ | refine o_N ?_ ?_) <;> intro hc)))) | ((fail_if_success (with_reducible refine o_s ?_)); go_step))
              refine wpl_callR (enters_of Tryz.func64 rfl rfl) rfl rfl (p_Load o _ m' _ ho.sl hm5 (fun q hq => by have := hmd q hq; omega)) ?_
              rintro _ w20 x20 ⟨y, rfl, sy⟩
              refine gset ?_
              have hx20 := hx.trans x20
              obtain ⟨ya, yn, yc, hys⟩ : ∃ a n c, y = .slice a n c := by obtain ⟨css, h, _⟩ := sy.out; exact h.slf
              have hy1 : y.oneCell' = true := by rw [hys]; rfl
              repeat' (first | ((with_reducible refine o_s ?_); (first | (refine o_1 ?_; refine o_2 ?_) | (refine o_g ?_; first | refine o_u ?_ | refine o_k ?_ | refine o_n ?_ | refine o_v ?_ | ((first | refine o_G ?_ ?_ | refine o_N ?_ ?_) <;> intro hc)))) | ((fail_if_success (with_reducible refine o_s ?_)); go_step))
              refine wpl_allocB (z := zzone) rfl (by decide +kernel) ?_
              intro w21 x21 s21 h21
              refine gset ?_
              refine wpl_storeB (v := .agg #[str (loadO o m'), y]) rfl rfl rfl h21 (show sizeTy Tryz.prog 25 2 = true by decide +kernel) rfl (zone_one hy1) ?_
              intro w22 p22
              have x2022 : Ext w20 w22 := x21.move p22.mv (by rintro k ⟨⟩; exact Nat.le_refl _)
              have z22 : w22.heap[w20.heap.size]? = some (.cells [str (loadO o m'), y].toArray 25 (0, 0)) := p22.this
              have hx22 := hx20.trans x2022
              have sy22 := sy.ext x2022
              have ho22 := ho.ext (x20.trans x2022)
              clear p22 h21 x21
              repeat' (first | ((with_reducible refine o_s ?_); (first | (refine o_1 ?_; refine o_2 ?_) | (refine o_g ?_; first | refine o_u ?_ | refine o_k ?_ | refine o_n ?_ | refine o_v ?_ | ((first | refine o_G ?_ ?_ | refine o_N ?_ ?_) <;> intro hc)))) | ((fail_if_success (with_reducible refine o_s ?_)); go_step))
              · have q2 : ¬ loadE o m' = 0 := by simpa using (by assumption : (!decide (loadE o m' = 0)) = true)
                refine wpl_run (v := .agg zzone.toArray) rfl (Runs.build0 (by kernel_rfl)) ?_
                refine gset ?_
                repeat' (first | ((with_reducible refine o_s ?_); (first | (refine o_1 ?_; refine o_2 ?_) | (refine o_g ?_; first | refine o_u ?_ | refine o_k ?_ | refine o_n ?_ | refine o_v ?_ | ((first | refine o_G ?_ ?_ | refine o_N ?_ ?_) <;> intro hc)))) | ((fail_if_success (with_reducible refine o_s ?_)); go_step))
                refine wpl_storeB (v := .agg zzone.toArray) rfl rfl rfl (hx22.at h6) (by decide +kernel) rfl (by decide +kernel) ?_
                intro wz pz
                have xz : Ext w wz := (hx6.trans hx22).move pz.mv (by rintro k ⟨⟩; exact zz)
                repeat' (first | ((with_reducible refine o_s ?_); (first | (refine o_1 ?_; refine o_2 ?_) | (refine o_g ?_; first | refine o_u ?_ | refine o_k ?_ | refine o_n ?_ | refine o_v ?_ | ((first | refine o_G ?_ ?_ | refine o_N ?_ ?_) <;> intro hc)))) | ((fail_if_success (with_reducible refine o_s ?_)); go_step))
                refine bodyPost_ret (results_cellT (cs := zzone) rfl rfl pz.this (by decide +kernel)) rfl ⟨_, rfl, xz, ?_⟩
                exact AppU.bad (by rw [hend, endE, if_neg q2]) q2
              · have q2 : loadE o m' = 0 := by simpa using (by assumption : (!decide (loadE o m' = 0)) = false)
                have pz22 := pts_block z22
                repeat' (first | ((with_reducible refine o_s ?_); (first | (refine o_1 ?_; refine o_2 ?_) | (refine o_g ?_; first | refine o_u ?_ | refine o_k ?_ | refine o_n ?_ | refine o_v ?_ | ((first | refine o_G ?_ ?_ | refine o_N ?_ ?_) <;> intro hc)))) | ((fail_if_success (with_reducible refine o_s ?_)); go_step))
                refine wpl_callV (enters_of Tryz.func63 rfl rfl) rfl rfl (p_Soa (loadO o m') y (loadL o m') _ sy22.sets (fun s hs => by have := lb1 s hs; omega) (fun s hs d hd => by have := lb2 s hs d hd; omega)) ?_; intro w23 x23; refine gset ?_
                have hx23 := hx22.trans x23
                have b23 := hx23.at b6
                repeat' (first | ((with_reducible refine o_s ?_); (first | (refine o_1 ?_; refine o_2 ?_) | (refine o_g ?_; first | refine o_u ?_ | refine o_k ?_ | refine o_n ?_ | refine o_v ?_ | ((first | refine o_G ?_ ?_ | refine o_N ?_ ?_) <;> intro hc)))) | ((fail_if_success (with_reducible refine o_s ?_)); go_step))
                refine wpl_storeB (v := .agg (soaZ (loadO o m') (loadL o m')).cells.toArray) rfl rfl rfl b23 (show sizeTy Tryz.prog 103 7 = true by decide +kernel) rfl (soaR_one _) ?_
                intro w24 p24
                have e1 := x4.size
                have e2 := x46.size
                have e3 := hx.size
                have e4 := x20.size
                have e5 : w4.heap.size < w6.heap.size := (Array.getElem?_eq_some_iff.1 b6).1
                have x24 : Ext w3 w24 := (x36.trans hx23).move p24.mv (by rintro k ⟨⟩; exact e1)
                have hxw24 := hx3.trans x24
                have hq24 := hq3.ext x24
                have b24 : w24.heap[w4.heap.size]? = some (.cells [str (soaZ (loadO o m') (loadL o m')).main, str (soaZ (loadO o m') (loadL o m')).mail, .int .i64 (soaZ (loadO o m') (loadL o m')).serial, .int .i64 (soaZ (loadO o m') (loadL o m')).refresh, .int .i64 (soaZ (loadO o m') (loadL o m')).retry, .int .i64 (soaZ (loadO o m') (loadL o m')).expire, .int .i64 (soaZ (loadO o m') (loadL o m')).minimum].toArray 103 (0, 0)) := p24.this
                have h24 := p24.at (hx23.at h6) (by omega)
                have z24 := p24.at (x23.at z22) (by omega)
                have sy24 := (sy22.ext x23).put p24 (by omega)
                have ho24 := (ho22.ext x23).mv p24.mv (.inr ((ho22.ext x23).neBlock b23 (by decide)))
                have pz24 := pts_block z24
                clear p24 b23
                repeat' (first | ((with_reducible refine o_s ?_); (first | (refine o_1 ?_; refine o_2 ?_) | (refine o_g ?_; first | refine o_u ?_ | refine o_k ?_ | refine o_n ?_ | refine o_v ?_ | ((first | refine o_G ?_ ?_ | refine o_N ?_ ?_) <;> intro hc)))) | ((fail_if_success (with_reducible refine o_s ?_)); go_step))
                refine wpl_callR (enters_of Tryz.func43 rfl rfl) rfl rfl (t10 y (loadL o m') _ sy24.sets (by omega)) ?_
                intro r5 w25 x25 o25
                refine gset ?_
                have hxw25 := hxw24.trans x25
                have h25 := x25.at h24
                have z25 := x25.at z24
                have pz25 := pz24.ext x25
                have pb25 := pts_block (x25.at b24)
                have hq25 := hq24.ext x25
                have sl25 := (ho24.ext x25).sl
                have sr25 := o25.sl
                have lr := rcells_length (recordsS (loadL o m'))
                repeat' (first | ((with_reducible refine o_s ?_); (first | (refine o_1 ?_; refine o_2 ?_) | (refine o_g ?_; first | refine o_u ?_ | refine o_k ?_ | refine o_n ?_ | refine o_v ?_ | ((first | refine o_G ?_ ?_ | refine o_N ?_ ?_) <;> intro hc)))) | ((fail_if_success (with_reducible refine o_s ?_)); go_step))
                · have q3 : (soaZ (loadO o m') (loadL o m')).serial = d.to := by simpa using (by assumption : (!decide ((soaZ (loadO o m') (loadL o m')).serial = d.to)) = false)
                  have q4 : (recordsS (loadL o m')).length = m'.length := by
                    have : (↑(rcells (recordsS (loadL o m'))).length : Int) = ↑(rcells m').length := by simpa using hc
                    omega
                  refine wpl_callR (enters_of Tryz.func67 rfl rfl) rfl rfl (p_less _ r5 m' (recordsS (loadL o m')) _ sl25 sr25 (by omega)) ?_
                  intro r6 w26 x26 o26
                  have sr26 := o26.sl
                  have hxw26 := hxw25.trans x26
                  have h26 := x26.at h25
                  have z26 := x26.at z25
                  have pz26 := pz25.ext x26
                  have l6 := rcells_length (lessR m' (recordsS (loadL o m')))
                  have sy26 := (sy24.ext x25).ext x26
                  refine gset ?_
                  repeat' (first | ((with_reducible refine o_s ?_); (first | (refine o_1 ?_; refine o_2 ?_) | (refine o_g ?_; first | refine o_u ?_ | refine o_k ?_ | refine o_n ?_ | refine o_v ?_ | ((first | refine o_G ?_ ?_ | refine o_N ?_ ?_) <;> intro hc)))) | ((fail_if_success (with_reducible refine o_s ?_)); go_step))
                  · have q5 : ¬ lessR m' (recordsS (loadL o m')) = [] := by
                      intro e
                      rw [e] at l6
                      simp at l6
                      have := (by assumption : (0 : Int) < ↑(rcells (lessR m' (recordsS (loadL o m')))).length)
                      rw [e] at this
                      simp [rcells] at this
                    refine wpl_run (v := .agg zzone.toArray) rfl (Runs.build0 (by kernel_rfl)) ?_
                    refine gset ?_
                    refine wpl_storeB (v := .agg zzone.toArray) rfl rfl rfl h26 (by decide +kernel) rfl (by decide +kernel) ?_
                    intro wz pz
                    have xz : Ext w wz := hxw26.move pz.mv (by rintro k ⟨⟩; exact zz)
                    repeat' (first | ((with_reducible refine o_s ?_); (first | (refine o_1 ?_; refine o_2 ?_) | (refine o_g ?_; first | refine o_u ?_ | refine o_k ?_ | refine o_n ?_ | refine o_v ?_ | ((first | refine o_G ?_ ?_ | refine o_N ?_ ?_) <;> intro hc)))) | ((fail_if_success (with_reducible refine o_s ?_)); go_step))
                    refine bodyPost_ret (results_cellT (cs := zzone) rfl rfl pz.this (by decide +kernel)) rfl ⟨_, rfl, xz, ?_⟩
                    exact AppU.bad (by rw [hend, endE, if_pos q2, if_neg (fun h => q5 h.2.2)]) (by decide)
                  · have q5 : lessR m' (recordsS (loadL o m')) = [] := List.eq_nil_of_length_eq_zero (by omega)
                    have hE : appE o l d = 0 := by rw [hend, endE, if_pos q2, if_pos ⟨q3, q4, q5⟩]
                    repeat' (first | ((with_reducible refine o_s ?_); (first | (refine o_1 ?_; refine o_2 ?_) | (refine o_g ?_; first | refine o_u ?_ | refine o_k ?_ | refine o_n ?_ | refine o_v ?_ | ((first | refine o_G ?_ ?_ | refine o_N ?_ ?_) <;> intro hc)))) | ((fail_if_success (with_reducible refine o_s ?_)); go_step))
                    refine wpl_storeB (v := .agg #[str (loadO o m'), y]) rfl rfl rfl h26 (show sizeTy Tryz.prog 25 2 = true by decide +kernel) rfl (zone_one hy1) ?_
                    intro wz pz
                    have xz : Ext w wz := hxw26.move pz.mv (by rintro k ⟨⟩; exact zz)
                    repeat' (first | ((with_reducible refine o_s ?_); (first | (refine o_1 ?_; refine o_2 ?_) | (refine o_g ?_; first | refine o_u ?_ | refine o_k ?_ | refine o_n ?_ | refine o_v ?_ | ((first | refine o_G ?_ ?_ | refine o_N ?_ ?_) <;> intro hc)))) | ((fail_if_success (with_reducible refine o_s ?_)); go_step))
                    refine bodyPost_ret (results_cellT (cs := [str (loadO o m'), y]) rfl rfl pz.this (show aggTy Tryz.prog 25 2 = true by decide +kernel)) rfl ⟨_, rfl, xz, ?_⟩
                    refine ⟨y, ?_, ?_⟩
                    · rw [appO, if_pos hE, hE, hed]; rfl
                    · rw [appL, if_pos hE, hed]
                      exact (sy26.put pz (by omega)).weaken (hx6.trans hx).size
                · have q4 : ¬ (recordsS (loadL o m')).length = m'.length := by
                    have : ¬ (↑(rcells (recordsS (loadL o m'))).length : Int) = ↑(rcells m').length := by simpa using hc
                    omega
                  refine wpl_run (v := .agg zzone.toArray) rfl (Runs.build0 (by kernel_rfl)) ?_
                  refine gset ?_
                  refine wpl_storeB (v := .agg zzone.toArray) rfl rfl rfl h25 (by decide +kernel) rfl (by decide +kernel) ?_
                  intro wz pz
                  have xz : Ext w wz := hxw25.move pz.mv (by rintro k ⟨⟩; exact zz)
                  repeat' (first | ((with_reducible refine o_s ?_); (first | (refine o_1 ?_; refine o_2 ?_) | (refine o_g ?_; first | refine o_u ?_ | refine o_k ?_ | refine o_n ?_ | refine o_v ?_ | ((first | refine o_G ?_ ?_ | refine o_N ?_ ?_) <;> intro hc)))) | ((fail_if_success (with_reducible refine o_s ?_)); go_step))
                  refine bodyPost_ret (results_cellT (cs := zzone) rfl rfl pz.this (by decide +kernel)) rfl ⟨_, rfl, xz, ?_⟩
                  exact AppU.bad (by rw [hend, endE, if_pos q2, if_neg (fun h => q4 h.2.1)]) (by decide)
                · have q3 : ¬ (soaZ (loadO o m') (loadL o m')).serial = d.to := by simpa using hc
                  refine wpl_run (v := .agg zzone.toArray) rfl (Runs.build0 (by kernel_rfl)) ?_
                  refine gset ?_
                  refine wpl_storeB (v := .agg zzone.toArray) rfl rfl rfl h25 (by decide +kernel) rfl (by decide +kernel) ?_
                  intro wz pz
                  have xz : Ext w wz := hxw25.move pz.mv (by rintro k ⟨⟩; exact zz)
                  repeat' (first | ((with_reducible refine o_s ?_); (first | (refine o_1 ?_; refine o_2 ?_) | (refine o_g ?_; first | refine o_u ?_ | refine o_k ?_ | refine o_n ?_ | refine o_v ?_ | ((first | refine o_G ?_ ?_ | refine o_N ?_ ?_) <;> intro hc)))) | ((fail_if_success (with_reducible refine o_s ?_)); go_step))
                  refine bodyPost_ret (results_cellT (cs := zzone) rfl rfl pz.this (by decide +kernel)) rfl ⟨_, rfl, xz, ?_⟩
                  exact AppU.bad (by rw [hend, endE, if_pos q2, if_neg (fun h => q3 h.1)]) (by decide)
set_option maxHeartbeats 2000000 in
theorem p_Grow (n : Nat) (w : World) (hn : n ≤ 1000000) : Calls Tryz.prog 113 #[.slice none 0 0, .int .i64 n] w (Ret w fun r w' => Own w.heap.size 4 75 w' r []) := by
  have hs := Sl.nil 4 w
  go_enter Tryz.func113, Tryz.ntmps113
  repeat' (first | ((with_reducible refine o_s ?_); (first | (refine o_1 ?_; refine o_2 ?_) | (refine o_g ?_; first | refine o_u ?_ | refine o_k ?_ | refine o_n ?_ | refine o_v ?_ | ((first | refine o_G ?_ ?_ | refine o_N ?_ ?_) <;> intro hc)))) | ((fail_if_success (with_reducible refine o_s ?_)); go_step))
  refine wpl_run0 (Runs.capC (k := 4) (l := 0) (c := 0) (ad := none) rfl (by decide +kernel)) ?_
  refine gset ?_
  repeat' (first | ((with_reducible refine o_s ?_); (first | (refine o_1 ?_; refine o_2 ?_) | (refine o_g ?_; first | refine o_u ?_ | refine o_k ?_ | refine o_n ?_ | refine o_v ?_ | ((first | refine o_G ?_ ?_ | refine o_N ?_ ?_) <;> intro hc)))) | ((fail_if_success (with_reducible refine o_s ?_)); go_step))
  rw [show ((0 : Nat) : Int) = 0 from rfl, show ((([] : List (List Value)).length : Nat) : Int) = 0 from rfl]
  repeat' (first | ((with_reducible refine o_s ?_); (first | (refine o_1 ?_; refine o_2 ?_) | (refine o_g ?_; first | refine o_u ?_ | refine o_k ?_ | refine o_n ?_ | refine o_v ?_ | ((first | refine o_G ?_ ?_ | refine o_N ?_ ?_) <;> intro hc)))) | ((fail_if_success (with_reducible refine o_s ?_)); go_step))
  · have h0 : 0 < n := by omega
    repeat' (first | ((with_reducible refine o_s ?_); (first | (refine o_1 ?_; refine o_2 ?_) | (refine o_g ?_; first | refine o_u ?_ | refine o_k ?_ | refine o_n ?_ | refine o_v ?_ | ((first | refine o_G ?_ ?_ | refine o_N ?_ ?_) <;> intro hc)))) | ((fail_if_success (with_reducible refine o_s ?_)); go_step))
    refine wpl_run0 (Runs.capC (k := 4) (l := 0) (c := 0) (ad := none) rfl (by decide +kernel)) ?_
    refine gset ?_
    repeat' (first | ((with_reducible refine o_s ?_); (first | (refine o_1 ?_; refine o_2 ?_) | (refine o_g ?_; first | refine o_u ?_ | refine o_k ?_ | refine o_n ?_ | refine o_v ?_ | ((first | refine o_G ?_ ?_ | refine o_N ?_ ?_) <;> intro hc)))) | ((fail_if_success (with_reducible refine o_s ?_)); go_step))
    refine wpl_appZ (e := 75) (k := 4) (n := n) (z := zrec) rfl (by exact congrArg (Value.int .i64) (show ((n : Int) - (0 - 0)) = (n : Int) by omega)) h0 hn ?_
    intro g cap w1 x1 o1
    refine gset ?_
    have hrl : (List.replicate n zrec).length = n := by simp
    have hs1 := o1.sl
    have hs' := hs.ext x1
    repeat' (first | ((with_reducible refine o_s ?_); (first | (refine o_1 ?_; refine o_2 ?_) | (refine o_g ?_; first | refine o_u ?_ | refine o_k ?_ | refine o_n ?_ | refine o_v ?_ | ((first | refine o_G ?_ ?_ | refine o_N ?_ ?_) <;> intro hc)))) | ((fail_if_success (with_reducible refine o_s ?_)); go_step))
    refine wpl_run0 (Runs.takeC (k := 4) (n := 0) (l := n) (c := cap) (ad := some ⟨g, 0, none⟩) rfl rfl (Nat.zero_le _) (by decide +kernel)) ?_
    refine gset ?_
    repeat' (first | ((with_reducible refine o_s ?_); (first | (refine o_1 ?_; refine o_2 ?_) | (refine o_g ?_; first | refine o_u ?_ | refine o_k ?_ | refine o_n ?_ | refine o_v ?_ | ((first | refine o_G ?_ ?_ | refine o_N ?_ ?_) <;> intro hc)))) | ((fail_if_success (with_reducible refine o_s ?_)); go_step))
    go_ret
    refine ⟨_, rfl, x1, ?_⟩
    have o2 := o1.short (m := 0) (Nat.zero_le _)
    have e : (if cap = 0 then some (⟨g, 0, none⟩ : Addr) else Option.map (fun x : Addr => x.add (0 * 4)) (some (⟨g, 0, none⟩ : Addr))) = some (⟨g, 0, none⟩ : Addr) := by
      by_cases hq : cap = 0
      · rw [if_pos hq]
      · rw [if_neg hq]; simp [add_none]
    rw [e]
    exact o2
  · repeat' (first | ((with_reducible refine o_s ?_); (first | (refine o_1 ?_; refine o_2 ?_) | (refine o_g ?_; first | refine o_u ?_ | refine o_k ?_ | refine o_n ?_ | refine o_v ?_ | ((first | refine o_G ?_ ?_ | refine o_N ?_ ?_) <;> intro hc)))) | ((fail_if_success (with_reducible refine o_s ?_)); go_step))
    go_ret
    exact ⟨_, rfl, Ext.refl _, Own.nil _ _ _ _⟩
theorem vcells_at {us : List Value} {k : Nat} (h : k < us.length) : (us.map fun u => [u])[k]? = some [us[k]] := by simp [h]
set_option maxHeartbeats 2000000 in
theorem p_Concat (v : Value) (us : List Value) (ls : List (List Rec)) (w : World) (hv : Sl 1 w v (us.map fun u => [u])) (hl : us.length = ls.length) (hu : ∀ k (h1 : k < us.length) (h2 : k < ls.length), Sl 4 w us[k] (rcells ls[k])) (hb : ls.flatten.length ≤ 100000) :
    Calls Tryz.prog 81 #[v] w (Ret w fun r w' => Own w.heap.size 4 75 w' r (rcells ls.flatten)) := by
  have hle := hv.le
  have hul : (us.map fun u => [u]).length = us.length := by simp
  go_enter Tryz.func81, Tryz.ntmps81
  repeat' (first | ((with_reducible refine o_s ?_); (first | (refine o_1 ?_; refine o_2 ?_) | (refine o_g ?_; first | refine o_u ?_ | refine o_k ?_ | refine o_n ?_ | refine o_v ?_ | ((first | refine o_G ?_ ?_ | refine o_N ?_ ?_) <;> intro hc)))) | ((fail_if_success (with_reducible refine o_s ?_)); go_step))
  go_loopw [3, 5, 11] (fun sz _ i wr => ∃ k : Nat, k ≤ us.length ∧ i = .int .i64 k ∧ sz = .int .i64 ((ls.take k).flatten.length : Nat) ∧ Ext w wr) (fun _ _ i _ => us.length - (intOf i).toNat)
  case atStart => exact ⟨0, Nat.zero_le _, rfl, rfl, Ext.refl _⟩
  case round =>
    obtain ⟨k, hk, rfl, rfl, hx⟩ := hrel
    have hv2 := hv.ext hx
    have hst : ∀ m, ((ls.take m).flatten.length) ≤ 100000 := by
      intro m
      have : (ls.take m).flatten.length + (ls.drop m).flatten.length = ls.flatten.length := by rw [← List.length_append, ← List.flatten_append, List.take_append_drop]
      omega
    by_cases hlt : k < us.length
    · have hpe := hv2.elem (vcells_at hlt)
      have hue := (hu k hlt (by omega)).ext hx
      have hst1 := hst (k + 1)
      have hst0 := hst k
      have hlt2 : k < ls.length := by omega
      have htk : (ls.take (k + 1)).flatten.length = (ls.take k).flatten.length + ls[k].length := by rw [List.take_succ_eq_append_getElem hlt2, List.flatten_append, List.length_append]; simp
      have hrl := rcells_length ls[k]
      repeat' (first | ((with_reducible refine o_s ?_); (first | (refine o_1 ?_; refine o_2 ?_) | (refine o_g ?_; first | refine o_u ?_ | refine o_k ?_ | refine o_n ?_ | refine o_v ?_ | ((first | refine o_G ?_ ?_ | refine o_N ?_ ?_) <;> intro hc)))) | ((fail_if_success (with_reducible refine o_s ?_)); go_step))
      refine ⟨⟨k + 1, by omega, by go_num, congrArg (Value.int .i64) (by rw [htk, hrl]; omega), hx⟩, by simp [intOf]; omega⟩
    · have : k = us.length := by omega
      subst this
      have hfu : ls.take us.length = ls := by rw [hl, List.take_length]
      rw [hfu]
      repeat' (first | ((with_reducible refine o_s ?_); (first | (refine o_1 ?_; refine o_2 ?_) | (refine o_g ?_; first | refine o_u ?_ | refine o_k ?_ | refine o_n ?_ | refine o_v ?_ | ((first | refine o_G ?_ ?_ | refine o_N ?_ ?_) <;> intro hc)))) | ((fail_if_success (with_reducible refine o_s ?_)); go_step))
      refine wpl_callR (enters_of Tryz.func113 rfl rfl) rfl rfl (p_Grow ls.flatten.length _ (by omega)) ?_
      intro u w1 x1 o1
      refine gset ?_
      have hx1 := hx.trans x1
      have hv3 := hv.ext hx1
      repeat' (first | ((with_reducible refine o_s ?_); (first | (refine o_1 ?_; refine o_2 ?_) | (refine o_g ?_; first | refine o_u ?_ | refine o_k ?_ | refine o_n ?_ | refine o_v ?_ | ((first | refine o_G ?_ ?_ | refine o_N ?_ ?_) <;> intro hc)))) | ((fail_if_success (with_reducible refine o_s ?_)); go_step))
      go_loopw [6, 8, 27] (fun o _ i wr' => ∃ k : Nat, k ≤ us.length ∧ i = .int .i64 k ∧ Ext w wr' ∧ Own w.heap.size 4 75 wr' o (rcells (ls.take k).flatten)) (fun _ _ i _ => us.length - (intOf i).toNat)
      case atStart => exact ⟨0, Nat.zero_le _, rfl, hx1, by simpa [rcells] using o1.weaken hx.size⟩
      case round =>
        obtain ⟨k, hk, rfl, hx4, ho⟩ := hrel
        have hv4 := hv.ext hx4
        by_cases hlt : k < us.length
        · have hpe := hv4.elem (vcells_at hlt)
          have hue := (hu k hlt (by omega)).ext hx4
          have hlt2 : k < ls.length := by omega
          have htk : (ls.take (k + 1)).flatten = (ls.take k).flatten ++ ls[k] := by rw [List.take_succ_eq_append_getElem hlt2, List.flatten_append]; simp
          have hst1 := hst (k + 1)
          rw [htk, List.length_append] at hst1
          repeat' (first | ((with_reducible refine o_s ?_); (first | (refine o_1 ?_; refine o_2 ?_) | (refine o_g ?_; first | refine o_u ?_ | refine o_k ?_ | refine o_n ?_ | refine o_v ?_ | ((first | refine o_G ?_ ?_ | refine o_N ?_ ?_) <;> intro hc)))) | ((fail_if_success (with_reducible refine o_s ?_)); go_step))
          refine wpl_appendO (B := w.heap.size) (e := 75) rfl ho rfl hue rcells_one hx4.size (by rw [rcells_length, rcells_length]; omega) ?_
          intro v5 w5 o5 m5 _
          have x5 := ho.mvx m5 hx4 (Nat.le_refl _)
          refine gset ?_
          repeat' (first | ((with_reducible refine o_s ?_); (first | (refine o_1 ?_; refine o_2 ?_) | (refine o_g ?_; first | refine o_u ?_ | refine o_k ?_ | refine o_n ?_ | refine o_v ?_ | ((first | refine o_G ?_ ?_ | refine o_N ?_ ?_) <;> intro hc)))) | ((fail_if_success (with_reducible refine o_s ?_)); go_step))
          refine ⟨⟨k + 1, by omega, by go_num, x5, ?_⟩, by simp [intOf]; omega⟩
          rw [htk, rcells, List.map_append]
          exact o5
        · have : k = us.length := by omega
          subst this
          rw [hfu] at ho
          repeat' (first | ((with_reducible refine o_s ?_); (first | (refine o_1 ?_; refine o_2 ?_) | (refine o_g ?_; first | refine o_u ?_ | refine o_k ?_ | refine o_n ?_ | refine o_v ?_ | ((first | refine o_G ?_ ?_ | refine o_N ?_ ?_) <;> intro hc)))) | ((fail_if_success (with_reducible refine o_s ?_)); go_step))
          go_ret
          exact ⟨_, rfl, hx4, ho⟩
theorem rows2 {u1 u2 : Value} {w : World} {a b : List Rec} (h1 : Sl 4 w u1 (rcells a)) (h2 : Sl 4 w u2 (rcells b)) :
    ∀ k (h : k < [u1, u2].length) (h' : k < [a, b].length), Sl 4 w [u1, u2][k] (rcells [a, b][k])
  | 0, _, _ => h1
  | 1, _, _ => h2
theorem Sl.cell1 {k : Nat} {w : World} {v : Value} {es : List (List Value)} (h : Sl k w v es) : v.cells.toList = [v] := by obtain ⟨_, _, _, rfl⟩ := h.slf; rfl
theorem rows2c {u1 u2 : Value} (h1 : u1.cells.toList = [u1]) (h2 : u2.cells.toList = [u2]) : ∀ x ∈ [u1, u2], x.cells.size = 1 := by
  intro x hx
  simp only [List.mem_cons, List.not_mem_nil, or_false] at hx
  rcases hx with rfl | rfl
  · rw [← Array.length_toList, h1]; rfl
  · rw [← Array.length_toList, h2]; rfl
theorem rows2e {u1 u2 : Value} (h1 : u1.cells.toList = [u1]) (h2 : u2.cells.toList = [u2]) : [u1, u2].map (·.cells.toList) = [u1, u2].map fun u => [u] := by
  simp [h1, h2]
set_option maxHeartbeats 6000000 in
theorem p_Compose {a b : DeltaR} {r q : Value} (w : World) (h : DelA a r w) (k : DelA b q w) (b1 : a.gone.length ≤ 20000) (b2 : a.new.length ≤ 20000) (b3 : b.gone.length ≤ 20000) (b4 : b.new.length ≤ 20000) :
    Calls Tryz.prog 33 #[r, q] w (Ret w (DelU w.heap.size (comD a b) (comE a b))) := by
  obtain ⟨g, n, rfl, sg, sn⟩ := h
  obtain ⟨g', n', rfl, sg', sn'⟩ := k
  have e1 := less_len b.gone a.new
  have e2 := less_len a.new b.gone
  have lG : (comG a b).length ≤ 40000 := by rw [comG, List.length_append]; omega
  have lN : (comN a b).length ≤ 40000 := by rw [comN, List.length_append]; omega
  go_enter Tryz.func33, Tryz.ntmps33
  repeat' ((fail_if_success (with_reducible refine o_s ?_)); go_step)
  refine wpl_box (vs := [.int .i64 a.fr, .int .i64 a.to, g, n]) rfl rfl ?_
  intro p w1 x1 hp
  refine gset ?_
  refine wpl_box (vs := [.int .i64 b.fr, .int .i64 b.to, g', n']) rfl rfl ?_
  intro p' w2 x2 hq
  refine gset ?_
  refine wpl_allocB (z := zdel) rfl (by decide +kernel) ?_
  intro w3 x3 s3 h3
  refine gset ?_
  have hx3 := (x1.trans x2).trans x3
  have zz := (x1.trans x2).size
  have hp3 := (hp.ext x2).ext x3
  have hq3 := hq.ext x3
  repeat' (first | ((with_reducible refine o_s ?_); (first | (refine o_1 ?_; refine o_2 ?_) | (refine o_g ?_; first | refine o_u ?_ | refine o_k ?_ | refine o_n ?_ | refine o_v ?_ | ((first | refine o_G ?_ ?_ | refine o_N ?_ ?_) <;> intro hc)))) | ((fail_if_success (with_reducible refine o_s ?_)); go_step))
  · have q0 : ¬ a.to = b.fr := by simpa using (by assumption : (!decide (a.to = b.fr)) = true)
    refine wpl_run (v := .agg zdel.toArray) rfl (Runs.build0 (by kernel_rfl)) ?_
    refine gset ?_
    refine wpl_storeB (v := .agg zdel.toArray) rfl rfl rfl h3 (by decide +kernel) rfl (by decide +kernel) ?_
    intro w7 p7
    have x7 : Ext w w7 := hx3.move p7.mv (by rintro k ⟨⟩; exact zz)
    repeat' (first | ((with_reducible refine o_s ?_); (first | (refine o_1 ?_; refine o_2 ?_) | (refine o_g ?_; first | refine o_u ?_ | refine o_k ?_ | refine o_n ?_ | refine o_v ?_ | ((first | refine o_G ?_ ?_ | refine o_N ?_ ?_) <;> intro hc)))) | ((fail_if_success (with_reducible refine o_s ?_)); go_step))
    refine bodyPost_ret (results_cellT (cs := zdel) rfl rfl p7.this (by decide +kernel)) rfl ⟨_, rfl, x7, ?_⟩
    have he : comE a b = 7 := by rw [comE, if_neg q0]
    have hd : comD a b = zeroD := by rw [comD, if_neg (by rw [he]; decide)]
    rw [hd, he]
    exact DelU.bad rfl
  · have q0 : a.to = b.fr := by simpa using (by assumption : (!decide (a.to = b.fr)) = false)
    have he : comE a b = 0 := by rw [comE, if_pos q0]
    refine wph_region (S := fun w' => Ext w3 w') (by decide +kernel) ?_
    intro w4 x4 hh4
    refine tk 0 ?_; refine gset ?_; refine tk 1 ?_; refine gset ?_; refine tk 2 ?_; refine gset ?_; refine tk 3 ?_; refine gset ?_; refine tk 4 ?_; refine gset ?_; refine tk 5 ?_; refine gset ?_
    refine wph_one (i := 6) (by decide +kernel) rfl rfl ?_
    refine wpl_callR (enters_of Tryz.func67 rfl rfl) rfl rfl (p_less g' n b.gone a.new _ (sg'.ext (hx3.trans x4)) (sn.ext (hx3.trans x4)) (by omega)) ?_
    intro u1 w5 x5 o5
    refine gset ?_
    have x35 := x4.trans x5
    refine wph_nil ⟨x35, ?_⟩
    refine wph_one (i := 7) (by decide +kernel) rfl rfl ?_
    have sg5 := sg.ext (hx3.trans x35)
    have su5 := o5.sl
    refine wpl_slice (e := 28) (k := 1) (bytes := 24) (xs := [g, u1]) rfl rfl rfl (rows2c sg5.cell1 su5.cell1) (by decide +kernel) (by simp) ?_
    intro v6 w6 x6 s6 sl6 o6
    refine gset ?_
    have x36 := x35.trans x6
    refine wph_nil ⟨x36, ?_⟩
    refine wph_one (i := 8) (by decide +kernel) rfl rfl ?_
    have es6 : [g, u1].map (·.cells.toList) = [g, u1].map fun u => [u] := rows2e sg5.cell1 su5.cell1
    rw [es6] at sl6
    refine wpl_callR (enters_of Tryz.func81 rfl rfl) rfl rfl (p_Concat v6 [g, u1] [a.gone, lessR b.gone a.new] _ sl6 rfl (rows2 (sg5.ext x6) (su5.ext x6)) (by simp; omega)) ?_
    intro r1 w7 x7 o7
    refine gset ?_
    have x37 := x36.trans x7
    refine wph_nil ⟨x37, ?_⟩
    refine tk 9 ?_; refine gset ?_
    refine wph_done (by decide +kernel) ?_
    have eG : [a.gone, lessR b.gone a.new].flatten = comG a b := by simp [comG]
    rw [eG] at o7
    have hx7 := hx3.trans x37
    have h7 := x37.at h3
    have hp7 := hp3.ext x37
    have hq7 := hq3.ext x37
    repeat' (first | ((with_reducible refine o_s ?_); (first | (refine o_1 ?_; refine o_2 ?_) | (refine o_g ?_; first | refine o_u ?_ | refine o_k ?_ | refine o_n ?_ | refine o_v ?_ | ((first | refine o_G ?_ ?_ | refine o_N ?_ ?_) <;> intro hc)))) | ((fail_if_success (with_reducible refine o_s ?_)); go_step))
    refine wph_region (S := fun w' => Ext w7 w') (by decide +kernel) ?_
    intro w8 x8 hh8
    refine tk 0 ?_; refine gset ?_; refine tk 1 ?_; refine gset ?_; refine tk 2 ?_; refine gset ?_; refine tk 3 ?_; refine gset ?_; refine tk 5 ?_; refine gset ?_; refine tk 6 ?_; refine gset ?_
    refine wph_one (i := 4) (by decide +kernel) rfl rfl ?_
    refine wpl_callR (enters_of Tryz.func67 rfl rfl) rfl rfl (p_less n g' a.new b.gone _ (sn.ext (hx7.trans x8)) (sg'.ext (hx7.trans x8)) (by omega)) ?_
    intro u2 w9 x9 o9
    refine gset ?_
    have x79 := x8.trans x9
    refine wph_nil ⟨x79, ?_⟩
    refine wph_one (i := 7) (by decide +kernel) rfl rfl ?_
    have sn9 := sn'.ext (hx7.trans x79)
    have su9 := o9.sl
    refine wpl_slice (e := 28) (k := 1) (bytes := 24) (xs := [u2, n']) rfl rfl rfl (rows2c su9.cell1 sn9.cell1) (by decide +kernel) (by simp) ?_
    intro v10 w10 x10 s10 sl10 o10
    refine gset ?_
    have x710 := x79.trans x10
    refine wph_nil ⟨x710, ?_⟩
    refine wph_one (i := 8) (by decide +kernel) rfl rfl ?_
    have es10 : [u2, n'].map (·.cells.toList) = [u2, n'].map fun u => [u] := rows2e su9.cell1 sn9.cell1
    rw [es10] at sl10
    refine wpl_callR (enters_of Tryz.func81 rfl rfl) rfl rfl (p_Concat v10 [u2, n'] [lessR a.new b.gone, b.new] _ sl10 rfl (rows2 (su9.ext x10) (sn9.ext x10)) (by simp; omega)) ?_
    intro r2 w11 x11 o11
    refine gset ?_
    have x711 := x710.trans x11
    refine wph_nil ⟨x711, ?_⟩
    refine tk 9 ?_; refine gset ?_
    refine wph_done (by decide +kernel) ?_
    have eN : [lessR a.new b.gone, b.new].flatten = comN a b := by simp [comN]
    rw [eN] at o11
    have hx12 := hx7.trans x711
    have h12 := x711.at h7
    have hp12 := hp7.ext x711
    have hq12 := hq7.ext x711
    have sr1 := (o7.ext x711).sl
    have sr2 := o11.sl
    repeat' (first | ((with_reducible refine o_s ?_); (first | (refine o_1 ?_; refine o_2 ?_) | (refine o_g ?_; first | refine o_u ?_ | refine o_k ?_ | refine o_n ?_ | refine o_v ?_ | ((first | refine o_G ?_ ?_ | refine o_N ?_ ?_) <;> intro hc)))) | ((fail_if_success (with_reducible refine o_s ?_)); go_step))
    refine wpi_region 11 (Ext w11) (by decide +kernel) ?_
    intro w13 x13 _
    refine ⟨x13, ?_⟩
    ((with_reducible apply wpi_take (i := 0)); (rfl); (rfl); (rfl); (decide +kernel); (decide +kernel); (decide +kernel); (decide +kernel); (rfl); (intro _ _; exact rn); (exact fun _ _ _ h => h); (refine gset ?_)); ((with_reducible apply wpi_take (i := 1)); (rfl); (rfl); (rfl); (decide +kernel); (decide +kernel); (decide +kernel); (decide +kernel); (rfl); (intro _ _; exact rn); (exact fun _ _ _ h => h); (refine gset ?_)); ((with_reducible apply wpi_take (i := 2)); (rfl); (rfl); (rfl); (decide +kernel); (decide +kernel); (decide +kernel); (decide +kernel); (rfl); (intro _ _; exact rn); (exact fun _ _ _ h => h); (refine gset ?_)); ((with_reducible apply wpi_take (i := 3)); (rfl); (rfl); (rfl); (decide +kernel); (decide +kernel); (decide +kernel); (decide +kernel); (rfl); (intro _ _; exact rn); (exact fun _ _ _ h => h); (refine gset ?_)); ((with_reducible apply wpi_take (i := 4)); (rfl); (rfl); (rfl); (decide +kernel); (decide +kernel); (decide +kernel); (decide +kernel); (rfl); (intro _ _; exact rn); (exact fun _ _ _ h => h); (refine gset ?_)); ((with_reducible apply wpi_take (i := 5)); (rfl); (rfl); (rfl); (decide +kernel); (decide +kernel); (decide +kernel); (decide +kernel); (rfl); (intro _ _; exact rn); (exact fun _ _ _ h => h); (refine gset ?_)); ((with_reducible apply wpi_take (i := 7)); (rfl); (rfl); (rfl); (decide +kernel); (decide +kernel); (decide +kernel); (decide +kernel); (rfl); (intro _ _; exact rn); (exact fun _ _ _ h => h); (refine gset ?_)); ((with_reducible apply wpi_take (i := 8)); (rfl); (rfl); (rfl); (decide +kernel); (decide +kernel); (decide +kernel); (decide +kernel); (rfl); (intro _ _; exact rn); (exact fun _ _ _ h => h); (refine gset ?_))
    refine wpi_op (i := 6) (by decide +kernel) rfl rfl ?_
    refine wpl_callR (enters_of Tryz.func67 rfl rfl) rfl rfl (p_less r1 r2 _ _ _ (sr1.ext x13) (sr2.ext x13) (by omega)) ?_
    intro y w14 x14 og
    refine gset ?_
    have x1214 := x13.trans x14
    refine wph_nil ⟨till_yes x1214, ?_⟩
    refine wpi_op (i := 9) (by decide +kernel) rfl rfl ?_
    refine wpl_callR (enters_of Tryz.func67 rfl rfl) rfl rfl (p_less r2 r1 _ _ _ (sr2.ext x1214) (sr1.ext x1214) (by omega)) ?_
    intro z w15 x15 on
    refine gset ?_
    have x1215 := x1214.trans x15
    refine wph_nil ⟨till_yes x1215, ?_⟩
    have sy := (og.ext x15).sl
    have sz := on.sl
    refine wpi_take (i := 10) (v := .agg #[.int .i64 a.fr, .int .i64 b.to, y, z]) rfl rfl rfl (by decide +kernel) (by decide +kernel) (by decide +kernel) (by decide +kernel) rfl (fun w' _ => Runs.build rfl (by obtain ⟨_, _, _, rfl⟩ := sy.slf; obtain ⟨_, _, _, rfl⟩ := sz.slf; kernel_rfl)) (fun _ _ _ h => h) ?_
    refine gset ?_
    refine wpi_op (i := 11) (by decide +kernel) rfl rfl ?_
    have h15 := x1215.at h12
    refine wpl_storeB (v := .agg #[.int .i64 a.fr, .int .i64 b.to, y, z]) rfl rfl rfl h15 (show sizeTy Tryz.prog 30 4 = true by decide +kernel) rfl (all4 rfl rfl sy.one sz.one) ?_
    intro w16 p16
    refine wph_nil ⟨till_no rfl, ?_⟩
    ((with_reducible apply wpi_pure (i := 12)); (rfl); (rfl); (rfl); (decide +kernel); (decide +kernel); (decide +kernel); (rfl); (intro _; exact rn); (exact fun _ _ _ h => h); (refine gset ?_))
    refine wpi_done (by decide +kernel) ?_
    have x16 : Ext w w16 := (hx12.trans x1215).move p16.mv (by rintro k ⟨⟩; exact zz)
    repeat' (first | ((with_reducible refine o_s ?_); (first | (refine o_1 ?_; refine o_2 ?_) | (refine o_g ?_; first | refine o_u ?_ | refine o_k ?_ | refine o_n ?_ | refine o_v ?_ | ((first | refine o_G ?_ ?_ | refine o_N ?_ ?_) <;> intro hc)))) | ((fail_if_success (with_reducible refine o_s ?_)); go_step))
    refine bodyPost_ret (results_cellT (cs := [.int .i64 a.fr, .int .i64 b.to, y, z]) rfl rfl p16.this (show aggTy Tryz.prog 30 4 = true by decide +kernel)) rfl ⟨_, rfl, x16, ?_⟩
    have hd : comD a b = ⟨a.fr, b.to, lessR (comG a b) (comN a b), lessR (comN a b) (comG a b)⟩ := by rw [comD, if_pos he]
    rw [hd, he]
    exact ⟨_, rfl, y, z, rfl, (og.ext x15).mv p16.mv (.inr ((og.ext x15).neBlock h15 (by decide))) |>.weaken (hx12.trans x13).size, on.mv p16.mv (.inr (on.neBlock h15 (by decide))) |>.weaken (hx12.trans x1214).size⟩
def simS : List UInt8 := [2, 110, 115, 1, 97, 0, 1, 109, 0, 0, 0, 0, 5, 0, 0, 0, 10, 0, 0, 0, 3, 0, 0, 0, 100, 0, 0, 0, 4]
def simT : List UInt8 := [2, 110, 115, 1, 97, 0, 1, 109, 0, 0, 0, 0, 6, 0, 0, 0, 10, 0, 0, 0, 3, 0, 0, 0, 100, 0, 0, 0, 4]
def simR : List Rec := [⟨[1, 97], 6, 9, simS⟩, ⟨[1, 97], 2, 9, [2, 110, 115, 1, 97, 0]⟩, ⟨[2, 110, 115, 1, 97], 1, 9, [49, 49, 49, 49]⟩]
def simZ : List RSet := [⟨[1, 97], 2, 9, [[2, 110, 115, 1, 97, 0]]⟩, ⟨[1, 97], 6, 9, [simS]⟩, ⟨[2, 110, 115, 1, 97], 1, 9, [[49, 49, 49, 49]]⟩]
def simY : List RSet := [⟨[1, 97], 2, 9, [[2, 110, 115, 1, 97, 0]]⟩, ⟨[1, 97], 6, 9, [simT]⟩, ⟨[2, 110, 115, 1, 97], 1, 9, [[49, 49, 49, 49]]⟩]
theorem sim_renE : renE [1, 97] simZ 6 = 0 := by decide +kernel
theorem sim_renL : renL [1, 97] simZ 6 = simY := by decide +kernel
theorem sim_renO : renO [1, 97] simZ 6 = [1, 97] := by decide +kernel
theorem sim_b : ∀ s ∈ simZ, s.data.length ≤ 1000000 := by decide +kernel
theorem sim_d : ∀ s ∈ simZ, ∀ d ∈ s.data, d.length ≤ 4611686018427387904 := by decide +kernel
theorem sim_b2 : ∀ s ∈ simY, s.data.length ≤ 1000000 := by decide +kernel
theorem sim_d2 : ∀ s ∈ simY, ∀ d ∈ s.data, d.length ≤ 4611686018427387904 := by decide +kernel
theorem sim_r : ∀ r ∈ simR, r.data.length ≤ 4611686018427387904 := by decide +kernel
theorem p_Simple (w : World) : Calls Tryz.prog 65 #[] w (Ret w fun r w' => Sl 4 w' r (rcells simR)) := by
  go_enter Tryz.func65, Tryz.ntmps65
  repeat' ((fail_if_success (with_reducible refine o_s ?_)); go_step)
  repeat' (first | ((with_reducible refine o_s ?_); (first | (refine o_1 ?_; refine o_2 ?_) | (refine o_g ?_; first | refine o_u ?_ | refine o_k ?_ | refine o_n ?_ | refine o_v ?_ | ((first | refine o_G ?_ ?_ | refine o_N ?_ ?_) <;> intro hc)))) | ((fail_if_success (with_reducible refine o_s ?_)); go_step))
  refine wpl_run (v := .agg #[str [1, 97], .int .i64 6, .int .i64 9, str simS]) rfl (Runs.build rfl (by kernel_rfl)) ?_
  refine gset ?_
  refine wpl_run (v := .agg #[str [1, 97], .int .i64 2, .int .i64 9, str [2, 110, 115, 1, 97, 0]]) rfl (Runs.build rfl (by kernel_rfl)) ?_
  refine gset ?_
  refine wpl_run (v := .agg #[str [2, 110, 115, 1, 97], .int .i64 1, .int .i64 9, str [49, 49, 49, 49]]) rfl (Runs.build rfl (by kernel_rfl)) ?_
  refine gset ?_
  refine wpl_slice (e := 75) (k := 4) (bytes := 48) (xs := simR.map fun r => .agg r.cells.toArray) rfl rfl rfl (by intro x hx; obtain ⟨r, _, rfl⟩ := List.mem_map.1 hx; rfl) (by decide +kernel) (by decide +kernel) ?_
  intro v1 w1 x1 s1 sl1 _
  have sl1' : Sl 4 w1 v1 (rcells simR) := by simpa [rcells, Value.cells, List.map_map, Function.comp_def] using sl1
  refine gset ?_
  repeat' (first | ((with_reducible refine o_s ?_); (first | (refine o_1 ?_; refine o_2 ?_) | (refine o_g ?_; first | refine o_u ?_ | refine o_k ?_ | refine o_n ?_ | refine o_v ?_ | ((first | refine o_G ?_ ?_ | refine o_N ?_ ?_) <;> intro hc)))) | ((fail_if_success (with_reducible refine o_s ?_)); go_step))
  go_ret
  exact ⟨_, rfl, x1, sl1'⟩
theorem same_true {o o' : List UInt8} {u v : Value} {a b : List RSet} {w : World} (hu : SetsAt w u a) (hv : SetsAt w v b) (ho : o = o') (hab : a = b) : Calls Tryz.prog 31 #[.agg #[str o, u], .agg #[str o', v]] w (RetV w (.bool true)) := by
  have := r8_Same o o' u v a b w hu hv
  rw [decide_eq_true ho, decide_eq_true hab] at this
  exact this
def Yes (w : World) (e : Ending) (w' : World) : Prop := e = .returned (.bool true) ∧ Ext w w'
def simG : Rec := ⟨[1, 97], 6, 9, simS⟩
def simN : Rec := ⟨[1, 97], 6, 9, simT⟩
def simD : DeltaR := ⟨5, 6, [simG], [simN]⟩
theorem sim_E2 : loadE [1, 97] simR = 0 := by decide +kernel
theorem sim_L2 : loadL [1, 97] simR = simZ := by decide +kernel
theorem sim_O2 : loadO [1, 97] simR = [1, 97] := by decide +kernel
theorem sim_mE : mkE [1, 97] simZ [1, 97] simY = 0 := by decide +kernel
theorem sim_mD : mkD [1, 97] simZ [1, 97] simY = simD := by decide +kernel
theorem sim_aE : appE [1, 97] simZ simD = 0 := by decide +kernel
theorem sim_aL : appL [1, 97] simZ simD = simY := by decide +kernel
theorem sim_aO : appO [1, 97] simZ simD = [1, 97] := by decide +kernel
theorem sim_bE : appE [1, 97] simY simD = 7 := by decide +kernel
theorem sim_iE : appE [1, 97] simY (invD simD) = 0 := by decide +kernel
theorem sim_iL : appL [1, 97] simY (invD simD) = simZ := by decide +kernel
theorem sim_iO : appO [1, 97] simY (invD simD) = [1, 97] := by decide +kernel
theorem sim_cE : comE simD (invD simD) = 0 := by decide +kernel
theorem sim_cD : comD simD (invD simD) = ⟨5, 5, [], []⟩ := by decide +kernel
theorem sim_d3 : ∀ s ∈ simZ, ∀ d ∈ s.data, d.length ≤ 1000000 := by decide +kernel
theorem sim_d4 : ∀ s ∈ simY, ∀ d ∈ s.data, d.length ≤ 1000000 := by decide +kernel
theorem sim_h1 : (recordsS simZ).length ≤ 5000 := by decide +kernel
theorem sim_h2 : (recordsS simY).length ≤ 5000 := by decide +kernel
theorem sim_g : ∀ q ∈ [simG], q.data.length ≤ 1000000 := by decide +kernel
theorem sim_n : ∀ q ∈ [simN], q.data.length ≤ 1000000 := by decide +kernel
theorem Sl.empty {k : Nat} {w : World} {v : Value} (h : Sl k w v []) (w' : World) : Sl k w' v [] := by
  obtain ⟨a, c, h1, h2, h3, h4, h5, h6⟩ := h
  exact ⟨a, c, h1, h2, h3, h4, h5, fun h => absurd rfl h⟩
theorem meet5 {α β γ δ : Type} {F : α → β → γ → δ → World → Prop} {G : α → β → γ → δ → World → Prop} {goal : Prop} (h1 : (∀ x y z u w', F x y z u w' → G x y z u w') → goal) (h2 : ∀ x y z u w', F x y z u w' → G x y z u w') : goal := h1 h2
theorem meet4 {α β γ : Type} {F : α → β → γ → World → Prop} {G : α → β → γ → World → Prop} {goal : Prop} (h1 : (∀ x y z w', F x y z w' → G x y z w') → goal) (h2 : ∀ x y z w', F x y z w' → G x y z w') : goal := h1 h2
set_option maxHeartbeats 8000000 in
theorem d_live (w : World) : Calls Tryz.prog 20 #[] w (Yes w) := by
  go_enter Tryz.func20, Tryz.ntmps20
  repeat' (first | ((with_reducible refine o_s ?_); (first | (refine o_1 ?_; refine o_2 ?_) | (refine o_g ?_; first | refine o_u ?_ | refine o_k ?_ | refine o_n ?_ | refine o_v ?_ | ((first | refine o_G ?_ ?_ | refine o_N ?_ ?_) <;> intro hc)))) | ((fail_if_success (with_reducible refine o_s ?_)); go_step))
  refine wpl_callR (enters_of Tryz.func65 rfl rfl) rfl rfl (p_Simple _) ?_
  intro v1 w1 x1 hv1
  refine gset ?_
  repeat' (first | ((with_reducible refine o_s ?_); (first | (refine o_1 ?_; refine o_2 ?_) | (refine o_g ?_; first | refine o_u ?_ | refine o_k ?_ | refine o_n ?_ | refine o_v ?_ | ((first | refine o_G ?_ ?_ | refine o_N ?_ ?_) <;> intro hc)))) | ((fail_if_success (with_reducible refine o_s ?_)); go_step))
  refine wpl_callR (enters_of Tryz.func64 rfl rfl) rfl rfl (p_Load [1, 97] v1 simR _ hv1 (by decide) sim_r) ?_
  rintro _ w2 x2 ⟨z, rfl, hz⟩
  rw [sim_E2, sim_O2]
  rw [sim_L2] at hz
  have hz := hz.sets
  have hz1 : z.oneCell' = true := by obtain ⟨css, h, _⟩ := hz; exact h.one
  have hx2 := x1.trans x2
  refine gset ?_
  repeat' (first | ((with_reducible refine o_s ?_); (first | (refine o_1 ?_; refine o_2 ?_) | (refine o_g ?_; first | refine o_u ?_ | refine o_k ?_ | refine o_n ?_ | refine o_v ?_ | ((first | refine o_G ?_ ?_ | refine o_N ?_ ?_) <;> intro hc)))) | ((fail_if_success (with_reducible refine o_s ?_)); go_step))
  refine wpl_allocB (z := zzone) rfl (by decide +kernel) ?_
  intro w3 x3 s3 h3
  refine gset ?_
  refine wpl_storeB (v := .agg #[str [1, 97], z]) rfl rfl rfl h3 (show sizeTy Tryz.prog 25 2 = true by decide +kernel) rfl (zone_one hz1) ?_
  intro w4 p4
  have x4 : Ext w2 w4 := x3.move p4.mv (by rintro k ⟨⟩; exact Nat.le_refl _)
  have hp4 := pts_block (cs := [str [1, 97], z]) p4.this
  have hz4 := hz.ext x4
  have hx4 := hx2.trans x4
  clear p4 h3 x3
  repeat' (first | ((with_reducible refine o_s ?_); (first | (refine o_1 ?_; refine o_2 ?_) | (refine o_g ?_; first | refine o_u ?_ | refine o_k ?_ | refine o_n ?_ | refine o_v ?_ | ((first | refine o_G ?_ ?_ | refine o_N ?_ ?_) <;> intro hc)))) | ((fail_if_success (with_reducible refine o_s ?_)); go_step))
  refine wpl_callR (enters_of Tryz.func66 rfl rfl) rfl rfl (p_Renew [1, 97] z simZ 6 _ hz4 (by decide) sim_b sim_d) ?_
  rintro _ w5 x5 ⟨y, rfl, hy⟩
  rw [sim_renE, sim_renO]
  rw [sim_renL] at hy
  have hy := hy.sets
  have hy1 : y.oneCell' = true := by obtain ⟨css, h, _⟩ := hy; exact h.one
  refine gset ?_
  repeat' (first | ((with_reducible refine o_s ?_); (first | (refine o_1 ?_; refine o_2 ?_) | (refine o_g ?_; first | refine o_u ?_ | refine o_k ?_ | refine o_n ?_ | refine o_v ?_ | ((first | refine o_G ?_ ?_ | refine o_N ?_ ?_) <;> intro hc)))) | ((fail_if_success (with_reducible refine o_s ?_)); go_step))
  refine wpl_allocB (z := zzone) rfl (by decide +kernel) ?_
  intro w6 x6 s6 h6
  refine gset ?_
  refine wpl_storeB (v := .agg #[str [1, 97], y]) rfl rfl rfl h6 (show sizeTy Tryz.prog 25 2 = true by decide +kernel) rfl (zone_one hy1) ?_
  intro w7 p7
  have x7 : Ext w5 w7 := x6.move p7.mv (by rintro k ⟨⟩; exact Nat.le_refl _)
  have hq7 := pts_block (cs := [str [1, 97], y]) p7.this
  have x47 := x5.trans x7
  have hy7 := hy.ext x7
  have hz7 := hz4.ext x47
  have hp7 := hp4.ext x47
  have hx7 := hx4.trans x47
  clear p7 h6 x6 hp4 hz4
  repeat' (first | ((with_reducible refine o_s ?_); (first | (refine o_1 ?_; refine o_2 ?_) | (refine o_g ?_; first | refine o_u ?_ | refine o_k ?_ | refine o_n ?_ | refine o_v ?_ | ((first | refine o_G ?_ ?_ | refine o_N ?_ ?_) <;> intro hc)))) | ((fail_if_success (with_reducible refine o_s ?_)); go_step))
  refine wpl_callR (enters_of Tryz.func21 rfl rfl) rfl rfl (p_Make [1, 97] z simZ [1, 97] y simY _ hz7 hy7 sim_b sim_d sim_b2 sim_d2 (by have := sim_h1; omega) (by have := sim_h2; omega)) ?_
  rintro _ w8 x8 ⟨_, rfl, g, n, rfl, og, on⟩
  rw [sim_mE, sim_mD]
  rw [sim_mD] at og on
  have sg := og.sl
  have sn := on.sl
  refine gset ?_
  repeat' (first | ((with_reducible refine o_s ?_); (first | (refine o_1 ?_; refine o_2 ?_) | (refine o_g ?_; first | refine o_u ?_ | refine o_k ?_ | refine o_n ?_ | refine o_v ?_ | ((first | refine o_G ?_ ?_ | refine o_N ?_ ?_) <;> intro hc)))) | ((fail_if_success (with_reducible refine o_s ?_)); go_step))
  refine wpl_allocB (z := zdel) rfl (by decide +kernel) ?_
  intro w9 x9 s9 h9
  refine gset ?_
  refine wpl_storeB (v := .agg #[.int .i64 5, .int .i64 6, g, n]) rfl rfl rfl h9 (show sizeTy Tryz.prog 30 4 = true by decide +kernel) rfl (all4 rfl rfl sg.one sn.one) ?_
  intro w10 p10
  have x10 : Ext w8 w10 := x9.move p10.mv (by rintro k ⟨⟩; exact Nat.le_refl _)
  have hd10 := pts_block (cs := [.int .i64 5, .int .i64 6, g, n]) p10.this
  have x710 := x8.trans x10
  have hy10 := hy7.ext x710
  have hz10 := hz7.ext x710
  have hp10 := hp7.ext x710
  have hq10 := hq7.ext x710
  have hx10 := hx7.trans x710
  have sg10 := sg.ext x10
  have sn10 := sn.ext x10
  have hD10 : DelA simD (.agg #[.int .i64 5, .int .i64 6, g, n]) w10 := ⟨g, n, rfl, sg10, sn10⟩
  clear p10 h9 x9 hp7 hq7 hy7 hz7 sg sn og on
  repeat' (first | ((with_reducible refine o_s ?_); (first | (refine o_1 ?_; refine o_2 ?_) | (refine o_g ?_; first | refine o_u ?_ | refine o_k ?_ | refine o_n ?_ | refine o_v ?_ | ((first | refine o_G ?_ ?_ | refine o_N ?_ ?_) <;> intro hc)))) | ((fail_if_success (with_reducible refine o_s ?_)); go_step))
  refine wpl_callR (enters_of Tryz.func28 rfl rfl) rfl rfl (p_Apply [1, 97] z simZ (d := simD) _ hz10 hD10 sim_b sim_d3 sim_h1 (by decide) sim_n) ?_
  rintro _ w11 x11 ⟨y2, rfl, hy2⟩
  rw [sim_aE, sim_aO]
  rw [sim_aL] at hy2
  have hy2 := hy2.sets
  have hy21 : y2.oneCell' = true := by obtain ⟨css, h, _⟩ := hy2; exact h.one
  refine gset ?_
  repeat' (first | ((with_reducible refine o_s ?_); (first | (refine o_1 ?_; refine o_2 ?_) | (refine o_g ?_; first | refine o_u ?_ | refine o_k ?_ | refine o_n ?_ | refine o_v ?_ | ((first | refine o_G ?_ ?_ | refine o_N ?_ ?_) <;> intro hc)))) | ((fail_if_success (with_reducible refine o_s ?_)); go_step))
  refine wpl_allocB (z := zzone) rfl (by decide +kernel) ?_
  intro w12 x12 s12 h12
  refine gset ?_
  refine wpl_storeB (v := .agg #[str [1, 97], y2]) rfl rfl rfl h12 (show sizeTy Tryz.prog 25 2 = true by decide +kernel) rfl (zone_one hy21) ?_
  intro w13 p13
  have x13 : Ext w11 w13 := x12.move p13.mv (by rintro k ⟨⟩; exact Nat.le_refl _)
  have hr13 := pts_block (cs := [str [1, 97], y2]) p13.this
  have x1013 := x11.trans x13
  have hy13 := hy10.ext x1013
  have hz13 := hz10.ext x1013
  have hp13 := hp10.ext x1013
  have hq13 := hq10.ext x1013
  have hd13 := hd10.ext x1013
  have hx13 := hx10.trans x1013
  have hD13 := hD10.ext x1013
  have hy213 := hy2.ext x13
  have sg13 := sg10.ext x1013
  have sn13 := sn10.ext x1013
  clear p13 h12 x12 hp10 hq10 hy10 hz10 hd10 hD10 sg10 sn10
  repeat' (first | ((with_reducible refine o_s ?_); (first | (refine o_1 ?_; refine o_2 ?_) | (refine o_g ?_; first | refine o_u ?_ | refine o_k ?_ | refine o_n ?_ | refine o_v ?_ | ((first | refine o_G ?_ ?_ | refine o_N ?_ ?_) <;> intro hc)))) | ((fail_if_success (with_reducible refine o_s ?_)); go_step))
  refine wpl_callR (enters_of Tryz.func28 rfl rfl) rfl rfl (p_Apply [1, 97] y simY (d := simD) _ hy13 hD13 sim_b2 sim_d4 sim_h2 (by decide) sim_n) ?_
  rintro _ w14 x14 ⟨y3, rfl, hy3⟩
  rw [sim_bE]
  have hy31 : y3.oneCell' = true := by obtain ⟨css, h, _⟩ := hy3.sets; exact h.one
  refine gset ?_
  repeat' (first | ((with_reducible refine o_s ?_); (first | (refine o_1 ?_; refine o_2 ?_) | (refine o_g ?_; first | refine o_u ?_ | refine o_k ?_ | refine o_n ?_ | refine o_v ?_ | ((first | refine o_G ?_ ?_ | refine o_N ?_ ?_) <;> intro hc)))) | ((fail_if_success (with_reducible refine o_s ?_)); go_step))
  refine wpl_allocB (z := zzone) rfl (by decide +kernel) ?_
  intro w15 x15 s15 h15
  refine gset ?_
  refine wpl_storeB (v := .agg #[str (appO [1, 97] simY simD), y3]) rfl rfl rfl h15 (show sizeTy Tryz.prog 25 2 = true by decide +kernel) rfl (zone_one hy31) ?_
  intro w16 p16
  have x16 : Ext w14 w16 := x15.move p16.mv (by rintro k ⟨⟩; exact Nat.le_refl _)
  have x1316 := x14.trans x16
  have hy16 := hy13.ext x1316
  have hz16 := hz13.ext x1316
  have hp16 := hp13.ext x1316
  have hq16 := hq13.ext x1316
  have hd16 := hd13.ext x1316
  have hr16 := hr13.ext x1316
  have hx16 := hx13.trans x1316
  have hD16 := hD13.ext x1316
  have hy216 := hy213.ext x1316
  have sg16 := sg13.ext x1316
  have sn16 := sn13.ext x1316
  clear p16 h15 x15 hp13 hq13 hy13 hz13 hd13 hD13 hr13 hy213 sg13 sn13
  repeat' (first | ((with_reducible refine o_s ?_); (first | (refine o_1 ?_; refine o_2 ?_) | (refine o_g ?_; first | refine o_u ?_ | refine o_k ?_ | refine o_n ?_ | refine o_v ?_ | ((first | refine o_G ?_ ?_ | refine o_N ?_ ?_) <;> intro hc)))) | ((fail_if_success (with_reducible refine o_s ?_)); go_step))
  refine wph_region (S := fun w' => Ext w16 w') (by decide +kernel) ?_
  intro w17 x17 hh17
  refine tk 0 ?_; refine gset ?_; refine tk 1 ?_; refine gset ?_
  apply meet4 (F := fun (u y : Value) (b : Nat) w' => Ext w16 w' ∧ Pts w' (.pointer (some ⟨b, 0, none⟩)) [str [1, 97], y] ∧ SetsAt w' y simZ)
  · intro hG
    refine wph_two (i := 2) (j := 7) (by decide +kernel) rfl rfl rfl ?_ ?_
    · refine wpl_callR (enters_of Tryz.func35 rfl rfl) rfl rfl (p_Invert (d := simD) _ (hD16.ext x17) (by decide) (by decide)) ?_
      intro u wC xC ou
      refine gset ?_
      have x1 := x17.trans xC
      refine wph_nil ⟨x1, ?_⟩
      refine wph_two (i := 3) (j := 7) (by decide +kernel) rfl rfl rfl ?_ ?_
      · refine wpl_callR (enters_of Tryz.func28 rfl rfl) rfl rfl (p_Apply [1, 97] y simY (d := invD simD) _ (hy16.ext x1) ou.a sim_b2 sim_d4 sim_h2 (by decide) sim_g) ?_
        rintro _ wD xD ⟨y4, rfl, hy4⟩
        rw [sim_iE, sim_iO]
        rw [sim_iL] at hy4
        have hy41 : y4.oneCell' = true := by obtain ⟨css, h, _⟩ := hy4.sets; exact h.one
        refine gset ?_
        have x2 := x1.trans xD
        refine wph_nil ⟨x2, ?_⟩
        refine tk 4 ?_; refine gset ?_; refine tk 5 ?_; refine gset ?_; refine tk 6 ?_; refine gset ?_
        refine wph_one (i := 7) (by decide +kernel) rfl rfl ?_
        refine wpl_allocB (z := zzone) rfl (by decide +kernel) ?_
        intro wE xE sE hE
        refine gset ?_
        have x3 := x2.trans xE
        refine wph_nil ⟨x3, ?_⟩
        refine wph_one (i := 8) (by decide +kernel) rfl rfl ?_
        refine wpl_storeB (v := .agg #[str [1, 97], y4]) rfl rfl rfl hE (show sizeTy Tryz.prog 25 2 = true by decide +kernel) rfl (zone_one hy41) ?_
        intro wF pF
        have xF : Ext wD wF := xE.move pF.mv (by rintro k ⟨⟩; exact Nat.le_refl _)
        have hF := pts_block (cs := [str [1, 97], y4]) pF.this
        refine wph_nil ⟨x2.trans xF, ?_⟩
        refine tk 9 ?_; refine gset ?_
        have x4 := x2.trans xF
        clear pF hE xE sE
        generalize wD.heap.size = b at *
        exact hG u _ b _ ⟨x4, hF, hy4.sets.ext xF⟩
      · refine wpl_allocB (z := zzone) rfl (by decide +kernel) ?_
        intro wD xD sD hD
        refine gset ?_
        have x2 := x1.trans xD
        refine wph_nil ⟨x2, ?_⟩
        refine wph_one (i := 3) (by decide +kernel) rfl rfl ?_
        refine wpl_callR (enters_of Tryz.func28 rfl rfl) rfl rfl (p_Apply [1, 97] y simY (d := invD simD) _ (hy16.ext x2) (ou.a.ext xD) sim_b2 sim_d4 sim_h2 (by decide) sim_g) ?_
        rintro _ wE xE ⟨y4, rfl, hy4⟩
        rw [sim_iE, sim_iO]
        rw [sim_iL] at hy4
        have hy41 : y4.oneCell' = true := by obtain ⟨css, h, _⟩ := hy4.sets; exact h.one
        refine gset ?_
        have x3 := x2.trans xE
        refine wph_nil ⟨x3, ?_⟩
        refine tk 4 ?_; refine gset ?_; refine tk 5 ?_; refine gset ?_; refine tk 6 ?_; refine gset ?_
        have hb := x1.size
        have hE := xE.at hD
        have hlt : wC.heap.size < wD.heap.size := by omega
        refine wph_one (i := 8) (by decide +kernel) rfl rfl ?_
        refine wpl_storeB (v := .agg #[str [1, 97], y4]) rfl rfl rfl hE (show sizeTy Tryz.prog 25 2 = true by decide +kernel) rfl (zone_one hy41) ?_
        intro wF pF
        have xF : Ext w16 wF := x3.move pF.mv (by rintro k ⟨⟩; exact hb)
        have hF := pts_block (cs := [str [1, 97], y4]) pF.this
        refine wph_nil ⟨xF, ?_⟩
        refine tk 9 ?_; refine gset ?_
        have hfin := (hy4.put pF hlt).sets
        clear pF hE hD sD
        generalize wC.heap.size = b at *
        exact hG u _ b _ ⟨xF, hF, hfin⟩
    · refine wpl_allocB (z := zzone) rfl (by decide +kernel) ?_
      intro wC xC sC hC
      refine gset ?_
      have x1 := x17.trans xC
      refine wph_nil ⟨x1, ?_⟩
      refine wph_one (i := 2) (by decide +kernel) rfl rfl ?_
      refine wpl_callR (enters_of Tryz.func35 rfl rfl) rfl rfl (p_Invert (d := simD) _ (hD16.ext x1) (by decide) (by decide)) ?_
      intro u wD xD ou
      refine gset ?_
      have x2 := x1.trans xD
      refine wph_nil ⟨x2, ?_⟩
      refine wph_one (i := 3) (by decide +kernel) rfl rfl ?_
      refine wpl_callR (enters_of Tryz.func28 rfl rfl) rfl rfl (p_Apply [1, 97] y simY (d := invD simD) _ (hy16.ext x2) ou.a sim_b2 sim_d4 sim_h2 (by decide) sim_g) ?_
      rintro _ wE xE ⟨y4, rfl, hy4⟩
      rw [sim_iE, sim_iO]
      rw [sim_iL] at hy4
      have hy41 : y4.oneCell' = true := by obtain ⟨css, h, _⟩ := hy4.sets; exact h.one
      refine gset ?_
      have x3 := x2.trans xE
      refine wph_nil ⟨x3, ?_⟩
      refine tk 4 ?_; refine gset ?_; refine tk 5 ?_; refine gset ?_; refine tk 6 ?_; refine gset ?_
      have hb := x17.size
      have hE := xE.at (xD.at hC)
      have hlt : w17.heap.size < wD.heap.size := by have := xD.size; omega
      refine wph_one (i := 8) (by decide +kernel) rfl rfl ?_
      refine wpl_storeB (v := .agg #[str [1, 97], y4]) rfl rfl rfl hE (show sizeTy Tryz.prog 25 2 = true by decide +kernel) rfl (zone_one hy41) ?_
      intro wF pF
      have xF : Ext w16 wF := x3.move pF.mv (by rintro k ⟨⟩; exact hb)
      have hF := pts_block (cs := [str [1, 97], y4]) pF.this
      refine wph_nil ⟨xF, ?_⟩
      refine tk 9 ?_; refine gset ?_
      have hfin := (hy4.put pF hlt).sets
      clear pF hE hC sC
      generalize w17.heap.size = b at *
      exact hG u _ b _ ⟨xF, hF, hfin⟩
  · rintro u y4 b w20 ⟨x1620, hf20, hy420⟩
    refine wph_done (by decide +kernel) ?_
    have hy20 := hy16.ext x1620
    have hz20 := hz16.ext x1620
    have hp20 := hp16.ext x1620
    have hq20 := hq16.ext x1620
    have hd20 := hd16.ext x1620
    have hr20 := hr16.ext x1620
    have hx20 := hx16.trans x1620
    have hD20 := hD16.ext x1620
    have hy220 := hy216.ext x1620
    have sg20 := sg16.ext x1620
    have sn20 := sn16.ext x1620
    clear hp16 hq16 hy16 hz16 hd16 hD16 hr16 hy216 sg16 sn16
    repeat' (first | ((with_reducible refine o_s ?_); (first | (refine o_1 ?_; refine o_2 ?_) | (refine o_g ?_; first | refine o_u ?_ | refine o_k ?_ | refine o_n ?_ | refine o_v ?_ | ((first | refine o_G ?_ ?_ | refine o_N ?_ ?_) <;> intro hc)))) | ((fail_if_success (with_reducible refine o_s ?_)); go_step))
    refine wph_region (S := fun w' => Ext w20 w') (by decide +kernel) ?_
    intro w21 x21 hh21
    refine tk 0 ?_; refine gset ?_; refine tk 1 ?_; refine gset ?_
    apply meet5 (F := fun (u g' n' : Value) (b : Nat) w' => Ext w20 w' ∧ Pts w' (.pointer (some ⟨b, 0, none⟩)) [.int .i64 5, .int .i64 5, g', n'] ∧ Sl 4 w' g' [] ∧ Sl 4 w' n' [])
    · intro hG
      refine wph_two (i := 2) (j := 7) (by decide +kernel) rfl rfl rfl ?_ ?_
      · refine wpl_callR (enters_of Tryz.func35 rfl rfl) rfl rfl (p_Invert (d := simD) _ (hD20.ext x21) (by decide) (by decide)) ?_
        intro u wC xC ou
        refine gset ?_
        have x1 := x21.trans xC
        refine wph_nil ⟨x1, ?_⟩
        refine wph_two (i := 3) (j := 7) (by decide +kernel) rfl rfl rfl ?_ ?_
        · refine wpl_callR (enters_of Tryz.func33 rfl rfl) rfl rfl (p_Compose (a := simD) (b := invD simD) _ (hD20.ext x1) ou.a (by decide) (by decide) (by decide) (by decide)) ?_
          rintro _ wD xD ⟨_, rfl, g', n', rfl, og', on'⟩
          rw [sim_cE, sim_cD]
          rw [sim_cD] at og' on'
          have sg' := og'.sl; rw [show rcells ([] : List Rec) = [] from rfl] at sg'
          have sn' := on'.sl; rw [show rcells ([] : List Rec) = [] from rfl] at sn'
          refine gset ?_
          have x2 := x1.trans xD
          refine wph_nil ⟨x2, ?_⟩
          refine tk 4 ?_; refine gset ?_; refine tk 5 ?_; refine gset ?_; refine tk 6 ?_; refine gset ?_
          refine wph_one (i := 7) (by decide +kernel) rfl rfl ?_
          refine wpl_allocB (z := zdel) rfl (by decide +kernel) ?_
          intro wE xE sE hE
          refine gset ?_
          have x3 := x2.trans xE
          refine wph_nil ⟨x3, ?_⟩
          refine wph_one (i := 8) (by decide +kernel) rfl rfl ?_
          refine wpl_storeB (v := .agg #[.int .i64 5, .int .i64 5, g', n']) rfl rfl rfl hE (show sizeTy Tryz.prog 30 4 = true by decide +kernel) rfl (all4 rfl rfl sg'.one sn'.one) ?_
          intro wF pF
          have xF : Ext wD wF := xE.move pF.mv (by rintro k ⟨⟩; exact Nat.le_refl _)
          have hF := pts_block (cs := [.int .i64 5, .int .i64 5, g', n']) pF.this
          refine wph_nil ⟨x2.trans xF, ?_⟩
          refine tk 9 ?_; refine gset ?_
          have x4 := x2.trans xF
          clear pF hE xE sE
          generalize wD.heap.size = b at *
          exact hG u g' n' b _ ⟨x4, hF, sg'.empty _, sn'.empty _⟩
        · refine wpl_allocB (z := zdel) rfl (by decide +kernel) ?_
          intro wD xD sD hD
          refine gset ?_
          have x2 := x1.trans xD
          refine wph_nil ⟨x2, ?_⟩
          refine wph_one (i := 3) (by decide +kernel) rfl rfl ?_
          refine wpl_callR (enters_of Tryz.func33 rfl rfl) rfl rfl (p_Compose (a := simD) (b := invD simD) _ (hD20.ext x2) (ou.a.ext xD) (by decide) (by decide) (by decide) (by decide)) ?_
          rintro _ wE xE ⟨_, rfl, g', n', rfl, og', on'⟩
          rw [sim_cE, sim_cD]
          rw [sim_cD] at og' on'
          have sg' := og'.sl; rw [show rcells ([] : List Rec) = [] from rfl] at sg'
          have sn' := on'.sl; rw [show rcells ([] : List Rec) = [] from rfl] at sn'
          refine gset ?_
          have x3 := x2.trans xE
          refine wph_nil ⟨x3, ?_⟩
          refine tk 4 ?_; refine gset ?_; refine tk 5 ?_; refine gset ?_; refine tk 6 ?_; refine gset ?_
          have hb := x1.size
          have hE := xE.at hD
          have hlt : wC.heap.size < wD.heap.size := by omega
          refine wph_one (i := 8) (by decide +kernel) rfl rfl ?_
          refine wpl_storeB (v := .agg #[.int .i64 5, .int .i64 5, g', n']) rfl rfl rfl hE (show sizeTy Tryz.prog 30 4 = true by decide +kernel) rfl (all4 rfl rfl sg'.one sn'.one) ?_
          intro wF pF
          have xF : Ext w20 wF := x3.move pF.mv (by rintro k ⟨⟩; exact hb)
          have hF := pts_block (cs := [.int .i64 5, .int .i64 5, g', n']) pF.this
          refine wph_nil ⟨xF, ?_⟩
          refine tk 9 ?_; refine gset ?_
          clear pF hE hD sD
          generalize wC.heap.size = b at *
          exact hG u g' n' b _ ⟨xF, hF, sg'.empty _, sn'.empty _⟩
      · refine wpl_allocB (z := zdel) rfl (by decide +kernel) ?_
        intro wC xC sC hC
        refine gset ?_
        have x1 := x21.trans xC
        refine wph_nil ⟨x1, ?_⟩
        refine wph_one (i := 2) (by decide +kernel) rfl rfl ?_
        refine wpl_callR (enters_of Tryz.func35 rfl rfl) rfl rfl (p_Invert (d := simD) _ (hD20.ext x1) (by decide) (by decide)) ?_
        intro u wD xD ou
        refine gset ?_
        have x2 := x1.trans xD
        refine wph_nil ⟨x2, ?_⟩
        refine wph_one (i := 3) (by decide +kernel) rfl rfl ?_
        refine wpl_callR (enters_of Tryz.func33 rfl rfl) rfl rfl (p_Compose (a := simD) (b := invD simD) _ (hD20.ext x2) ou.a (by decide) (by decide) (by decide) (by decide)) ?_
        rintro _ wE xE ⟨_, rfl, g', n', rfl, og', on'⟩
        rw [sim_cE, sim_cD]
        rw [sim_cD] at og' on'
        have sg' := og'.sl; rw [show rcells ([] : List Rec) = [] from rfl] at sg'
        have sn' := on'.sl; rw [show rcells ([] : List Rec) = [] from rfl] at sn'
        refine gset ?_
        have x3 := x2.trans xE
        refine wph_nil ⟨x3, ?_⟩
        refine tk 4 ?_; refine gset ?_; refine tk 5 ?_; refine gset ?_; refine tk 6 ?_; refine gset ?_
        have hb := x21.size
        have hE := xE.at (xD.at hC)
        have hlt : w21.heap.size < wD.heap.size := by have := xD.size; omega
        refine wph_one (i := 8) (by decide +kernel) rfl rfl ?_
        refine wpl_storeB (v := .agg #[.int .i64 5, .int .i64 5, g', n']) rfl rfl rfl hE (show sizeTy Tryz.prog 30 4 = true by decide +kernel) rfl (all4 rfl rfl sg'.one sn'.one) ?_
        intro wF pF
        have xF : Ext w20 wF := x3.move pF.mv (by rintro k ⟨⟩; exact hb)
        have hF := pts_block (cs := [.int .i64 5, .int .i64 5, g', n']) pF.this
        refine wph_nil ⟨xF, ?_⟩
        refine tk 9 ?_; refine gset ?_
        clear pF hE hC sC
        generalize w21.heap.size = b at *
        exact hG u g' n' b _ ⟨xF, hF, sg'.empty _, sn'.empty _⟩
    · rintro u g' n' b' w22 ⟨x2022, hc22, sg22, sn22⟩
      refine wph_done (by decide +kernel) ?_
      have hy22 := hy20.ext x2022
      have hz22 := hz20.ext x2022
      have hp22 := hp20.ext x2022
      have hq22 := hq20.ext x2022
      have hd22 := hd20.ext x2022
      have hr22 := hr20.ext x2022
      have hx22 := hx20.trans x2022
      have hy222 := hy220.ext x2022
      have hy422 := hy420.ext x2022
      have hf22 := hf20.ext x2022
      have sgd := sg20.ext x2022
      have snd := sn20.ext x2022
      clear hp20 hq20 hy20 hz20 hd20 hD20 hr20 hy220 hy420 hf20 sg20 sn20
      repeat' (first | ((with_reducible refine o_s ?_); (first | (refine o_1 ?_; refine o_2 ?_) | (refine o_g ?_; first | refine o_u ?_ | refine o_k ?_ | refine o_n ?_ | refine o_v ?_ | ((first | refine o_G ?_ ?_ | refine o_N ?_ ?_) <;> intro hc)))) | ((fail_if_success (with_reducible refine o_s ?_)); go_step))
      · refine wpl_callV (enters_of Tryz.func31 rfl rfl) rfl rfl (same_true hy222 hy22 rfl rfl) ?_; intro w23 x23; refine gset ?_
        have hp23 := hp22.ext x23
        have hf23 := hf22.ext x23
        have hc23 := hc22.ext x23
        repeat' (first | ((with_reducible refine o_s ?_); (first | (refine o_1 ?_; refine o_2 ?_) | (refine o_g ?_; first | refine o_u ?_ | refine o_k ?_ | refine o_n ?_ | refine o_v ?_ | ((first | refine o_G ?_ ?_ | refine o_N ?_ ?_) <;> intro hc)))) | ((fail_if_success (with_reducible refine o_s ?_)); go_step))
        refine wpl_callV (enters_of Tryz.func31 rfl rfl) rfl rfl (same_true (hy422.ext x23) (hz22.ext x23) rfl rfl) ?_; intro w24 x24; refine gset ?_
        have hc24 := hc23.ext x24
        have sg24 := sg22.empty w24
        have sn24 := sn22.empty w24
        repeat' (first | ((with_reducible refine o_s ?_); (first | (refine o_1 ?_; refine o_2 ?_) | (refine o_g ?_; first | refine o_u ?_ | refine o_k ?_ | refine o_n ?_ | refine o_v ?_ | ((first | refine o_G ?_ ?_ | refine o_N ?_ ?_) <;> intro hc)))) | ((fail_if_success (with_reducible refine o_s ?_)); go_step))
        · go_ret
          exact ⟨rfl, (hx22.trans x23).trans x24⟩
        · exact (hc rfl).elim
        · exact (hc rfl).elim
      · exact (hc rfl).elim
      · exact (hc rfl).elim
end Go.Proofs.X
