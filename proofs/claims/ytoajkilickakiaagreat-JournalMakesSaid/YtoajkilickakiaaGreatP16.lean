/- Laws and walks that the proof of the statement is made of (part 16). -/
import Derived.Test.YtoajkilickakiaaGreatProg
import Derived.Test.YtoajkilickakiaaGreatShelf
import Derived.Shelf.SlSortCmp.NoneTotal
import Derived.Shelf.RegionOpenPlain
import Derived.Lib.Strings
import Derived.Lib.Slices
import Derived.Lib.Walk
import Derived.Lib.Builder
import Derived.Lib.AppendStr
import Derived.Lib.UnsafeStr
import Derived.Lib.MakeNoZero
import Derived.WalkKit
import Derived.Laws.Externs
import Derived.Laws.IdiomCopy
import Derived.Laws.BitsLemmas
import GoSem.Claims
import Derived.Lib.Hide
import Derived.OwnWalk
import Derived.OrdersIn
import Derived.LoopIn
import Derived.Laws.Pointers
import Derived.Test.YtoajkilickakiaaGreatRows
import Derived.ProofKit
import Derived.OpenShut
import Derived.ShutString
import Derived.ChangeOld
import Derived.Below
import Derived.Test.YtoajkilickakiaaGreatP1
import Derived.Test.YtoajkilickakiaaGreatP2
import Derived.Test.YtoajkilickakiaaGreatP3
import Derived.Test.YtoajkilickakiaaGreatP4
import Derived.Test.YtoajkilickakiaaGreatP5
import Derived.Test.YtoajkilickakiaaGreatP9
import Derived.Test.YtoajkilickakiaaGreatP10
import Derived.Test.YtoajkilickakiaaGreatP11
import Derived.Test.YtoajkilickakiaaGreatP12
import Derived.Test.YtoajkilickakiaaGreatP13
import Derived.Test.YtoajkilickakiaaGreatP14
import Derived.Test.YtoajkilickakiaaGreatP15
set_option linter.unusedSimpArgs false
set_option linter.unusedVariables false
namespace Go.Proofs.X
open Go.RowKit
set_option maxRecDepth 100000
set_option maxHeartbeats 8000000 in
theorem r11_Update {w0 w : World} {b : Nat} {o : List UInt8} {l : List RSet} {room : Int} {ds : List DeltaR} (h : KAt w0 w b o l room ds) (hz : ZoneOk o l) (hr : 0 ≤ room ∧ room ≤ 20) (hds : ds.length ≤ 20) (hdr : (ds.length : Int) ≤ room)
    (o' : List UInt8) (v' : Value) (l' : List RSet) (hv0 : SetsAt w0 v' l') (hb' : ∀ s ∈ l', s.data.length ≤ 1000000) (hd' : ∀ s ∈ l', ∀ d ∈ s.data, d.length ≤ 4611686018427387904) :
    Calls Tryz.prog 55 #[.pointer (some ⟨b, 0, none⟩), .agg #[str o', v']] w fun e w' => e = .returned (.int .i64 (updE o l o' l')) ∧ KeptK b w w' ∧
      (updE o l o' l' ≠ 0 → KAt w0 w' b o l room ds) ∧ (updE o l o' l' = 0 → KAt w0 w' b o l' room (trimD room (ds ++ [mkD o l o l']))) := by
  obtain ⟨zl, zb, zd, zr⟩ := zoneJ hz
  have hE0 := h.ext
  have hv' := hv0.ext hE0
  obtain ⟨v, dv, hbk, hs, hdl⟩ := h.out
  go_enter Tryz.func55, Tryz.ntmps55
  repeat' ((fail_if_success (with_reducible refine o_s ?_)); go_step)
  refine wpl_boxB (vs := [str o', v']) rfl rfl ?_
  intro w1 x1 sz1 hcz
  have hpz := pts_block (cs := [str o', v']) hcz
  refine gset ?_
  have hbk1 := x1.at hbk
  obtain ⟨hp, hp0⟩ := k_pts hbk1
  have hv1 := hv'.ext x1
  repeat' (first | ((with_reducible refine o_s ?_); (first | (refine o_1 ?_; refine o_2 ?_) | (refine o_g ?_; first | refine o_u ?_ | refine o_k ?_ | refine o_n ?_ | refine o_v ?_ | ((first | refine o_G ?_ ?_ | refine o_N ?_ ?_) <;> intro hc)))) | ((fail_if_success (with_reducible refine o_s ?_)); go_step))
  refine wpl_callV (enters_of Tryz.func68 rfl rfl) rfl rfl (r8_Soa o' v' l' _ hv1 hb' hd') ?_; intro w2 x2; refine gset ?_
  have hx2 := x1.trans x2
  repeat' (first | ((with_reducible refine o_s ?_); (first | (refine o_1 ?_; refine o_2 ?_) | (refine o_g ?_; first | refine o_u ?_ | refine o_k ?_ | refine o_n ?_ | refine o_v ?_ | ((first | refine o_G ?_ ?_ | refine o_N ?_ ?_) <;> intro hc)))) | ((fail_if_success (with_reducible refine o_s ?_)); go_step))
  refine wpl_allocB (z := zeroSoa) rfl (by decide +kernel) ?_
  intro w3 x3 s3 h3
  refine gset ?_
  refine wpl_storeB (v := .agg (soaZ o' l').cells.toArray) rfl rfl rfl h3 (show sizeTy Tryz.prog 103 7 = true by decide +kernel) rfl (soaR_one _) ?_
  intro w4 p4
  have x4 : Ext w2 w4 := x3.move p4.mv (by rintro k ⟨⟩; exact Nat.le_refl _)
  have hs4 := pts_block (cs := (soaZ o' l').cells) p4.this
  have hx4 := hx2.trans x4
  have hpz4 := hpz.ext (x2.trans x4)
  have hbk4 := (x2.trans x4).at hbk1
  have hJ4 := h.grow hx4
  have hv4 := hv1.ext (x2.trans x4)
  clear p4 h3 x3 hp hp0
  obtain ⟨hp, hp0⟩ := k_pts hbk4
  by_cases q1 : zoneR o' l' = 0
  · have q1' : ¬ zoneR o' l' ≠ 0 := by simp [q1]
    have hz' := zone_ok q1
    rw [q1]
    repeat' (first | ((with_reducible refine o_s ?_); (first | (refine o_1 ?_; refine o_2 ?_) | (refine o_g ?_; first | refine o_u ?_ | refine o_k ?_ | refine o_n ?_ | refine o_v ?_ | ((first | refine o_G ?_ ?_ | refine o_N ?_ ?_) <;> intro hc)))) | ((fail_if_success (with_reducible refine o_s ?_)); go_step))
    refine wpq_region (by decide +kernel) (by decide +kernel) ?_
    repeat' (first | ((with_reducible refine q_s ?_); (first | (refine q_1 ?_; refine q_2 ?_) | (refine q_g ?_; first | refine q_u ?_ | refine q_k ?_ | refine q_v ?_))) | (with_reducible refine q_n ?_))
    intro w5 x5
    have hx5 := hx4.trans x5
    have hJ5 := hJ4.grow x5
    have hs5 := hs4.ext x5
    have hpz5 := hpz4.ext x5
    have hbk5 := x5.at hbk4
    have hv5 := hv4.ext x5
    clear hp hp0 hs4 hpz4
    obtain ⟨hp, hp0⟩ := k_pts hbk5
    by_cases q2 : o' = o
    · subst q2
      rw [decide_eq_true rfl]
      simp only [Bool.not_true]
      repeat' (first | ((with_reducible refine o_s ?_); (first | (refine o_1 ?_; refine o_2 ?_) | (refine o_g ?_; first | refine o_u ?_ | refine o_k ?_ | refine o_n ?_ | refine o_v ?_ | ((first | refine o_G ?_ ?_ | refine o_N ?_ ?_) <;> intro hc)))) | ((fail_if_success (with_reducible refine o_s ?_)); go_step))
      refine wpq_region (by decide +kernel) (by decide +kernel) ?_
      repeat' (first | ((with_reducible refine q_s ?_); (first | (refine q_1 ?_; refine q_2 ?_) | (refine q_g ?_; first | refine q_u ?_ | refine q_k ?_ | refine q_v ?_))) | (with_reducible refine q_n ?_))
      refine wpq_call (enters_of Tryz.func57 rfl rfl) rfl rfl (fun w' x' => r11_Serial (hJ5.grow x') (fun s hs => by have := zb s hs; omega) (fun s hs d hd => by have := zd s hs d hd; omega)) ?_
      refine gset ?_
      repeat' (first | ((with_reducible refine q_s ?_); (first | (refine q_1 ?_; refine q_2 ?_) | (refine q_g ?_; first | refine q_u ?_ | refine q_k ?_ | refine q_v ?_))) | (with_reducible refine q_n ?_))
      refine wpq_call (enters_of Tryz.func103 rfl rfl) rfl rfl (fun w' _ => r2_Later _ _ w') ?_
      refine gset ?_
      repeat' (first | ((with_reducible refine q_s ?_); (first | (refine q_1 ?_; refine q_2 ?_) | (refine q_g ?_; first | refine q_u ?_ | refine q_k ?_ | refine q_v ?_))) | (with_reducible refine q_n ?_))
      intro w6 x6
      have hx6 := hx5.trans x6
      have hJ6 := hJ5.grow x6
      cases hlt : laterB (soaZ o' l').serial (soaZ o' l).serial with
      | false =>
        have hE : updE o' l o' l' = 7 := by rw [updE, if_neg q1', if_neg (by simp), if_pos hlt]
        simp only [Bool.not_false]
        repeat' (first | ((with_reducible refine o_s ?_); (first | (refine o_1 ?_; refine o_2 ?_) | (refine o_g ?_; first | refine o_u ?_ | refine o_k ?_ | refine o_n ?_ | refine o_v ?_ | ((first | refine o_G ?_ ?_ | refine o_N ?_ ?_) <;> intro hc)))) | ((fail_if_success (with_reducible refine o_s ?_)); go_step))
        go_ret
        exact ⟨by rw [hE]; rfl, KeptK.of hx6, fun _ => hJ6, fun h0 => by rw [hE] at h0; cases h0⟩
      | true =>
        have hE : updE o' l o' l' = 0 := by rw [updE, if_neg q1', if_neg (by simp), if_neg (by simp [hlt])]
        simp only [Bool.not_true]
        have hpz6 := hpz5.ext x6
        have hv6 := hv5.ext x6
        have hdl6 := (hdl.ext hx5).ext x6
        have hs6 := (hs.ext hx5).ext x6
        have hbk6 := x6.at hbk5
        clear hp hp0 hs5 hpz5 hJ5 hJ4 hv5 hv4
        obtain ⟨hp, hp0⟩ := k_pts hbk6
        obtain ⟨zl', zb', zd', zr'⟩ := zoneJ hz'
        have cM : ∀ w', Ext w6 w' → Calls Tryz.prog 22 #[.agg #[str o', v], .agg #[str o', v']] w' (Ret w' fun r w'' => ∃ g n, r = .tuple #[.agg #[.int .i64 (mkD o' l o' l').fr, .int .i64 (mkD o' l o' l').to, g, n], .int .i64 (mkE o' l o' l')] ∧ Own 0 4 75 w'' g (rcells (mkD o' l o' l').gone) ∧ Own 0 4 75 w'' n (rcells (mkD o' l o' l').new) ∧ Own w'.heap.size 4 75 w'' g (rcells (mkD o' l o' l').gone) ∧ Own w'.heap.size 4 75 w'' n (rcells (mkD o' l o' l').new)) := fun w' hx' => by
          refine (r10_Make o' v l o' v' l' w' (hs6.ext hx').sets (hv6.ext hx') (fun s hs => by have := zb s hs; omega) (fun s hs d hd => by have := zd s hs d hd; omega) hb' hd' (by omega) (by omega)).mono ?_
          rintro e w'' ⟨r, rfl, hxx, y, rfl, g, n, rfl, og, on⟩
          exact ⟨_, rfl, hxx, g, n, rfl, og.weaken (Nat.zero_le _), on.weaken (Nat.zero_le _), og, on⟩
        generalize hDq : mkD o' l o' l' = D at *
        generalize mkE o' l o' l' = E at *
        repeat' (first | ((with_reducible refine o_s ?_); (first | (refine o_1 ?_; refine o_2 ?_) | (refine o_g ?_; first | refine o_u ?_ | refine o_k ?_ | refine o_n ?_ | refine o_v ?_ | ((first | refine o_G ?_ ?_ | refine o_N ?_ ?_) <;> intro hc)))) | ((fail_if_success (with_reducible refine o_s ?_)); go_step))
        refine wph_region (S := fun w' => Ext w6 w') (by decide +kernel) ?_
        intro w21 x21 hh21
        refine tk 0 ?_; refine gset ?_; refine tk 1 ?_; refine gset ?_; refine tk 2 ?_; refine gset ?_; refine tk 3 ?_; refine gset ?_; refine tk 4 ?_; refine gset ?_
        have hsz6 := hx6.size
        have hsz0 := hE0.size
        apply meetJ (F := fun (g n : Value) (k : Nat) w' => Ext w6 w' ∧ w6.heap.size ≤ k ∧ w'.heap[k]? = some (.cells [.int .i64 D.fr, .int .i64 D.to, g, n].toArray 34 (0, 0)) ∧ Own w0.heap.size 4 75 w' g (rcells D.gone) ∧ Own w0.heap.size 4 75 w' n (rcells D.new))
        · intro hG
          refine wph_two (i := 5) (j := 9) (by decide +kernel) rfl rfl rfl ?_ ?_
          · refine wpl_callR (enters_of Tryz.func22 rfl rfl) rfl rfl (cM _ x21) ?_
            rintro _ wC xC ⟨g, n, rfl, -, -, og, on⟩
            refine gset ?_
            have x1 := x21.trans xC
            have hsC := x21.size
            refine wph_nil ⟨x1, ?_⟩
            refine tk 6 ?_; refine gset ?_; refine tk 7 ?_; refine gset ?_; refine tk 8 ?_; refine gset ?_
            refine wph_one (i := 9) (by decide +kernel) rfl rfl ?_
            refine wpl_allocB (z := zdel) rfl (by decide +kernel) ?_
            intro wE xE sE hE
            have hsE := x1.size
            refine gset ?_
            have x3 := x1.trans xE
            refine wph_nil ⟨x3, ?_⟩
            refine wph_one (i := 10) (by decide +kernel) rfl rfl ?_
            refine wpl_storeB (v := .agg #[.int .i64 D.fr, .int .i64 D.to, g, n]) rfl rfl rfl hE (show sizeTy Tryz.prog 34 4 = true by decide +kernel) rfl (all4 rfl rfl og.sl.one on.sl.one) ?_
            intro wF pF
            have xF : Ext wC wF := xE.move pF.mv (by rintro k ⟨⟩; exact Nat.le_refl _)
            have hF := pF.this
            refine wph_nil ⟨x1.trans xF, ?_⟩
            refine tk 11 ?_; refine gset ?_
            have x4 := x1.trans xF
            clear pF hE xE sE
            generalize wC.heap.size = k at *
            exact hG g n k _ ⟨x4, hsE, hF, (og.ext xF).weaken (by omega), (on.ext xF).weaken (by omega)⟩
          · refine wpl_allocB (z := zdel) rfl (by decide +kernel) ?_
            intro wD xD sD hD
            have hsD := x21.size
            refine gset ?_
            have x2 := x21.trans xD
            refine wph_nil ⟨x2, ?_⟩
            refine wph_one (i := 5) (by decide +kernel) rfl rfl ?_
            refine wpl_callR (enters_of Tryz.func22 rfl rfl) rfl rfl (cM _ x2) ?_
            rintro _ wE xE ⟨g, n, rfl, -, -, og, on⟩
            refine gset ?_
            have hsE := x2.size
            have x3 := x2.trans xE
            refine wph_nil ⟨x3, ?_⟩
            refine tk 6 ?_; refine gset ?_; refine tk 7 ?_; refine gset ?_; refine tk 8 ?_; refine gset ?_
            have hE := xE.at hD
            refine wph_one (i := 10) (by decide +kernel) rfl rfl ?_
            refine wpl_storeB (v := .agg #[.int .i64 D.fr, .int .i64 D.to, g, n]) rfl rfl rfl hE (show sizeTy Tryz.prog 34 4 = true by decide +kernel) rfl (all4 rfl rfl og.sl.one on.sl.one) ?_
            intro wF pF
            have xF : Ext w6 wF := x3.move pF.mv (by rintro k ⟨⟩; exact hsD)
            have hF := pF.this
            refine wph_nil ⟨xF, ?_⟩
            refine tk 11 ?_; refine gset ?_
            have hfin1 := (og.mv pF.mv (.inr (og.neBlock hE (by decide)))).weaken (show w0.heap.size ≤ _ by omega)
            have hfin2 := (on.mv pF.mv (.inr (on.neBlock hE (by decide)))).weaken (show w0.heap.size ≤ _ by omega)
            clear pF hE hD sD
            generalize w21.heap.size = k at *
            exact hG g n k _ ⟨xF, hsD, hF, hfin1, hfin2⟩
        · clear hh21
          rintro g n k w7 ⟨x7, hk7, hk, og, on⟩
          refine wph_done (by decide +kernel) ?_
          repeat' (first | ((with_reducible refine o_s ?_); (first | (refine o_1 ?_; refine o_2 ?_) | (refine o_g ?_; first | refine o_u ?_ | refine o_k ?_ | refine o_n ?_ | refine o_v ?_ | ((first | refine o_G ?_ ?_ | refine o_N ?_ ?_) <;> intro hc)))) | ((fail_if_success (with_reducible refine o_s ?_)); go_step))
          have hx7 := hx6.trans x7
          have hcz7 := ((((x2.trans x4).trans x5).trans x6).trans x7).at hcz
          have hbk7 := x7.at hbk6
          have hs7 := hs6.ext x7
          have hE7 : Ext w0 w7 := hE0.trans hx7
          obtain ⟨css, hdo, hdlen, hdat⟩ := (hdl6.ext x7).out
          have hnb : dv.ownBlock ≠ some b := hdo.neBlock hbk7 (by decide)
          have hnz : dv.ownBlock ≠ some w.heap.size := hdo.neBlock hcz7 (by decide)
          have hnk : ∀ r, dv.ownBlock = some r → w0.heap.size ≤ r := fun r hr => (hdo.type hr).1
          have hkb : k ≠ b := by rintro rfl; rw [hk] at hbk7; simp at hbk7
          have hkz : k ≠ w.heap.size := by rintro rfl; rw [hk] at hcz7; simp at hcz7
          obtain ⟨hq, hq0⟩ := k_pts hbk7
          have hq3 : Pts w7 (partPtr (.pointer (some ⟨b, 0, none⟩)) 3) [dv] := hq.part 3
          have hkp := pts_block hk
          have hg1 := og.sl.one
          have hn1 := on.sl.one
          have h41 : ∀ f ∈ [[Value.int .i64 D.fr, .int .i64 D.to, g, n]], ∀ u ∈ f, u.oneCell' = true := by
            intro f hf u hu
            simp only [List.mem_singleton] at hf
            subst hf
            simp at hu
            rcases hu with rfl | rfl | rfl | rfl
            · rfl
            · rfl
            · exact hg1
            · exact hn1
          refine wpi_region 7 (Ext w7) (by decide +kernel) ?_
          intro w8 x8 _
          refine ⟨x8, ?_⟩
          ((with_reducible apply wpi_pure (i := 0)); (rfl); (rfl); (rfl); (decide +kernel); (decide +kernel); (decide +kernel); (rfl); (intro _; exact rn); (exact fun _ _ _ h => h); (refine gset ?_))
          ((with_reducible apply wpi_take (i := 1)); (rfl); (rfl); (rfl); (decide +kernel); (decide +kernel); (decide +kernel); (decide +kernel); (rfl); (intro _ _; exact rn); (exact fun _ _ _ h => h); (refine gset ?_)); ((with_reducible apply wpi_take (i := 2)); (rfl); (rfl); (rfl); (decide +kernel); (decide +kernel); (decide +kernel); (decide +kernel); (rfl); (intro _ _; exact rn); (exact fun _ _ _ h => h); (refine gset ?_))
          refine wpi_pure (i := 3) rfl rfl rfl (by decide +kernel) (by decide +kernel) (by decide +kernel) rfl (fun _ => Runs.fieldJ (off := 3) rfl (by decide +kernel)) (fun _ _ _ h => h) ?_; refine gset ?_
          ((with_reducible apply wpi_take (i := 4)); (rfl); (rfl); (rfl); (decide +kernel); (decide +kernel); (decide +kernel); (decide +kernel); (rfl); (intro _ _; exact rn); (exact fun _ _ _ h => h); (refine gset ?_)); ((with_reducible apply wpi_take (i := 5)); (rfl); (rfl); (rfl); (decide +kernel); (decide +kernel); (decide +kernel); (decide +kernel); (rfl); (intro _ _; exact rn); (exact fun _ _ _ h => h); (refine gset ?_))
          refine wpi_op (i := 6) (by decide +kernel) rfl rfl ?_
          refine wpl_slice (e := 34) (k := 4) (bytes := 64) (xs := [.agg #[.int .i64 D.fr, .int .i64 D.to, g, n]]) rfl rfl rfl (by simp [Value.cells]) (by decide +kernel) (by simp) ?_
          intro vB wB xB szB slB owB
          refine gset ?_
          have x7B := x8.trans xB
          refine wph_nil ⟨till_yes x7B, ?_⟩
          refine wpi_op (i := 7) (by decide +kernel) rfl rfl ?_
          refine wpl_appendOff (e := 34) (k := 4) rfl (hdo.ext x7B) rfl slB (by simp) h41 (hE7.trans x7B).size (by rw [hdlen]; simp; omega) ?_
          intro a9 w9 o9 m9 _
          refine gset ?_
          have hs9 : SetsV w0.heap.size w9 v l := (hs7.ext x7B).mvO (hdo.ext x7B) (by decide) (by decide) m9
          have hE9 : Ext w0 w9 := (hE7.trans x7B).move m9 hnk
          have hbk9 := m9.at (x7B.at hbk7) (fun e => hnb e.symm)
          have hcz9 := m9.at (x7B.at hcz7) (fun e => hnz e.symm)
          have hK9 : KeptK b w w9 := (KeptK.of (hx7.trans x7B)).trans (KeptK.mv (hdo.ext x7B) m9)
          have hD9 : DelsK w0.heap.size w9 a9 (ds ++ [D]) := DelsK.add (hdo.ext x7B) hdlen (fun i d hi => let ⟨x, y, a, b, c⟩ := hdat i d hi; ⟨x, y, a, b.ext x7B, c.ext x7B⟩) m9 o9 (og.ext x7B) (on.ext x7B)
          refine wph_nil ⟨till_no rfl, ?_⟩
          ((with_reducible apply wpi_pure (i := 8)); (rfl); (rfl); (rfl); (decide +kernel); (decide +kernel); (decide +kernel); (rfl); (intro _; exact rn); (exact fun _ _ _ h => h); (refine gset ?_))
          refine wpi_pure (i := 9) rfl rfl rfl (by decide +kernel) (by decide +kernel) (by decide +kernel) rfl (fun _ => Runs.fieldJ (off := 3) rfl (by decide +kernel)) (fun _ _ _ h => h) ?_; refine gset ?_
          refine wpi_op (i := 10) (by decide +kernel) rfl rfl ?_
          refine wpl_storeF (n := 3) hbk9 rfl rfl rfl (by simp [jC]) (by decide +kernel) o9.sl.one ?_
          intro w10 p10
          refine wph_nil ⟨till_no rfl, ?_⟩
          refine wpi_done (by decide +kernel) ?_
          have hbk10 : w10.heap[b]? = some (.cells (jC o' v room a9).toArray 92 (0, 0)) := p10.this
          have hK10 := hK9.trans (KeptK.put p10)
          have hE10 : Ext w0 w10 := hE9.move p10.mv (by rintro k ⟨⟩; exact h.ge)
          have hD10 := hD9.put hbk9 (by decide) (by decide) p10
          have hs10 := hs9.put hbk9 (by decide) (by decide) p10
          have hcz10 := p10.mv.at hcz9 (by intro e; have := Option.some.inj e; subst this; rw [hcz9] at hbk9; simp at hbk9)
          clear p10 m9 o9 hq hq0 hq3 hkp hdo hdat hp hp0
          have hlen : (ds ++ [D]).length ≤ 21 := by simp; omega
          have hT := trim_tail D hdr
          generalize hes : ds ++ [D] = es at *
          obtain ⟨hp, hp0⟩ := k_pts hbk10
          obtain ⟨ces, hsl, hcl⟩ := hD10.len
          have hp3 : Pts w10 (partPtr (.pointer (some ⟨b, 0, none⟩)) 3) [a9] := hp.part 3
          have hp2 : Pts w10 (partPtr (.pointer (some ⟨b, 0, none⟩)) 2) [.int .i64 room] := (hp.part 2).front 1
          repeat' (first | ((with_reducible refine o_s ?_); (first | (refine o_1 ?_; refine o_2 ?_) | (refine o_g ?_; first | refine o_u ?_ | refine o_k ?_ | refine o_n ?_ | refine o_v ?_ | ((first | refine o_G ?_ ?_ | refine o_N ?_ ?_) <;> intro hc)))) | ((fail_if_success (with_reducible refine o_s ?_)); go_step))
          refine wpq_region (by decide +kernel) (by decide +kernel) ?_
          repeat' (first | ((with_reducible refine q_s ?_); (first | (refine q_1 ?_; refine q_2 ?_) | (refine q_g ?_; first | refine q_u ?_ | refine q_k ?_ | refine q_v ?_))) | (with_reducible refine q_n ?_))
          refine wpq_run0 (fun _ _ => Runs.fieldJ (off := 3) rfl (by decide +kernel)) ?_
          refine gset ?_
          repeat' (first | ((with_reducible refine q_s ?_); (first | (refine q_1 ?_; refine q_2 ?_) | (refine q_g ?_; first | refine q_u ?_ | refine q_k ?_ | refine q_v ?_))) | (with_reducible refine q_n ?_))
          refine wpq_run0 (fun _ _ => Runs.fieldJ (off := 2) rfl (by decide +kernel)) ?_
          refine gset ?_
          repeat' (first | ((with_reducible refine q_s ?_); (first | (refine q_1 ?_; refine q_2 ?_) | (refine q_g ?_; first | refine q_u ?_ | refine q_k ?_ | refine q_v ?_))) | (with_reducible refine q_n ?_))
          intro w11 x11
          rw [hcl]
          have hbk11 := x11.at hbk10
          have hcz11 := x11.at hcz10
          have hD11 := hD10.ext x11
          have hK11 := hK10.trans (KeptK.of x11)
          have hE11 := hE10.trans x11
          have hsl11 := hsl.ext x11
          clear hp hp0 hp2 hp3 hsl hD10 hE10 hK10 hbk10 hcz10
          by_cases hc : room < (es.length : Int)
          · rw [if_pos hc] at hT
            rw [decide_eq_true hc]
            obtain ⟨hp, hp0⟩ := k_pts hbk11
            have hp3 : Pts w11 (partPtr (.pointer (some ⟨b, 0, none⟩)) 3) [a9] := hp.part 3
            repeat' (first | ((with_reducible refine o_s ?_); (first | (refine o_1 ?_; refine o_2 ?_) | (refine o_g ?_; first | refine o_u ?_ | refine o_k ?_ | refine o_n ?_ | refine o_v ?_ | ((first | refine o_G ?_ ?_ | refine o_N ?_ ?_) <;> intro hc)))) | ((fail_if_success (with_reducible refine o_s ?_)); go_step))
            refine wpl_run0 (Runs.fieldJ (off := 3) rfl (by decide +kernel)) ?_
            refine gset ?_
            repeat' (first | ((with_reducible refine o_s ?_); (first | (refine o_1 ?_; refine o_2 ?_) | (refine o_g ?_; first | refine o_u ?_ | refine o_k ?_ | refine o_n ?_ | refine o_v ?_ | ((first | refine o_G ?_ ?_ | refine o_N ?_ ?_) <;> intro hc)))) | ((fail_if_success (with_reducible refine o_s ?_)); go_step))
            refine wpl_run0 (Runs.fieldJ (off := 3) rfl (by decide +kernel)) ?_
            refine gset ?_
            rw [hcl]
            have hDt := hD11.drop (m := 1) (by omega)
            obtain ⟨_, h1s, _⟩ := hDt.len
            refine wpl_storeF (n := 3) hbk11 rfl rfl rfl (by simp [jC]) (by decide +kernel) h1s.one ?_
            intro w12 p12
            have hbk12 : w12.heap[b]? = some (.cells (jC o' v room (cutSl a9 4 1 es.length)).toArray 92 (0, 0)) := p12.this
            have hK12 := hK11.trans (KeptK.put p12)
            have hE12 : Ext w0 w12 := hE11.move p12.mv (by rintro k ⟨⟩; exact h.ge)
            have hD12 := hDt.put hbk11 (by decide) (by decide) p12
            have hcz12 := p12.mv.at hcz11 (by intro e; have := Option.some.inj e; subst this; rw [hcz11] at hbk11; simp at hbk11)
            have hTes : trimD room es = es.drop 1 := hT
            clear p12 hp hp0 hp3 hD11 hDt h1s hsl11 hK11 hE11
            have hpz12 := pts_block (cs := [str o', v']) hcz12
            have hv12 := hv0.ext hE12
            obtain ⟨hp, hp0⟩ := k_pts hbk12
            repeat' (first | ((with_reducible refine o_s ?_); (first | (refine o_1 ?_; refine o_2 ?_) | (refine o_g ?_; first | refine o_u ?_ | refine o_k ?_ | refine o_n ?_ | refine o_v ?_ | ((first | refine o_G ?_ ?_ | refine o_N ?_ ?_) <;> intro hc)))) | ((fail_if_success (with_reducible refine o_s ?_)); go_step))
            refine wpl_callR (enters_of Tryz.func27 rfl rfl) rfl rfl (r8_Copy o' v' l' _ hv12 (by omega) hb') ?_
            rintro r w13 x13 ⟨y, rfl, hy⟩
            have hbk13 := x13.at hbk12
            have hy1 : y.oneCell' = true := by obtain ⟨_, _, _, rfl⟩ := hy.slf; rfl
            have hD13 := hD12.ext x13
            have hyw := hy.weaken hE12.size
            refine gset ?_
            repeat' (first | ((with_reducible refine o_s ?_); (first | (refine o_1 ?_; refine o_2 ?_) | (refine o_g ?_; first | refine o_u ?_ | refine o_k ?_ | refine o_n ?_ | refine o_v ?_ | ((first | refine o_G ?_ ?_ | refine o_N ?_ ?_) <;> intro hc)))) | ((fail_if_success (with_reducible refine o_s ?_)); go_step))
            refine wpl_storeS (n := 0) (vs := [str o', y]) hbk13 rfl rfl rfl rfl (by simp [jC]) (show sizeTy Tryz.prog 25 2 = true by decide +kernel) (by intro u hu; simp at hu; rcases hu with rfl | rfl <;> first | rfl | assumption) ?_
            intro w14 p14
            repeat' (first | ((with_reducible refine o_s ?_); (first | (refine o_1 ?_; refine o_2 ?_) | (refine o_g ?_; first | refine o_u ?_ | refine o_k ?_ | refine o_n ?_ | refine o_v ?_ | ((first | refine o_G ?_ ?_ | refine o_N ?_ ?_) <;> intro hc)))) | ((fail_if_success (with_reducible refine o_s ?_)); go_step))
            go_ret
            refine ⟨by rw [hE]; rfl, ((hK12.trans (KeptK.of x13)).trans (KeptK.put p14)), fun h0 => absurd hE h0, fun _ => ⟨h.ge, (hE12.trans x13).move p14.mv (by rintro k ⟨⟩; exact h.ge), y, _, p14.this, hyw.put hbk13 (by decide) (by decide) p14, by rw [hDq, hes, hTes]; exact hD13.put hbk13 (by decide) (by decide) p14⟩⟩
          · rw [if_neg hc] at hT
            rw [decide_eq_false hc]
            have hbk12 := hbk11
            have hK12 := hK11
            have hE12 := hE11
            have hD12 := hD11
            have hcz12 := hcz11
            have hTes : trimD room es = es := hT
            clear hD11 hsl11 hK11 hE11
            have hpz12 := pts_block (cs := [str o', v']) hcz12
            have hv12 := hv0.ext hE12
            obtain ⟨hp, hp0⟩ := k_pts hbk12
            repeat' (first | ((with_reducible refine o_s ?_); (first | (refine o_1 ?_; refine o_2 ?_) | (refine o_g ?_; first | refine o_u ?_ | refine o_k ?_ | refine o_n ?_ | refine o_v ?_ | ((first | refine o_G ?_ ?_ | refine o_N ?_ ?_) <;> intro hc)))) | ((fail_if_success (with_reducible refine o_s ?_)); go_step))
            refine wpl_callR (enters_of Tryz.func27 rfl rfl) rfl rfl (r8_Copy o' v' l' _ hv12 (by omega) hb') ?_
            rintro r w13 x13 ⟨y, rfl, hy⟩
            have hbk13 := x13.at hbk12
            have hy1 : y.oneCell' = true := by obtain ⟨_, _, _, rfl⟩ := hy.slf; rfl
            have hD13 := hD12.ext x13
            have hyw := hy.weaken hE12.size
            refine gset ?_
            repeat' (first | ((with_reducible refine o_s ?_); (first | (refine o_1 ?_; refine o_2 ?_) | (refine o_g ?_; first | refine o_u ?_ | refine o_k ?_ | refine o_n ?_ | refine o_v ?_ | ((first | refine o_G ?_ ?_ | refine o_N ?_ ?_) <;> intro hc)))) | ((fail_if_success (with_reducible refine o_s ?_)); go_step))
            refine wpl_storeS (n := 0) (vs := [str o', y]) hbk13 rfl rfl rfl rfl (by simp [jC]) (show sizeTy Tryz.prog 25 2 = true by decide +kernel) (by intro u hu; simp at hu; rcases hu with rfl | rfl <;> first | rfl | assumption) ?_
            intro w14 p14
            repeat' (first | ((with_reducible refine o_s ?_); (first | (refine o_1 ?_; refine o_2 ?_) | (refine o_g ?_; first | refine o_u ?_ | refine o_k ?_ | refine o_n ?_ | refine o_v ?_ | ((first | refine o_G ?_ ?_ | refine o_N ?_ ?_) <;> intro hc)))) | ((fail_if_success (with_reducible refine o_s ?_)); go_step))
            go_ret
            refine ⟨by rw [hE]; rfl, ((hK12.trans (KeptK.of x13)).trans (KeptK.put p14)), fun h0 => absurd hE h0, fun _ => ⟨h.ge, (hE12.trans x13).move p14.mv (by rintro k ⟨⟩; exact h.ge), y, _, p14.this, hyw.put hbk13 (by decide) (by decide) p14, by rw [hDq, hes, hTes]; exact hD13.put hbk13 (by decide) (by decide) p14⟩⟩
    · rw [decide_eq_false q2]
      have hE : updE o l o' l' = 1 := by rw [updE, if_neg q1', if_pos q2]
      repeat' (first | ((with_reducible refine o_s ?_); (first | (refine o_1 ?_; refine o_2 ?_) | (refine o_g ?_; first | refine o_u ?_ | refine o_k ?_ | refine o_n ?_ | refine o_v ?_ | ((first | refine o_G ?_ ?_ | refine o_N ?_ ?_) <;> intro hc)))) | ((fail_if_success (with_reducible refine o_s ?_)); go_step))
      go_ret
      exact ⟨by rw [hE]; rfl, KeptK.of hx5, fun _ => hJ5, fun h0 => by rw [hE] at h0; cases h0⟩
  · have hE : updE o l o' l' = zoneR o' l' := by rw [updE, if_pos q1]
    repeat' (first | ((with_reducible refine o_s ?_); (first | (refine o_1 ?_; refine o_2 ?_) | (refine o_g ?_; first | refine o_u ?_ | refine o_k ?_ | refine o_n ?_ | refine o_v ?_ | ((first | refine o_G ?_ ?_ | refine o_N ?_ ?_) <;> intro hc)))) | ((fail_if_success (with_reducible refine o_s ?_)); go_step))
    all_goals first
      | (exfalso
         have hh := ‹(!decide (zoneR o' l' = 0)) = false›
         simp [q1] at hh
         done)
      | (go_ret
         exact ⟨by rw [hE]; rfl, KeptK.of hx4, fun _ => hJ4, fun h0 => by rw [hE] at h0; exact absurd h0 q1⟩)
structure ZonesAt (w : World) (v : Value) (zs : List (List UInt8 × List RSet)) : Prop where
  out : ∃ css, Sl 2 w v css ∧ css.length = zs.length ∧ ∀ (i : Nat) (z : List UInt8 × List RSet), zs[i]? = some z → ∃ u, css[i]? = some [str z.1, u] ∧ SetsAt w u z.2
theorem ZonesAt.ext {w w' : World} {v : Value} {zs : List (List UInt8 × List RSet)} (h : ZonesAt w v zs) (hx : Ext w w') : ZonesAt w' v zs := by
  obtain ⟨css, h1, h2, h3⟩ := h
  exact ⟨css, h1.ext hx, h2, fun i z hi => let ⟨u, a, b⟩ := h3 i z hi; ⟨u, a, b.ext hx⟩⟩
def nextL (o : List UInt8) (l : List RSet) (o' : List UInt8) (l' : List RSet) : List RSet := if updE o l o' l' = 0 then l' else l
def nextD (room : Int) (o : List UInt8) (l : List RSet) (ds : List DeltaR) (o' : List UInt8) (l' : List RSet) : List DeltaR := if updE o l o' l' = 0 then trimD room (ds ++ [mkD o l o l']) else ds
structure JOk (o : List UInt8) (l : List RSet) (room : Int) (ds : List DeltaR) : Prop where
  zone : ZoneOk o l
  fits : 0 ≤ room ∧ room ≤ 20
  len : (ds.length : Int) ≤ room
  each : ∀ d ∈ ds, d.gone.length ≤ 4000 ∧ d.new.length ≤ 4000
theorem updE_ok {o o' : List UInt8} {l l' : List RSet} (h : updE o l o' l' = 0) : o' = o ∧ ZoneOk o l' ∧ laterB (soaZ o l').serial (soaZ o l).serial = true := by
  unfold updE at h
  split at h
  · rename_i q; exact absurd h q
  · rename_i q
    split at h
    · cases h
    · rename_i q2
      have e : o' = o := by simpa using q2
      subst e
      split at h
      · cases h
      · rename_i q3
        exact ⟨rfl, zone_ok (by simpa using q), by simpa using q3⟩
theorem mkD_len {o : List UInt8} {l l' : List RSet} (h : ZoneOk o l) (h' : ZoneOk o l') : (mkD o l o l').gone.length ≤ 4000 ∧ (mkD o l o l').new.length ≤ 4000 := by
  rw [(mk_ok (mkE_ok h h')).2.2.2]
  have a := (zoneJ h).2.2.2
  have b := (zoneJ h').2.2.2
  unfold lessR
  exact ⟨Nat.le_trans (List.length_filter_le _ _) a, Nat.le_trans (List.length_filter_le _ _) b⟩
theorem JOk.next {o : List UInt8} {l : List RSet} {room : Int} {ds : List DeltaR} (h : JOk o l room ds) (o' : List UInt8) (l' : List RSet) : JOk o (nextL o l o' l') room (nextD room o l ds o' l') := by
  unfold nextL nextD
  split
  · rename_i q
    obtain ⟨rfl, hz, _⟩ := updE_ok q
    refine ⟨hz, h.fits, ?_, ?_⟩
    · rw [trim_len _ _ h.fits.1]
      exact Int.min_le_right _ _
    · intro d hd
      rcases List.mem_append.1 (List.mem_of_mem_drop hd) with hd | hd
      · exact h.each d hd
      · rw [List.mem_singleton.1 hd]
        exact mkD_len h.zone hz
  · exact h
theorem newE_ok {o : List UInt8} {l : List RSet} {room : Int} (h : newE o l room = 0) : JOk o l room [] := by
  unfold newE at h
  split at h
  · rename_i q; exact absurd h q
  · rename_i q
    split at h
    · cases h
    · rename_i q2
      exact ⟨zone_ok (by simpa using q), by omega, by simp; omega, by simp⟩
theorem p_UpdateX {w0 w : World} {b : Nat} {o : List UInt8} {l : List RSet} {room : Int} {ds : List DeltaR} (h : JAt w0 w b o l room ds) (hk : JOk o l room ds)
    (o' : List UInt8) (v' : Value) (l' : List RSet) (hv0 : SetsAt w0 v' l') (hb' : ∀ s ∈ l', s.data.length ≤ 1000000) (hd' : ∀ s ∈ l', ∀ d ∈ s.data, d.length ≤ 4611686018427387904) :
    Calls Tryz.prog 54 #[.pointer (some ⟨b, 0, none⟩), .agg #[str o', v']] w fun e w' => e = .returned (.int .i64 (updE o l o' l')) ∧ Keep [139, 30] w w' ∧ JAt w0 w' b o (nextL o l o' l') room (nextD room o l ds o' l') := by
  have hl := hk.len
  have hr := hk.fits
  obtain ⟨v, dv, hbk, _⟩ := h.out
  refine (p_Update h hk.zone hk.fits (by omega) o' v' l' hv0 hb' hd').mono ?_
  rintro e w' ⟨rfl, hK, h1, h2⟩
  refine ⟨rfl, hK.keep hbk, ?_⟩
  by_cases q : updE o l o' l' = 0
  · rw [nextL, if_pos q, nextD, if_pos q]; exact h2 q
  · rw [nextL, if_neg q, nextD, if_neg q]; exact h1 q
theorem r11_UpdateX {w0 w : World} {b : Nat} {o : List UInt8} {l : List RSet} {room : Int} {ds : List DeltaR} (h : KAt w0 w b o l room ds) (hk : JOk o l room ds)
    (o' : List UInt8) (v' : Value) (l' : List RSet) (hv0 : SetsAt w0 v' l') (hb' : ∀ s ∈ l', s.data.length ≤ 1000000) (hd' : ∀ s ∈ l', ∀ d ∈ s.data, d.length ≤ 4611686018427387904) :
    Calls Tryz.prog 55 #[.pointer (some ⟨b, 0, none⟩), .agg #[str o', v']] w fun e w' => e = .returned (.int .i64 (updE o l o' l')) ∧ Keep [92, 34] w w' ∧ KAt w0 w' b o (nextL o l o' l') room (nextD room o l ds o' l') := by
  have hl := hk.len
  have hr := hk.fits
  obtain ⟨v, dv, hbk, _⟩ := h.out
  refine (r11_Update h hk.zone hk.fits (by omega) hk.len o' v' l' hv0 hb' hd').mono ?_
  rintro e w' ⟨rfl, hK, h1, h2⟩
  refine ⟨rfl, hK.keep hbk, ?_⟩
  by_cases q : updE o l o' l' = 0
  · rw [nextL, if_pos q, nextD, if_pos q]; exact h2 q
  · rw [nextL, if_neg q, nextD, if_neg q]; exact h1 q
theorem JOk.small {o : List UInt8} {l : List RSet} {room : Int} {ds : List DeltaR} (h : JOk o l room ds) : l.length ≤ 100000 ∧ (∀ s ∈ l, s.data.length ≤ 1000000) ∧ (∀ s ∈ l, ∀ d ∈ s.data, d.length ≤ 4611686018427387904) ∧ ds.length ≤ 1000 ∧ (∀ d ∈ ds, d.gone.length ≤ 100000 ∧ d.new.length ≤ 100000) := by
  obtain ⟨a, b, c, _⟩ := zoneJ h.zone
  have hl := h.len
  have hr := h.fits
  refine ⟨by omega, fun s hs => by have := b s hs; omega, fun s hs d hd => by have := c s hs d hd; omega, by omega, fun d hd => by have := h.each d hd; omega⟩
theorem fewz {o : List UInt8} {l : List RSet} (h : (decide ((o.length : Int) ≤ 300) && fewS l) = true) : l.length ≤ 25 ∧ (∀ s ∈ l, s.data.length ≤ 1000000) ∧ (∀ s ∈ l, ∀ d ∈ s.data, d.length ≤ 4611686018427387904) ∧ o.length ≤ 300 ∧ (∀ s ∈ l, s.data.length ≤ 12) ∧ (∀ s ∈ l, ∀ d ∈ s.data, d.length ≤ 300) := by
  simp only [Bool.and_eq_true, decide_eq_true_eq] at h
  obtain ⟨b1, b2, b3, b4⟩ := few_bounds h.2
  exact ⟨b1, fun s hs => by have := b2 s hs; omega, fun s hs d hd => by have := b4 s hs d hd; omega, by omega, b2, b4⟩
/-! ### JournalScripts -/
section
variable {P : Program} {w w' : World} {a : Act} {d : Option Nat} {ty : TypeId} {ps : String} {af : Array Edge} {g : Option (Nat × Bool)}
theorem Runs.lenW {x : Operand} {t k : Nat} {es : List (List Value)} (h : Sl k w' (a.eval x) es) (ht : sliceOf P t k = true) :
    Runs P (Oper.mk d (.call ⟨.builtin .len, #[x], #[t]⟩) ty ps af g) a w (.int .i64 es.length) := by
  obtain ⟨ad, cap, h1, _⟩ := h
  obtain ⟨e, i, ht, _⟩ := sliceOf_spec ht
  constructor
  simp [execOp, resolve, invoke, builtin, h1, Builtin.len_, run_underlying ht, goInt]
end
theorem meet1 {F G : World → Prop} {goal : Prop} (h1 : (∀ w', F w' → G w') → goal) (h2 : ∀ w', F w' → G w') : goal := h1 h2
def lifeC (o : List UInt8) (v : Value) (room : Int) (lv : Value) (s : Int) : List Value := [str o, v, .int .i64 room, lv, .int .i64 s]
set_option maxHeartbeats 8000000 in
theorem j15 (o : List UInt8) (v : Value) (l : List RSet) (room : Int) (lv : Value) (zs : List (List UInt8 × List RSet)) (s : Int) (w : World) (hv : SetsAt w v l) (hz : ZonesAt w lv zs) :
    Calls Tryz.prog 15 #[.agg (lifeC o v room lv s).toArray] w (Yes w) := by
  go_enter Tryz.func15, Tryz.ntmps15
  repeat' ((fail_if_success (with_reducible refine o_s ?_)); go_step)
  refine wpl_boxB (vs := lifeC o v room lv s) rfl rfl ?_
  intro w1 x1 s1 h1
  refine gset ?_
  have hp := pts_block h1
  have hp0 : Pts w1 (partPtr (.pointer (some ⟨w.heap.size, 0, none⟩)) 0) [str o, v] := (hp.part 0).front 2
  have hp2 : Pts w1 (partPtr (.pointer (some ⟨w.heap.size, 0, none⟩)) 2) [.int .i64 room] := (hp.part 2).front 1
  have hp3 : Pts w1 (partPtr (.pointer (some ⟨w.heap.size, 0, none⟩)) 3) [lv] := (hp.part 3).front 1
  have hp4 : Pts w1 (partPtr (.pointer (some ⟨w.heap.size, 0, none⟩)) 4) [.int .i64 s] := hp.part 4
  have hv1 : v.oneCell' = true := by obtain ⟨css, h, _⟩ := hv; exact h.one
  repeat' (first | ((with_reducible refine o_s ?_); (first | (refine o_1 ?_; refine o_2 ?_) | (refine o_g ?_; first | refine o_u ?_ | refine o_k ?_ | refine o_n ?_ | refine o_v ?_ | ((first | refine o_G ?_ ?_ | refine o_N ?_ ?_) <;> intro hc)))) | ((fail_if_success (with_reducible refine o_s ?_)); go_step))
  refine wph_region (S := fun w' => Ext w1 w') (by decide +kernel) ?_
  intro w2 x2 _
  refine tk 0 ?_; refine gset ?_; refine tk 1 ?_; refine gset ?_
  refine tk 2 (hy := fun _ _ => Runs.fieldJ (off := 2) rfl (by decide +kernel)) ?_; refine gset ?_
  refine tk 3 ?_; refine gset ?_
  refine tk 4 (hy := fun _ _ => Runs.fieldJ (off := 3) rfl (by decide +kernel)) ?_; refine gset ?_
  refine tk 5 ?_; refine gset ?_
  refine tk 6 (hy := fun _ _ => Runs.fieldJ (off := 4) rfl (by decide +kernel)) ?_; refine gset ?_
  refine tk 7 ?_; refine gset ?_
  refine wph_one (i := 8) (by decide +kernel) rfl rfl ?_
  refine wpl_allocB (z := zzone) rfl (by decide +kernel) ?_
  intro w3 x3 s3 h3
  refine gset ?_
  have x23 := x2.trans x3
  refine wph_nil ⟨x23, ?_⟩
  refine wph_one (i := 9) (by decide +kernel) rfl rfl ?_
  refine wpl_storeB (v := .agg #[str o, v]) rfl rfl rfl h3 (show sizeTy Tryz.prog 25 2 = true by decide +kernel) rfl (zone_one hv1) ?_
  intro w4 p4
  have x14 : Ext w1 w4 := x23.move p4.mv (by rintro k ⟨⟩; exact x2.size)
  refine wph_nil ⟨x14, ?_⟩
  refine tk 10 ?_; refine gset ?_; refine tk 11 ?_; refine gset ?_; refine tk 12 ?_; refine gset ?_
  refine wph_done (by decide +kernel) ?_
  have x4 : Ext w w4 := (x1.trans x23).move p4.mv (by rintro k ⟨⟩; exact (x1.trans x2).size)
  have hq := pts_block (cs := [str o, v]) p4.this
  have hv4 := hv.ext x4
  have hz4 := hz.ext x4
  clear p4 h3 x3 x23 hp hp0 hp2 hp3 hp4 s3
  generalize w2.heap.size = bz at *
  repeat' (first | ((with_reducible refine o_s ?_); (first | (refine o_1 ?_; refine o_2 ?_) | (refine o_g ?_; first | refine o_u ?_ | refine o_k ?_ | refine o_n ?_ | refine o_v ?_ | ((first | refine o_G ?_ ?_ | refine o_N ?_ ?_) <;> intro hc)))) | ((fail_if_success (with_reducible refine o_s ?_)); go_step))
  refine wpl_callV (enters_of Tryz.func25 rfl rfl) rfl rfl (r8_Few o v l _ hv4) ?_; intro w5 x5; refine gset ?_
  have hx5 := x4.trans x5
  have hq5 := hq.ext x5
  have hv5 := hv4.ext x5
  have hz5 := hz4.ext x5
  obtain ⟨cs5, sl5, cl5, at5⟩ := hz5.out
  cases hf : (decide ((o.length : Int) ≤ 300) && fewS l) with
  | false =>
    repeat' (first | ((with_reducible refine o_s ?_); (first | (refine o_1 ?_; refine o_2 ?_) | (refine o_g ?_; first | refine o_u ?_ | refine o_k ?_ | refine o_n ?_ | refine o_v ?_ | ((first | refine o_G ?_ ?_ | refine o_N ?_ ?_) <;> intro hc)))) | ((fail_if_success (with_reducible refine o_s ?_)); go_step))
    refine wpl_callV (enters_of Tryz.func51 rfl rfl) rfl rfl (j_liveV _) ?_; intro w6 x6; refine gset ?_
    repeat' (first | ((with_reducible refine o_s ?_); (first | (refine o_1 ?_; refine o_2 ?_) | (refine o_g ?_; first | refine o_u ?_ | refine o_k ?_ | refine o_n ?_ | refine o_v ?_ | ((first | refine o_G ?_ ?_ | refine o_N ?_ ?_) <;> intro hc)))) | ((fail_if_success (with_reducible refine o_s ?_)); go_step))
    go_ret
    exact ⟨rfl, hx5.trans x6⟩
  | true =>
    obtain ⟨fl, fb, fd, _⟩ := fewz hf
    repeat' (first | ((with_reducible refine o_s ?_); (first | (refine o_1 ?_; refine o_2 ?_) | (refine o_g ?_; first | refine o_u ?_ | refine o_k ?_ | refine o_n ?_ | refine o_v ?_ | ((first | refine o_G ?_ ?_ | refine o_N ?_ ?_) <;> intro hc)))) | ((fail_if_success (with_reducible refine o_s ?_)); go_step))
    · refine wpl_callV (enters_of Tryz.func51 rfl rfl) rfl rfl (j_liveV _) ?_; intro w6 x6; refine gset ?_
      repeat' (first | ((with_reducible refine o_s ?_); (first | (refine o_1 ?_; refine o_2 ?_) | (refine o_g ?_; first | refine o_u ?_ | refine o_k ?_ | refine o_n ?_ | refine o_v ?_ | ((first | refine o_G ?_ ?_ | refine o_N ?_ ?_) <;> intro hc)))) | ((fail_if_success (with_reducible refine o_s ?_)); go_step))
      go_ret
      exact ⟨rfl, hx5.trans x6⟩
    · refine wpl_callG (enters_of Tryz.func52 rfl rfl) rfl rfl (p_New o v l room _ hv5 (by omega) fb) ?_
      rintro e w6 (⟨hne, rfl, x6⟩ | ⟨h0, b, rfl, hJ6⟩)
      · refine ⟨_, rfl, ?_⟩
        refine gset ?_
        have hq6 := hq5.ext x6
        have hx6 := hx5.trans x6
        repeat' (first | ((with_reducible refine o_s ?_); (first | (refine o_1 ?_; refine o_2 ?_) | (refine o_g ?_; first | refine o_u ?_ | refine o_k ?_ | refine o_n ?_ | refine o_v ?_ | ((first | refine o_G ?_ ?_ | refine o_N ?_ ?_) <;> intro hc)))) | ((fail_if_success (with_reducible refine o_s ?_)); go_step))
        refine wpl_callG (enters_of Tryz.func53 rfl rfl) rfl rfl (r11_New (w0 := w5) o v l room _ x6 (hv5.ext x6) (by omega) fb fd) ?_
        rintro e w7 (⟨-, rfl, x7⟩ | ⟨h0, -⟩)
        · refine ⟨_, rfl, ?_⟩
          refine gset ?_
          repeat' (first | ((with_reducible refine o_s ?_); (first | (refine o_1 ?_; refine o_2 ?_) | (refine o_g ?_; first | refine o_u ?_ | refine o_k ?_ | refine o_n ?_ | refine o_v ?_ | ((first | refine o_G ?_ ?_ | refine o_N ?_ ?_) <;> intro hc)))) | ((fail_if_success (with_reducible refine o_s ?_)); go_step))
          (refine wpl_run0 (v := .bool true) (Runs.isNil (p := none) rfl rfl (by kernel_rfl)) ?_; refine gset ?_)
          ((with_reducible refine o_s ?_); (first | (refine o_1 ?_; refine o_2 ?_) | (refine o_g ?_; refine o_u ?_; (with_reducible refine o_s ?_); refine o_1 ?_; refine o_2 ?_)))
          ((with_reducible refine o_s ?_); refine o_g ?_; refine o_u ?_)
          (refine wpl_run0 (v := .bool true) (Runs.isNil (p := none) rfl rfl (by kernel_rfl)) ?_; refine gset ?_)
          ((with_reducible refine o_s ?_); refine o_g ?_; refine o_u ?_)
          refine wpl_run rfl (Runs.neqB2 rfl rfl (by decide +kernel)) ?_
          refine gset ?_
          repeat' (first | ((with_reducible refine o_s ?_); (first | (refine o_1 ?_; refine o_2 ?_) | (refine o_g ?_; first | refine o_u ?_ | refine o_k ?_ | refine o_n ?_ | refine o_v ?_ | ((first | refine o_G ?_ ?_ | refine o_N ?_ ?_) <;> intro hc)))) | ((fail_if_success (with_reducible refine o_s ?_)); go_step))
          (refine wpl_run0 (v := .bool true) (Runs.isNil (p := none) rfl rfl (by kernel_rfl)) ?_; refine gset ?_)
          repeat' (first | ((with_reducible refine o_s ?_); (first | (refine o_1 ?_; refine o_2 ?_) | (refine o_g ?_; first | refine o_u ?_ | refine o_k ?_ | refine o_n ?_ | refine o_v ?_ | ((first | refine o_G ?_ ?_ | refine o_N ?_ ?_) <;> intro hc)))) | ((fail_if_success (with_reducible refine o_s ?_)); go_step))
          refine wpl_callV (enters_of Tryz.func51 rfl rfl) rfl rfl (j_liveV _) ?_; intro w8 x8; refine gset ?_
          repeat' (first | ((with_reducible refine o_s ?_); (first | (refine o_1 ?_; refine o_2 ?_) | (refine o_g ?_; first | refine o_u ?_ | refine o_k ?_ | refine o_n ?_ | refine o_v ?_ | ((first | refine o_G ?_ ?_ | refine o_N ?_ ?_) <;> intro hc)))) | ((fail_if_success (with_reducible refine o_s ?_)); go_step))
          go_ret
          exact ⟨rfl, (hx6.trans x7).trans x8⟩
        · exact absurd h0 hne
      · refine ⟨_, rfl, ?_⟩
        refine gset ?_
        have x6 := hJ6.ext
        have hq6 := hq5.ext x6
        repeat' (first | ((with_reducible refine o_s ?_); (first | (refine o_1 ?_; refine o_2 ?_) | (refine o_g ?_; first | refine o_u ?_ | refine o_k ?_ | refine o_n ?_ | refine o_v ?_ | ((first | refine o_G ?_ ?_ | refine o_N ?_ ?_) <;> intro hc)))) | ((fail_if_success (with_reducible refine o_s ?_)); go_step))
        refine wpl_callG (enters_of Tryz.func53 rfl rfl) rfl rfl (r11_New (w0 := w5) o v l room _ x6 (hv5.ext x6) (by omega) fb fd) ?_
        rintro e w7 (⟨hne, -⟩ | ⟨-, c, rfl, x7, hK7⟩)
        · exact absurd h0 hne
        refine ⟨_, rfl, ?_⟩
        refine gset ?_
        have hJ7 := hJ6.grow x7
        have hO := newE_ok h0
        clear hq6 x6 x7 hJ6 hq5 hq
        repeat' (first | ((with_reducible refine o_s ?_); (first | (refine o_1 ?_; refine o_2 ?_) | (refine o_g ?_; first | refine o_u ?_ | refine o_k ?_ | refine o_n ?_ | refine o_v ?_ | ((first | refine o_G ?_ ?_ | refine o_N ?_ ?_) <;> intro hc)))) | ((fail_if_success (with_reducible refine o_s ?_)); go_step))
        (refine wpl_run0 (v := .bool false) (Runs.isNil (p := some ⟨_, _, _⟩) rfl rfl (by kernel_rfl)) ?_; refine gset ?_)
        ((with_reducible refine o_s ?_); (first | (refine o_1 ?_; refine o_2 ?_) | (refine o_g ?_; refine o_u ?_; (with_reducible refine o_s ?_); refine o_1 ?_; refine o_2 ?_)))
        ((with_reducible refine o_s ?_); refine o_g ?_; refine o_u ?_)
        (refine wpl_run0 (v := .bool false) (Runs.isNil (p := some ⟨_, _, _⟩) rfl rfl (by kernel_rfl)) ?_; refine gset ?_)
        ((with_reducible refine o_s ?_); refine o_g ?_; refine o_u ?_)
        refine wpl_run rfl (Runs.neqB2 rfl rfl (by decide +kernel)) ?_
        refine gset ?_
        repeat' (first | ((with_reducible refine o_s ?_); (first | (refine o_1 ?_; refine o_2 ?_) | (refine o_g ?_; first | refine o_u ?_ | refine o_k ?_ | refine o_n ?_ | refine o_v ?_ | ((first | refine o_G ?_ ?_ | refine o_N ?_ ?_) <;> intro hc)))) | ((fail_if_success (with_reducible refine o_s ?_)); go_step))
        (refine wpl_run0 (v := .bool false) (Runs.isNil (p := some ⟨_, _, _⟩) rfl rfl (by kernel_rfl)) ?_; refine gset ?_)
        repeat' (first | ((with_reducible refine o_s ?_); (first | (refine o_1 ?_; refine o_2 ?_) | (refine o_g ?_; first | refine o_u ?_ | refine o_k ?_ | refine o_n ?_ | refine o_v ?_ | ((first | refine o_G ?_ ?_ | refine o_N ?_ ?_) <;> intro hc)))) | ((fail_if_success (with_reducible refine o_s ?_)); go_step))
        go_loopw [11, 12, 13, 14, 15] (fun i _ _ _ _ wr => ∃ (k : Nat) (l : List RSet) (ds : List DeltaR), k ≤ zs.length ∧ i = .int .i64 k ∧ JAt w5 wr b o l room ds ∧ KAt w5 wr c o l room ds ∧ JOk o l room ds) (fun i _ _ _ _ _ => zs.length - (intOf i).toNat)
        case atStart => exact ⟨0, l, [], Nat.zero_le _, rfl, hJ7, hK7, hO⟩
        case round =>
          clear hJ7 hK7 hO
          obtain ⟨k, l2, ds, hk, rfl, hJ, hK, hO⟩ := hrel
          have hx := hJ.ext
          by_cases hlt : k < zs.length
          · obtain ⟨u, hc, hu⟩ := at5 k _ (List.getElem?_eq_getElem hlt)
            have hpe := sl5.elem hc
            have hkc : k < cs5.length := by omega
            have hxr := hx
            repeat' (first | ((with_reducible refine o_s ?_); (first | (refine o_1 ?_; refine o_2 ?_) | (refine o_g ?_; first | refine o_u ?_ | refine o_k ?_ | refine o_n ?_ | refine o_v ?_ | ((first | refine o_G ?_ ?_ | refine o_N ?_ ?_) <;> intro hc)))) | ((fail_if_success (with_reducible refine o_s ?_)); go_step))
            refine wpl_callV (enters_of Tryz.func25 rfl rfl) rfl rfl (r8_Few zs[k].1 u zs[k].2 _ (hu.ext hx)) ?_; intro w8 x8; refine gset ?_
            have hx8 := hx.trans x8
            have hJ8 := hJ.grow x8
            have hK8 := hK.grow x8
            cases hg : (decide ((zs[k].1.length : Int) ≤ 300) && fewS zs[k].2) with
            | false =>
              repeat' (first | ((with_reducible refine o_s ?_); (first | (refine o_1 ?_; refine o_2 ?_) | (refine o_g ?_; first | refine o_u ?_ | refine o_k ?_ | refine o_n ?_ | refine o_v ?_ | ((first | refine o_G ?_ ?_ | refine o_N ?_ ?_) <;> intro hc)))) | ((fail_if_success (with_reducible refine o_s ?_)); go_step))
              refine wpl_callV (enters_of Tryz.func51 rfl rfl) rfl rfl (j_liveV _) ?_; intro w9 x9; refine gset ?_
              repeat' (first | ((with_reducible refine o_s ?_); (first | (refine o_1 ?_; refine o_2 ?_) | (refine o_g ?_; first | refine o_u ?_ | refine o_k ?_ | refine o_n ?_ | refine o_v ?_ | ((first | refine o_G ?_ ?_ | refine o_N ?_ ?_) <;> intro hc)))) | ((fail_if_success (with_reducible refine o_s ?_)); go_step))
              go_ret
              exact ⟨rfl, hx5.trans (hx8.trans x9)⟩
            | true =>
              obtain ⟨gl, gb, gd, _⟩ := fewz hg
              clear hxr hJ hK
              repeat' (first | ((with_reducible refine o_s ?_); (first | (refine o_1 ?_; refine o_2 ?_) | (refine o_g ?_; first | refine o_u ?_ | refine o_k ?_ | refine o_n ?_ | refine o_v ?_ | ((first | refine o_G ?_ ?_ | refine o_N ?_ ?_) <;> intro hc)))) | ((fail_if_success (with_reducible refine o_s ?_)); go_step))
              refine wph_region (S := fun w' => Ext w5 w') (by decide +kernel) ?_
              intro w9 x9 _
              have hx9 := hx8.trans x9
              refine tk 0 ?_; refine gset ?_; refine tk 1 ?_; refine gset ?_; refine tk 2 ?_; refine gset ?_; refine tk 3 ?_; refine gset ?_; refine tk 4 ?_; refine gset ?_; refine tk 6 ?_; refine gset ?_; refine tk 7 ?_; refine gset ?_; refine tk 8 ?_; refine gset ?_; refine tk 9 ?_; refine gset ?_; refine tk 10 ?_; refine gset ?_
              refine wph_one (i := 5) (by decide +kernel) rfl rfl ?_
              refine wpl_callG (enters_of Tryz.func54 rfl rfl) rfl rfl (p_UpdateX (hJ8.grow x9) hO zs[k].1 u zs[k].2 hu gb gd) ?_
              rintro e w10 ⟨rfl, hk10, hJ10⟩
              refine ⟨_, rfl, ?_⟩
              refine gset ?_
              have hx10 := hJ10.ext
              have hK10 := (hK8.grow x9).keep hk10 hx10 (by decide) (by decide) (by decide) (by decide) (by decide)
              refine wph_nil ⟨hx10, ?_⟩
              refine wph_one (i := 11) (by decide +kernel) rfl rfl ?_
              refine wpl_callG (enters_of Tryz.func55 rfl rfl) rfl rfl (r11_UpdateX hK10 hO zs[k].1 u zs[k].2 hu gb gd) ?_
              rintro e w11 ⟨rfl, hk11, hK11⟩
              refine ⟨_, rfl, ?_⟩
              refine gset ?_
              have hx11 := hK11.ext
              have hJ11 := hJ10.keep hk11 hx11 (by decide) (by decide) (by decide) (by decide) (by decide)
              have hO2 := hO.next zs[k].1 zs[k].2
              generalize nextL o l2 zs[k].1 zs[k].2 = l3 at *
              generalize nextD room o l2 ds zs[k].1 zs[k].2 = ds3 at *
              obtain ⟨bl, bb, bd, bn, bg⟩ := hO2.small
              clear hJ8 hK8 hk10 hk11 hJ10 hK10 hx8 hx9 hx10 hO
              refine wph_nil ⟨hx11, ?_⟩
              refine tk 12 ?_; refine gset ?_; refine tk 13 ?_; refine gset ?_; refine tk 14 ?_; refine gset ?_; refine tk 16 ?_; refine gset ?_
              refine wph_one (i := 15) (by decide +kernel) rfl rfl ?_
              refine wpl_callV (enters_of Tryz.func56 rfl rfl) rfl rfl (p_Serial hJ11 bb bd) ?_
              intro w12 x12
              refine gset ?_
              have hx12 := hx11.trans x12
              refine wph_nil ⟨hx12, ?_⟩
              refine wph_one (i := 17) (by decide +kernel) rfl rfl ?_
              refine wpl_callV (enters_of Tryz.func57 rfl rfl) rfl rfl (r11_Serial (hK11.grow x12) bb bd) ?_
              intro w13 x13
              refine gset ?_
              have x1113 := x12.trans x13
              have hx13 := hx11.trans x1113
              refine wph_nil ⟨hx13, ?_⟩
              have hJ13 := hJ11.grow x1113
              have hK13 := hK11.grow x1113
              clear x12 x13 hx12 x1113 hJ11 hK11 hx11
              refine tk 18 ?_; refine gset ?_; refine tk 19 ?_; refine gset ?_; refine tk 20 ?_; refine gset ?_; refine tk 21 ?_; refine gset ?_; refine tk 23 ?_; refine gset ?_; refine tk 24 ?_; refine gset ?_
              refine tk 25 (hy := fun _ _ => Runs.fieldJ (off := 3) rfl (by decide +kernel)) ?_; refine gset ?_
              obtain ⟨kv, dv, hcb, _, hcd⟩ := hK13.out
              obtain ⟨cds, sd, ld⟩ := hcd.len
              have hcp : Pts w13 (partPtr (.pointer (some ⟨c, 0, none⟩)) 3) [dv] := (k_pts hcb).1.part 3
              apply meet1 (F := fun w' => Ext w13 w')
              · intro hG
                refine wph_two (i := 22) (j := 26) (by decide +kernel) rfl rfl rfl ?_ ?_
                · refine wpl_callV (enters_of Tryz.func58 rfl rfl) rfl rfl (p_Len hJ13) ?_
                  intro w14 x14
                  refine gset ?_
                  refine wph_nil ⟨hx13.trans x14, ?_⟩
                  have hcp := hcp.ext x14
                  refine wph_one (i := 26) (by decide +kernel) rfl rfl ?_
                  ((with_reducible refine o_s ?_); (first | (refine o_1 ?_; refine o_2 ?_) | (refine o_g ?_; refine o_u ?_; (with_reducible refine o_s ?_); refine o_1 ?_; refine o_2 ?_)))
                  refine wph_nil ⟨hx13.trans x14, ?_⟩
                  refine tk 27 (hS := hx13.trans x14) (hy := fun _ _ => Runs.lenW sd (by decide +kernel)) ?_; refine gset ?_
                  exact hG _ x14
                · ((with_reducible refine o_s ?_); (first | (refine o_1 ?_; refine o_2 ?_) | (refine o_g ?_; refine o_u ?_; (with_reducible refine o_s ?_); refine o_1 ?_; refine o_2 ?_)))
                  refine wph_nil ⟨hx13, ?_⟩
                  refine tk 27 (hy := fun _ _ => Runs.lenW sd (by decide +kernel)) ?_; refine gset ?_
                  refine wph_one (i := 22) (by decide +kernel) rfl rfl ?_
                  refine wpl_callV (enters_of Tryz.func58 rfl rfl) rfl rfl (p_Len hJ13) ?_
                  intro w14 x14
                  refine gset ?_
                  refine wph_nil ⟨hx13.trans x14, ?_⟩
                  exact hG _ x14
              · intro w14 x14
                have hx14 := hx13.trans x14
                have hJ14 := hJ13.grow x14
                have hK14 := hK13.grow x14
                rw [ld]
                clear hcp hcd hcb sd ld x14 hJ13 hK13 hx13
                refine tk 28 ?_; refine gset ?_; refine tk 29 ?_; refine gset ?_
                refine wph_done (by decide +kernel) ?_
                repeat' (first | ((with_reducible refine o_s ?_); (first | (refine o_1 ?_; refine o_2 ?_) | (refine o_g ?_; first | refine o_u ?_ | refine o_k ?_ | refine o_n ?_ | refine o_v ?_ | ((first | refine o_G ?_ ?_ | refine o_N ?_ ?_) <;> intro hc)))) | ((fail_if_success (with_reducible refine o_s ?_)); go_step))
                refine wpl_callR (enters_of Tryz.func59 rfl rfl) rfl rfl (p_Since hJ14 bb bd bn (fun d hd => by have := bg d hd; omega) s) ?_
                rintro _ w15 x15 ⟨y1, rfl, hD1⟩
                refine gset ?_
                have hx15 := hx14.trans x15
                have hK15 := hK14.grow x15
                repeat' (first | ((with_reducible refine o_s ?_); (first | (refine o_1 ?_; refine o_2 ?_) | (refine o_g ?_; first | refine o_u ?_ | refine o_k ?_ | refine o_n ?_ | refine o_v ?_ | ((first | refine o_G ?_ ?_ | refine o_N ?_ ?_) <;> intro hc)))) | ((fail_if_success (with_reducible refine o_s ?_)); go_step))
                refine wpl_callR (enters_of Tryz.func60 rfl rfl) rfl rfl (r11_Since hK15 bb bd bn bg s) ?_
                rintro _ w16 x16 ⟨y2, rfl, hD2⟩
                refine gset ?_
                have hJ16 := (hJ14.grow x15).grow x16
                have hK16 := hK15.grow x16
                have hD1 := hD1.ext x16
                have hx16 := hx15.trans x16
                clear hJ14 hK14 hK15 hx14 hx15 x15 x16
                generalize sinceR o l3 ds3 s = R at *
                obtain ⟨Rl, Rb⟩ := R
                simp only at hD1 hD2
                repeat' (first | ((with_reducible refine o_s ?_); (first | (refine o_1 ?_; refine o_2 ?_) | (refine o_g ?_; first | refine o_u ?_ | refine o_k ?_ | refine o_n ?_ | refine o_v ?_ | ((first | refine o_G ?_ ?_ | refine o_N ?_ ?_) <;> intro hc)))) | ((fail_if_success (with_reducible refine o_s ?_)); go_step))
                obtain ⟨kv, dv, hcb, hcs, hcd⟩ := hK16.out
                have hcp : Pts w16 (partPtr (.pointer (some ⟨c, 0, none⟩)) 0) [str o, kv] := (k_pts hcb).2
                refine wph_region (S := fun w' => Ext w16 w') (by decide +kernel) ?_
                intro w17 x17 _
                refine tk 0 ?_; refine gset ?_; refine tk 1 ?_; refine gset ?_
                refine wph_one (i := 2) (by decide +kernel) rfl rfl ?_
                refine wpl_callV (enters_of Tryz.func61 rfl rfl) rfl rfl (l11_same (hD1.ext x17) (hD2.ext x17)) ?_
                intro w18 x18
                refine gset ?_
                have x18 := x17.trans x18
                refine wph_nil ⟨x18, ?_⟩
                refine tk 3 ?_; refine gset ?_; refine tk 4 ?_; refine gset ?_; refine tk 5 ?_; refine gset ?_; refine tk 6 ?_; refine gset ?_
                refine tk 7 (hy := fun _ _ => (Runs.neqB2 rfl rfl (by decide +kernel))) ?_; refine gset ?_
                rw [show (Rb != Rb) = false by simp]
                refine tk 8 ?_; refine gset ?_; refine tk 9 ?_; refine gset ?_; refine tk 10 ?_; refine gset ?_; refine tk 12 ?_; refine gset ?_; refine tk 13 ?_; refine gset ?_
                refine tk 14 (hy := fun _ _ => Runs.fieldJ (off := 0) rfl (by decide +kernel)) ?_; refine gset ?_
                refine tk 15 ?_; refine gset ?_
                refine wph_one (i := 11) (by decide +kernel) rfl rfl ?_
                refine wpl_callR (enters_of Tryz.func62 rfl rfl) rfl rfl (p_Zone (hJ16.grow x18) bl bb) ?_
                rintro _ w19 x19 ⟨y, rfl, hy⟩
                refine gset ?_
                have x19 := x18.trans x19
                refine wph_nil ⟨x19, ?_⟩
                refine wph_one (i := 16) (by decide +kernel) rfl rfl ?_
                refine wpl_callV (enters_of Tryz.func31 rfl rfl) rfl rfl (same_true hy.sets (hcs.sets.ext x19) rfl rfl) ?_
                intro w20 x20
                refine gset ?_
                have x20 := x19.trans x20
                refine wph_nil ⟨x20, ?_⟩
                refine tk 17 ?_; refine gset ?_; refine tk 18 ?_; refine gset ?_
                refine wph_done (by decide +kernel) ?_
                repeat' (first | ((with_reducible refine o_s ?_); (first | (refine o_1 ?_; refine o_2 ?_) | (refine o_g ?_; first | refine o_u ?_ | refine o_k ?_ | refine o_n ?_ | refine o_v ?_ | ((first | refine o_G ?_ ?_ | refine o_N ?_ ?_) <;> intro hc)))) | ((fail_if_success (with_reducible refine o_s ?_)); go_step))
                exact ⟨⟨k + 1, l3, ds3, by omega, by go_num, hJ16.grow x20, hK16.grow x20, hO2⟩, by simp [intOf]; omega⟩
          · have hke : k = cs5.length := by omega
            repeat' (first | ((with_reducible refine o_s ?_); (first | (refine o_1 ?_; refine o_2 ?_) | (refine o_g ?_; first | refine o_u ?_ | refine o_k ?_ | refine o_n ?_ | refine o_v ?_ | ((first | refine o_G ?_ ?_ | refine o_N ?_ ?_) <;> intro hc)))) | ((fail_if_success (with_reducible refine o_s ?_)); go_step))
            refine wpl_callV (enters_of Tryz.func51 rfl rfl) rfl rfl (j_liveV _) ?_; intro w8 x8; refine gset ?_
            repeat' (first | ((with_reducible refine o_s ?_); (first | (refine o_1 ?_; refine o_2 ?_) | (refine o_g ?_; first | refine o_u ?_ | refine o_k ?_ | refine o_n ?_ | refine o_v ?_ | ((first | refine o_G ?_ ?_ | refine o_N ?_ ?_) <;> intro hc)))) | ((fail_if_success (with_reducible refine o_s ?_)); go_step))
            go_ret
            exact ⟨rfl, hx5.trans (hx.trans x8)⟩
open Go.ChangeShapes Go.WideShapes Go.ChangeAt Go.RowKit
theorem own : ownKnob Tryz.prog.godebug = none := by kernel_rfl
theorem laidOut : laidOutB Tryz.prog = true := by kernel_rfl
open Go.ChangeShapes Go.WideShapes Go.ChangeAt Go.RowKit
theorem open_texts {H : Type} {enc : TypeId × Value → H} {w : World} {base : Nat} {spare : Nat → Bool} {held : Bool} {fuel : Nat} {v : Value} {x : DataW H × List MemPlace} (h : DataW.trod enc Tryz.prog w base spare held fuel 53 [v] = some x) : ∃ l : List (List UInt8), Sl 1 w v (tcells l) := by
  obtain ⟨es, hs, he⟩ := open_rows Tryz.underlying53 (show Tryz.prog.cellsOf 9 = 1 by kernel_rfl) (by omega) h
  obtain ⟨l, rfl⟩ : ∃ l : List (List UInt8), es = l.map fun s => [str s] := by
    refine all_map fun c hc => ?_
    obtain ⟨n, y, hy⟩ := he c hc
    have hl : c.length = 1 := by
      obtain ⟨_, _, _, _, _, h4, _, _⟩ := hs
      exact h4 c hc
    match c, hl with
    | [a], _ =>
      obtain ⟨s, rfl, _⟩ := trod_str Tryz.underlying9 hy
      exact ⟨s, rfl⟩
  exact ⟨l, hs⟩
theorem open_sets {H : Type} {enc : TypeId × Value → H} {w : World} {base : Nat} {spare : Nat → Bool} {held : Bool} {fuel : Nat} {v : Value} {x : DataW H × List MemPlace} (h : DataW.trod enc Tryz.prog w base spare held fuel 23 [v] = some x) : ∃ l : List RSet, SetsAt w v l := by
  obtain ⟨es, hs, he⟩ := open_rows Tryz.underlying23 (show Tryz.prog.cellsOf 55 = 4 by kernel_rfl) (by omega) h
  obtain ⟨l, rfl⟩ : ∃ l : List {p : RSet × Value // Sl 1 w p.2 (tcells p.1.data)}, es = l.map fun p => [str p.1.1.name, .int .i64 p.1.1.kind, .int .i64 p.1.1.ttl, p.1.2] := by
    refine all_map fun c hc => ?_
    obtain ⟨n, y, hy⟩ := he c hc
    obtain ⟨xs, n', _, _, hl, hxl, hf⟩ := DataW.trod_struct Tryz.underlying55 hy
    have c30 : Tryz.prog.cellsOf 22 = 1 := by kernel_rfl
    have c3 : Tryz.prog.cellsOf 3 = 1 := by kernel_rfl
    have c35 : Tryz.prog.cellsOf 53 = 1 := by kernel_rfl
    have c37 : Tryz.prog.cellsOf 55 = 4 := by kernel_rfl
    rw [c37] at hl
    match c, hl, xs, hxl with
    | [a, b, d, e], _, [y0, y1, y2, y3], _ =>
      have g0 := hf 0 _ rfl
      have g1 := hf 1 _ rfl
      have g2 := hf 2 _ rfl
      have g3 := hf 3 _ rfl
      simp [c30, c3, c35] at g0 g1 g2 g3
      obtain ⟨s0, rfl, _⟩ := trod_str Tryz.underlying22 g0
      obtain ⟨n1, rfl, _⟩ := trod_num Tryz.underlying3 g1
      obtain ⟨n2, rfl, _⟩ := trod_num Tryz.underlying3 g2
      obtain ⟨ts, hts⟩ := open_texts g3
      exact ⟨⟨(⟨s0, n1, n2, ts⟩, e), hts⟩, rfl⟩
  refine ⟨l.map fun p => p.1.1, _, hs, by simp, ?_⟩
  intro i s hi
  rw [List.getElem?_map] at hi
  obtain ⟨p, hp, rfl⟩ := Option.map_eq_some_iff.1 hi
  exact ⟨p.1.2, by rw [List.getElem?_map, hp]; rfl, p.2⟩
open Go.ChangeShapes Go.WideShapes Go.ChangeAt Go.RowKit
theorem open_zone {H : Type} {enc : TypeId × Value → H} {w : World} {base : Nat} {spare : Nat → Bool} {held : Bool} {fuel : Nat} {c : Array Value} {x : DataW H × List MemPlace} (h : DataW.trod enc Tryz.prog w base spare held fuel 25 (Value.agg c).cells.toList = some x) : ∃ (o : List UInt8) (l : List RSet) (u : Value), c = #[str o, u] ∧ SetsAt w u l := by
  have e : (Value.agg c).cells.toList = c.toList := rfl
  rw [e] at h
  obtain ⟨xs, n', _, _, hl, hxl, hf⟩ := DataW.trod_struct Tryz.underlying25 h
  have c30 : Tryz.prog.cellsOf 22 = 1 := by kernel_rfl
  have c25 : Tryz.prog.cellsOf 23 = 1 := by kernel_rfl
  have c43 : Tryz.prog.cellsOf 25 = 2 := by kernel_rfl
  rw [c43] at hl
  obtain ⟨cl⟩ := c
  match cl, hl, xs, hxl with
  | [a, b], _, [y0, y1], _ =>
    have g0 := hf 0 _ rfl
    have g1 := hf 1 _ rfl
    simp [c30, c25] at g0 g1
    obtain ⟨s0, rfl, _⟩ := trod_str Tryz.underlying22 g0
    obtain ⟨l, hls⟩ := open_sets g1
    exact ⟨s0, l, b, rfl, hls⟩
open Go.ChangeShapes Go.WideShapes Go.ChangeAt Go.RowKit
theorem open_zones {H : Type} {enc : TypeId × Value → H} {w : World} {base : Nat} {spare : Nat → Bool} {held : Bool} {fuel : Nat} {v : Value} {x : DataW H × List MemPlace} (h : DataW.trod enc Tryz.prog w base spare held fuel 80 [v] = some x) : ∃ zs : List (List UInt8 × List RSet), ZonesAt w v zs := by
  obtain ⟨es, hs, he⟩ := open_rows Tryz.underlying80 (show Tryz.prog.cellsOf 25 = 2 by kernel_rfl) (by omega) h
  obtain ⟨l, rfl⟩ : ∃ l : List {p : (List UInt8 × List RSet) × Value // SetsAt w p.2 p.1.2}, es = l.map fun p => [str p.1.1.1, p.1.2] := by
    refine all_map fun c hc => ?_
    obtain ⟨n, y, hy⟩ := he c hc
    have hl : c.length = 2 := by
      obtain ⟨_, _, _, _, _, h4, _, _⟩ := hs
      exact h4 c hc
    obtain ⟨o, ls, u, e, hu⟩ := open_zone (c := c.toArray) (show DataW.trod enc Tryz.prog w base spare held n 25 (Value.agg c.toArray).cells.toList = some y by simpa [Value.cells] using hy)
    exact ⟨⟨((o, ls), u), hu⟩, by simpa using congrArg Array.toList e⟩
  refine ⟨l.map fun p => p.1.1, _, hs, by simp, ?_⟩
  intro i s hi
  rw [List.getElem?_map] at hi
  obtain ⟨p, hp, rfl⟩ := Option.map_eq_some_iff.1 hi
  exact ⟨p.1.2, by rw [List.getElem?_map, hp]; rfl, p.2⟩
theorem open_life {H : Type} {enc : TypeId × Value → H} {w : World} {base : Nat} {spare : Nat → Bool} {held : Bool} {fuel : Nat} {c : Array Value} {x : DataW H × List MemPlace} (h : DataW.trod enc Tryz.prog w base spare held fuel 82 (Value.agg c).cells.toList = some x) :
    ∃ (o : List UInt8) (v : Value) (l : List RSet) (room : Int) (lv : Value) (zs : List (List UInt8 × List RSet)) (s : Int), c = (lifeC o v room lv s).toArray ∧ SetsAt w v l ∧ ZonesAt w lv zs := by
  have e : (Value.agg c).cells.toList = c.toList := rfl
  rw [e] at h
  obtain ⟨xs, n', _, _, hl, hxl, hf⟩ := DataW.trod_struct Tryz.underlying82 h
  have c25 : Tryz.prog.cellsOf 25 = 2 := by kernel_rfl
  have c3 : Tryz.prog.cellsOf 3 = 1 := by kernel_rfl
  have c80 : Tryz.prog.cellsOf 80 = 1 := by kernel_rfl
  have c82 : Tryz.prog.cellsOf 82 = 5 := by kernel_rfl
  rw [c82] at hl
  obtain ⟨cl⟩ := c
  match cl, hl, xs, hxl with
  | [a, b, d, f, g], _, [y0, y1, y2, y3], _ =>
    have g0 := hf 0 _ rfl
    have g1 := hf 1 _ rfl
    have g2 := hf 2 _ rfl
    have g3 := hf 3 _ rfl
    simp [c25, c3, c80] at g0 g1 g2 g3
    obtain ⟨o, ls, u, e0, hu⟩ := open_zone (c := #[a, b]) g0
    obtain ⟨rfl, rfl⟩ : a = str o ∧ b = u := by simpa using e0
    obtain ⟨n1, rfl, _⟩ := trod_num Tryz.underlying3 g1
    obtain ⟨zs, hz⟩ := open_zones g2
    obtain ⟨n3, rfl, _⟩ := trod_num Tryz.underlying3 g3
    exact ⟨o, b, ls, n1, f, zs, n3, rfl, hu, hz⟩
theorem nextD_len {o o' : List UInt8} {l l' : List RSet} {room : Int} {ds : List DeltaR} (h : JOk o l room ds) {m : Nat} (hm : (ds.length : Int) = min (m : Int) room) :
    ((nextD room o l ds o' l').length : Int) = min ((if updE o l o' l' = 0 then m + 1 else m : Nat) : Int) room := by
  unfold nextD
  split
  · rw [trim_len _ _ h.fits.1, List.length_append]
    simp only [List.length_cons, List.length_nil]
    omega
  · exact hm
set_option maxHeartbeats 8000000 in
theorem j17 (o : List UInt8) (v : Value) (l : List RSet) (room : Int) (lv : Value) (zs : List (List UInt8 × List RSet)) (w : World) (hv : SetsAt w v l) (hz : ZonesAt w lv zs) :
    Calls Tryz.prog 17 #[.agg #[str o, v], .int .i64 room, lv] w (Yes w) := by
  go_enter Tryz.func17, Tryz.ntmps17
  repeat' ((fail_if_success (with_reducible refine o_s ?_)); go_step)
  refine wpl_box (vs := [str o, v]) rfl rfl ?_
  intro p w1 x1 hp
  refine gset ?_
  have hv1 := hv.ext x1
  repeat' (first | ((with_reducible refine o_s ?_); (first | (refine o_1 ?_; refine o_2 ?_) | (refine o_g ?_; first | refine o_u ?_ | refine o_k ?_ | refine o_n ?_ | refine o_v ?_ | ((first | refine o_G ?_ ?_ | refine o_N ?_ ?_) <;> intro hc)))) | ((fail_if_success (with_reducible refine o_s ?_)); go_step))
  refine wpl_callV (enters_of Tryz.func25 rfl rfl) rfl rfl (r8_Few o v l _ hv1) ?_; intro w5 x5; refine gset ?_
  have hx5 := x1.trans x5
  have hp5 := hp.ext x5
  have hv5 := hv1.ext x5
  have hz5 := hz.ext hx5
  obtain ⟨cs5, sl5, cl5, at5⟩ := hz5.out
  cases hf : (decide ((o.length : Int) ≤ 300) && fewS l) with
  | false =>
    repeat' (first | ((with_reducible refine o_s ?_); (first | (refine o_1 ?_; refine o_2 ?_) | (refine o_g ?_; first | refine o_u ?_ | refine o_k ?_ | refine o_n ?_ | refine o_v ?_ | ((first | refine o_G ?_ ?_ | refine o_N ?_ ?_) <;> intro hc)))) | ((fail_if_success (with_reducible refine o_s ?_)); go_step))
    refine wpl_callV (enters_of Tryz.func51 rfl rfl) rfl rfl (j_liveV _) ?_; intro w6 x6; refine gset ?_
    repeat' (first | ((with_reducible refine o_s ?_); (first | (refine o_1 ?_; refine o_2 ?_) | (refine o_g ?_; first | refine o_u ?_ | refine o_k ?_ | refine o_n ?_ | refine o_v ?_ | ((first | refine o_G ?_ ?_ | refine o_N ?_ ?_) <;> intro hc)))) | ((fail_if_success (with_reducible refine o_s ?_)); go_step))
    go_ret
    exact ⟨rfl, hx5.trans x6⟩
  | true =>
    obtain ⟨fl, fb, fd, _⟩ := fewz hf
    repeat' (first | ((with_reducible refine o_s ?_); (first | (refine o_1 ?_; refine o_2 ?_) | (refine o_g ?_; first | refine o_u ?_ | refine o_k ?_ | refine o_n ?_ | refine o_v ?_ | ((first | refine o_G ?_ ?_ | refine o_N ?_ ?_) <;> intro hc)))) | ((fail_if_success (with_reducible refine o_s ?_)); go_step))
    · refine wpl_callV (enters_of Tryz.func51 rfl rfl) rfl rfl (j_liveV _) ?_; intro w6 x6; refine gset ?_
      repeat' (first | ((with_reducible refine o_s ?_); (first | (refine o_1 ?_; refine o_2 ?_) | (refine o_g ?_; first | refine o_u ?_ | refine o_k ?_ | refine o_n ?_ | refine o_v ?_ | ((first | refine o_G ?_ ?_ | refine o_N ?_ ?_) <;> intro hc)))) | ((fail_if_success (with_reducible refine o_s ?_)); go_step))
      go_ret
      exact ⟨rfl, hx5.trans x6⟩
    · have hlen := ‹(cs5.length : Int) ≤ 12›
      refine wpl_callG (enters_of Tryz.func52 rfl rfl) rfl rfl (p_New o v l room _ hv5 (by omega) fb) ?_
      rintro e w6 (⟨hne, rfl, x6⟩ | ⟨h0, b, rfl, hJ6⟩)
      · refine ⟨_, rfl, ?_⟩
        refine gset ?_
        have hx6 := hx5.trans x6
        repeat' (first | ((with_reducible refine o_s ?_); (first | (refine o_1 ?_; refine o_2 ?_) | (refine o_g ?_; first | refine o_u ?_ | refine o_k ?_ | refine o_n ?_ | refine o_v ?_ | ((first | refine o_G ?_ ?_ | refine o_N ?_ ?_) <;> intro hc)))) | ((fail_if_success (with_reducible refine o_s ?_)); go_step))
        · (refine wpl_run0 (v := .bool true) (Runs.isNil (p := none) rfl rfl (by kernel_rfl)) ?_; refine gset ?_)
          repeat' (first | ((with_reducible refine o_s ?_); (first | (refine o_1 ?_; refine o_2 ?_) | (refine o_g ?_; first | refine o_u ?_ | refine o_k ?_ | refine o_n ?_ | refine o_v ?_ | ((first | refine o_G ?_ ?_ | refine o_N ?_ ?_) <;> intro hc)))) | ((fail_if_success (with_reducible refine o_s ?_)); go_step))
          refine wpl_callV (enters_of Tryz.func51 rfl rfl) rfl rfl (j_liveV _) ?_; intro w8 x8; refine gset ?_
          repeat' (first | ((with_reducible refine o_s ?_); (first | (refine o_1 ?_; refine o_2 ?_) | (refine o_g ?_; first | refine o_u ?_ | refine o_k ?_ | refine o_n ?_ | refine o_v ?_ | ((first | refine o_G ?_ ?_ | refine o_N ?_ ?_) <;> intro hc)))) | ((fail_if_success (with_reducible refine o_s ?_)); go_step))
          go_ret
          exact ⟨rfl, hx6.trans x8⟩
        · exact absurd (by simpa using ‹(!decide (newE o l room = 0)) = false›) hne
      · refine ⟨_, rfl, ?_⟩
        refine gset ?_
        have x6 := hJ6.ext
        have hO := newE_ok h0
        repeat' (first | ((with_reducible refine o_s ?_); (first | (refine o_1 ?_; refine o_2 ?_) | (refine o_g ?_; first | refine o_u ?_ | refine o_k ?_ | refine o_n ?_ | refine o_v ?_ | ((first | refine o_G ?_ ?_ | refine o_N ?_ ?_) <;> intro hc)))) | ((fail_if_success (with_reducible refine o_s ?_)); go_step))
        (refine wpl_run0 (v := .bool false) (Runs.isNil (p := some ⟨_, _, _⟩) rfl rfl (by kernel_rfl)) ?_; refine gset ?_)
        repeat' (first | ((with_reducible refine o_s ?_); (first | (refine o_1 ?_; refine o_2 ?_) | (refine o_g ?_; first | refine o_u ?_ | refine o_k ?_ | refine o_n ?_ | refine o_v ?_ | ((first | refine o_G ?_ ?_ | refine o_N ?_ ?_) <;> intro hc)))) | ((fail_if_success (with_reducible refine o_s ?_)); go_step))
        go_loopw [9, 10, 11, 12] (fun n i _ _ wr => ∃ (k m : Nat) (l : List RSet) (ds : List DeltaR), k ≤ zs.length ∧ m ≤ k ∧ n = .int .i64 m ∧ i = .int .i64 k ∧ JAt w5 wr b o l room ds ∧ JOk o l room ds ∧ (ds.length : Int) = min (m : Int) room) (fun _ i _ _ _ => zs.length - (intOf i).toNat)
        case atStart =>
          have := hO.fits
          exact ⟨0, 0, l, [], Nat.zero_le _, Nat.zero_le _, rfl, rfl, hJ6, hO, by simp; omega⟩
        case round =>
          clear hJ6 hO
          obtain ⟨k, m, l2, ds, hk, hmk, rfl, rfl, hJ, hO, hn⟩ := hrel
          have hx := hJ.ext
          by_cases hlt : k < zs.length
          · obtain ⟨u, hc, hu⟩ := at5 k _ (List.getElem?_eq_getElem hlt)
            have hpe := sl5.elem hc
            have hkc : k < cs5.length := by omega
            repeat' (first | ((with_reducible refine o_s ?_); (first | (refine o_1 ?_; refine o_2 ?_) | (refine o_g ?_; first | refine o_u ?_ | refine o_k ?_ | refine o_n ?_ | refine o_v ?_ | ((first | refine o_G ?_ ?_ | refine o_N ?_ ?_) <;> intro hc)))) | ((fail_if_success (with_reducible refine o_s ?_)); go_step))
            refine wpl_callV (enters_of Tryz.func25 rfl rfl) rfl rfl (r8_Few zs[k].1 u zs[k].2 _ (hu.ext hx)) ?_; intro w8 x8; refine gset ?_
            have hx8 := hx.trans x8
            have hJ8 := hJ.grow x8
            cases hg : (decide ((zs[k].1.length : Int) ≤ 300) && fewS zs[k].2) with
            | false =>
              repeat' (first | ((with_reducible refine o_s ?_); (first | (refine o_1 ?_; refine o_2 ?_) | (refine o_g ?_; first | refine o_u ?_ | refine o_k ?_ | refine o_n ?_ | refine o_v ?_ | ((first | refine o_G ?_ ?_ | refine o_N ?_ ?_) <;> intro hc)))) | ((fail_if_success (with_reducible refine o_s ?_)); go_step))
              refine wpl_callV (enters_of Tryz.func51 rfl rfl) rfl rfl (j_liveV _) ?_; intro w9 x9; refine gset ?_
              repeat' (first | ((with_reducible refine o_s ?_); (first | (refine o_1 ?_; refine o_2 ?_) | (refine o_g ?_; first | refine o_u ?_ | refine o_k ?_ | refine o_n ?_ | refine o_v ?_ | ((first | refine o_G ?_ ?_ | refine o_N ?_ ?_) <;> intro hc)))) | ((fail_if_success (with_reducible refine o_s ?_)); go_step))
              go_ret
              exact ⟨rfl, hx5.trans (hx8.trans x9)⟩
            | true =>
              obtain ⟨gl, gb, gd, _⟩ := fewz hg
              clear hJ hx
              repeat' (first | ((with_reducible refine o_s ?_); (first | (refine o_1 ?_; refine o_2 ?_) | (refine o_g ?_; first | refine o_u ?_ | refine o_k ?_ | refine o_n ?_ | refine o_v ?_ | ((first | refine o_G ?_ ?_ | refine o_N ?_ ?_) <;> intro hc)))) | ((fail_if_success (with_reducible refine o_s ?_)); go_step))
              refine wpl_callG (enters_of Tryz.func54 rfl rfl) rfl rfl (p_UpdateX hJ8 hO zs[k].1 u zs[k].2 hu gb gd) ?_
              rintro e w10 ⟨rfl, hk10, hJ10⟩
              refine ⟨_, rfl, ?_⟩
              refine gset ?_
              have hx10 := hJ10.ext
              have hO2 := hO.next zs[k].1 zs[k].2
              have hn2 := nextD_len (o' := zs[k].1) (l' := zs[k].2) hO hn
              generalize nextL o l2 zs[k].1 zs[k].2 = l3 at *
              generalize nextD room o l2 ds zs[k].1 zs[k].2 = ds3 at *
              generalize updE o l2 zs[k].1 zs[k].2 = U at *
              obtain ⟨bl, bb, bd, bn, bg⟩ := hO2.small
              clear hJ8 hO hn hk10 hx8
              ((with_reducible refine o_s ?_); (first | (refine o_1 ?_; refine o_2 ?_) | (refine o_g ?_; refine o_u ?_; (with_reducible refine o_s ?_); refine o_1 ?_; refine o_2 ?_)))
              by_cases q : U = 0
              · rw [if_pos q] at hn2
                rw [decide_eq_true q]
                repeat' (first | ((with_reducible refine o_s ?_); (first | (refine o_1 ?_; refine o_2 ?_) | (refine o_g ?_; first | refine o_u ?_ | refine o_k ?_ | refine o_n ?_ | refine o_v ?_ | ((first | refine o_G ?_ ?_ | refine o_N ?_ ?_) <;> intro hc)))) | ((fail_if_success (with_reducible refine o_s ?_)); go_step))
                refine wpl_callV (enters_of Tryz.func56 rfl rfl) rfl rfl (p_Serial hJ10 bb bd) ?_; intro w11 x11; refine gset ?_
                have hJ11 := hJ10.grow x11
                have hx11 := hx10.trans x11
                repeat' (first | ((with_reducible refine o_s ?_); (first | (refine o_1 ?_; refine o_2 ?_) | (refine o_g ?_; first | refine o_u ?_ | refine o_k ?_ | refine o_n ?_ | refine o_v ?_ | ((first | refine o_G ?_ ?_ | refine o_N ?_ ?_) <;> intro hc)))) | ((fail_if_success (with_reducible refine o_s ?_)); go_step))
                refine wpl_callR (enters_of Tryz.func59 rfl rfl) rfl rfl (p_Since hJ11 bb bd bn (fun d hd => by have := bg d hd; omega) _) ?_
                rintro _ w12 x12 ⟨y, rfl, hD⟩
                refine gset ?_
                have hR : sinceR o l3 ds3 (soaZ o l3).serial = ([], true) := by rw [sinceR, if_pos rfl]
                rw [hR] at hD ⊢
                obtain ⟨css, sD, lD⟩ := hD.len
                have hcn : css = [] := List.eq_nil_of_length_eq_zero lD
                subst hcn
                have hJ12 := hJ11.grow x12
                have hx12 := hx11.trans x12
                repeat' (first | ((with_reducible refine o_s ?_); (first | (refine o_1 ?_; refine o_2 ?_) | (refine o_g ?_; first | refine o_u ?_ | refine o_k ?_ | refine o_n ?_ | refine o_v ?_ | ((first | refine o_G ?_ ?_ | refine o_N ?_ ?_) <;> intro hc)))) | ((fail_if_success (with_reducible refine o_s ?_)); go_step))
                refine wpl_callV (enters_of Tryz.func58 rfl rfl) rfl rfl (p_Len hJ12) ?_; intro w13 x13; refine gset ?_
                have hx13 := hx12.trans x13
                have sD := sD.ext x13
                iterate 4 ((with_reducible refine o_s ?_); (first | (refine o_1 ?_; refine o_2 ?_) | (refine o_g ?_; refine o_u ?_; (with_reducible refine o_s ?_); refine o_1 ?_; refine o_2 ?_)))
                rw [show decide ((ds3.length : Int) = min ((m + 1 : Nat) : Int) room) = true from decide_eq_true hn2]
                simp only [Bool.not_true]
                iterate 5 ((with_reducible refine o_s ?_); (first | (refine o_1 ?_; refine o_2 ?_) | (refine o_g ?_; refine o_u ?_; (with_reducible refine o_s ?_); refine o_1 ?_; refine o_2 ?_)))
                rw [show decide ((([] : List (List Value)).length : Int) = 0) = true from rfl]
                simp only [Bool.not_true]
                repeat' (first | ((with_reducible refine o_s ?_); (first | (refine o_1 ?_; refine o_2 ?_) | (refine o_g ?_; first | refine o_u ?_ | refine o_k ?_ | refine o_n ?_ | refine o_v ?_ | ((first | refine o_G ?_ ?_ | refine o_N ?_ ?_) <;> intro hc)))) | ((fail_if_success (with_reducible refine o_s ?_)); go_step))
                exact ⟨⟨k + 1, m + 1, l3, ds3, by omega, by omega, by go_num, by go_num, hJ12.grow x13, hO2, hn2⟩, by simp [intOf]; omega⟩
              · rw [if_neg q] at hn2
                rw [decide_eq_false q]
                repeat' (first | ((with_reducible refine o_s ?_); (first | (refine o_1 ?_; refine o_2 ?_) | (refine o_g ?_; first | refine o_u ?_ | refine o_k ?_ | refine o_n ?_ | refine o_v ?_ | ((first | refine o_G ?_ ?_ | refine o_N ?_ ?_) <;> intro hc)))) | ((fail_if_success (with_reducible refine o_s ?_)); go_step))
                refine wpl_callV (enters_of Tryz.func56 rfl rfl) rfl rfl (p_Serial hJ10 bb bd) ?_; intro w11 x11; refine gset ?_
                have hJ11 := hJ10.grow x11
                have hx11 := hx10.trans x11
                repeat' (first | ((with_reducible refine o_s ?_); (first | (refine o_1 ?_; refine o_2 ?_) | (refine o_g ?_; first | refine o_u ?_ | refine o_k ?_ | refine o_n ?_ | refine o_v ?_ | ((first | refine o_G ?_ ?_ | refine o_N ?_ ?_) <;> intro hc)))) | ((fail_if_success (with_reducible refine o_s ?_)); go_step))
                refine wpl_callR (enters_of Tryz.func59 rfl rfl) rfl rfl (p_Since hJ11 bb bd bn (fun d hd => by have := bg d hd; omega) _) ?_
                rintro _ w12 x12 ⟨y, rfl, hD⟩
                refine gset ?_
                have hR : sinceR o l3 ds3 (soaZ o l3).serial = ([], true) := by rw [sinceR, if_pos rfl]
                rw [hR] at hD ⊢
                obtain ⟨css, sD, lD⟩ := hD.len
                have hcn : css = [] := List.eq_nil_of_length_eq_zero lD
                subst hcn
                have hJ12 := hJ11.grow x12
                have hx12 := hx11.trans x12
                repeat' (first | ((with_reducible refine o_s ?_); (first | (refine o_1 ?_; refine o_2 ?_) | (refine o_g ?_; first | refine o_u ?_ | refine o_k ?_ | refine o_n ?_ | refine o_v ?_ | ((first | refine o_G ?_ ?_ | refine o_N ?_ ?_) <;> intro hc)))) | ((fail_if_success (with_reducible refine o_s ?_)); go_step))
                refine wpl_callV (enters_of Tryz.func58 rfl rfl) rfl rfl (p_Len hJ12) ?_; intro w13 x13; refine gset ?_
                have hx13 := hx12.trans x13
                have sD := sD.ext x13
                iterate 4 ((with_reducible refine o_s ?_); (first | (refine o_1 ?_; refine o_2 ?_) | (refine o_g ?_; refine o_u ?_; (with_reducible refine o_s ?_); refine o_1 ?_; refine o_2 ?_)))
                rw [show decide ((ds3.length : Int) = min (m : Int) room) = true from decide_eq_true hn2]
                simp only [Bool.not_true]
                iterate 5 ((with_reducible refine o_s ?_); (first | (refine o_1 ?_; refine o_2 ?_) | (refine o_g ?_; refine o_u ?_; (with_reducible refine o_s ?_); refine o_1 ?_; refine o_2 ?_)))
                rw [show decide ((([] : List (List Value)).length : Int) = 0) = true from rfl]
                simp only [Bool.not_true]
                repeat' (first | ((with_reducible refine o_s ?_); (first | (refine o_1 ?_; refine o_2 ?_) | (refine o_g ?_; first | refine o_u ?_ | refine o_k ?_ | refine o_n ?_ | refine o_v ?_ | ((first | refine o_G ?_ ?_ | refine o_N ?_ ?_) <;> intro hc)))) | ((fail_if_success (with_reducible refine o_s ?_)); go_step))
                exact ⟨⟨k + 1, m, l3, ds3, by omega, by omega, by go_num, by go_num, hJ12.grow x13, hO2, hn2⟩, by simp [intOf]; omega⟩
          · have hke : k = cs5.length := by omega
            repeat' (first | ((with_reducible refine o_s ?_); (first | (refine o_1 ?_; refine o_2 ?_) | (refine o_g ?_; first | refine o_u ?_ | refine o_k ?_ | refine o_n ?_ | refine o_v ?_ | ((first | refine o_G ?_ ?_ | refine o_N ?_ ?_) <;> intro hc)))) | ((fail_if_success (with_reducible refine o_s ?_)); go_step))
            refine wpl_callV (enters_of Tryz.func51 rfl rfl) rfl rfl (j_liveV _) ?_; intro w8 x8; refine gset ?_
            repeat' (first | ((with_reducible refine o_s ?_); (first | (refine o_1 ?_; refine o_2 ?_) | (refine o_g ?_; first | refine o_u ?_ | refine o_k ?_ | refine o_n ?_ | refine o_v ?_ | ((first | refine o_G ?_ ?_ | refine o_N ?_ ?_) <;> intro hc)))) | ((fail_if_success (with_reducible refine o_s ?_)); go_step))
            go_ret
            exact ⟨rfl, hx5.trans (hx.trans x8)⟩
end Go.Proofs.X
