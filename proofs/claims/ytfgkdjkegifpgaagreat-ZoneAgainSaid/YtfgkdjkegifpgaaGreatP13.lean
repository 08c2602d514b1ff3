/- Laws and walks that the proof of the statement is made of (part 13). -/
import Derived.Test.YtfgkdjkegifpgaaGreatProg
import Derived.Test.YtfgkdjkegifpgaaGreatRows
import Derived.WalkKit
import Derived.ProofKit
import Derived.OpenShut
import Derived.ShutString
import Derived.ChangeOld
import Derived.Below
import Derived.Test.YtfgkdjkegifpgaaGreatP2
import Derived.Test.YtfgkdjkegifpgaaGreatP8
import Derived.Test.YtfgkdjkegifpgaaGreatP9
import Derived.Test.YtfgkdjkegifpgaaGreatP10
import Derived.Test.YtfgkdjkegifpgaaGreatP12
set_option linter.unusedSimpArgs false
set_option linter.unusedVariables false
namespace Go.Proofs.X
open Go.RowKit
set_option maxRecDepth 100000
set_option maxHeartbeats 4000000 in
/-- lodestarlaw08.live -/
theorem z_live (w : World) : Calls Tryz.prog 26 #[] w (Yes w) := by
  go_enter Tryz.func26, Tryz.ntmps26
  repeat' (first | ((with_reducible refine o_s ?_); (first | (refine o_1 ?_; refine o_2 ?_) | (refine o_g ?_; first | refine o_u ?_ | refine o_k ?_ | refine o_n ?_ | refine o_v ?_ | ((first | refine o_G ?_ ?_ | refine o_N ?_ ?_) <;> intro hc)))) | ((fail_if_success (with_reducible refine o_s ?_)); go_step))
  refine wpl_callR (enters_of Tryz.func61 rfl rfl) rfl rfl (p_Simple _) ?_
  intro v1 w1 x1 hv1
  refine gset ?_
  repeat' (first | ((with_reducible refine o_s ?_); (first | (refine o_1 ?_; refine o_2 ?_) | (refine o_g ?_; first | refine o_u ?_ | refine o_k ?_ | refine o_n ?_ | refine o_v ?_ | ((first | refine o_G ?_ ?_ | refine o_N ?_ ?_) <;> intro hc)))) | ((fail_if_success (with_reducible refine o_s ?_)); go_step))
  refine wpl_callR (enters_of Tryz.func27 rfl rfl) rfl rfl (p_Load [1, 65] v1 simR _ hv1 (by decide) sim_r) ?_
  intro r2 w2 x2 hr2
  obtain ⟨z, rfl, hz⟩ := hr2
  rw [sim_E, sim_O]
  rw [sim_L] at hz
  have hz := hz.sets
  have hz1 : z.oneCell' = true := by obtain ⟨css, h, _⟩ := hz; exact h.one
  have hx2 := x1.trans x2
  refine gset ?_
  repeat' (first | ((with_reducible refine o_s ?_); (first | (refine o_1 ?_; refine o_2 ?_) | (refine o_g ?_; first | refine o_u ?_ | refine o_k ?_ | refine o_n ?_ | refine o_v ?_ | ((first | refine o_G ?_ ?_ | refine o_N ?_ ?_) <;> intro hc)))) | ((fail_if_success (with_reducible refine o_s ?_)); go_step))
  refine wpl_allocB (z := zzone) rfl (by decide +kernel) ?_
  intro w3 x3 s3 h3
  refine gset ?_
  refine wpl_storeB (v := .agg #[str [1, 97], z]) rfl rfl rfl h3 (show sizeTy Tryz.prog 43 2 = true by decide +kernel) rfl (zone_one hz1) ?_
  intro w4 p4
  have x4 : Ext w2 w4 := x3.move p4.mv (by rintro k ⟨⟩; exact Nat.le_refl _)
  have hp4 := pts_block (cs := [str [1, 97], z]) p4.this
  have hz4 := hz.ext x4
  have hx4 := hx2.trans x4
  clear p4 h3 x3
  repeat' (first | ((with_reducible refine o_s ?_); (first | (refine o_1 ?_; refine o_2 ?_) | (refine o_g ?_; first | refine o_u ?_ | refine o_k ?_ | refine o_n ?_ | refine o_v ?_ | ((first | refine o_G ?_ ?_ | refine o_N ?_ ?_) <;> intro hc)))) | ((fail_if_success (with_reducible refine o_s ?_)); go_step))
  refine wpl_callR (enters_of Tryz.func61 rfl rfl) rfl rfl (p_Simple _) ?_
  intro v5 w5 x5 hv5
  have hl5 : (rcells simR).length = 3 := rfl
  refine gset ?_
  repeat' (first | ((with_reducible refine o_s ?_); (first | (refine o_1 ?_; refine o_2 ?_) | (refine o_g ?_; first | refine o_u ?_ | refine o_k ?_ | refine o_n ?_ | refine o_v ?_ | ((first | refine o_G ?_ ?_ | refine o_N ?_ ?_) <;> intro hc)))) | ((fail_if_success (with_reducible refine o_s ?_)); go_step))
  have hcut := hv5.cut (m := 0) (n := 1) (Nat.zero_le _) (by decide)
  refine wpl_callR (enters_of Tryz.func27 rfl rfl) rfl rfl (p_Load [1, 97] _ (simR.take 1) _ hcut (by decide) (fun r hr => sim_r r (List.mem_of_mem_take hr))) ?_
  intro r6 w6 x6 hr6
  obtain ⟨y6, rfl, hy6⟩ := hr6
  rw [sim_E1]
  have hy61 : y6.oneCell' = true := by obtain ⟨css, h, _⟩ := hy6.sets; exact h.one
  have x46 := x5.trans x6
  refine gset ?_
  repeat' (first | ((with_reducible refine o_s ?_); (first | (refine o_1 ?_; refine o_2 ?_) | (refine o_g ?_; first | refine o_u ?_ | refine o_k ?_ | refine o_n ?_ | refine o_v ?_ | ((first | refine o_G ?_ ?_ | refine o_N ?_ ?_) <;> intro hc)))) | ((fail_if_success (with_reducible refine o_s ?_)); go_step))
  refine wpl_allocB (z := zzone) rfl (by decide +kernel) ?_
  intro w7 x7 s7 h7
  refine gset ?_
  refine wpl_storeB (v := .agg #[str (loadO [1, 97] (simR.take 1)), y6]) rfl rfl rfl h7 (show sizeTy Tryz.prog 43 2 = true by decide +kernel) rfl (zone_one hy61) ?_
  intro w8 p8
  have x8 : Ext w6 w8 := x7.move p8.mv (by rintro k ⟨⟩; exact Nat.le_refl _)
  have x48 := x46.trans x8
  have hp8 := hp4.ext x48
  have hz8 := hz4.ext x48
  have hx8 := hx4.trans x48
  clear p8 h7 x7 hp4 hz4 hz
  repeat' (first | ((with_reducible refine o_s ?_); (first | (refine o_1 ?_; refine o_2 ?_) | (refine o_g ?_; first | refine o_u ?_ | refine o_k ?_ | refine o_n ?_ | refine o_v ?_ | ((first | refine o_G ?_ ?_ | refine o_N ?_ ?_) <;> intro hc)))) | ((fail_if_success (with_reducible refine o_s ?_)); go_step))
  refine wpl_callV (enters_of Tryz.func32 rfl rfl) rfl rfl (p_Soa [1, 97] z simZ _ hz8 sim_b sim_d) ?_; intro w9 x9; refine gset ?_
  rw [sim_soa, sim_Z]
  repeat' (first | ((with_reducible refine o_s ?_); (first | (refine o_1 ?_; refine o_2 ?_) | (refine o_g ?_; first | refine o_u ?_ | refine o_k ?_ | refine o_n ?_ | refine o_v ?_ | ((first | refine o_G ?_ ?_ | refine o_N ?_ ?_) <;> intro hc)))) | ((fail_if_success (with_reducible refine o_s ?_)); go_step))
  refine wpl_allocB (z := zeroSoa) rfl (by decide +kernel) ?_
  intro w10 x10 s10 h10
  refine gset ?_
  refine wpl_storeB (v := .agg (SoaR.cells ⟨[2, 110, 115, 1, 97], [1, 109], 5, 10, 3, 100, 4⟩).toArray) rfl rfl rfl h10 (show sizeTy Tryz.prog 51 7 = true by decide +kernel) rfl (soaR_one _) ?_
  intro w11 p11
  have x11 : Ext w9 w11 := x10.move p11.mv (by rintro k ⟨⟩; exact Nat.le_refl _)
  have hs11 := pts_block (cs := [str [2, 110, 115, 1, 97], str [1, 109], .int .i64 5, .int .i64 10, .int .i64 3, .int .i64 100, .int .i64 4]) p11.this
  have x8b := x9.trans x11
  have hp11 := hp8.ext x8b
  have hz11 := hz8.ext x8b
  have hx11 := hx8.trans x8b
  clear p11 h10 x10 hp8 hz8
  repeat' (first | ((with_reducible refine o_s ?_); (first | (refine o_1 ?_; refine o_2 ?_) | (refine o_g ?_; first | refine o_u ?_ | refine o_k ?_ | refine o_n ?_ | refine o_v ?_ | ((first | refine o_G ?_ ?_ | refine o_N ?_ ?_) <;> intro hc)))) | ((fail_if_success (with_reducible refine o_s ?_)); go_step))
  refine wpl_callR (enters_of Tryz.func34 rfl rfl) rfl rfl (p_Renew [1, 97] z simZ 6 _ hz11 (by decide) sim_b sim_d) ?_
  intro r12 w12 x12 hr12
  obtain ⟨y, rfl, hy⟩ := hr12
  rw [sim_renE, sim_renO]
  rw [sim_renL] at hy
  have hy := hy.sets
  have hy1 : y.oneCell' = true := by obtain ⟨css, h, _⟩ := hy; exact h.one
  refine gset ?_
  repeat' (first | ((with_reducible refine o_s ?_); (first | (refine o_1 ?_; refine o_2 ?_) | (refine o_g ?_; first | refine o_u ?_ | refine o_k ?_ | refine o_n ?_ | refine o_v ?_ | ((first | refine o_G ?_ ?_ | refine o_N ?_ ?_) <;> intro hc)))) | ((fail_if_success (with_reducible refine o_s ?_)); go_step))
  refine wpl_allocB (z := zzone) rfl (by decide +kernel) ?_
  intro w13 x13 s13 h13
  refine gset ?_
  refine wpl_storeB (v := .agg #[str [1, 97], y]) rfl rfl rfl h13 (show sizeTy Tryz.prog 43 2 = true by decide +kernel) rfl (zone_one hy1) ?_
  intro w14 p14
  have x14 : Ext w12 w14 := x13.move p14.mv (by rintro k ⟨⟩; exact Nat.le_refl _)
  have hq14 := pts_block (cs := [str [1, 97], y]) p14.this
  have x11b := x12.trans x14
  have hy14 := hy.ext x14
  have hs14 := hs11.ext x11b
  have hp14 := hp11.ext x11b
  have hz14 := hz11.ext x11b
  have hx14 := hx11.trans x11b
  clear p14 h13 x13 hp11 hz11 hs11 hy
  repeat' (first | ((with_reducible refine o_s ?_); (first | (refine o_1 ?_; refine o_2 ?_) | (refine o_g ?_; first | refine o_u ?_ | refine o_k ?_ | refine o_n ?_ | refine o_v ?_ | ((first | refine o_G ?_ ?_ | refine o_N ?_ ?_) <;> intro hc)))) | ((fail_if_success (with_reducible refine o_s ?_)); go_step))
  refine wpl_callV (enters_of Tryz.func32 rfl rfl) rfl rfl (p_Soa [1, 97] y simY _ hy14 sim_b2 sim_d2) ?_; intro w15 x15; refine gset ?_
  rw [sim_soaY, sim_Y]
  repeat' (first | ((with_reducible refine o_s ?_); (first | (refine o_1 ?_; refine o_2 ?_) | (refine o_g ?_; first | refine o_u ?_ | refine o_k ?_ | refine o_n ?_ | refine o_v ?_ | ((first | refine o_G ?_ ?_ | refine o_N ?_ ?_) <;> intro hc)))) | ((fail_if_success (with_reducible refine o_s ?_)); go_step))
  refine wpl_allocB (z := zeroSoa) rfl (by decide +kernel) ?_
  intro w16 x16 s16 h16
  refine gset ?_
  refine wpl_storeB (v := .agg (SoaR.cells ⟨[2, 110, 115, 1, 97], [1, 109], 6, 10, 3, 100, 4⟩).toArray) rfl rfl rfl h16 (show sizeTy Tryz.prog 51 7 = true by decide +kernel) rfl (soaR_one _) ?_
  intro w17 p17
  have x17 : Ext w15 w17 := x16.move p17.mv (by rintro k ⟨⟩; exact Nat.le_refl _)
  have ht17 := pts_block (cs := [str [2, 110, 115, 1, 97], str [1, 109], .int .i64 6, .int .i64 10, .int .i64 3, .int .i64 100, .int .i64 4]) p17.this
  have x14b := x15.trans x17
  have hs17 := hs14.ext x14b
  have hp17 := hp14.ext x14b
  have hz17 := hz14.ext x14b
  have hx17 := hx14.trans x14b
  clear p17 h16 x16 hp14 hz14 hs14 hq14 hy14
  repeat' (first | ((with_reducible refine o_s ?_); (first | (refine o_1 ?_; refine o_2 ?_) | (refine o_g ?_; first | refine o_u ?_ | refine o_k ?_ | refine o_n ?_ | refine o_v ?_ | ((first | refine o_G ?_ ?_ | refine o_N ?_ ?_) <;> intro hc)))) | ((fail_if_success (with_reducible refine o_s ?_)); go_step))
  refine wpl_callV (enters_of Tryz.func38 rfl rfl) rfl rfl (p_Cut [1, 97] z simZ [2, 110, 115, 1, 97] _ hz17 sim_b) ?_; intro w18 x18; refine gset ?_
  rw [sim_Z, sim_cut, if_pos rfl]
  have hs18 := hs17.ext x18
  have ht18 := ht17.ext x18
  have hp18 := hp17.ext x18
  have hz18 := hz17.ext x18
  have hx18 := hx17.trans x18
  clear hs17 ht17 hp17 hz17
  repeat' (first | ((with_reducible refine o_s ?_); (first | (refine o_1 ?_; refine o_2 ?_) | (refine o_g ?_; first | refine o_u ?_ | refine o_k ?_ | refine o_n ?_ | refine o_v ?_ | ((first | refine o_G ?_ ?_ | refine o_N ?_ ?_) <;> intro hc)))) | ((fail_if_success (with_reducible refine o_s ?_)); go_step))
  have e1 : (decide (zoneR [1, 97] simZ = 0) && thereS [1, 97] simZ [2, 78, 83, 1, 97]) = true := by rw [sim_Z, sim_is]; rfl
  have e2 : (decide (zoneR [1, 97] simZ = 0) && thereS [1, 97] simZ [1, 120, 1, 97]) = false := by rw [sim_no]; simp
  refine wpl_callV (enters_of Tryz.func40 rfl rfl) rfl rfl (p_Exists [1, 97] z simZ [2, 78, 83, 1, 97] _ hz18 sim_b) ?_; intro w19 x19; refine gset ?_
  rw [e1]
  have hp19 := hp18.ext x19
  have hz19 := hz18.ext x19
  repeat' (first | ((with_reducible refine o_s ?_); (first | (refine o_1 ?_; refine o_2 ?_) | (refine o_g ?_; first | refine o_u ?_ | refine o_k ?_ | refine o_n ?_ | refine o_v ?_ | ((first | refine o_G ?_ ?_ | refine o_N ?_ ?_) <;> intro hc)))) | ((fail_if_success (with_reducible refine o_s ?_)); go_step))
  refine wpl_callV (enters_of Tryz.func40 rfl rfl) rfl rfl (p_Exists [1, 97] z simZ [1, 120, 1, 97] _ hz19 sim_b) ?_; intro w20 x20; refine gset ?_
  rw [e2]
  have hp20 := hp19.ext x20
  have hz20 := hz19.ext x20
  repeat' (first | ((with_reducible refine o_s ?_); (first | (refine o_1 ?_; refine o_2 ?_) | (refine o_g ?_; first | refine o_u ?_ | refine o_k ?_ | refine o_n ?_ | refine o_v ?_ | ((first | refine o_G ?_ ?_ | refine o_N ?_ ?_) <;> intro hc)))) | ((fail_if_success (with_reducible refine o_s ?_)); go_step))
  refine wpl_callV (enters_of Tryz.func36 rfl rfl) rfl rfl (p_Check [1, 97] z simZ _ hz20 sim_b) ?_; intro w21 x21; refine gset ?_
  rw [sim_Z]
  repeat' (first | ((with_reducible refine o_s ?_); (first | (refine o_1 ?_; refine o_2 ?_) | (refine o_g ?_; first | refine o_u ?_ | refine o_k ?_ | refine o_n ?_ | refine o_v ?_ | ((first | refine o_G ?_ ?_ | refine o_N ?_ ?_) <;> intro hc)))) | ((fail_if_success (with_reducible refine o_s ?_)); go_step))
  go_ret
  exact ⟨rfl, by exact extc⟩

end Go.Proofs.X
set_option linter.unusedSimpArgs false
set_option linter.unusedVariables false
namespace Go.Proofs.X
open Go.RowKit
set_option maxRecDepth 100000
set_option maxHeartbeats 500000 in
/-- lodestarref08.Cut -/
theorem r8_Cut (o : List UInt8) (v : Value) (l : List RSet) (n : List UInt8) (w : World) (hv : SetsAt w v l) (hb : ∀ s ∈ l, s.data.length ≤ 1000000) (hd : ∀ s ∈ l, ∀ d ∈ s.data, d.length ≤ 4611686018427387904) : Calls Tryz.prog 39 #[.agg #[str o, v], str n] w (RetV w (.tuple (if zoneR o l = 0 then #[str (cutR o l n).1, .bool (cutR o l n).2] else #[str [], .bool false]))) := by
  go_enter Tryz.func39, Tryz.ntmps39
  repeat' ((fail_if_success (with_reducible refine o_s ?_)); go_step)
  refine wpl_box (vs := [str o, v]) rfl rfl ?_
  intro p w1 x1 hp
  refine gset ?_
  have hv1 := hv.ext x1
  repeat' (first | ((with_reducible refine o_s ?_); (first | (refine o_1 ?_; refine o_2 ?_) | (refine o_g ?_; first | refine o_u ?_ | refine o_k ?_ | refine o_n ?_ | refine o_v ?_ | ((first | refine o_G ?_ ?_ | refine o_N ?_ ?_) <;> intro hc)))) | ((fail_if_success (with_reducible refine o_s ?_)); go_step))
  refine wpl_callV (enters_of Tryz.func37 rfl rfl) rfl rfl (r8_Check o v l _ hv1 hb hd) ?_; intro w2 x2; refine gset ?_
  have hx2 := x1.trans x2
  have hp2 := hp.ext x2
  have hv2 := hv1.ext x2
  repeat' (first | ((with_reducible refine o_s ?_); (first | (refine o_1 ?_; refine o_2 ?_) | (refine o_g ?_; first | refine o_u ?_ | refine o_k ?_ | refine o_n ?_ | refine o_v ?_ | ((first | refine o_G ?_ ?_ | refine o_N ?_ ?_) <;> intro hc)))) | ((fail_if_success (with_reducible refine o_s ?_)); go_step))
  · rename_i q
    have q' : ¬ zoneR o l = 0 := by simpa using q
    go_ret2
    exact ⟨by rw [if_neg q']; rfl, hx2⟩
  · have q' : zoneR o l = 0 := by simpa using (by assumption : (!decide (zoneR o l = 0)) = false)
    refine wpl_callV (enters_of Tryz.func76 rfl rfl) rfl rfl (r8_cut o v l n _ hv2) ?_; intro w3 x3; refine gset ?_
    repeat' (first | ((with_reducible refine o_s ?_); (first | (refine o_1 ?_; refine o_2 ?_) | (refine o_g ?_; first | refine o_u ?_ | refine o_k ?_ | refine o_n ?_ | refine o_v ?_ | ((first | refine o_G ?_ ?_ | refine o_N ?_ ?_) <;> intro hc)))) | ((fail_if_success (with_reducible refine o_s ?_)); go_step))
    go_ret2
    exact ⟨by rw [if_pos q']; rfl, hx2.trans x3⟩
set_option maxHeartbeats 500000 in
/-- lodestarref08.Exists -/
theorem r8_Exists (o : List UInt8) (v : Value) (l : List RSet) (n : List UInt8) (w : World) (hv : SetsAt w v l) (hb : ∀ s ∈ l, s.data.length ≤ 1000000) (hd : ∀ s ∈ l, ∀ d ∈ s.data, d.length ≤ 4611686018427387904) : Calls Tryz.prog 41 #[.agg #[str o, v], str n] w (RetV w (.bool (decide (zoneR o l = 0) && thereS o l n))) := by
  go_enter Tryz.func41, Tryz.ntmps41
  repeat' ((fail_if_success (with_reducible refine o_s ?_)); go_step)
  refine wpl_box (vs := [str o, v]) rfl rfl ?_
  intro p w1 x1 hp
  refine gset ?_
  have hv1 := hv.ext x1
  have c1 : ∀ w', Ext w1 w' → Calls Tryz.prog 37 #[.agg #[str o, v]] w' (RetV w' (.int .i64 (zoneR o l))) := fun w' x' => r8_Check o v l w' (hv1.ext x') hb hd
  have c2 : ∀ w', Ext w1 w' → Calls Tryz.prog 79 #[.agg #[str o, v], str n] w' (RetV w' (.bool (thereS o l n))) := fun w' x' => r8_There o v l n w' (hv1.ext x')
  repeat' (first | ((with_reducible refine o_s ?_); (first | (refine o_1 ?_; refine o_2 ?_) | (refine o_g ?_; first | refine o_u ?_ | refine o_k ?_ | refine o_n ?_ | refine o_v ?_ | ((first | refine o_G ?_ ?_ | refine o_N ?_ ?_) <;> intro hc)))) | ((fail_if_success (with_reducible refine o_s ?_)); go_step))
  refine wpl_callV (enters_of Tryz.func37 rfl rfl) rfl rfl (c1 _ (Ext.refl _)) ?_; intro w2 x2; refine gset ?_
  have hx2 := x1.trans x2
  have hp2 := hp.ext x2
  repeat' (first | ((with_reducible refine o_s ?_); (first | (refine o_1 ?_; refine o_2 ?_) | (refine o_g ?_; first | refine o_u ?_ | refine o_k ?_ | refine o_n ?_ | refine o_v ?_ | ((first | refine o_G ?_ ?_ | refine o_N ?_ ?_) <;> intro hc)))) | ((fail_if_success (with_reducible refine o_s ?_)); go_step))
  · have q : zoneR o l = 0 := hc
    refine wpl_callV (enters_of Tryz.func79 rfl rfl) rfl rfl (c2 _ x2) ?_; intro w3 x3; refine gset ?_
    repeat' (first | ((with_reducible refine o_s ?_); (first | (refine o_1 ?_; refine o_2 ?_) | (refine o_g ?_; first | refine o_u ?_ | refine o_k ?_ | refine o_n ?_ | refine o_v ?_ | ((first | refine o_G ?_ ?_ | refine o_N ?_ ?_) <;> intro hc)))) | ((fail_if_success (with_reducible refine o_s ?_)); go_step))
    go_ret
    exact ⟨by rw [decide_eq_true q]; rfl, hx2.trans x3⟩
  · have q : ¬ zoneR o l = 0 := hc
    go_ret
    exact ⟨by rw [decide_eq_false q]; rfl, hx2⟩

end Go.Proofs.X
set_option linter.unusedSimpArgs false
set_option linter.unusedVariables false
namespace Go.Proofs.X
open Go.RowKit
set_option maxRecDepth 100000
set_option maxHeartbeats 500000 in
/-- lodestarref08.Few -/
theorem r8_Few (o : List UInt8) (v : Value) (l : List RSet) (w : World) (hv : SetsAt w v l) : Calls Tryz.prog 30 #[.agg #[str o, v]] w (RetV w (.bool (decide ((o.length : Int) ≤ 300) && fewS l))) := by
  go_enter Tryz.func30, Tryz.ntmps30
  repeat' ((fail_if_success (with_reducible refine o_s ?_)); go_step)
  refine wpl_box (vs := [str o, v]) rfl rfl ?_
  intro p w1 x1 hp
  refine gset ?_
  have hv1 := hv.ext x1
  repeat' (first | ((with_reducible refine o_s ?_); (first | (refine o_1 ?_; refine o_2 ?_) | (refine o_g ?_; first | refine o_u ?_ | refine o_k ?_ | refine o_n ?_ | refine o_v ?_ | ((first | refine o_G ?_ ?_ | refine o_N ?_ ?_) <;> intro hc)))) | ((fail_if_success (with_reducible refine o_s ?_)); go_step))
  · refine wpl_callV (enters_of Tryz.func18 rfl rfl) rfl rfl (t14 v l _ hv1) ?_; intro w2 x2; refine gset ?_
    repeat' (first | ((with_reducible refine o_s ?_); (first | (refine o_1 ?_; refine o_2 ?_) | (refine o_g ?_; first | refine o_u ?_ | refine o_k ?_ | refine o_n ?_ | refine o_v ?_ | ((first | refine o_G ?_ ?_ | refine o_N ?_ ?_) <;> intro hc)))) | ((fail_if_success (with_reducible refine o_s ?_)); go_step))
    go_ret
    exact ⟨by rw [decide_eq_true hc]; rfl, x1.trans x2⟩
  · go_ret
    exact ⟨by rw [decide_eq_false hc]; rfl, x1⟩
set_option maxHeartbeats 500000 in
/-- lodestarref08.Same -/
theorem r8_Same (o o' : List UInt8) (u v : Value) (a b : List RSet) (w : World) (hu : SetsAt w u a) (hv : SetsAt w v b) : Calls Tryz.prog 29 #[.agg #[str o, u], .agg #[str o', v]] w (RetV w (.bool (decide (o = o') && decide (a = b)))) := by
  go_enter Tryz.func29, Tryz.ntmps29
  repeat' ((fail_if_success (with_reducible refine o_s ?_)); go_step)
  refine wpl_box (vs := [str o, u]) rfl rfl ?_
  intro p w1 x1 hp
  refine gset ?_
  repeat' ((fail_if_success (with_reducible refine o_s ?_)); go_step)
  refine wpl_box (vs := [str o', v]) rfl rfl ?_
  intro q w2 x2 hq
  refine gset ?_
  have hx2 := x1.trans x2
  have hp2 := hp.ext x2
  repeat' (first | ((with_reducible refine o_s ?_); (first | (refine o_1 ?_; refine o_2 ?_) | (refine o_g ?_; first | refine o_u ?_ | refine o_k ?_ | refine o_n ?_ | refine o_v ?_ | ((first | refine o_G ?_ ?_ | refine o_N ?_ ?_) <;> intro hc)))) | ((fail_if_success (with_reducible refine o_s ?_)); go_step))
  · refine wpl_callV (enters_of Tryz.func16 rfl rfl) rfl rfl (t11 u v a b _ (hu.ext hx2) (hv.ext hx2)) ?_; intro w3 x3; refine gset ?_
    repeat' (first | ((with_reducible refine o_s ?_); (first | (refine o_1 ?_; refine o_2 ?_) | (refine o_g ?_; first | refine o_u ?_ | refine o_k ?_ | refine o_n ?_ | refine o_v ?_ | ((first | refine o_G ?_ ?_ | refine o_N ?_ ?_) <;> intro hc)))) | ((fail_if_success (with_reducible refine o_s ?_)); go_step))
    go_ret
    exact ⟨by rw [decide_eq_true hc]; rfl, hx2.trans x3⟩
  · go_ret
    exact ⟨by rw [decide_eq_false hc]; rfl, hx2⟩

end Go.Proofs.X
set_option linter.unusedSimpArgs false
set_option linter.unusedVariables false
namespace Go.Proofs.X
open Go.RowKit
set_option maxRecDepth 100000
/-! ### the statements of zones -/
theorem z_liveV (w : World) : Calls Tryz.prog 26 #[] w (RetV w (.bool true)) := z_live w
theorem fewz {o : List UInt8} {l : List RSet} (h : (decide ((o.length : Int) ≤ 300) && fewS l) = true) : l.length ≤ 25 ∧ (∀ s ∈ l, s.data.length ≤ 1000000) ∧ (∀ s ∈ l, ∀ d ∈ s.data, d.length ≤ 4611686018427387904) ∧ o.length ≤ 300 ∧ (∀ s ∈ l, s.data.length ≤ 12) ∧ (∀ s ∈ l, ∀ d ∈ s.data, d.length ≤ 300) := by
  simp only [Bool.and_eq_true, decide_eq_true_eq] at h
  obtain ⟨b1, b2, b3, b4⟩ := few_bounds h.2
  exact ⟨b1, fun s hs => by have := b2 s hs; omega, fun s hs d hd => by have := b4 s hs d hd; omega, by omega, b2, b4⟩
set_option maxHeartbeats 1000000 in
/-- lodestarlaw08.ZoneFinds -/
theorem z7 (o : List UInt8) (v : Value) (l : List RSet) (n : List UInt8) (w : World) (hv : SetsAt w v l) : Calls Tryz.prog 7 #[.agg #[str o, v], str n] w (Yes w) := by
  go_enter Tryz.func7, Tryz.ntmps7
  repeat' ((fail_if_success (with_reducible refine o_s ?_)); go_step)
  refine wpl_box (vs := [str o, v]) rfl rfl ?_
  intro p w1 x1 hp
  refine gset ?_
  repeat' (first | ((with_reducible refine o_s ?_); (first | (refine o_1 ?_; refine o_2 ?_) | (refine o_g ?_; first | refine o_u ?_ | refine o_k ?_ | refine o_n ?_ | refine o_v ?_ | ((first | refine o_G ?_ ?_ | refine o_N ?_ ?_) <;> intro hc)))) | ((fail_if_success (with_reducible refine o_s ?_)); go_step))
  refine wpl_callV (enters_of Tryz.func30 rfl rfl) rfl rfl (r8_Few o v l _ (hv.ext x1)) ?_; intro w2 x2; refine gset ?_
  have hx2 := x1.trans x2
  have hp2 := hp.ext x2
  have hv2 := hv.ext hx2
  cases hf : (decide ((o.length : Int) ≤ 300) && fewS l) with
  | false =>
    repeat' (first | ((with_reducible refine o_s ?_); (first | (refine o_1 ?_; refine o_2 ?_) | (refine o_g ?_; first | refine o_u ?_ | refine o_k ?_ | refine o_n ?_ | refine o_v ?_ | ((first | refine o_G ?_ ?_ | refine o_N ?_ ?_) <;> intro hc)))) | ((fail_if_success (with_reducible refine o_s ?_)); go_step))
    refine wpl_callV (enters_of Tryz.func26 rfl rfl) rfl rfl (z_liveV _) ?_; intro w3 x3; refine gset ?_
    repeat' (first | ((with_reducible refine o_s ?_); (first | (refine o_1 ?_; refine o_2 ?_) | (refine o_g ?_; first | refine o_u ?_ | refine o_k ?_ | refine o_n ?_ | refine o_v ?_ | ((first | refine o_G ?_ ?_ | refine o_N ?_ ?_) <;> intro hc)))) | ((fail_if_success (with_reducible refine o_s ?_)); go_step))
    go_ret
    exact ⟨rfl, hx2.trans x3⟩
  | true =>
    obtain ⟨b1, b2, b3, _⟩ := fewz hf
    repeat' (first | ((with_reducible refine o_s ?_); (first | (refine o_1 ?_; refine o_2 ?_) | (refine o_g ?_; first | refine o_u ?_ | refine o_k ?_ | refine o_n ?_ | refine o_v ?_ | ((first | refine o_G ?_ ?_ | refine o_N ?_ ?_) <;> intro hc)))) | ((fail_if_success (with_reducible refine o_s ?_)); go_step))
    · refine wpl_callV (enters_of Tryz.func26 rfl rfl) rfl rfl (z_liveV _) ?_; intro w3 x3; refine gset ?_
      repeat' (first | ((with_reducible refine o_s ?_); (first | (refine o_1 ?_; refine o_2 ?_) | (refine o_g ?_; first | refine o_u ?_ | refine o_k ?_ | refine o_n ?_ | refine o_v ?_ | ((first | refine o_G ?_ ?_ | refine o_N ?_ ?_) <;> intro hc)))) | ((fail_if_success (with_reducible refine o_s ?_)); go_step))
      go_ret
      exact ⟨rfl, hx2.trans x3⟩
    · have c1 := fun w' (hx : Ext w2 w') => p_Cut o v l n w' (hv2.ext hx) b2
      have c2 := fun w' (hx : Ext w2 w') => r8_Cut o v l n w' (hv2.ext hx) b2 b3
      obtain ⟨a, b, hab⟩ : ∃ a b, (if zoneR o l = 0 then #[str (cutR o l n).1, Value.bool (cutR o l n).2] else #[str [], .bool false]) = #[str a, .bool b] := by
        split
        · exact ⟨_, _, rfl⟩
        · exact ⟨_, _, rfl⟩
      rw [hab] at c1 c2
      refine wpl_callV (enters_of Tryz.func38 rfl rfl) rfl rfl (c1 _ (Ext.refl _)) ?_; intro w3 x3; refine gset ?_
      have hp3 := hp2.ext x3
      repeat' (first | ((with_reducible refine o_s ?_); (first | (refine o_1 ?_; refine o_2 ?_) | (refine o_g ?_; first | refine o_u ?_ | refine o_k ?_ | refine o_n ?_ | refine o_v ?_ | ((first | refine o_G ?_ ?_ | refine o_N ?_ ?_) <;> intro hc)))) | ((fail_if_success (with_reducible refine o_s ?_)); go_step))
      refine wpl_callV (enters_of Tryz.func39 rfl rfl) rfl rfl (c2 _ x3) ?_; intro w4 x4; refine gset ?_
      have x24 := x3.trans x4
      have hp4 := hp3.ext x4
      have hv4 := hv2.ext x24
      have hx4 := hx2.trans x24
      have c5 : ∀ w', Ext w4 w' → Calls Tryz.prog 40 #[.agg #[str o, v], str n] w' (RetV w' (.bool (decide (zoneR o l = 0) && thereS o l n))) := fun w' x' => p_Exists o v l n w' (hv4.ext x') b2
      have c6 : ∀ w', Ext w4 w' → Calls Tryz.prog 41 #[.agg #[str o, v], str n] w' (RetV w' (.bool (decide (zoneR o l = 0) && thereS o l n))) := fun w' x' => r8_Exists o v l n w' (hv4.ext x') b2 b3
      generalize (decide (zoneR o l = 0) && thereS o l n) = e at c5 c6
      repeat' (first | ((with_reducible refine o_s ?_); (first | (refine o_1 ?_; refine o_2 ?_) | (refine o_g ?_; first | refine o_u ?_ | refine o_k ?_ | refine o_n ?_ | refine o_v ?_ | ((first | refine o_G ?_ ?_ | refine o_N ?_ ?_) <;> intro hc)))) | ((fail_if_success (with_reducible refine o_s ?_)); go_step))
      refine wpq_region (by decide +kernel) (by decide +kernel) ?_
      repeat' (first | ((with_reducible refine q_s ?_); (first | (refine q_1 ?_; refine q_2 ?_) | (refine q_g ?_; first | refine q_u ?_ | refine q_k ?_ | refine q_v ?_))) | (with_reducible refine q_n ?_))
      refine wpq_run0 (fun _ _ => Runs.eqlB rfl rfl (by decide +kernel)) ?_
      rw [show (b == b) = true by simp]
      refine gset ?_
      repeat' (first | ((with_reducible refine q_s ?_); (first | (refine q_1 ?_; refine q_2 ?_) | (refine q_g ?_; first | refine q_u ?_ | refine q_k ?_ | refine q_v ?_))) | (with_reducible refine q_n ?_))
      refine wpq_call (enters_of Tryz.func40 rfl rfl) rfl rfl (fun w' x' => c5 w' x') ?_
      refine gset ?_
      repeat' (first | ((with_reducible refine q_s ?_); (first | (refine q_1 ?_; refine q_2 ?_) | (refine q_g ?_; first | refine q_u ?_ | refine q_k ?_ | refine q_v ?_))) | (with_reducible refine q_n ?_))
      refine wpq_call (enters_of Tryz.func41 rfl rfl) rfl rfl (fun w' x' => c6 w' x') ?_
      refine gset ?_
      repeat' (first | ((with_reducible refine q_s ?_); (first | (refine q_1 ?_; refine q_2 ?_) | (refine q_g ?_; first | refine q_u ?_ | refine q_k ?_ | refine q_v ?_))) | (with_reducible refine q_n ?_))
      refine wpq_run0 (fun _ _ => Runs.eqlB rfl rfl (by decide +kernel)) ?_
      rw [show (e == e) = true by simp]
      refine gset ?_
      repeat' (first | ((with_reducible refine q_s ?_); (first | (refine q_1 ?_; refine q_2 ?_) | (refine q_g ?_; first | refine q_u ?_ | refine q_k ?_ | refine q_v ?_))) | (with_reducible refine q_n ?_))
      refine wpq_call (enters_of Tryz.func26 rfl rfl) rfl rfl (fun w' _ => z_liveV w') ?_
      refine gset ?_
      repeat' (first | ((with_reducible refine q_s ?_); (first | (refine q_1 ?_; refine q_2 ?_) | (refine q_g ?_; first | refine q_u ?_ | refine q_k ?_ | refine q_v ?_))) | (with_reducible refine q_n ?_))
      intro w9 x9
      repeat' (first | ((with_reducible refine o_s ?_); (first | (refine o_1 ?_; refine o_2 ?_) | (refine o_g ?_; first | refine o_u ?_ | refine o_k ?_ | refine o_n ?_ | refine o_v ?_ | ((first | refine o_G ?_ ?_ | refine o_N ?_ ?_) <;> intro hc)))) | ((fail_if_success (with_reducible refine o_s ?_)); go_step))
      go_ret
      exact ⟨rfl, hx4.trans x9⟩

end Go.Proofs.X
set_option linter.unusedSimpArgs false
set_option linter.unusedVariables false
namespace Go.Proofs.X
open Go.RowKit
set_option maxRecDepth 100000
/-- a beginning of authority held against itself -/
theorem run_eqSoa {s : SoaR} {w : World} : (Op.equalIn 10000 51 (.agg s.cells.toArray) (.agg s.cells.toArray)).run Tryz.prog w = .ok true w := by
  have hS : Tryz.prog.underlying 51 = some (.struct (Tryz.prog.fieldsOf 51)) := by kernel_rfl
  rw [show (10000 : Nat) = 9999 + 1 from rfl, run_equalIn_agg w 9999 51 _ _ hS (by kernel_rfl)]
  simp only [Program.fieldsOf, Tryz.underlying51]
  have u3 := Tryz.underlying3
  have u31 := Tryz.underlying31
  have a3 := Tryz.isAgg3
  have a31 := Tryz.isAgg31
  have z3 := Tryz.sizeOf3
  have z31 := Tryz.sizeOf31
  unfold SoaR.cells str
  go_simp
theorem Runs.eqlSoa {s : SoaR} {x y : Operand} {a : Act} {w : World} {d : Option Nat} {u ty : TypeId} {ps : String} {af : Array Edge} {g : Option (Nat × Bool)}
    (hx : a.eval x = .agg s.cells.toArray) (hy : a.eval y = .agg s.cells.toArray) :
    Runs Tryz.prog (Oper.mk d (.binOp .eql 51 x y u) ty ps af g) a w (.bool true) := by
  constructor
  have hg := run_eqGuard_agg (P := Tryz.prog) w .eql 51 x y s.cells.toArray s.cells.toArray (by kernel_rfl)
  simp only [execOp, hx, hy, Sem.run_bind, hg, Result.andThen_ok, run_eql_struct, run_eqSoa, Sem.run_pure]

end Go.Proofs.X
set_option linter.unusedSimpArgs false
set_option linter.unusedVariables false
namespace Go.Proofs.X
open Go.RowKit
set_option maxRecDepth 100000
theorem same_true {o o' : List UInt8} {u v : Value} {a b : List RSet} {w : World} (hu : SetsAt w u a) (hv : SetsAt w v b) (ho : o = o') (hab : a = b) : Calls Tryz.prog 29 #[.agg #[str o, u], .agg #[str o', v]] w (RetV w (.bool true)) := by
  have := r8_Same o o' u v a b w hu hv
  rw [decide_eq_true ho, decide_eq_true hab] at this
  exact this
set_option maxHeartbeats 2000000 in
/-- lodestarlaw08.ZoneChecks -/
theorem z6 (o : List UInt8) (v : Value) (l : List RSet) (n : Int) (w : World) (hv : SetsAt w v l) : Calls Tryz.prog 6 #[.agg #[str o, v], .int .i64 n] w (Yes w) := by
  have hv1 : v.oneCell' = true := by obtain ⟨css, h, _⟩ := hv; exact h.one
  go_enter Tryz.func6, Tryz.ntmps6
  repeat' ((fail_if_success (with_reducible refine o_s ?_)); go_step)
  refine wpl_box (vs := [str o, v]) rfl rfl ?_
  intro p w1 x1 hp
  refine gset ?_
  repeat' (first | ((with_reducible refine o_s ?_); (first | (refine o_1 ?_; refine o_2 ?_) | (refine o_g ?_; first | refine o_u ?_ | refine o_k ?_ | refine o_n ?_ | refine o_v ?_ | ((first | refine o_G ?_ ?_ | refine o_N ?_ ?_) <;> intro hc)))) | ((fail_if_success (with_reducible refine o_s ?_)); go_step))
  refine wpl_callV (enters_of Tryz.func30 rfl rfl) rfl rfl (r8_Few o v l _ (hv.ext x1)) ?_; intro w2 x2; refine gset ?_
  have hx2 := x1.trans x2
  have hp2 := hp.ext x2
  have hv2 := hv.ext hx2
  cases hf : (decide ((o.length : Int) ≤ 300) && fewS l) with
  | false =>
    repeat' (first | ((with_reducible refine o_s ?_); (first | (refine o_1 ?_; refine o_2 ?_) | (refine o_g ?_; first | refine o_u ?_ | refine o_k ?_ | refine o_n ?_ | refine o_v ?_ | ((first | refine o_G ?_ ?_ | refine o_N ?_ ?_) <;> intro hc)))) | ((fail_if_success (with_reducible refine o_s ?_)); go_step))
    refine wpl_callV (enters_of Tryz.func26 rfl rfl) rfl rfl (z_liveV _) ?_; intro w3 x3; refine gset ?_
    repeat' (first | ((with_reducible refine o_s ?_); (first | (refine o_1 ?_; refine o_2 ?_) | (refine o_g ?_; first | refine o_u ?_ | refine o_k ?_ | refine o_n ?_ | refine o_v ?_ | ((first | refine o_G ?_ ?_ | refine o_N ?_ ?_) <;> intro hc)))) | ((fail_if_success (with_reducible refine o_s ?_)); go_step))
    go_ret
    exact ⟨rfl, hx2.trans x3⟩
  | true =>
    obtain ⟨b1, b2, b3, _⟩ := fewz hf
    repeat' (first | ((with_reducible refine o_s ?_); (first | (refine o_1 ?_; refine o_2 ?_) | (refine o_g ?_; first | refine o_u ?_ | refine o_k ?_ | refine o_n ?_ | refine o_v ?_ | ((first | refine o_G ?_ ?_ | refine o_N ?_ ?_) <;> intro hc)))) | ((fail_if_success (with_reducible refine o_s ?_)); go_step))
    refine wpl_callR (enters_of Tryz.func31 rfl rfl) rfl rfl (r8_Copy o v l _ hv2 (by omega) b2) ?_
    intro r3 w3 x3 hr3
    obtain ⟨y, rfl, hyV⟩ := hr3
    have hy := (hyV.toO (Nat.zero_le _)).sets
    have hy1 : y.oneCell' = true := by obtain ⟨css, h, _⟩ := hy; exact h.one
    refine gset ?_
    repeat' (first | ((with_reducible refine o_s ?_); (first | (refine o_1 ?_; refine o_2 ?_) | (refine o_g ?_; first | refine o_u ?_ | refine o_k ?_ | refine o_n ?_ | refine o_v ?_ | ((first | refine o_G ?_ ?_ | refine o_N ?_ ?_) <;> intro hc)))) | ((fail_if_success (with_reducible refine o_s ?_)); go_step))
    refine wpl_allocB (z := zzone) rfl (by decide +kernel) ?_
    intro w4 x4 s4 h4
    refine gset ?_
    refine wpl_storeB (v := .agg #[str o, y]) rfl rfl rfl h4 (show sizeTy Tryz.prog 43 2 = true by decide +kernel) rfl (zone_one hy1) ?_
    intro w5 p5
    have x5 : Ext w3 w5 := x4.move p5.mv (by rintro k ⟨⟩; exact Nat.le_refl _)
    have ho5 := pts_block (cs := [str o, y]) p5.this
    have hy5 := hy.ext x5
    have x25 := x3.trans x5
    have hp5 := hp2.ext x25
    have hv5 := hv2.ext x25
    have hx5 := hx2.trans x25
    clear p5 h4 x4 hy hyV hv2 hp2
    repeat' (first | ((with_reducible refine o_s ?_); (first | (refine o_1 ?_; refine o_2 ?_) | (refine o_g ?_; first | refine o_u ?_ | refine o_k ?_ | refine o_n ?_ | refine o_v ?_ | ((first | refine o_G ?_ ?_ | refine o_N ?_ ?_) <;> intro hc)))) | ((fail_if_success (with_reducible refine o_s ?_)); go_step))
    refine wpl_callV (enters_of Tryz.func32 rfl rfl) rfl rfl (p_Soa o y l _ hy5 b2 b3) ?_; intro w6 x6; refine gset ?_
    repeat' (first | ((with_reducible refine o_s ?_); (first | (refine o_1 ?_; refine o_2 ?_) | (refine o_g ?_; first | refine o_u ?_ | refine o_k ?_ | refine o_n ?_ | refine o_v ?_ | ((first | refine o_G ?_ ?_ | refine o_N ?_ ?_) <;> intro hc)))) | ((fail_if_success (with_reducible refine o_s ?_)); go_step))
    refine wpl_allocB (z := zeroSoa) rfl (by decide +kernel) ?_
    intro w7 x7 s7 h7
    refine gset ?_
    refine wpl_storeB (v := .agg (soaZ o l).cells.toArray) rfl rfl rfl h7 (show sizeTy Tryz.prog 51 7 = true by decide +kernel) rfl (soaR_one _) ?_
    intro w8 p8
    have x8 : Ext w6 w8 := x7.move p8.mv (by rintro k ⟨⟩; exact Nat.le_refl _)
    have hs8 := pts_block (cs := [str (soaZ o l).main, str (soaZ o l).mail, .int .i64 (soaZ o l).serial, .int .i64 (soaZ o l).refresh, .int .i64 (soaZ o l).retry, .int .i64 (soaZ o l).expire, .int .i64 (soaZ o l).minimum]) p8.this
    have x58 := x6.trans x8
    have ho8 := ho5.ext x58
    have hy8 := hy5.ext x58
    have hp8 := hp5.ext x58
    have hv8 := hv5.ext x58
    have hx8 := hx5.trans x58
    clear p8 h7 x7 hy5 hv5 hp5 ho5
    repeat' (first | ((with_reducible refine o_s ?_); (first | (refine o_1 ?_; refine o_2 ?_) | (refine o_g ?_; first | refine o_u ?_ | refine o_k ?_ | refine o_n ?_ | refine o_v ?_ | ((first | refine o_G ?_ ?_ | refine o_N ?_ ?_) <;> intro hc)))) | ((fail_if_success (with_reducible refine o_s ?_)); go_step))
    refine wpl_callV (enters_of Tryz.func33 rfl rfl) rfl rfl (r8_Soa o v l _ hv8 b2 b3) ?_; intro w9 x9; refine gset ?_
    repeat' (first | ((with_reducible refine o_s ?_); (first | (refine o_1 ?_; refine o_2 ?_) | (refine o_g ?_; first | refine o_u ?_ | refine o_k ?_ | refine o_n ?_ | refine o_v ?_ | ((first | refine o_G ?_ ?_ | refine o_N ?_ ?_) <;> intro hc)))) | ((fail_if_success (with_reducible refine o_s ?_)); go_step))
    refine wpl_allocB (z := zeroSoa) rfl (by decide +kernel) ?_
    intro w10 x10 s10 h10
    refine gset ?_
    refine wpl_storeB (v := .agg (soaZ o l).cells.toArray) rfl rfl rfl h10 (show sizeTy Tryz.prog 51 7 = true by decide +kernel) rfl (soaR_one _) ?_
    intro w11 p11
    have x11 : Ext w9 w11 := x10.move p11.mv (by rintro k ⟨⟩; exact Nat.le_refl _)
    have ht11 := pts_block (cs := [str (soaZ o l).main, str (soaZ o l).mail, .int .i64 (soaZ o l).serial, .int .i64 (soaZ o l).refresh, .int .i64 (soaZ o l).retry, .int .i64 (soaZ o l).expire, .int .i64 (soaZ o l).minimum]) p11.this
    have x811 := x9.trans x11
    have hs11 := hs8.ext x811
    have ho11 := ho8.ext x811
    have hy11 := hy8.ext x811
    have hp11 := hp8.ext x811
    have hv11 := hv8.ext x811
    have hx11 := hx8.trans x811
    clear p11 h10 x10 hs8 hy8 hv8 hp8 ho8
    repeat' (first | ((with_reducible refine o_s ?_); (first | (refine o_1 ?_; refine o_2 ?_) | (refine o_g ?_; first | refine o_u ?_ | refine o_k ?_ | refine o_n ?_ | refine o_v ?_ | ((first | refine o_G ?_ ?_ | refine o_N ?_ ?_) <;> intro hc)))) | ((fail_if_success (with_reducible refine o_s ?_)); go_step))
    refine wpl_callR (enters_of Tryz.func34 rfl rfl) rfl rfl (p_Renew o y l n _ hy11 (by omega) b2 b3) ?_
    intro r12 w12 x12 hr12
    obtain ⟨a, rfl, ha⟩ := hr12
    have ha := ha.sets
    have ha1 : a.oneCell' = true := by obtain ⟨css, h, _⟩ := ha; exact h.one
    refine gset ?_
    repeat' (first | ((with_reducible refine o_s ?_); (first | (refine o_1 ?_; refine o_2 ?_) | (refine o_g ?_; first | refine o_u ?_ | refine o_k ?_ | refine o_n ?_ | refine o_v ?_ | ((first | refine o_G ?_ ?_ | refine o_N ?_ ?_) <;> intro hc)))) | ((fail_if_success (with_reducible refine o_s ?_)); go_step))
    refine wpl_allocB (z := zzone) rfl (by decide +kernel) ?_
    intro w13 x13 s13 h13
    refine gset ?_
    refine wpl_storeB (v := .agg #[str (renO o l n), a]) rfl rfl rfl h13 (show sizeTy Tryz.prog 43 2 = true by decide +kernel) rfl (zone_one ha1) ?_
    intro w14 p14
    have x14 : Ext w12 w14 := x13.move p14.mv (by rintro k ⟨⟩; exact Nat.le_refl _)
    have hc14 := pts_block (cs := [str (renO o l n), a]) p14.this
    have ha14 := ha.ext x14
    have x1114 := x12.trans x14
    have ht14 := ht11.ext x1114
    have hs14 := hs11.ext x1114
    have ho14 := ho11.ext x1114
    have hy14 := hy11.ext x1114
    have hp14 := hp11.ext x1114
    have hv14 := hv11.ext x1114
    have hx14 := hx11.trans x1114
    clear p14 h13 x13 hs11 ht11 hy11 hv11 hp11 ho11 ha
    repeat' (first | ((with_reducible refine o_s ?_); (first | (refine o_1 ?_; refine o_2 ?_) | (refine o_g ?_; first | refine o_u ?_ | refine o_k ?_ | refine o_n ?_ | refine o_v ?_ | ((first | refine o_G ?_ ?_ | refine o_N ?_ ?_) <;> intro hc)))) | ((fail_if_success (with_reducible refine o_s ?_)); go_step))
    refine wpl_callR (enters_of Tryz.func35 rfl rfl) rfl rfl (r8_Renew o v l n _ hv14 (by omega) b2 b3) ?_
    intro r15 w15 x15 hr15
    obtain ⟨b, rfl, hb⟩ := hr15
    have hb := hb.sets
    have hb1 : b.oneCell' = true := by obtain ⟨css, h, _⟩ := hb; exact h.one
    refine gset ?_
    repeat' (first | ((with_reducible refine o_s ?_); (first | (refine o_1 ?_; refine o_2 ?_) | (refine o_g ?_; first | refine o_u ?_ | refine o_k ?_ | refine o_n ?_ | refine o_v ?_ | ((first | refine o_G ?_ ?_ | refine o_N ?_ ?_) <;> intro hc)))) | ((fail_if_success (with_reducible refine o_s ?_)); go_step))
    refine wpl_allocB (z := zzone) rfl (by decide +kernel) ?_
    intro w16 x16 s16 h16
    refine gset ?_
    refine wpl_storeB (v := .agg #[str (renO o l n), b]) rfl rfl rfl h16 (show sizeTy Tryz.prog 43 2 = true by decide +kernel) rfl (zone_one hb1) ?_
    intro w17 p17
    have x17 : Ext w15 w17 := x16.move p17.mv (by rintro k ⟨⟩; exact Nat.le_refl _)
    have hd17 := pts_block (cs := [str (renO o l n), b]) p17.this
    have hb17 := hb.ext x17
    have x1417 := x15.trans x17
    have hc17 := hc14.ext x1417
    have ha17 := ha14.ext x1417
    have ht17 := ht14.ext x1417
    have hs17 := hs14.ext x1417
    have ho17 := ho14.ext x1417
    have hy17 := hy14.ext x1417
    have hp17 := hp14.ext x1417
    have hv17 := hv14.ext x1417
    have hx17 := hx14.trans x1417
    clear p17 h16 x16 hs14 ht14 hy14 hv14 hp14 ho14 ha14 hc14 hb
    have c1 : ∀ w', Ext w17 w' → Calls Tryz.prog 29 #[.agg #[str (renO o l n), a], .agg #[str (renO o l n), b]] w' (RetV w' (.bool true)) := fun w' x' => same_true (ha17.ext x') (hb17.ext x') rfl rfl
    have c2 : ∀ w', Ext w17 w' → Calls Tryz.prog 36 #[.agg #[str o, y]] w' (RetV w' (.int .i64 (zoneR o l))) := fun w' x' => p_Check o y l w' (hy17.ext x') b2
    have c3 : ∀ w', Ext w17 w' → Calls Tryz.prog 37 #[.agg #[str o, v]] w' (RetV w' (.int .i64 (zoneR o l))) := fun w' x' => r8_Check o v l w' (hv17.ext x') b2 b3
    have c4 : ∀ w', Ext w17 w' → Calls Tryz.prog 29 #[.agg #[str o, y], .agg #[str o, v]] w' (RetV w' (.bool true)) := fun w' x' => same_true (hy17.ext x') (hv17.ext x') rfl rfl
    generalize soaZ o l = ss at *
    generalize zoneR o l = e at *
    generalize renE o l n = e2 at *
    repeat' (first | ((with_reducible refine o_s ?_); (first | (refine o_1 ?_; refine o_2 ?_) | (refine o_g ?_; first | refine o_u ?_ | refine o_k ?_ | refine o_n ?_ | refine o_v ?_ | ((first | refine o_G ?_ ?_ | refine o_N ?_ ?_) <;> intro hc)))) | ((fail_if_success (with_reducible refine o_s ?_)); go_step))
    refine wpq_region (by decide +kernel) (by decide +kernel) ?_
    repeat' (first | ((with_reducible refine q_s ?_); (first | (refine q_1 ?_; refine q_2 ?_) | (refine q_g ?_; first | refine q_u ?_ | refine q_k ?_ | refine q_v ?_))) | (with_reducible refine q_n ?_))
    refine wpq_run0 (fun _ _ => Runs.eqlSoa (s := ss) rfl rfl) ?_
    refine gset ?_
    repeat' (first | ((with_reducible refine q_s ?_); (first | (refine q_1 ?_; refine q_2 ?_) | (refine q_g ?_; first | refine q_u ?_ | refine q_k ?_ | refine q_v ?_))) | (with_reducible refine q_n ?_))
    refine wpq_call (enters_of Tryz.func29 rfl rfl) rfl rfl (fun w' x' => c1 w' x') ?_
    refine gset ?_
    repeat' (first | ((with_reducible refine q_s ?_); (first | (refine q_1 ?_; refine q_2 ?_) | (refine q_g ?_; first | refine q_u ?_ | refine q_k ?_ | refine q_v ?_))) | (with_reducible refine q_n ?_))
    refine wpq_call (enters_of Tryz.func36 rfl rfl) rfl rfl (fun w' x' => c2 w' x') ?_
    refine gset ?_
    repeat' (first | ((with_reducible refine q_s ?_); (first | (refine q_1 ?_; refine q_2 ?_) | (refine q_g ?_; first | refine q_u ?_ | refine q_k ?_ | refine q_v ?_))) | (with_reducible refine q_n ?_))
    refine wpq_call (enters_of Tryz.func37 rfl rfl) rfl rfl (fun w' x' => c3 w' x') ?_
    refine gset ?_
    repeat' (first | ((with_reducible refine q_s ?_); (first | (refine q_1 ?_; refine q_2 ?_) | (refine q_g ?_; first | refine q_u ?_ | refine q_k ?_ | refine q_v ?_))) | (with_reducible refine q_n ?_))
    refine wpq_call (enters_of Tryz.func29 rfl rfl) rfl rfl (fun w' x' => c4 w' x') ?_
    refine gset ?_
    repeat' (first | ((with_reducible refine q_s ?_); (first | (refine q_1 ?_; refine q_2 ?_) | (refine q_g ?_; first | refine q_u ?_ | refine q_k ?_ | refine q_v ?_))) | (with_reducible refine q_n ?_))
    refine wpq_call (enters_of Tryz.func26 rfl rfl) rfl rfl (fun w' _ => z_liveV w') ?_
    refine gset ?_
    repeat' (first | ((with_reducible refine q_s ?_); (first | (refine q_1 ?_; refine q_2 ?_) | (refine q_g ?_; first | refine q_u ?_ | refine q_k ?_ | refine q_v ?_))) | (with_reducible refine q_n ?_))
    intro w18 x18
    repeat' (first | ((with_reducible refine o_s ?_); (first | (refine o_1 ?_; refine o_2 ?_) | (refine o_g ?_; first | refine o_u ?_ | refine o_k ?_ | refine o_n ?_ | refine o_v ?_ | ((first | refine o_G ?_ ?_ | refine o_N ?_ ?_) <;> intro hc)))) | ((fail_if_success (with_reducible refine o_s ?_)); go_step))
    go_ret
    exact ⟨rfl, hx17.trans x18⟩

end Go.Proofs.X
set_option linter.unusedSimpArgs false
set_option linter.unusedVariables false
namespace Go.Proofs.X
open Go.RowKit
set_option maxRecDepth 100000
/-! ### a zone's own records make its sets -/
theorem ahead_lt {a b : RSet} (h : cmpSet a.name b.name a.kind b.kind < 0) : aheadS a b = true := by
  unfold cmpSet cmpI at h
  unfold aheadS
  simp only [Bool.or_eq_true, Bool.and_eq_true, decide_eq_true_eq]
  split at h
  · exact .inl h
  · rename_i h0
    refine .inr ⟨by omega, ?_⟩
    split at h
    · assumption
    · split at h <;> omega
theorem ahead_self {a b : RSet} (hn : a.name = b.name) (hk : a.kind = b.kind) : aheadS a b = false := by
  unfold aheadS
  rw [hn, hk]
  have h := tpo_cmpN.refl b.name
  simp [h]
theorem ahead_key {a b c : RSet} (hn : b.name = c.name) (hk : b.kind = c.kind) : aheadS a b = aheadS a c := by
  unfold aheadS; rw [hn, hk]
theorem may_less {s : RSet} (h : mayS s = true) {i : Nat} (hi : i + 1 < s.data.length) : s.data[i] < s.data[i + 1] := by
  simp only [mayS, Bool.and_eq_true, List.all_eq_true] at h
  have := h.2 (i + 1) (by simpa using hi)
  simp only [badAt, Bool.not_eq_true', Bool.or_eq_false_iff, Bool.and_eq_false_iff, decide_eq_false_iff_not] at this
  have h2 := this.2.resolve_left (by omega)
  have e1 : s.data.getD (i + 1 - 1) [] = s.data[i] := by simp [show i < s.data.length by omega]
  have e2 : s.data.getD (i + 1) [] = s.data[i + 1] := by simp [hi]
  rw [e1, e2] at h2
  exact bless.1 (by simpa using h2)
theorem may_sorted {s : RSet} (h : mayS s = true) (i : Nat) : ∀ j (hij : i < j) (hj : j < s.data.length), s.data[i] < s.data[j]
  | 0, hij, _ => by omega
  | j + 1, hij, hj => by
    have h1 := may_less h hj
    by_cases e : i = j
    · subst e; exact h1
    · exact Std.lt_trans (may_sorted h i j (by omega) (by omega)) h1
theorem textS_end {x : List UInt8} {l : List (List UInt8)} (h : ∀ y ∈ l, y < x) : textS x l = l ++ [x] := by
  have := textS_take (s := x) (l := l) (k := l.length) (by rw [List.take_length]; exact fun y hy => bless.2 (h y hy))
  rw [this, List.take_length, List.drop_length]
  rfl
theorem putS_end {r : Rec} {gs : List RSet} (h : ∀ g ∈ gs, aheadS g (recSet r) = true) (t : List RSet) : putS r (gs ++ t) = gs ++ putS r t := by
  have := putS_take (r := r) (l := gs ++ t) (k := gs.length) (by rw [List.take_left']; exact h; rfl)
  rw [this, List.take_left' rfl, List.drop_left' rfl]
theorem put_one {s : RSet} (hm : mayS s = true) {gs : List RSet} (hg : ∀ g ∈ gs, aheadS g s = true) : ∀ j, j < s.data.length →
    ((s.data.take (j + 1)).map (recOf s)).foldl (fun gs r => putS r gs) gs = gs ++ [⟨s.name, s.kind, s.ttl, s.data.take (j + 1)⟩]
  | 0, hj => by
    have hf := may_fold hm
    have e : s.data.take 1 = [s.data[0]] := by
      rw [List.take_one, List.head?_eq_getElem?, List.getElem?_eq_getElem hj]; rfl
    rw [e]
    simp only [List.map_cons, List.map_nil, List.foldl_cons, List.foldl_nil]
    have hr : recSet (recOf s s.data[0]) = ⟨s.name, s.kind, s.ttl, [s.data[0]]⟩ := by simp [recSet, recOf, hf]
    have hp := putS_end (r := recOf s s.data[0]) (gs := gs) (fun g hg' => by rw [hr]; exact (ahead_key (a := g) (b := ⟨s.name, s.kind, s.ttl, [s.data[0]]⟩) (c := s) rfl rfl).trans (hg g hg')) []
    rw [List.append_nil] at hp
    rw [hp, putS, hr]
  | j + 1, hj => by
    have ih := put_one hm hg j (by omega)
    have hf := may_fold hm
    have e : s.data.take (j + 1 + 1) = s.data.take (j + 1) ++ [s.data[j + 1]] := List.take_succ_eq_append_getElem hj
    rw [e, List.map_append, List.foldl_append, ih]
    simp only [List.map_cons, List.map_nil, List.foldl_cons, List.foldl_nil]
    have hr : recSet (recOf s s.data[j + 1]) = ⟨s.name, s.kind, s.ttl, [s.data[j + 1]]⟩ := by simp [recSet, recOf, hf]
    rw [putS_end (r := recOf s s.data[j + 1]) (gs := gs) (fun g hg' => by rw [hr]; exact (ahead_key (a := g) (b := ⟨s.name, s.kind, s.ttl, [s.data[j + 1]]⟩) (c := s) rfl rfl).trans (hg g hg')), putS, hr]
    have hs1 : ∀ x y : List (List UInt8), aheadS ⟨s.name, s.kind, s.ttl, x⟩ ⟨s.name, s.kind, s.ttl, y⟩ = false := fun x y => ahead_self rfl rfl
    rw [hs1, if_neg (by decide), hs1, if_neg (by decide)]
    have ht : textS (recOf s s.data[j + 1]).data (s.data.take (j + 1)) = s.data.take (j + 1) ++ [s.data[j + 1]] := by
      refine textS_end fun y hy => ?_
      obtain ⟨i, hi, rfl⟩ := List.mem_iff_getElem.1 hy
      rw [List.length_take] at hi
      rw [List.getElem_take]
      exact may_sorted hm i (j + 1) (by omega) hj
    simp only [ht]
    simp [recOf, hf]
theorem put_recs {l : List RSet} (h : checkS l = 0) : ∀ k, k ≤ l.length → putAll (recsP l k) = l.take k
  | 0, _ => by simp [recsP, putAll]
  | k + 1, hk => by
    have hlt : k < l.length := by omega
    have hm := check_may h hlt
    have hl : 1 ≤ l[k].data.length := by
      simp only [mayS, Bool.and_eq_true, decide_eq_true_eq] at hm
      exact hm.1.1.2
    have ih := put_recs h k (by omega)
    rw [recsP_succ hlt, putAll, List.foldl_append]
    rw [putAll] at ih
    rw [ih]
    have := put_one hm (gs := l.take k) (fun g hg => by
      obtain ⟨i, hi, rfl⟩ := List.mem_iff_getElem.1 hg
      rw [List.length_take] at hi
      rw [List.getElem_take]
      exact ahead_lt (check_sorted h i k (by omega) hlt)) (l[k].data.length - 1) (by omega)
    rw [show l[k].data.length - 1 + 1 = l[k].data.length by omega, List.take_length] at this
    rw [recsOf, this, List.take_succ_eq_append_getElem hlt]
theorem put_own {l : List RSet} (h : checkS l = 0) : putAll (recordsS l) = l := by
  have := put_recs h l.length (Nat.le_refl _)
  rwa [recsP_all, List.take_length] at this
theorem mem_records {l : List RSet} {r : Rec} (h : r ∈ recordsS l) : ∃ s ∈ l, ∃ d ∈ s.data, r = recOf s d := by
  simp only [recordsS, List.mem_flatten, List.mem_map] at h
  obtain ⟨rs, ⟨s, hs, rfl⟩, hr⟩ := h
  simp only [recsOf, List.mem_map] at hr
  obtain ⟨d, hd, rfl⟩ := hr
  exact ⟨s, hs, d, hd, rfl⟩
theorem refE_own {l : List RSet} (h : checkS l = 0) : refE (recordsS l) = 0 := by
  have h1 : (recordsS l).all okR = true := by
    rw [List.all_eq_true]
    intro r hr
    obtain ⟨s, hs, d, hd, rfl⟩ := mem_records hr
    obtain ⟨i, hi, rfl⟩ := List.mem_iff_getElem.1 hs
    obtain ⟨j, hj, rfl⟩ := List.mem_iff_getElem.1 hd
    simp only [okR, decide_eq_true_eq]
    exact may_at (check_may h hi) hj
  have h2 : l.length ≤ 200 := by
    unfold checkS at h
    split at h
    · cases h
    · omega
  have h3 : l.any big = false := by
    rw [List.any_eq_false]
    intro s hs
    obtain ⟨i, hi, rfl⟩ := List.mem_iff_getElem.1 hs
    have hm := check_may h hi
    simp only [mayS, Bool.and_eq_true, decide_eq_true_eq] at hm
    have := hm.1.2
    simp [big]
    omega
  unfold refE
  rw [put_own h, h3, if_neg (by rw [h1]; simp), if_neg (by omega), if_neg (by simp)]
theorem ZoneOk.again {o : List UInt8} {l : List RSet} (h : ZoneOk o l) : loadE o (recordsS l) = 0 ∧ loadO o (recordsS l) = o ∧ loadL o (recordsS l) = l := by
  have e : loadE o (recordsS l) = 0 := by
    rw [loadE, if_pos (refE_own h.chk), put_own h.chk, h.fold]
    exact zone_ok' h
  exact ⟨e, by rw [loadO, if_pos e, h.fold], by rw [loadL, if_pos e, put_own h.chk]⟩

end Go.Proofs.X
set_option linter.unusedSimpArgs false
set_option linter.unusedVariables false
namespace Go.Proofs.X
open Go.RowKit
set_option maxRecDepth 100000
theorem meet4 {α β γ : Type} {F G : α → β → γ → World → Prop} {goal : Prop} (h1 : (∀ x y z w', F x y z w' → G x y z w') → goal) (h2 : ∀ x y z w', F x y z w' → G x y z w') : goal := h1 h2
set_option maxHeartbeats 2000000 in
/-- lodestarlaw08.ZoneAgain -/
theorem z11 (o : List UInt8) (v : Value) (l : List RSet) (w : World) (hv : SetsAt w v l) : Calls Tryz.prog 11 #[.agg #[str o, v]] w (Yes w) := by
  go_enter Tryz.func11, Tryz.ntmps11
  repeat' ((fail_if_success (with_reducible refine o_s ?_)); go_step)
  refine wpl_box (vs := [str o, v]) rfl rfl ?_
  intro p w1 x1 hp
  refine gset ?_
  repeat' (first | ((with_reducible refine o_s ?_); (first | (refine o_1 ?_; refine o_2 ?_) | (refine o_g ?_; first | refine o_u ?_ | refine o_k ?_ | refine o_n ?_ | refine o_v ?_ | ((first | refine o_G ?_ ?_ | refine o_N ?_ ?_) <;> intro hc)))) | ((fail_if_success (with_reducible refine o_s ?_)); go_step))
  refine wpl_callV (enters_of Tryz.func30 rfl rfl) rfl rfl (r8_Few o v l _ (hv.ext x1)) ?_; intro w2 x2; refine gset ?_
  have hx2 := x1.trans x2
  have hp2 := hp.ext x2
  have hv2 := hv.ext hx2
  cases hf : (decide ((o.length : Int) ≤ 300) && fewS l) with
  | false =>
    repeat' (first | ((with_reducible refine o_s ?_); (first | (refine o_1 ?_; refine o_2 ?_) | (refine o_g ?_; first | refine o_u ?_ | refine o_k ?_ | refine o_n ?_ | refine o_v ?_ | ((first | refine o_G ?_ ?_ | refine o_N ?_ ?_) <;> intro hc)))) | ((fail_if_success (with_reducible refine o_s ?_)); go_step))
    refine wpl_callV (enters_of Tryz.func26 rfl rfl) rfl rfl (z_liveV _) ?_; intro w3 x3; refine gset ?_
    repeat' (first | ((with_reducible refine o_s ?_); (first | (refine o_1 ?_; refine o_2 ?_) | (refine o_g ?_; first | refine o_u ?_ | refine o_k ?_ | refine o_n ?_ | refine o_v ?_ | ((first | refine o_G ?_ ?_ | refine o_N ?_ ?_) <;> intro hc)))) | ((fail_if_success (with_reducible refine o_s ?_)); go_step))
    go_ret
    exact ⟨rfl, hx2.trans x3⟩
  | true =>
    obtain ⟨b1, b2, b3, _, b5, b6⟩ := fewz hf
    have brec := recs_bound b5
    repeat' (first | ((with_reducible refine o_s ?_); (first | (refine o_1 ?_; refine o_2 ?_) | (refine o_g ?_; first | refine o_u ?_ | refine o_k ?_ | refine o_n ?_ | refine o_v ?_ | ((first | refine o_G ?_ ?_ | refine o_N ?_ ?_) <;> intro hc)))) | ((fail_if_success (with_reducible refine o_s ?_)); go_step))
    refine wpl_callV (enters_of Tryz.func36 rfl rfl) rfl rfl (p_Check o v l _ hv2 b2) ?_; intro w3 x3; refine gset ?_
    have hx3 := hx2.trans x3
    have hp3 := hp2.ext x3
    have hv3 := hv2.ext x3
    by_cases q : zoneR o l = 0
    · obtain ⟨aE, aO, aL⟩ := (zone_ok q).again
      rw [q]
      repeat' (first | ((with_reducible refine o_s ?_); (first | (refine o_1 ?_; refine o_2 ?_) | (refine o_g ?_; first | refine o_u ?_ | refine o_k ?_ | refine o_n ?_ | refine o_v ?_ | ((first | refine o_G ?_ ?_ | refine o_N ?_ ?_) <;> intro hc)))) | ((fail_if_success (with_reducible refine o_s ?_)); go_step))
      have cRec : ∀ w', Ext w3 w' → Calls Tryz.prog 22 #[v] w' (Ret w' fun r w2 => Own w'.heap.size 4 66 w2 r (rcells (recordsS l))) := fun w' x' => t10 v l w' (hv3.ext x') (by omega)
      have cLoad : ∀ u w', Sl 4 w' u (rcells (recordsS l)) → Calls Tryz.prog 27 #[str o, u] w' (Ret w' fun r w2 => ∃ y, r = .tuple #[.agg #[str o, y], .int .i64 0] ∧ SetsO w'.heap.size w2 y l) := fun u w' hu => by
        refine (p_Load o u (recordsS l) w' hu (by omega) (fun r hr => by
          obtain ⟨s, hs, d, hd, rfl⟩ := mem_records hr
          have := b6 s hs d hd
          show d.length ≤ _
          omega)).mono ?_
        rintro e w2 ⟨r, h1, h2, y, h3, h4⟩
        rw [aE, aO] at h3
        rw [aL] at h4
        exact ⟨r, h1, h2, y, h3, h4⟩
      clear brec
      apply meet4 (F := fun (u : Value) (y : Value) (b : Nat) w' => Ext w3 w' ∧ w3.heap.size ≤ b ∧ w'.heap[b]? = some (.cells zzone.toArray 43 (0, 0)) ∧ y.oneCell' = true ∧ ∀ w2 o2, Put w' w2 b o2 → SetsAt w2 y l)
      · intro hG
        refine wph_region (S := fun w' => Ext w3 w') (by decide +kernel) ?_
        intro w4 x4 _
        refine tk 0 ?_; refine gset ?_; refine tk 1 ?_; refine gset ?_; refine tk 2 ?_; refine gset ?_; refine tk 3 ?_; refine gset ?_
        refine wph_two (i := 4) (j := 9) (by decide +kernel) rfl rfl rfl ?_ ?_
        · refine wpl_callR (enters_of Tryz.func22 rfl rfl) rfl rfl (cRec _ x4) ?_
          intro u w5 x5 hu
          refine gset ?_
          have x35 := x4.trans x5
          refine wph_nil ⟨x35, ?_⟩
          refine wph_two (i := 5) (j := 9) (by decide +kernel) rfl rfl rfl ?_ ?_
          · refine wpl_callR (enters_of Tryz.func27 rfl rfl) rfl rfl (cLoad u _ hu.sl) ?_
            intro r6 w6 x6 hr6
            obtain ⟨y, rfl, hy⟩ := hr6
            have hy := hy.sets
            have hy1 : y.oneCell' = true := by obtain ⟨css, h, _⟩ := hy; exact h.one
            refine gset ?_
            have x36 := x35.trans x6
            refine wph_nil ⟨x36, ?_⟩
            refine tk 6 ?_; refine gset ?_; refine tk 7 ?_; refine gset ?_; refine tk 8 ?_; refine gset ?_
            refine wph_one (i := 9) (by decide +kernel) rfl rfl ?_
            refine wpl_allocB (z := zzone) rfl (by decide +kernel) ?_
            intro w7 x7 s7 h7
            refine gset ?_
            refine wph_nil ⟨x36.trans x7, ?_⟩
            have hP : ∀ w2 o2, Put w7 w2 w6.heap.size o2 → SetsAt w2 y l := fun w2 o2 p2 => hy.ext (x7.move p2.mv (by rintro k ⟨⟩; exact Nat.le_refl _))
            have hb := x36.size
            generalize w6.heap.size = b at *
            exact hG u y b _ ⟨x36.trans x7, hb, h7, hy1, hP⟩
          · refine wpl_allocB (z := zzone) rfl (by decide +kernel) ?_
            intro w6 x6 s6 h6
            refine gset ?_
            have x36 := x35.trans x6
            refine wph_nil ⟨x36, ?_⟩
            refine wph_one (i := 5) (by decide +kernel) rfl rfl ?_
            refine wpl_callR (enters_of Tryz.func27 rfl rfl) rfl rfl (cLoad u _ (hu.sl.ext x6)) ?_
            intro r7 w7 x7 hr7
            obtain ⟨y, rfl, hy⟩ := hr7
            have hy1 : y.oneCell' = true := by obtain ⟨css, h, _⟩ := hy.sets; exact h.one
            refine gset ?_
            have x37 := x36.trans x7
            refine wph_nil ⟨x37, ?_⟩
            refine tk 6 ?_; refine gset ?_; refine tk 7 ?_; refine gset ?_; refine tk 8 ?_; refine gset ?_
            have hP : ∀ w2 o2, Put w7 w2 w5.heap.size o2 → SetsAt w2 y l := fun w2 o2 p2 => (hy.put p2 (by omega)).sets
            have h7 := x7.at h6
            have hb := x35.size
            generalize w5.heap.size = b at *
            exact hG u y b _ ⟨x37, hb, h7, hy1, hP⟩
        · refine wpl_allocB (z := zzone) rfl (by decide +kernel) ?_
          intro w5 x5 s5 h5
          refine gset ?_
          have x35 := x4.trans x5
          refine wph_nil ⟨x35, ?_⟩
          refine wph_one (i := 4) (by decide +kernel) rfl rfl ?_
          refine wpl_callR (enters_of Tryz.func22 rfl rfl) rfl rfl (cRec _ x35) ?_
          intro u w6 x6 hu
          refine gset ?_
          have x36 := x35.trans x6
          refine wph_nil ⟨x36, ?_⟩
          refine wph_one (i := 5) (by decide +kernel) rfl rfl ?_
          refine wpl_callR (enters_of Tryz.func27 rfl rfl) rfl rfl (cLoad u _ hu.sl) ?_
          intro r7 w7 x7 hr7
          obtain ⟨y, rfl, hy⟩ := hr7
          have hy1 : y.oneCell' = true := by obtain ⟨css, h, _⟩ := hy.sets; exact h.one
          refine gset ?_
          have x37 := x36.trans x7
          refine wph_nil ⟨x37, ?_⟩
          refine tk 6 ?_; refine gset ?_; refine tk 7 ?_; refine gset ?_; refine tk 8 ?_; refine gset ?_
          have hP : ∀ w2 o2, Put w7 w2 w4.heap.size o2 → SetsAt w2 y l := fun w2 o2 p2 => (hy.put p2 (by have := x6.size; omega)).sets
          have h7 := (x6.trans x7).at h5
          have hb := x4.size
          generalize w4.heap.size = b at *
          exact hG u y b _ ⟨x37, hb, h7, hy1, hP⟩
      · rintro u y b w5 ⟨x5, hb, h5, hy1, hP⟩
        refine wph_one (i := 10) (by decide +kernel) rfl rfl ?_
        refine wpl_storeB (v := .agg #[str o, y]) rfl rfl rfl h5 (show sizeTy Tryz.prog 43 2 = true by decide +kernel) rfl (zone_one hy1) ?_
        intro w6 p6
        have x36 : Ext w3 w6 := x5.move p6.mv (by rintro k ⟨⟩; exact hb)
        have hy6 := hP _ _ p6
        have hq6 := pts_block (cs := [str o, y]) p6.this
        have hp6 := hp3.ext x36
        have hv6 := hv3.ext x36
        clear p6 h5 hP
        refine wph_nil ⟨x36, ?_⟩
        refine tk 11 ?_; refine gset ?_
        refine wph_done (by decide +kernel) ?_
        have c1 := same_true (o := o) (o' := o) hy6 hv6 rfl rfl
        repeat' (first | ((with_reducible refine o_s ?_); (first | (refine o_1 ?_; refine o_2 ?_) | (refine o_g ?_; first | refine o_u ?_ | refine o_k ?_ | refine o_n ?_ | refine o_v ?_ | ((first | refine o_G ?_ ?_ | refine o_N ?_ ?_) <;> intro hc)))) | ((fail_if_success (with_reducible refine o_s ?_)); go_step))
        refine wpl_callV (enters_of Tryz.func29 rfl rfl) rfl rfl (c1) ?_; intro w7 x7; refine gset ?_
        repeat' (first | ((with_reducible refine o_s ?_); (first | (refine o_1 ?_; refine o_2 ?_) | (refine o_g ?_; first | refine o_u ?_ | refine o_k ?_ | refine o_n ?_ | refine o_v ?_ | ((first | refine o_G ?_ ?_ | refine o_N ?_ ?_) <;> intro hc)))) | ((fail_if_success (with_reducible refine o_s ?_)); go_step))
        refine wpl_callV (enters_of Tryz.func26 rfl rfl) rfl rfl (z_liveV _) ?_; intro w8 x8; refine gset ?_
        repeat' (first | ((with_reducible refine o_s ?_); (first | (refine o_1 ?_; refine o_2 ?_) | (refine o_g ?_; first | refine o_u ?_ | refine o_k ?_ | refine o_n ?_ | refine o_v ?_ | ((first | refine o_G ?_ ?_ | refine o_N ?_ ?_) <;> intro hc)))) | ((fail_if_success (with_reducible refine o_s ?_)); go_step))
        go_ret
        exact ⟨rfl, ((hx3.trans x36).trans x7).trans x8⟩
    · repeat' (first | ((with_reducible refine o_s ?_); (first | (refine o_1 ?_; refine o_2 ?_) | (refine o_g ?_; first | refine o_u ?_ | refine o_k ?_ | refine o_n ?_ | refine o_v ?_ | ((first | refine o_G ?_ ?_ | refine o_N ?_ ?_) <;> intro hc)))) | ((fail_if_success (with_reducible refine o_s ?_)); go_step))
      · refine wpl_callV (enters_of Tryz.func26 rfl rfl) rfl rfl (z_liveV _) ?_; intro w4 x4; refine gset ?_
        repeat' (first | ((with_reducible refine o_s ?_); (first | (refine o_1 ?_; refine o_2 ?_) | (refine o_g ?_; first | refine o_u ?_ | refine o_k ?_ | refine o_n ?_ | refine o_v ?_ | ((first | refine o_G ?_ ?_ | refine o_N ?_ ?_) <;> intro hc)))) | ((fail_if_success (with_reducible refine o_s ?_)); go_step))
        go_ret
        exact ⟨rfl, hx3.trans x4⟩
      · exact absurd (by assumption : (!decide (zoneR o l = 0)) = false) (by simp [q])

end Go.Proofs.X
set_option linter.unusedSimpArgs false
set_option linter.unusedVariables false
namespace Go.Proofs.X
open Go.RowKit
set_option maxRecDepth 100000
open Go.ChangeShapes Go.WideShapes Go.ChangeAt Go.RowKit
theorem own : ownKnob Tryz.prog.godebug = none := by kernel_rfl
theorem laidOut : laidOutB Tryz.prog = true := by kernel_rfl
/-- a slice of records that came in -/
theorem open_recs {H : Type} {enc : TypeId × Value → H} {w : World} {base : Nat} {spare : Nat → Bool} {held : Bool} {fuel : Nat} {v : Value} {x : DataW H × List MemPlace} (h : DataW.trod enc Tryz.prog w base spare held fuel 22 [v] = some x) : ∃ l : List Rec, Sl 4 w v (rcells l) := by
  obtain ⟨es, hs, he⟩ := open_rows Tryz.underlying22 (show Tryz.prog.cellsOf 66 = 4 by kernel_rfl) (by omega) h
  obtain ⟨l, rfl⟩ : ∃ l : List Rec, es = l.map Rec.cells := by
    refine all_map fun c hc => ?_
    obtain ⟨n, y, hy⟩ := he c hc
    obtain ⟨xs, n', _, _, hl, hxl, hf⟩ := DataW.trod_struct Tryz.underlying66 hy
    have c30 : Tryz.prog.cellsOf 31 = 1 := by kernel_rfl
    have c3 : Tryz.prog.cellsOf 3 = 1 := by kernel_rfl
    have c9 : Tryz.prog.cellsOf 9 = 1 := by kernel_rfl
    have c32 : Tryz.prog.cellsOf 66 = 4 := by kernel_rfl
    rw [c32] at hl
    match c, hl, xs, hxl with
    | [a, b, d, e], _, [y0, y1, y2, y3], _ =>
      have g0 := hf 0 _ rfl
      have g1 := hf 1 _ rfl
      have g2 := hf 2 _ rfl
      have g3 := hf 3 _ rfl
      simp [c30, c3, c9] at g0 g1 g2 g3
      obtain ⟨s0, rfl, _⟩ := trod_str Tryz.underlying31 g0
      obtain ⟨n1, rfl, _⟩ := trod_num Tryz.underlying3 g1
      obtain ⟨n2, rfl, _⟩ := trod_num Tryz.underlying3 g2
      obtain ⟨s3, rfl, _⟩ := trod_str Tryz.underlying9 g3
      exact ⟨⟨s0, n1, n2, s3⟩, rfl⟩
  exact ⟨l, hs⟩

end Go.Proofs.X
set_option linter.unusedSimpArgs false
set_option linter.unusedVariables false
namespace Go.Proofs.X
open Go.RowKit
set_option maxRecDepth 100000
open Go.ChangeShapes Go.WideShapes Go.ChangeAt Go.RowKit
/-- a slice of texts that came in -/
theorem open_texts {H : Type} {enc : TypeId × Value → H} {w : World} {base : Nat} {spare : Nat → Bool} {held : Bool} {fuel : Nat} {v : Value} {x : DataW H × List MemPlace} (h : DataW.trod enc Tryz.prog w base spare held fuel 33 [v] = some x) : ∃ l : List (List UInt8), Sl 1 w v (tcells l) := by
  obtain ⟨es, hs, he⟩ := open_rows Tryz.underlying33 (show Tryz.prog.cellsOf 9 = 1 by kernel_rfl) (by omega) h
  obtain ⟨l, rfl⟩ : ∃ l : List (List UInt8), es = l.map fun s => [str s] := by
    refine all_map fun c hc => ?_
    obtain ⟨n, y, hy⟩ := he c hc
    have hl : c.length = 1 := by
      obtain ⟨_, _, _, _, _, h4, _, _⟩ := hs
      exact h4 c hc
    match c, hl with
    | [a], _ =>
      obtain ⟨s, rfl, _⟩ := trod_str Tryz.underlying9 hy
      exact ⟨s, rfl⟩
  exact ⟨l, hs⟩
/-- a slice of sets that came in -/
theorem open_sets {H : Type} {enc : TypeId × Value → H} {w : World} {base : Nat} {spare : Nat → Bool} {held : Bool} {fuel : Nat} {v : Value} {x : DataW H × List MemPlace} (h : DataW.trod enc Tryz.prog w base spare held fuel 25 [v] = some x) : ∃ l : List RSet, SetsAt w v l := by
  obtain ⟨es, hs, he⟩ := open_rows Tryz.underlying25 (show Tryz.prog.cellsOf 35 = 4 by kernel_rfl) (by omega) h
  obtain ⟨l, rfl⟩ : ∃ l : List {p : RSet × Value // Sl 1 w p.2 (tcells p.1.data)}, es = l.map fun p => [str p.1.1.name, .int .i64 p.1.1.kind, .int .i64 p.1.1.ttl, p.1.2] := by
    refine all_map fun c hc => ?_
    obtain ⟨n, y, hy⟩ := he c hc
    obtain ⟨xs, n', _, _, hl, hxl, hf⟩ := DataW.trod_struct Tryz.underlying35 hy
    have c30 : Tryz.prog.cellsOf 31 = 1 := by kernel_rfl
    have c3 : Tryz.prog.cellsOf 3 = 1 := by kernel_rfl
    have c35 : Tryz.prog.cellsOf 33 = 1 := by kernel_rfl
    have c37 : Tryz.prog.cellsOf 35 = 4 := by kernel_rfl
    rw [c37] at hl
    match c, hl, xs, hxl with
    | [a, b, d, e], _, [y0, y1, y2, y3], _ =>
      have g0 := hf 0 _ rfl
      have g1 := hf 1 _ rfl
      have g2 := hf 2 _ rfl
      have g3 := hf 3 _ rfl
      simp [c30, c3, c35] at g0 g1 g2 g3
      obtain ⟨s0, rfl, _⟩ := trod_str Tryz.underlying31 g0
      obtain ⟨n1, rfl, _⟩ := trod_num Tryz.underlying3 g1
      obtain ⟨n2, rfl, _⟩ := trod_num Tryz.underlying3 g2
      obtain ⟨ts, hts⟩ := open_texts g3
      exact ⟨⟨(⟨s0, n1, n2, ts⟩, e), hts⟩, rfl⟩
  refine ⟨l.map fun p => p.1.1, _, hs, by simp, ?_⟩
  intro i s hi
  rw [List.getElem?_map] at hi
  obtain ⟨p, hp, rfl⟩ := Option.map_eq_some_iff.1 hi
  exact ⟨p.1.2, by rw [List.getElem?_map, hp]; rfl, p.2⟩

end Go.Proofs.X
set_option linter.unusedSimpArgs false
set_option linter.unusedVariables false
namespace Go.Proofs.X
open Go.RowKit
set_option maxRecDepth 100000
open Go.ChangeShapes Go.WideShapes Go.ChangeAt Go.RowKit
/-- a zone that came in -/
theorem open_zone {H : Type} {enc : TypeId × Value → H} {w : World} {base : Nat} {spare : Nat → Bool} {held : Bool} {fuel : Nat} {c : Array Value} {x : DataW H × List MemPlace} (h : DataW.trod enc Tryz.prog w base spare held fuel 43 (Value.agg c).cells.toList = some x) : ∃ (o : List UInt8) (l : List RSet) (u : Value), c = #[str o, u] ∧ SetsAt w u l := by
  have e : (Value.agg c).cells.toList = c.toList := rfl
  rw [e] at h
  obtain ⟨xs, n', _, _, hl, hxl, hf⟩ := DataW.trod_struct Tryz.underlying43 h
  have c30 : Tryz.prog.cellsOf 31 = 1 := by kernel_rfl
  have c25 : Tryz.prog.cellsOf 25 = 1 := by kernel_rfl
  have c43 : Tryz.prog.cellsOf 43 = 2 := by kernel_rfl
  rw [c43] at hl
  obtain ⟨cl⟩ := c
  match cl, hl, xs, hxl with
  | [a, b], _, [y0, y1], _ =>
    have g0 := hf 0 _ rfl
    have g1 := hf 1 _ rfl
    simp [c30, c25] at g0 g1
    obtain ⟨s0, rfl, _⟩ := trod_str Tryz.underlying31 g0
    obtain ⟨l, hls⟩ := open_sets g1
    exact ⟨s0, l, b, rfl, hls⟩

end Go.Proofs.X
set_option linter.unusedSimpArgs false
set_option linter.unusedVariables false
namespace Go.Proofs.X
open Go.RowKit
set_option maxRecDepth 100000
open Go.ChangeShapes Go.WideShapes Go.ChangeAt Go.RowKit
set_option maxRecDepth 100000 in
theorem zoneAgain_lifted (os : Os) (started : os.Started) (H : Type) (enc : TypeId × Value → H) :
    ReturnsInHanded {} Tryz.checked os 11 .any (YtfgkdjkegifpgaaGreat.Rows.zoneAgainSpec.pre6 enc Tryz.prog Tryz.f11 YtfgkdjkegifpgaaGreat.Rows.zoneAgainRow.domain false) (YtfgkdjkegifpgaaGreat.Rows.zoneAgainSpec.post enc Tryz.prog Tryz.f11 false true false false) := by
  refine returnsInHanded_of_change (C := Tryz.checked) own started (by kernel_rfl) Tryz.func11
    (ChangeSpec.witness6 (enc := enc) (C := Tryz.checked) false ⟨#[], #[.agg #[str [], .slice none 0 0]], []⟩ 8 (by kernel_rfl) (by kernel_rfl) (by kernel_rfl) (by kernel_rfl)) ?_
  intro W base args ds gs before hval0 hW hcnd _
  have hW' := hW
  obtain ⟨p, q, hA0, hV, rfl, hfz, hnd⟩ := hW
  have hA : DataW.TrodAll enc Tryz.prog W 0 (fun _ => true) true Tryz.f11.params.toList args.toList ds p := hA0
  have hval : ∀ (j : Nat) t v, Tryz.f11.params[j]? = some t → args[j]? = some v → Value.okWide Tryz.prog W .any base t v := hval0
  rw [Tryz.params11] at hA hval
  obtain ⟨v0, vs0, d0, ds0, p0, q0, hargs, rfl, rfl, h0, r0⟩ := trodAll_cons hA
  obtain ⟨rfl, rfl, rfl⟩ := trodAll_nil r0
  obtain rfl : args = #[v0] := by cases args; simp_all
  obtain ⟨rfl, rfl⟩ := trodVars_none hV
  have k0 := h0
  have lt0 : ∀ x ∈ p0, x.block < W.heap.size := by obtain ⟨m, hm⟩ := k0; exact DataW.trod_lt m _ _ _ hm
  obtain ⟨c0, rfl, z0⟩ := okWide_struct Tryz.underlying43 (hval 0 43 v0 rfl rfl)
  obtain ⟨o0, l0, w0, e0, g0⟩ : ∃ (o : List UInt8) (l : List RSet) (u : Value), c0 = #[str o, u] ∧ SetsAt W u l := by
    obtain ⟨fuel, hf⟩ := h0
    exact open_zone hf
  subst e0
  clear hA0 hval0
  have h9 := z11 o0 w0 l0 W g0
  refine h9.mono fun e W' ⟨he, hx⟩ => ?_
  subst he
  have bel := hx.below
  exact ⟨_, rfl, _, _, _, [], _, [], hW', trodAll_mk1 (shut_bool Tryz.underlying4 _), (trodAll_cons_mk (Below.trod laidOut (by kernel_rfl) (of_decide_eq_true (by kernel_rfl)) k0 bel lt0) trodAll_mk0), rfl, bel.frame _, fun h => by cases h⟩
theorem zoneAgain_holds : YtfgkdjkegifpgaaGreat.Rows.ZoneAgainSaid :=
  OpenClaim.holds_of_wide 11 Tryz.f11 rfl rfl rfl rfl rfl rfl rfl ⟨rfl, rfl, rfl, rfl, rfl⟩ rfl rfl rfl rfl rfl (by kernel_rfl) Tryz.func11 (by kernel_rfl)
    (of_decide_eq_true (by kernel_rfl)) (by unfold Func.isWrapper; first | (rw [if_pos (by decide +kernel)]; kernel_rfl) | (rw [if_neg (by decide +kernel)]; exact ⟨rfl, rfl⟩))
    (fun os started H enc _ => zoneAgain_lifted os started H enc)

end Go.Proofs.X
