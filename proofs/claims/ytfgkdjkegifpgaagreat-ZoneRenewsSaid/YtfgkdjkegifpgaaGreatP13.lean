/- Laws and walks that the proof of the statement is made of (part 13). -/
import Derived.Test.YtfgkdjkegifpgaaGreatProg
import Derived.Test.YtfgkdjkegifpgaaGreatRows
import Derived.WalkKit
import Derived.ProofKit
import Derived.OpenShut
import Derived.ShutString
import Derived.ChangeOld
import Derived.Below
import Derived.Test.YtfgkdjkegifpgaaGreatP2
import Derived.Test.YtfgkdjkegifpgaaGreatP8
import Derived.Test.YtfgkdjkegifpgaaGreatP9
import Derived.Test.YtfgkdjkegifpgaaGreatP10
import Derived.Test.YtfgkdjkegifpgaaGreatP12
set_option linter.unusedSimpArgs false
set_option linter.unusedVariables false
namespace Go.Proofs.X
open Go.RowKit
set_option maxRecDepth 100000
set_option maxHeartbeats 4000000 in
/-- lodestarlaw08.live -/
theorem z_live (w : World) : Calls Tryz.prog 26 #[] w (Yes w) := by
  go_enter Tryz.func26, Tryz.ntmps26
  repeat' (first | ((with_reducible refine o_s ?_); (first | (refine o_1 ?_; refine o_2 ?_) | (refine o_g ?_; first | refine o_u ?_ | refine o_k ?_ | refine o_n ?_ | refine o_v ?_ | ((first | refine o_G ?_ ?_ | refine o_N ?_ ?_) <;> intro hc)))) | ((fail_if_success (with_reducible refine o_s ?_)); go_step))
  refine wpl_callR (enters_of Tryz.func61 rfl rfl) rfl rfl (p_Simple _) ?_
  intro v1 w1 x1 hv1
  refine gset ?_
  repeat' (first | ((with_reducible refine o_s ?_); (first | (refine o_1 ?_; refine o_2 ?_) | (refine o_g ?_; first | refine o_u ?_ | refine o_k ?_ | refine o_n ?_ | refine o_v ?_ | ((first | refine o_G ?_ ?_ | refine o_N ?_ ?_) <;> intro hc)))) | ((fail_if_success (with_reducible refine o_s ?_)); go_step))
  refine wpl_callR (enters_of Tryz.func27 rfl rfl) rfl rfl (p_Load [1, 65] v1 simR _ hv1 (by decide) sim_r) ?_
  intro r2 w2 x2 hr2
  obtain ⟨z, rfl, hz⟩ := hr2
  rw [sim_E, sim_O]
  rw [sim_L] at hz
  have hz := hz.sets
  have hz1 : z.oneCell' = true := by obtain ⟨css, h, _⟩ := hz; exact h.one
  have hx2 := x1.trans x2
  refine gset ?_
  repeat' (first | ((with_reducible refine o_s ?_); (first | (refine o_1 ?_; refine o_2 ?_) | (refine o_g ?_; first | refine o_u ?_ | refine o_k ?_ | refine o_n ?_ | refine o_v ?_ | ((first | refine o_G ?_ ?_ | refine o_N ?_ ?_) <;> intro hc)))) | ((fail_if_success (with_reducible refine o_s ?_)); go_step))
  refine wpl_allocB (z := zzone) rfl (by decide +kernel) ?_
  intro w3 x3 s3 h3
  refine gset ?_
  refine wpl_storeB (v := .agg #[str [1, 97], z]) rfl rfl rfl h3 (show sizeTy Tryz.prog 43 2 = true by decide +kernel) rfl (zone_one hz1) ?_
  intro w4 p4
  have x4 : Ext w2 w4 := x3.move p4.mv (by rintro k ⟨⟩; exact Nat.le_refl _)
  have hp4 := pts_block (cs := [str [1, 97], z]) p4.this
  have hz4 := hz.ext x4
  have hx4 := hx2.trans x4
  clear p4 h3 x3
  repeat' (first | ((with_reducible refine o_s ?_); (first | (refine o_1 ?_; refine o_2 ?_) | (refine o_g ?_; first | refine o_u ?_ | refine o_k ?_ | refine o_n ?_ | refine o_v ?_ | ((first | refine o_G ?_ ?_ | refine o_N ?_ ?_) <;> intro hc)))) | ((fail_if_success (with_reducible refine o_s ?_)); go_step))
  refine wpl_callR (enters_of Tryz.func61 rfl rfl) rfl rfl (p_Simple _) ?_
  intro v5 w5 x5 hv5
  have hl5 : (rcells simR).length = 3 := rfl
  refine gset ?_
  repeat' (first | ((with_reducible refine o_s ?_); (first | (refine o_1 ?_; refine o_2 ?_) | (refine o_g ?_; first | refine o_u ?_ | refine o_k ?_ | refine o_n ?_ | refine o_v ?_ | ((first | refine o_G ?_ ?_ | refine o_N ?_ ?_) <;> intro hc)))) | ((fail_if_success (with_reducible refine o_s ?_)); go_step))
  have hcut := hv5.cut (m := 0) (n := 1) (Nat.zero_le _) (by decide)
  refine wpl_callR (enters_of Tryz.func27 rfl rfl) rfl rfl (p_Load [1, 97] _ (simR.take 1) _ hcut (by decide) (fun r hr => sim_r r (List.mem_of_mem_take hr))) ?_
  intro r6 w6 x6 hr6
  obtain ⟨y6, rfl, hy6⟩ := hr6
  rw [sim_E1]
  have hy61 : y6.oneCell' = true := by obtain ⟨css, h, _⟩ := hy6.sets; exact h.one
  have x46 := x5.trans x6
  refine gset ?_
  repeat' (first | ((with_reducible refine o_s ?_); (first | (refine o_1 ?_; refine o_2 ?_) | (refine o_g ?_; first | refine o_u ?_ | refine o_k ?_ | refine o_n ?_ | refine o_v ?_ | ((first | refine o_G ?_ ?_ | refine o_N ?_ ?_) <;> intro hc)))) | ((fail_if_success (with_reducible refine o_s ?_)); go_step))
  refine wpl_allocB (z := zzone) rfl (by decide +kernel) ?_
  intro w7 x7 s7 h7
  refine gset ?_
  refine wpl_storeB (v := .agg #[str (loadO [1, 97] (simR.take 1)), y6]) rfl rfl rfl h7 (show sizeTy Tryz.prog 43 2 = true by decide +kernel) rfl (zone_one hy61) ?_
  intro w8 p8
  have x8 : Ext w6 w8 := x7.move p8.mv (by rintro k ⟨⟩; exact Nat.le_refl _)
  have x48 := x46.trans x8
  have hp8 := hp4.ext x48
  have hz8 := hz4.ext x48
  have hx8 := hx4.trans x48
  clear p8 h7 x7 hp4 hz4 hz
  repeat' (first | ((with_reducible refine o_s ?_); (first | (refine o_1 ?_; refine o_2 ?_) | (refine o_g ?_; first | refine o_u ?_ | refine o_k ?_ | refine o_n ?_ | refine o_v ?_ | ((first | refine o_G ?_ ?_ | refine o_N ?_ ?_) <;> intro hc)))) | ((fail_if_success (with_reducible refine o_s ?_)); go_step))
  refine wpl_callV (enters_of Tryz.func32 rfl rfl) rfl rfl (p_Soa [1, 97] z simZ _ hz8 sim_b sim_d) ?_; intro w9 x9; refine gset ?_
  rw [sim_soa, sim_Z]
  repeat' (first | ((with_reducible refine o_s ?_); (first | (refine o_1 ?_; refine o_2 ?_) | (refine o_g ?_; first | refine o_u ?_ | refine o_k ?_ | refine o_n ?_ | refine o_v ?_ | ((first | refine o_G ?_ ?_ | refine o_N ?_ ?_) <;> intro hc)))) | ((fail_if_success (with_reducible refine o_s ?_)); go_step))
  refine wpl_allocB (z := zeroSoa) rfl (by decide +kernel) ?_
  intro w10 x10 s10 h10
  refine gset ?_
  refine wpl_storeB (v := .agg (SoaR.cells ⟨[2, 110, 115, 1, 97], [1, 109], 5, 10, 3, 100, 4⟩).toArray) rfl rfl rfl h10 (show sizeTy Tryz.prog 51 7 = true by decide +kernel) rfl (soaR_one _) ?_
  intro w11 p11
  have x11 : Ext w9 w11 := x10.move p11.mv (by rintro k ⟨⟩; exact Nat.le_refl _)
  have hs11 := pts_block (cs := [str [2, 110, 115, 1, 97], str [1, 109], .int .i64 5, .int .i64 10, .int .i64 3, .int .i64 100, .int .i64 4]) p11.this
  have x8b := x9.trans x11
  have hp11 := hp8.ext x8b
  have hz11 := hz8.ext x8b
  have hx11 := hx8.trans x8b
  clear p11 h10 x10 hp8 hz8
  repeat' (first | ((with_reducible refine o_s ?_); (first | (refine o_1 ?_; refine o_2 ?_) | (refine o_g ?_; first | refine o_u ?_ | refine o_k ?_ | refine o_n ?_ | refine o_v ?_ | ((first | refine o_G ?_ ?_ | refine o_N ?_ ?_) <;> intro hc)))) | ((fail_if_success (with_reducible refine o_s ?_)); go_step))
  refine wpl_callR (enters_of Tryz.func34 rfl rfl) rfl rfl (p_Renew [1, 97] z simZ 6 _ hz11 (by decide) sim_b sim_d) ?_
  intro r12 w12 x12 hr12
  obtain ⟨y, rfl, hy⟩ := hr12
  rw [sim_renE, sim_renO]
  rw [sim_renL] at hy
  have hy := hy.sets
  have hy1 : y.oneCell' = true := by obtain ⟨css, h, _⟩ := hy; exact h.one
  refine gset ?_
  repeat' (first | ((with_reducible refine o_s ?_); (first | (refine o_1 ?_; refine o_2 ?_) | (refine o_g ?_; first | refine o_u ?_ | refine o_k ?_ | refine o_n ?_ | refine o_v ?_ | ((first | refine o_G ?_ ?_ | refine o_N ?_ ?_) <;> intro hc)))) | ((fail_if_success (with_reducible refine o_s ?_)); go_step))
  refine wpl_allocB (z := zzone) rfl (by decide +kernel) ?_
  intro w13 x13 s13 h13
  refine gset ?_
  refine wpl_storeB (v := .agg #[str [1, 97], y]) rfl rfl rfl h13 (show sizeTy Tryz.prog 43 2 = true by decide +kernel) rfl (zone_one hy1) ?_
  intro w14 p14
  have x14 : Ext w12 w14 := x13.move p14.mv (by rintro k ⟨⟩; exact Nat.le_refl _)
  have hq14 := pts_block (cs := [str [1, 97], y]) p14.this
  have x11b := x12.trans x14
  have hy14 := hy.ext x14
  have hs14 := hs11.ext x11b
  have hp14 := hp11.ext x11b
  have hz14 := hz11.ext x11b
  have hx14 := hx11.trans x11b
  clear p14 h13 x13 hp11 hz11 hs11 hy
  repeat' (first | ((with_reducible refine o_s ?_); (first | (refine o_1 ?_; refine o_2 ?_) | (refine o_g ?_; first | refine o_u ?_ | refine o_k ?_ | refine o_n ?_ | refine o_v ?_ | ((first | refine o_G ?_ ?_ | refine o_N ?_ ?_) <;> intro hc)))) | ((fail_if_success (with_reducible refine o_s ?_)); go_step))
  refine wpl_callV (enters_of Tryz.func32 rfl rfl) rfl rfl (p_Soa [1, 97] y simY _ hy14 sim_b2 sim_d2) ?_; intro w15 x15; refine gset ?_
  rw [sim_soaY, sim_Y]
  repeat' (first | ((with_reducible refine o_s ?_); (first | (refine o_1 ?_; refine o_2 ?_) | (refine o_g ?_; first | refine o_u ?_ | refine o_k ?_ | refine o_n ?_ | refine o_v ?_ | ((first | refine o_G ?_ ?_ | refine o_N ?_ ?_) <;> intro hc)))) | ((fail_if_success (with_reducible refine o_s ?_)); go_step))
  refine wpl_allocB (z := zeroSoa) rfl (by decide +kernel) ?_
  intro w16 x16 s16 h16
  refine gset ?_
  refine wpl_storeB (v := .agg (SoaR.cells ⟨[2, 110, 115, 1, 97], [1, 109], 6, 10, 3, 100, 4⟩).toArray) rfl rfl rfl h16 (show sizeTy Tryz.prog 51 7 = true by decide +kernel) rfl (soaR_one _) ?_
  intro w17 p17
  have x17 : Ext w15 w17 := x16.move p17.mv (by rintro k ⟨⟩; exact Nat.le_refl _)
  have ht17 := pts_block (cs := [str [2, 110, 115, 1, 97], str [1, 109], .int .i64 6, .int .i64 10, .int .i64 3, .int .i64 100, .int .i64 4]) p17.this
  have x14b := x15.trans x17
  have hs17 := hs14.ext x14b
  have hp17 := hp14.ext x14b
  have hz17 := hz14.ext x14b
  have hx17 := hx14.trans x14b
  clear p17 h16 x16 hp14 hz14 hs14 hq14 hy14
  repeat' (first | ((with_reducible refine o_s ?_); (first | (refine o_1 ?_; refine o_2 ?_) | (refine o_g ?_; first | refine o_u ?_ | refine o_k ?_ | refine o_n ?_ | refine o_v ?_ | ((first | refine o_G ?_ ?_ | refine o_N ?_ ?_) <;> intro hc)))) | ((fail_if_success (with_reducible refine o_s ?_)); go_step))
  refine wpl_callV (enters_of Tryz.func38 rfl rfl) rfl rfl (p_Cut [1, 97] z simZ [2, 110, 115, 1, 97] _ hz17 sim_b) ?_; intro w18 x18; refine gset ?_
  rw [sim_Z, sim_cut, if_pos rfl]
  have hs18 := hs17.ext x18
  have ht18 := ht17.ext x18
  have hp18 := hp17.ext x18
  have hz18 := hz17.ext x18
  have hx18 := hx17.trans x18
  clear hs17 ht17 hp17 hz17
  repeat' (first | ((with_reducible refine o_s ?_); (first | (refine o_1 ?_; refine o_2 ?_) | (refine o_g ?_; first | refine o_u ?_ | refine o_k ?_ | refine o_n ?_ | refine o_v ?_ | ((first | refine o_G ?_ ?_ | refine o_N ?_ ?_) <;> intro hc)))) | ((fail_if_success (with_reducible refine o_s ?_)); go_step))
  have e1 : (decide (zoneR [1, 97] simZ = 0) && thereS [1, 97] simZ [2, 78, 83, 1, 97]) = true := by rw [sim_Z, sim_is]; rfl
  have e2 : (decide (zoneR [1, 97] simZ = 0) && thereS [1, 97] simZ [1, 120, 1, 97]) = false := by rw [sim_no]; simp
  refine wpl_callV (enters_of Tryz.func40 rfl rfl) rfl rfl (p_Exists [1, 97] z simZ [2, 78, 83, 1, 97] _ hz18 sim_b) ?_; intro w19 x19; refine gset ?_
  rw [e1]
  have hp19 := hp18.ext x19
  have hz19 := hz18.ext x19
  repeat' (first | ((with_reducible refine o_s ?_); (first | (refine o_1 ?_; refine o_2 ?_) | (refine o_g ?_; first | refine o_u ?_ | refine o_k ?_ | refine o_n ?_ | refine o_v ?_ | ((first | refine o_G ?_ ?_ | refine o_N ?_ ?_) <;> intro hc)))) | ((fail_if_success (with_reducible refine o_s ?_)); go_step))
  refine wpl_callV (enters_of Tryz.func40 rfl rfl) rfl rfl (p_Exists [1, 97] z simZ [1, 120, 1, 97] _ hz19 sim_b) ?_; intro w20 x20; refine gset ?_
  rw [e2]
  have hp20 := hp19.ext x20
  have hz20 := hz19.ext x20
  repeat' (first | ((with_reducible refine o_s ?_); (first | (refine o_1 ?_; refine o_2 ?_) | (refine o_g ?_; first | refine o_u ?_ | refine o_k ?_ | refine o_n ?_ | refine o_v ?_ | ((first | refine o_G ?_ ?_ | refine o_N ?_ ?_) <;> intro hc)))) | ((fail_if_success (with_reducible refine o_s ?_)); go_step))
  refine wpl_callV (enters_of Tryz.func36 rfl rfl) rfl rfl (p_Check [1, 97] z simZ _ hz20 sim_b) ?_; intro w21 x21; refine gset ?_
  rw [sim_Z]
  repeat' (first | ((with_reducible refine o_s ?_); (first | (refine o_1 ?_; refine o_2 ?_) | (refine o_g ?_; first | refine o_u ?_ | refine o_k ?_ | refine o_n ?_ | refine o_v ?_ | ((first | refine o_G ?_ ?_ | refine o_N ?_ ?_) <;> intro hc)))) | ((fail_if_success (with_reducible refine o_s ?_)); go_step))
  go_ret
  exact ⟨rfl, by exact extc⟩

end Go.Proofs.X
set_option linter.unusedSimpArgs false
set_option linter.unusedVariables false
namespace Go.Proofs.X
open Go.RowKit
set_option maxRecDepth 100000
set_option maxHeartbeats 500000 in
/-- lodestarref08.Cut -/
theorem r8_Cut (o : List UInt8) (v : Value) (l : List RSet) (n : List UInt8) (w : World) (hv : SetsAt w v l) (hb : ∀ s ∈ l, s.data.length ≤ 1000000) (hd : ∀ s ∈ l, ∀ d ∈ s.data, d.length ≤ 4611686018427387904) : Calls Tryz.prog 39 #[.agg #[str o, v], str n] w (RetV w (.tuple (if zoneR o l = 0 then #[str (cutR o l n).1, .bool (cutR o l n).2] else #[str [], .bool false]))) := by
  go_enter Tryz.func39, Tryz.ntmps39
  repeat' ((fail_if_success (with_reducible refine o_s ?_)); go_step)
  refine wpl_box (vs := [str o, v]) rfl rfl ?_
  intro p w1 x1 hp
  refine gset ?_
  have hv1 := hv.ext x1
  repeat' (first | ((with_reducible refine o_s ?_); (first | (refine o_1 ?_; refine o_2 ?_) | (refine o_g ?_; first | refine o_u ?_ | refine o_k ?_ | refine o_n ?_ | refine o_v ?_ | ((first | refine o_G ?_ ?_ | refine o_N ?_ ?_) <;> intro hc)))) | ((fail_if_success (with_reducible refine o_s ?_)); go_step))
  refine wpl_callV (enters_of Tryz.func37 rfl rfl) rfl rfl (r8_Check o v l _ hv1 hb hd) ?_; intro w2 x2; refine gset ?_
  have hx2 := x1.trans x2
  have hp2 := hp.ext x2
  have hv2 := hv1.ext x2
  repeat' (first | ((with_reducible refine o_s ?_); (first | (refine o_1 ?_; refine o_2 ?_) | (refine o_g ?_; first | refine o_u ?_ | refine o_k ?_ | refine o_n ?_ | refine o_v ?_ | ((first | refine o_G ?_ ?_ | refine o_N ?_ ?_) <;> intro hc)))) | ((fail_if_success (with_reducible refine o_s ?_)); go_step))
  · rename_i q
    have q' : ¬ zoneR o l = 0 := by simpa using q
    go_ret2
    exact ⟨by rw [if_neg q']; rfl, hx2⟩
  · have q' : zoneR o l = 0 := by simpa using (by assumption : (!decide (zoneR o l = 0)) = false)
    refine wpl_callV (enters_of Tryz.func76 rfl rfl) rfl rfl (r8_cut o v l n _ hv2) ?_; intro w3 x3; refine gset ?_
    repeat' (first | ((with_reducible refine o_s ?_); (first | (refine o_1 ?_; refine o_2 ?_) | (refine o_g ?_; first | refine o_u ?_ | refine o_k ?_ | refine o_n ?_ | refine o_v ?_ | ((first | refine o_G ?_ ?_ | refine o_N ?_ ?_) <;> intro hc)))) | ((fail_if_success (with_reducible refine o_s ?_)); go_step))
    go_ret2
    exact ⟨by rw [if_pos q']; rfl, hx2.trans x3⟩
set_option maxHeartbeats 500000 in
/-- lodestarref08.Exists -/
theorem r8_Exists (o : List UInt8) (v : Value) (l : List RSet) (n : List UInt8) (w : World) (hv : SetsAt w v l) (hb : ∀ s ∈ l, s.data.length ≤ 1000000) (hd : ∀ s ∈ l, ∀ d ∈ s.data, d.length ≤ 4611686018427387904) : Calls Tryz.prog 41 #[.agg #[str o, v], str n] w (RetV w (.bool (decide (zoneR o l = 0) && thereS o l n))) := by
  go_enter Tryz.func41, Tryz.ntmps41
  repeat' ((fail_if_success (with_reducible refine o_s ?_)); go_step)
  refine wpl_box (vs := [str o, v]) rfl rfl ?_
  intro p w1 x1 hp
  refine gset ?_
  have hv1 := hv.ext x1
  have c1 : ∀ w', Ext w1 w' → Calls Tryz.prog 37 #[.agg #[str o, v]] w' (RetV w' (.int .i64 (zoneR o l))) := fun w' x' => r8_Check o v l w' (hv1.ext x') hb hd
  have c2 : ∀ w', Ext w1 w' → Calls Tryz.prog 79 #[.agg #[str o, v], str n] w' (RetV w' (.bool (thereS o l n))) := fun w' x' => r8_There o v l n w' (hv1.ext x')
  repeat' (first | ((with_reducible refine o_s ?_); (first | (refine o_1 ?_; refine o_2 ?_) | (refine o_g ?_; first | refine o_u ?_ | refine o_k ?_ | refine o_n ?_ | refine o_v ?_ | ((first | refine o_G ?_ ?_ | refine o_N ?_ ?_) <;> intro hc)))) | ((fail_if_success (with_reducible refine o_s ?_)); go_step))
  refine wpl_callV (enters_of Tryz.func37 rfl rfl) rfl rfl (c1 _ (Ext.refl _)) ?_; intro w2 x2; refine gset ?_
  have hx2 := x1.trans x2
  have hp2 := hp.ext x2
  repeat' (first | ((with_reducible refine o_s ?_); (first | (refine o_1 ?_; refine o_2 ?_) | (refine o_g ?_; first | refine o_u ?_ | refine o_k ?_ | refine o_n ?_ | refine o_v ?_ | ((first | refine o_G ?_ ?_ | refine o_N ?_ ?_) <;> intro hc)))) | ((fail_if_success (with_reducible refine o_s ?_)); go_step))
  · have q : zoneR o l = 0 := hc
    refine wpl_callV (enters_of Tryz.func79 rfl rfl) rfl rfl (c2 _ x2) ?_; intro w3 x3; refine gset ?_
    repeat' (first | ((with_reducible refine o_s ?_); (first | (refine o_1 ?_; refine o_2 ?_) | (refine o_g ?_; first | refine o_u ?_ | refine o_k ?_ | refine o_n ?_ | refine o_v ?_ | ((first | refine o_G ?_ ?_ | refine o_N ?_ ?_) <;> intro hc)))) | ((fail_if_success (with_reducible refine o_s ?_)); go_step))
    go_ret
    exact ⟨by rw [decide_eq_true q]; rfl, hx2.trans x3⟩
  · have q : ¬ zoneR o l = 0 := hc
    go_ret
    exact ⟨by rw [decide_eq_false q]; rfl, hx2⟩

end Go.Proofs.X
set_option linter.unusedSimpArgs false
set_option linter.unusedVariables false
namespace Go.Proofs.X
open Go.RowKit
set_option maxRecDepth 100000
set_option maxHeartbeats 500000 in
/-- lodestarref08.Few -/
theorem r8_Few (o : List UInt8) (v : Value) (l : List RSet) (w : World) (hv : SetsAt w v l) : Calls Tryz.prog 30 #[.agg #[str o, v]] w (RetV w (.bool (decide ((o.length : Int) ≤ 300) && fewS l))) := by
  go_enter Tryz.func30, Tryz.ntmps30
  repeat' ((fail_if_success (with_reducible refine o_s ?_)); go_step)
  refine wpl_box (vs := [str o, v]) rfl rfl ?_
  intro p w1 x1 hp
  refine gset ?_
  have hv1 := hv.ext x1
  repeat' (first | ((with_reducible refine o_s ?_); (first | (refine o_1 ?_; refine o_2 ?_) | (refine o_g ?_; first | refine o_u ?_ | refine o_k ?_ | refine o_n ?_ | refine o_v ?_ | ((first | refine o_G ?_ ?_ | refine o_N ?_ ?_) <;> intro hc)))) | ((fail_if_success (with_reducible refine o_s ?_)); go_step))
  · refine wpl_callV (enters_of Tryz.func18 rfl rfl) rfl rfl (t14 v l _ hv1) ?_; intro w2 x2; refine gset ?_
    repeat' (first | ((with_reducible refine o_s ?_); (first | (refine o_1 ?_; refine o_2 ?_) | (refine o_g ?_; first | refine o_u ?_ | refine o_k ?_ | refine o_n ?_ | refine o_v ?_ | ((first | refine o_G ?_ ?_ | refine o_N ?_ ?_) <;> intro hc)))) | ((fail_if_success (with_reducible refine o_s ?_)); go_step))
    go_ret
    exact ⟨by rw [decide_eq_true hc]; rfl, x1.trans x2⟩
  · go_ret
    exact ⟨by rw [decide_eq_false hc]; rfl, x1⟩
set_option maxHeartbeats 500000 in
/-- lodestarref08.Same -/
theorem r8_Same (o o' : List UInt8) (u v : Value) (a b : List RSet) (w : World) (hu : SetsAt w u a) (hv : SetsAt w v b) : Calls Tryz.prog 29 #[.agg #[str o, u], .agg #[str o', v]] w (RetV w (.bool (decide (o = o') && decide (a = b)))) := by
  go_enter Tryz.func29, Tryz.ntmps29
  repeat' ((fail_if_success (with_reducible refine o_s ?_)); go_step)
  refine wpl_box (vs := [str o, u]) rfl rfl ?_
  intro p w1 x1 hp
  refine gset ?_
  repeat' ((fail_if_success (with_reducible refine o_s ?_)); go_step)
  refine wpl_box (vs := [str o', v]) rfl rfl ?_
  intro q w2 x2 hq
  refine gset ?_
  have hx2 := x1.trans x2
  have hp2 := hp.ext x2
  repeat' (first | ((with_reducible refine o_s ?_); (first | (refine o_1 ?_; refine o_2 ?_) | (refine o_g ?_; first | refine o_u ?_ | refine o_k ?_ | refine o_n ?_ | refine o_v ?_ | ((first | refine o_G ?_ ?_ | refine o_N ?_ ?_) <;> intro hc)))) | ((fail_if_success (with_reducible refine o_s ?_)); go_step))
  · refine wpl_callV (enters_of Tryz.func16 rfl rfl) rfl rfl (t11 u v a b _ (hu.ext hx2) (hv.ext hx2)) ?_; intro w3 x3; refine gset ?_
    repeat' (first | ((with_reducible refine o_s ?_); (first | (refine o_1 ?_; refine o_2 ?_) | (refine o_g ?_; first | refine o_u ?_ | refine o_k ?_ | refine o_n ?_ | refine o_v ?_ | ((first | refine o_G ?_ ?_ | refine o_N ?_ ?_) <;> intro hc)))) | ((fail_if_success (with_reducible refine o_s ?_)); go_step))
    go_ret
    exact ⟨by rw [decide_eq_true hc]; rfl, hx2.trans x3⟩
  · go_ret
    exact ⟨by rw [decide_eq_false hc]; rfl, hx2⟩

end Go.Proofs.X
set_option linter.unusedSimpArgs false
set_option linter.unusedVariables false
namespace Go.Proofs.X
open Go.RowKit
set_option maxRecDepth 100000
/-! ### the statements of zones -/
theorem z_liveV (w : World) : Calls Tryz.prog 26 #[] w (RetV w (.bool true)) := z_live w
theorem fewz {o : List UInt8} {l : List RSet} (h : (decide ((o.length : Int) ≤ 300) && fewS l) = true) : l.length ≤ 25 ∧ (∀ s ∈ l, s.data.length ≤ 1000000) ∧ (∀ s ∈ l, ∀ d ∈ s.data, d.length ≤ 4611686018427387904) ∧ o.length ≤ 300 ∧ (∀ s ∈ l, s.data.length ≤ 12) ∧ (∀ s ∈ l, ∀ d ∈ s.data, d.length ≤ 300) := by
  simp only [Bool.and_eq_true, decide_eq_true_eq] at h
  obtain ⟨b1, b2, b3, b4⟩ := few_bounds h.2
  exact ⟨b1, fun s hs => by have := b2 s hs; omega, fun s hs d hd => by have := b4 s hs d hd; omega, by omega, b2, b4⟩
set_option maxHeartbeats 1000000 in
/-- lodestarlaw08.ZoneFinds -/
theorem z7 (o : List UInt8) (v : Value) (l : List RSet) (n : List UInt8) (w : World) (hv : SetsAt w v l) : Calls Tryz.prog 7 #[.agg #[str o, v], str n] w (Yes w) := by
  go_enter Tryz.func7, Tryz.ntmps7
  repeat' ((fail_if_success (with_reducible refine o_s ?_)); go_step)
  refine wpl_box (vs := [str o, v]) rfl rfl ?_
  intro p w1 x1 hp
  refine gset ?_
  repeat' (first | ((with_reducible refine o_s ?_); (first | (refine o_1 ?_; refine o_2 ?_) | (refine o_g ?_; first | refine o_u ?_ | refine o_k ?_ | refine o_n ?_ | refine o_v ?_ | ((first | refine o_G ?_ ?_ | refine o_N ?_ ?_) <;> intro hc)))) | ((fail_if_success (with_reducible refine o_s ?_)); go_step))
  refine wpl_callV (enters_of Tryz.func30 rfl rfl) rfl rfl (r8_Few o v l _ (hv.ext x1)) ?_; intro w2 x2; refine gset ?_
  have hx2 := x1.trans x2
  have hp2 := hp.ext x2
  have hv2 := hv.ext hx2
  cases hf : (decide ((o.length : Int) ≤ 300) && fewS l) with
  | false =>
    repeat' (first | ((with_reducible refine o_s ?_); (first | (refine o_1 ?_; refine o_2 ?_) | (refine o_g ?_; first | refine o_u ?_ | refine o_k ?_ | refine o_n ?_ | refine o_v ?_ | ((first | refine o_G ?_ ?_ | refine o_N ?_ ?_) <;> intro hc)))) | ((fail_if_success (with_reducible refine o_s ?_)); go_step))
    refine wpl_callV (enters_of Tryz.func26 rfl rfl) rfl rfl (z_liveV _) ?_; intro w3 x3; refine gset ?_
    repeat' (first | ((with_reducible refine o_s ?_); (first | (refine o_1 ?_; refine o_2 ?_) | (refine o_g ?_; first | refine o_u ?_ | refine o_k ?_ | refine o_n ?_ | refine o_v ?_ | ((first | refine o_G ?_ ?_ | refine o_N ?_ ?_) <;> intro hc)))) | ((fail_if_success (with_reducible refine o_s ?_)); go_step))
    go_ret
    exact ⟨rfl, hx2.trans x3⟩
  | true =>
    obtain ⟨b1, b2, b3, _⟩ := fewz hf
    repeat' (first | ((with_reducible refine o_s ?_); (first | (refine o_1 ?_; refine o_2 ?_) | (refine o_g ?_; first | refine o_u ?_ | refine o_k ?_ | refine o_n ?_ | refine o_v ?_ | ((first | refine o_G ?_ ?_ | refine o_N ?_ ?_) <;> intro hc)))) | ((fail_if_success (with_reducible refine o_s ?_)); go_step))
    · refine wpl_callV (enters_of Tryz.func26 rfl rfl) rfl rfl (z_liveV _) ?_; intro w3 x3; refine gset ?_
      repeat' (first | ((with_reducible refine o_s ?_); (first | (refine o_1 ?_; refine o_2 ?_) | (refine o_g ?_; first | refine o_u ?_ | refine o_k ?_ | refine o_n ?_ | refine o_v ?_ | ((first | refine o_G ?_ ?_ | refine o_N ?_ ?_) <;> intro hc)))) | ((fail_if_success (with_reducible refine o_s ?_)); go_step))
      go_ret
      exact ⟨rfl, hx2.trans x3⟩
    · have c1 := fun w' (hx : Ext w2 w') => p_Cut o v l n w' (hv2.ext hx) b2
      have c2 := fun w' (hx : Ext w2 w') => r8_Cut o v l n w' (hv2.ext hx) b2 b3
      obtain ⟨a, b, hab⟩ : ∃ a b, (if zoneR o l = 0 then #[str (cutR o l n).1, Value.bool (cutR o l n).2] else #[str [], .bool false]) = #[str a, .bool b] := by
        split
        · exact ⟨_, _, rfl⟩
        · exact ⟨_, _, rfl⟩
      rw [hab] at c1 c2
      refine wpl_callV (enters_of Tryz.func38 rfl rfl) rfl rfl (c1 _ (Ext.refl _)) ?_; intro w3 x3; refine gset ?_
      have hp3 := hp2.ext x3
      repeat' (first | ((with_reducible refine o_s ?_); (first | (refine o_1 ?_; refine o_2 ?_) | (refine o_g ?_; first | refine o_u ?_ | refine o_k ?_ | refine o_n ?_ | refine o_v ?_ | ((first | refine o_G ?_ ?_ | refine o_N ?_ ?_) <;> intro hc)))) | ((fail_if_success (with_reducible refine o_s ?_)); go_step))
      refine wpl_callV (enters_of Tryz.func39 rfl rfl) rfl rfl (c2 _ x3) ?_; intro w4 x4; refine gset ?_
      have x24 := x3.trans x4
      have hp4 := hp3.ext x4
      have hv4 := hv2.ext x24
      have hx4 := hx2.trans x24
      have c5 : ∀ w', Ext w4 w' → Calls Tryz.prog 40 #[.agg #[str o, v], str n] w' (RetV w' (.bool (decide (zoneR o l = 0) && thereS o l n))) := fun w' x' => p_Exists o v l n w' (hv4.ext x') b2
      have c6 : ∀ w', Ext w4 w' → Calls Tryz.prog 41 #[.agg #[str o, v], str n] w' (RetV w' (.bool (decide (zoneR o l = 0) && thereS o l n))) := fun w' x' => r8_Exists o v l n w' (hv4.ext x') b2 b3
      generalize (decide (zoneR o l = 0) && thereS o l n) = e at c5 c6
      repeat' (first | ((with_reducible refine o_s ?_); (first | (refine o_1 ?_; refine o_2 ?_) | (refine o_g ?_; first | refine o_u ?_ | refine o_k ?_ | refine o_n ?_ | refine o_v ?_ | ((first | refine o_G ?_ ?_ | refine o_N ?_ ?_) <;> intro hc)))) | ((fail_if_success (with_reducible refine o_s ?_)); go_step))
      refine wpq_region (by decide +kernel) (by decide +kernel) ?_
      repeat' (first | ((with_reducible refine q_s ?_); (first | (refine q_1 ?_; refine q_2 ?_) | (refine q_g ?_; first | refine q_u ?_ | refine q_k ?_ | refine q_v ?_))) | (with_reducible refine q_n ?_))
      refine wpq_run0 (fun _ _ => Runs.eqlB rfl rfl (by decide +kernel)) ?_
      rw [show (b == b) = true by simp]
      refine gset ?_
      repeat' (first | ((with_reducible refine q_s ?_); (first | (refine q_1 ?_; refine q_2 ?_) | (refine q_g ?_; first | refine q_u ?_ | refine q_k ?_ | refine q_v ?_))) | (with_reducible refine q_n ?_))
      refine wpq_call (enters_of Tryz.func40 rfl rfl) rfl rfl (fun w' x' => c5 w' x') ?_
      refine gset ?_
      repeat' (first | ((with_reducible refine q_s ?_); (first | (refine q_1 ?_; refine q_2 ?_) | (refine q_g ?_; first | refine q_u ?_ | refine q_k ?_ | refine q_v ?_))) | (with_reducible refine q_n ?_))
      refine wpq_call (enters_of Tryz.func41 rfl rfl) rfl rfl (fun w' x' => c6 w' x') ?_
      refine gset ?_
      repeat' (first | ((with_reducible refine q_s ?_); (first | (refine q_1 ?_; refine q_2 ?_) | (refine q_g ?_; first | refine q_u ?_ | refine q_k ?_ | refine q_v ?_))) | (with_reducible refine q_n ?_))
      refine wpq_run0 (fun _ _ => Runs.eqlB rfl rfl (by decide +kernel)) ?_
      rw [show (e == e) = true by simp]
      refine gset ?_
      repeat' (first | ((with_reducible refine q_s ?_); (first | (refine q_1 ?_; refine q_2 ?_) | (refine q_g ?_; first | refine q_u ?_ | refine q_k ?_ | refine q_v ?_))) | (with_reducible refine q_n ?_))
      refine wpq_call (enters_of Tryz.func26 rfl rfl) rfl rfl (fun w' _ => z_liveV w') ?_
      refine gset ?_
      repeat' (first | ((with_reducible refine q_s ?_); (first | (refine q_1 ?_; refine q_2 ?_) | (refine q_g ?_; first | refine q_u ?_ | refine q_k ?_ | refine q_v ?_))) | (with_reducible refine q_n ?_))
      intro w9 x9
      repeat' (first | ((with_reducible refine o_s ?_); (first | (refine o_1 ?_; refine o_2 ?_) | (refine o_g ?_; first | refine o_u ?_ | refine o_k ?_ | refine o_n ?_ | refine o_v ?_ | ((first | refine o_G ?_ ?_ | refine o_N ?_ ?_) <;> intro hc)))) | ((fail_if_success (with_reducible refine o_s ?_)); go_step))
      go_ret
      exact ⟨rfl, hx4.trans x9⟩

end Go.Proofs.X
set_option linter.unusedSimpArgs false
set_option linter.unusedVariables false
namespace Go.Proofs.X
open Go.RowKit
set_option maxRecDepth 100000
/-- a beginning of authority held against itself -/
theorem run_eqSoa {s : SoaR} {w : World} : (Op.equalIn 10000 51 (.agg s.cells.toArray) (.agg s.cells.toArray)).run Tryz.prog w = .ok true w := by
  have hS : Tryz.prog.underlying 51 = some (.struct (Tryz.prog.fieldsOf 51)) := by kernel_rfl
  rw [show (10000 : Nat) = 9999 + 1 from rfl, run_equalIn_agg w 9999 51 _ _ hS (by kernel_rfl)]
  simp only [Program.fieldsOf, Tryz.underlying51]
  have u3 := Tryz.underlying3
  have u31 := Tryz.underlying31
  have a3 := Tryz.isAgg3
  have a31 := Tryz.isAgg31
  have z3 := Tryz.sizeOf3
  have z31 := Tryz.sizeOf31
  unfold SoaR.cells str
  go_simp
theorem Runs.eqlSoa {s : SoaR} {x y : Operand} {a : Act} {w : World} {d : Option Nat} {u ty : TypeId} {ps : String} {af : Array Edge} {g : Option (Nat × Bool)}
    (hx : a.eval x = .agg s.cells.toArray) (hy : a.eval y = .agg s.cells.toArray) :
    Runs Tryz.prog (Oper.mk d (.binOp .eql 51 x y u) ty ps af g) a w (.bool true) := by
  constructor
  have hg := run_eqGuard_agg (P := Tryz.prog) w .eql 51 x y s.cells.toArray s.cells.toArray (by kernel_rfl)
  simp only [execOp, hx, hy, Sem.run_bind, hg, Result.andThen_ok, run_eql_struct, run_eqSoa, Sem.run_pure]

end Go.Proofs.X
set_option linter.unusedSimpArgs false
set_option linter.unusedVariables false
namespace Go.Proofs.X
open Go.RowKit
set_option maxRecDepth 100000
theorem same_true {o o' : List UInt8} {u v : Value} {a b : List RSet} {w : World} (hu : SetsAt w u a) (hv : SetsAt w v b) (ho : o = o') (hab : a = b) : Calls Tryz.prog 29 #[.agg #[str o, u], .agg #[str o', v]] w (RetV w (.bool true)) := by
  have := r8_Same o o' u v a b w hu hv
  rw [decide_eq_true ho, decide_eq_true hab] at this
  exact this
set_option maxHeartbeats 2000000 in
/-- lodestarlaw08.ZoneChecks -/
theorem z6 (o : List UInt8) (v : Value) (l : List RSet) (n : Int) (w : World) (hv : SetsAt w v l) : Calls Tryz.prog 6 #[.agg #[str o, v], .int .i64 n] w (Yes w) := by
  have hv1 : v.oneCell' = true := by obtain ⟨css, h, _⟩ := hv; exact h.one
  go_enter Tryz.func6, Tryz.ntmps6
  repeat' ((fail_if_success (with_reducible refine o_s ?_)); go_step)
  refine wpl_box (vs := [str o, v]) rfl rfl ?_
  intro p w1 x1 hp
  refine gset ?_
  repeat' (first | ((with_reducible refine o_s ?_); (first | (refine o_1 ?_; refine o_2 ?_) | (refine o_g ?_; first | refine o_u ?_ | refine o_k ?_ | refine o_n ?_ | refine o_v ?_ | ((first | refine o_G ?_ ?_ | refine o_N ?_ ?_) <;> intro hc)))) | ((fail_if_success (with_reducible refine o_s ?_)); go_step))
  refine wpl_callV (enters_of Tryz.func30 rfl rfl) rfl rfl (r8_Few o v l _ (hv.ext x1)) ?_; intro w2 x2; refine gset ?_
  have hx2 := x1.trans x2
  have hp2 := hp.ext x2
  have hv2 := hv.ext hx2
  cases hf : (decide ((o.length : Int) ≤ 300) && fewS l) with
  | false =>
    repeat' (first | ((with_reducible refine o_s ?_); (first | (refine o_1 ?_; refine o_2 ?_) | (refine o_g ?_; first | refine o_u ?_ | refine o_k ?_ | refine o_n ?_ | refine o_v ?_ | ((first | refine o_G ?_ ?_ | refine o_N ?_ ?_) <;> intro hc)))) | ((fail_if_success (with_reducible refine o_s ?_)); go_step))
    refine wpl_callV (enters_of Tryz.func26 rfl rfl) rfl rfl (z_liveV _) ?_; intro w3 x3; refine gset ?_
    repeat' (first | ((with_reducible refine o_s ?_); (first | (refine o_1 ?_; refine o_2 ?_) | (refine o_g ?_; first | refine o_u ?_ | refine o_k ?_ | refine o_n ?_ | refine o_v ?_ | ((first | refine o_G ?_ ?_ | refine o_N ?_ ?_) <;> intro hc)))) | ((fail_if_success (with_reducible refine o_s ?_)); go_step))
    go_ret
    exact ⟨rfl, hx2.trans x3⟩
  | true =>
    obtain ⟨b1, b2, b3, _⟩ := fewz hf
    repeat' (first | ((with_reducible refine o_s ?_); (first | (refine o_1 ?_; refine o_2 ?_) | (refine o_g ?_; first | refine o_u ?_ | refine o_k ?_ | refine o_n ?_ | refine o_v ?_ | ((first | refine o_G ?_ ?_ | refine o_N ?_ ?_) <;> intro hc)))) | ((fail_if_success (with_reducible refine o_s ?_)); go_step))
    refine wpl_callR (enters_of Tryz.func31 rfl rfl) rfl rfl (r8_Copy o v l _ hv2 (by omega) b2) ?_
    intro r3 w3 x3 hr3
    obtain ⟨y, rfl, hyV⟩ := hr3
    have hy := (hyV.toO (Nat.zero_le _)).sets
    have hy1 : y.oneCell' = true := by obtain ⟨css, h, _⟩ := hy; exact h.one
    refine gset ?_
    repeat' (first | ((with_reducible refine o_s ?_); (first | (refine o_1 ?_; refine o_2 ?_) | (refine o_g ?_; first | refine o_u ?_ | refine o_k ?_ | refine o_n ?_ | refine o_v ?_ | ((first | refine o_G ?_ ?_ | refine o_N ?_ ?_) <;> intro hc)))) | ((fail_if_success (with_reducible refine o_s ?_)); go_step))
    refine wpl_allocB (z := zzone) rfl (by decide +kernel) ?_
    intro w4 x4 s4 h4
    refine gset ?_
    refine wpl_storeB (v := .agg #[str o, y]) rfl rfl rfl h4 (show sizeTy Tryz.prog 43 2 = true by decide +kernel) rfl (zone_one hy1) ?_
    intro w5 p5
    have x5 : Ext w3 w5 := x4.move p5.mv (by rintro k ⟨⟩; exact Nat.le_refl _)
    have ho5 := pts_block (cs := [str o, y]) p5.this
    have hy5 := hy.ext x5
    have x25 := x3.trans x5
    have hp5 := hp2.ext x25
    have hv5 := hv2.ext x25
    have hx5 := hx2.trans x25
    clear p5 h4 x4 hy hyV hv2 hp2
    repeat' (first | ((with_reducible refine o_s ?_); (first | (refine o_1 ?_; refine o_2 ?_) | (refine o_g ?_; first | refine o_u ?_ | refine o_k ?_ | refine o_n ?_ | refine o_v ?_ | ((first | refine o_G ?_ ?_ | refine o_N ?_ ?_) <;> intro hc)))) | ((fail_if_success (with_reducible refine o_s ?_)); go_step))
    refine wpl_callV (enters_of Tryz.func32 rfl rfl) rfl rfl (p_Soa o y l _ hy5 b2 b3) ?_; intro w6 x6; refine gset ?_
    repeat' (first | ((with_reducible refine o_s ?_); (first | (refine o_1 ?_; refine o_2 ?_) | (refine o_g ?_; first | refine o_u ?_ | refine o_k ?_ | refine o_n ?_ | refine o_v ?_ | ((first | refine o_G ?_ ?_ | refine o_N ?_ ?_) <;> intro hc)))) | ((fail_if_success (with_reducible refine o_s ?_)); go_step))
    refine wpl_allocB (z := zeroSoa) rfl (by decide +kernel) ?_
    intro w7 x7 s7 h7
    refine gset ?_
    refine wpl_storeB (v := .agg (soaZ o l).cells.toArray) rfl rfl rfl h7 (show sizeTy Tryz.prog 51 7 = true by decide +kernel) rfl (soaR_one _) ?_
    intro w8 p8
    have x8 : Ext w6 w8 := x7.move p8.mv (by rintro k ⟨⟩; exact Nat.le_refl _)
    have hs8 := pts_block (cs := [str (soaZ o l).main, str (soaZ o l).mail, .int .i64 (soaZ o l).serial, .int .i64 (soaZ o l).refresh, .int .i64 (soaZ o l).retry, .int .i64 (soaZ o l).expire, .int .i64 (soaZ o l).minimum]) p8.this
    have x58 := x6.trans x8
    have ho8 := ho5.ext x58
    have hy8 := hy5.ext x58
    have hp8 := hp5.ext x58
    have hv8 := hv5.ext x58
    have hx8 := hx5.trans x58
    clear p8 h7 x7 hy5 hv5 hp5 ho5
    repeat' (first | ((with_reducible refine o_s ?_); (first | (refine o_1 ?_; refine o_2 ?_) | (refine o_g ?_; first | refine o_u ?_ | refine o_k ?_ | refine o_n ?_ | refine o_v ?_ | ((first | refine o_G ?_ ?_ | refine o_N ?_ ?_) <;> intro hc)))) | ((fail_if_success (with_reducible refine o_s ?_)); go_step))
    refine wpl_callV (enters_of Tryz.func33 rfl rfl) rfl rfl (r8_Soa o v l _ hv8 b2 b3) ?_; intro w9 x9; refine gset ?_
    repeat' (first | ((with_reducible refine o_s ?_); (first | (refine o_1 ?_; refine o_2 ?_) | (refine o_g ?_; first | refine o_u ?_ | refine o_k ?_ | refine o_n ?_ | refine o_v ?_ | ((first | refine o_G ?_ ?_ | refine o_N ?_ ?_) <;> intro hc)))) | ((fail_if_success (with_reducible refine o_s ?_)); go_step))
    refine wpl_allocB (z := zeroSoa) rfl (by decide +kernel) ?_
    intro w10 x10 s10 h10
    refine gset ?_
    refine wpl_storeB (v := .agg (soaZ o l).cells.toArray) rfl rfl rfl h10 (show sizeTy Tryz.prog 51 7 = true by decide +kernel) rfl (soaR_one _) ?_
    intro w11 p11
    have x11 : Ext w9 w11 := x10.move p11.mv (by rintro k ⟨⟩; exact Nat.le_refl _)
    have ht11 := pts_block (cs := [str (soaZ o l).main, str (soaZ o l).mail, .int .i64 (soaZ o l).serial, .int .i64 (soaZ o l).refresh, .int .i64 (soaZ o l).retry, .int .i64 (soaZ o l).expire, .int .i64 (soaZ o l).minimum]) p11.this
    have x811 := x9.trans x11
    have hs11 := hs8.ext x811
    have ho11 := ho8.ext x811
    have hy11 := hy8.ext x811
    have hp11 := hp8.ext x811
    have hv11 := hv8.ext x811
    have hx11 := hx8.trans x811
    clear p11 h10 x10 hs8 hy8 hv8 hp8 ho8
    repeat' (first | ((with_reducible refine o_s ?_); (first | (refine o_1 ?_; refine o_2 ?_) | (refine o_g ?_; first | refine o_u ?_ | refine o_k ?_ | refine o_n ?_ | refine o_v ?_ | ((first | refine o_G ?_ ?_ | refine o_N ?_ ?_) <;> intro hc)))) | ((fail_if_success (with_reducible refine o_s ?_)); go_step))
    refine wpl_callR (enters_of Tryz.func34 rfl rfl) rfl rfl (p_Renew o y l n _ hy11 (by omega) b2 b3) ?_
    intro r12 w12 x12 hr12
    obtain ⟨a, rfl, ha⟩ := hr12
    have ha := ha.sets
    have ha1 : a.oneCell' = true := by obtain ⟨css, h, _⟩ := ha; exact h.one
    refine gset ?_
    repeat' (first | ((with_reducible refine o_s ?_); (first | (refine o_1 ?_; refine o_2 ?_) | (refine o_g ?_; first | refine o_u ?_ | refine o_k ?_ | refine o_n ?_ | refine o_v ?_ | ((first | refine o_G ?_ ?_ | refine o_N ?_ ?_) <;> intro hc)))) | ((fail_if_success (with_reducible refine o_s ?_)); go_step))
    refine wpl_allocB (z := zzone) rfl (by decide +kernel) ?_
    intro w13 x13 s13 h13
    refine gset ?_
    refine wpl_storeB (v := .agg #[str (renO o l n), a]) rfl rfl rfl h13 (show sizeTy Tryz.prog 43 2 = true by decide +kernel) rfl (zone_one ha1) ?_
    intro w14 p14
    have x14 : Ext w12 w14 := x13.move p14.mv (by rintro k ⟨⟩; exact Nat.le_refl _)
    have hc14 := pts_block (cs := [str (renO o l n), a]) p14.this
    have ha14 := ha.ext x14
    have x1114 := x12.trans x14
    have ht14 := ht11.ext x1114
    have hs14 := hs11.ext x1114
    have ho14 := ho11.ext x1114
    have hy14 := hy11.ext x1114
    have hp14 := hp11.ext x1114
    have hv14 := hv11.ext x1114
    have hx14 := hx11.trans x1114
    clear p14 h13 x13 hs11 ht11 hy11 hv11 hp11 ho11 ha
    repeat' (first | ((with_reducible refine o_s ?_); (first | (refine o_1 ?_; refine o_2 ?_) | (refine o_g ?_; first | refine o_u ?_ | refine o_k ?_ | refine o_n ?_ | refine o_v ?_ | ((first | refine o_G ?_ ?_ | refine o_N ?_ ?_) <;> intro hc)))) | ((fail_if_success (with_reducible refine o_s ?_)); go_step))
    refine wpl_callR (enters_of Tryz.func35 rfl rfl) rfl rfl (r8_Renew o v l n _ hv14 (by omega) b2 b3) ?_
    intro r15 w15 x15 hr15
    obtain ⟨b, rfl, hb⟩ := hr15
    have hb := hb.sets
    have hb1 : b.oneCell' = true := by obtain ⟨css, h, _⟩ := hb; exact h.one
    refine gset ?_
    repeat' (first | ((with_reducible refine o_s ?_); (first | (refine o_1 ?_; refine o_2 ?_) | (refine o_g ?_; first | refine o_u ?_ | refine o_k ?_ | refine o_n ?_ | refine o_v ?_ | ((first | refine o_G ?_ ?_ | refine o_N ?_ ?_) <;> intro hc)))) | ((fail_if_success (with_reducible refine o_s ?_)); go_step))
    refine wpl_allocB (z := zzone) rfl (by decide +kernel) ?_
    intro w16 x16 s16 h16
    refine gset ?_
    refine wpl_storeB (v := .agg #[str (renO o l n), b]) rfl rfl rfl h16 (show sizeTy Tryz.prog 43 2 = true by decide +kernel) rfl (zone_one hb1) ?_
    intro w17 p17
    have x17 : Ext w15 w17 := x16.move p17.mv (by rintro k ⟨⟩; exact Nat.le_refl _)
    have hd17 := pts_block (cs := [str (renO o l n), b]) p17.this
    have hb17 := hb.ext x17
    have x1417 := x15.trans x17
    have hc17 := hc14.ext x1417
    have ha17 := ha14.ext x1417
    have ht17 := ht14.ext x1417
    have hs17 := hs14.ext x1417
    have ho17 := ho14.ext x1417
    have hy17 := hy14.ext x1417
    have hp17 := hp14.ext x1417
    have hv17 := hv14.ext x1417
    have hx17 := hx14.trans x1417
    clear p17 h16 x16 hs14 ht14 hy14 hv14 hp14 ho14 ha14 hc14 hb
    have c1 : ∀ w', Ext w17 w' → Calls Tryz.prog 29 #[.agg #[str (renO o l n), a], .agg #[str (renO o l n), b]] w' (RetV w' (.bool true)) := fun w' x' => same_true (ha17.ext x') (hb17.ext x') rfl rfl
    have c2 : ∀ w', Ext w17 w' → Calls Tryz.prog 36 #[.agg #[str o, y]] w' (RetV w' (.int .i64 (zoneR o l))) := fun w' x' => p_Check o y l w' (hy17.ext x') b2
    have c3 : ∀ w', Ext w17 w' → Calls Tryz.prog 37 #[.agg #[str o, v]] w' (RetV w' (.int .i64 (zoneR o l))) := fun w' x' => r8_Check o v l w' (hv17.ext x') b2 b3
    have c4 : ∀ w', Ext w17 w' → Calls Tryz.prog 29 #[.agg #[str o, y], .agg #[str o, v]] w' (RetV w' (.bool true)) := fun w' x' => same_true (hy17.ext x') (hv17.ext x') rfl rfl
    generalize soaZ o l = ss at *
    generalize zoneR o l = e at *
    generalize renE o l n = e2 at *
    repeat' (first | ((with_reducible refine o_s ?_); (first | (refine o_1 ?_; refine o_2 ?_) | (refine o_g ?_; first | refine o_u ?_ | refine o_k ?_ | refine o_n ?_ | refine o_v ?_ | ((first | refine o_G ?_ ?_ | refine o_N ?_ ?_) <;> intro hc)))) | ((fail_if_success (with_reducible refine o_s ?_)); go_step))
    refine wpq_region (by decide +kernel) (by decide +kernel) ?_
    repeat' (first | ((with_reducible refine q_s ?_); (first | (refine q_1 ?_; refine q_2 ?_) | (refine q_g ?_; first | refine q_u ?_ | refine q_k ?_ | refine q_v ?_))) | (with_reducible refine q_n ?_))
    refine wpq_run0 (fun _ _ => Runs.eqlSoa (s := ss) rfl rfl) ?_
    refine gset ?_
    repeat' (first | ((with_reducible refine q_s ?_); (first | (refine q_1 ?_; refine q_2 ?_) | (refine q_g ?_; first | refine q_u ?_ | refine q_k ?_ | refine q_v ?_))) | (with_reducible refine q_n ?_))
    refine wpq_call (enters_of Tryz.func29 rfl rfl) rfl rfl (fun w' x' => c1 w' x') ?_
    refine gset ?_
    repeat' (first | ((with_reducible refine q_s ?_); (first | (refine q_1 ?_; refine q_2 ?_) | (refine q_g ?_; first | refine q_u ?_ | refine q_k ?_ | refine q_v ?_))) | (with_reducible refine q_n ?_))
    refine wpq_call (enters_of Tryz.func36 rfl rfl) rfl rfl (fun w' x' => c2 w' x') ?_
    refine gset ?_
    repeat' (first | ((with_reducible refine q_s ?_); (first | (refine q_1 ?_; refine q_2 ?_) | (refine q_g ?_; first | refine q_u ?_ | refine q_k ?_ | refine q_v ?_))) | (with_reducible refine q_n ?_))
    refine wpq_call (enters_of Tryz.func37 rfl rfl) rfl rfl (fun w' x' => c3 w' x') ?_
    refine gset ?_
    repeat' (first | ((with_reducible refine q_s ?_); (first | (refine q_1 ?_; refine q_2 ?_) | (refine q_g ?_; first | refine q_u ?_ | refine q_k ?_ | refine q_v ?_))) | (with_reducible refine q_n ?_))
    refine wpq_call (enters_of Tryz.func29 rfl rfl) rfl rfl (fun w' x' => c4 w' x') ?_
    refine gset ?_
    repeat' (first | ((with_reducible refine q_s ?_); (first | (refine q_1 ?_; refine q_2 ?_) | (refine q_g ?_; first | refine q_u ?_ | refine q_k ?_ | refine q_v ?_))) | (with_reducible refine q_n ?_))
    refine wpq_call (enters_of Tryz.func26 rfl rfl) rfl rfl (fun w' _ => z_liveV w') ?_
    refine gset ?_
    repeat' (first | ((with_reducible refine q_s ?_); (first | (refine q_1 ?_; refine q_2 ?_) | (refine q_g ?_; first | refine q_u ?_ | refine q_k ?_ | refine q_v ?_))) | (with_reducible refine q_n ?_))
    intro w18 x18
    repeat' (first | ((with_reducible refine o_s ?_); (first | (refine o_1 ?_; refine o_2 ?_) | (refine o_g ?_; first | refine o_u ?_ | refine o_k ?_ | refine o_n ?_ | refine o_v ?_ | ((first | refine o_G ?_ ?_ | refine o_N ?_ ?_) <;> intro hc)))) | ((fail_if_success (with_reducible refine o_s ?_)); go_step))
    go_ret
    exact ⟨rfl, hx17.trans x18⟩

end Go.Proofs.X
set_option linter.unusedSimpArgs false
set_option linter.unusedVariables false
namespace Go.Proofs.X
open Go.RowKit
set_option maxRecDepth 100000
/-! ### a beginning of authority, written and read -/
theorem suffix_zero (m : List UInt8) : Lib.hasSuffix (m ++ [0]) [0] = true ∧ Lib.trimSuffix (m ++ [0]) [0] = m := by
  have h : Lib.hasSuffix (m ++ [0]) [0] = true := by
    unfold Lib.hasSuffix
    rw [List.isSuffixOf_iff_suffix]
    exact List.suffix_append _ _
  refine ⟨h, ?_⟩
  unfold Lib.trimSuffix
  rw [if_pos h]
  simp
theorem hostN_some {s m : List UInt8} (h : hostN s = some m) : s = m ++ [0] ∧ (labels m).isSome = true := by
  unfold hostN at h
  split at h
  · rename_i hh
    obtain ⟨h1, h2⟩ := hh
    unfold Lib.hasSuffix at h1
    rw [List.isSuffixOf_iff_suffix] at h1
    obtain ⟨t, rfl⟩ := h1
    obtain ⟨_, h3⟩ := suffix_zero t
    rw [h3] at h h2
    cases h
    exact ⟨rfl, h2⟩
  · cases h
theorem hostN_of {m : List UInt8} (h : (labels m).isSome = true) : hostN (m ++ [0]) = some m := by
  obtain ⟨h1, h2⟩ := suffix_zero m
  unfold hostN
  rw [h1, h2, if_pos ⟨rfl, h⟩]
theorem firstN_yes {d : List UInt8} (h : (firstN d).2.2 = true) : d = (firstN d).1 ++ [0] ++ (firstN d).2.1 ∧ (labels (firstN d).1).isSome = true := by
  unfold firstN at *
  split at h
  · cases h
  · rename_i hw
    rw [if_neg hw]
    simp only at h ⊢
    obtain ⟨m, hm⟩ := Option.isSome_iff_exists.1 h
    rw [hm]
    obtain ⟨h1, h2⟩ := hostN_some hm
    refine ⟨?_, h2⟩
    simp only [Option.getD_some]
    rw [← h1, List.take_append_drop]
theorem walk_parse : ∀ (k : Nat) (m : List UInt8), m.length ≤ k → (parse m).isSome = true → ∀ rest, walkN (m ++ 0 :: rest) = m.length
  | _, [], _, _, rest => by rw [List.nil_append, walkN_cons, if_pos (by rfl)]; rfl
  | 0, _ :: _, h, _, _ => by simp at h
  | n + 1, k :: t, hn, h, rest => by
    rw [parse_cons] at h
    split at h
    · cases h
    · rename_i hk
      have h2 : (parse (t.drop k.toNat)).isSome = true := by
        cases hp : parse (t.drop k.toNat) with
        | none => rw [hp] at h; cases h
        | some _ => rfl
      have ih := walk_parse n (t.drop k.toNat) (by simp at hn ⊢; omega) h2 rest
      rw [List.cons_append, walkN_cons, if_neg (by omega)]
      have e : (t ++ 0 :: rest).drop k.toNat = t.drop k.toNat ++ 0 :: rest := by
        rw [List.drop_append_of_le_length (by omega)]
      rw [e, ih]
      simp
      omega
theorem labels_parse {m : List UInt8} (h : (labels m).isSome = true) : (parse m).isSome = true ∧ m.length ≤ 254 := by
  unfold labels at h
  split at h
  · cases h
  · exact ⟨h, by omega⟩
theorem firstN_of {m rest : List UInt8} (h : (labels m).isSome = true) : firstN (m ++ [0] ++ rest) = (m, rest, true) := by
  obtain ⟨h1, h2⟩ := labels_parse h
  have hw : walkN (m ++ [0] ++ rest) = m.length := by
    have := walk_parse m.length m (Nat.le_refl _) h1 rest
    simpa using this
  have ht : (m ++ [0] ++ rest).take (m.length + 1) = m ++ [0] := by
    rw [List.take_append_of_le_length (by simp), List.take_of_length_le (by simp)]
  have hd : (m ++ [0] ++ rest).drop (m.length + 1) = rest := by
    rw [List.drop_append_of_le_length (by simp), List.drop_of_length_le (by simp)]; rfl
  unfold firstN
  rw [hw, if_neg (by simp), ht, hd, hostN_of h]
  rfl
/-- four bytes, as a number, as four bytes -/
theorem be4_num (a b c d : UInt8) : be4 (((a.toNat * 256 + b.toNat) * 256 + c.toNat) * 256 + d.toNat) = [a, b, c, d] := by
  have ha := a.toNat_lt
  have hb := b.toNat_lt
  have hc := c.toNat_lt
  have hd := d.toNat_lt
  unfold be4
  simp only [List.cons.injEq, and_true]
  refine ⟨?_, ?_, ?_, ?_⟩ <;>
  · apply UInt8.toNat_inj.1
    rw [UInt8.toNat_ofNat']
    omega
theorem numP_four (r : List UInt8) (i : Nat) : numP r i 4 = (((r.getD (4 * i) 0).toNat * 256 + (r.getD (4 * i + 1) 0).toNat) * 256 + (r.getD (4 * i + 2) 0).toNat) * 256 + (r.getD (4 * i + 3) 0).toNat := by
  simp [numP]
theorem be4_numP (r : List UInt8) (i : Nat) : be4 (numP r i 4) = [r.getD (4 * i) 0, r.getD (4 * i + 1) 0, r.getD (4 * i + 2) 0, r.getD (4 * i + 3) 0] := by
  rw [numP_four, be4_num]
theorem twenty {r : List UInt8} (h : r.length = 20) : be4 (numP r 0 4) ++ be4 (numP r 1 4) ++ be4 (numP r 2 4) ++ be4 (numP r 3 4) ++ be4 (numP r 4 4) = r := by
  match r, h with
  | [a0, a1, a2, a3, a4, a5, a6, a7, a8, a9, a10, a11, a12, a13, a14, a15, a16, a17, a18, a19], _ =>
    simp only [be4_numP]
    rfl
/-- what is read is written as it was -/
theorem data_parse {d : List UInt8} {s : SoaR} (h : parseSoa d = some s) : s.data = d := by
  unfold parseSoa at h
  simp only at h
  split at h
  · rename_i hh
    obtain ⟨h1, h2, h3, _⟩ := hh
    cases h
    obtain ⟨e1, _⟩ := firstN_yes h1
    obtain ⟨e2, _⟩ := firstN_yes h2
    have e3 := twenty h3
    unfold SoaR.data soaOf
    simp only [Int.toNat_natCast]
    rw [List.append_assoc, List.append_assoc, List.append_assoc, List.append_assoc]
    have e4 : be4 (numP (firstN (firstN d).2.1).2.1 0 4) ++ (be4 (numP (firstN (firstN d).2.1).2.1 1 4) ++ (be4 (numP (firstN (firstN d).2.1).2.1 2 4) ++ (be4 (numP (firstN (firstN d).2.1).2.1 3 4) ++ be4 (numP (firstN (firstN d).2.1).2.1 4 4)))) = (firstN (firstN d).2.1).2.1 := by
      rw [← List.append_assoc, ← List.append_assoc, ← List.append_assoc]; exact e3
    simp only [List.append_assoc] at e4 e1 e2 ⊢
    rw [e4, ← e2, ← e1]
  · cases h
theorem num_be4 (n : Nat) (h : n < 4294967296) (l r : List UInt8) (i : Nat) (hl : l.length = 4 * i) : numP (l ++ (be4 n ++ r)) i 4 = n := by
  have e : ∀ j, j < 4 → (l ++ (be4 n ++ r)).getD (4 * i + j) 0 = (be4 n).getD j 0 := by
    intro j hj
    simp only [List.getD_eq_getElem?_getD]
    rw [List.getElem?_append_right (by omega), List.getElem?_append_left (by simp [be4]; omega)]
    rw [show 4 * i + j - l.length = j by omega]
  have e0 := e 0 (by omega)
  rw [Nat.add_zero] at e0
  rw [numP_four, e0, e 1 (by omega), e 2 (by omega), e 3 (by omega)]
  simp only [be4, List.getD_cons_zero, List.getD_cons_succ, UInt8.toNat_ofNat']
  omega
/-- what is written is read as it was -/
theorem parse_data {s : SoaR} (h : s.ok = true) : parseSoa s.data = some s ∧ s.data.length ≤ 530 := by
  have hok := h
  unfold SoaR.ok ttlOk at h
  simp only [Bool.and_eq_true, decide_eq_true_eq] at h
  obtain ⟨⟨⟨⟨⟨⟨⟨h1, h2⟩, h3⟩, h4⟩, h5, h5'⟩, h6, h6'⟩, h7, h7'⟩, h8, h8'⟩ := h
  have hb : ∀ n, (be4 n).length = 4 := fun n => rfl
  have ed : s.data = s.main ++ [0] ++ (s.mail ++ [0] ++ (be4 s.serial.toNat ++ (be4 s.refresh.toNat ++ (be4 s.retry.toNat ++ (be4 s.expire.toNat ++ be4 s.minimum.toNat))))) := by
    unfold SoaR.data
    simp only [List.append_assoc]
  have f1 := firstN_of (rest := s.mail ++ [0] ++ (be4 s.serial.toNat ++ (be4 s.refresh.toNat ++ (be4 s.retry.toNat ++ (be4 s.expire.toNat ++ be4 s.minimum.toNat))))) h1
  have f2 := firstN_of (rest := be4 s.serial.toNat ++ (be4 s.refresh.toNat ++ (be4 s.retry.toNat ++ (be4 s.expire.toNat ++ be4 s.minimum.toNat)))) h2
  rw [← ed] at f1
  have n0 := num_be4 s.serial.toNat (by omega) [] (be4 s.refresh.toNat ++ (be4 s.retry.toNat ++ (be4 s.expire.toNat ++ be4 s.minimum.toNat))) 0 rfl
  have n1 := num_be4 s.refresh.toNat (by omega) (be4 s.serial.toNat) (be4 s.retry.toNat ++ (be4 s.expire.toNat ++ be4 s.minimum.toNat)) 1 rfl
  have n2 := num_be4 s.retry.toNat (by omega) (be4 s.serial.toNat ++ be4 s.refresh.toNat) (be4 s.expire.toNat ++ be4 s.minimum.toNat) 2 rfl
  have n3 := num_be4 s.expire.toNat (by omega) (be4 s.serial.toNat ++ be4 s.refresh.toNat ++ be4 s.retry.toNat) (be4 s.minimum.toNat) 3 rfl
  have n4 := num_be4 s.minimum.toNat (by omega) (be4 s.serial.toNat ++ be4 s.refresh.toNat ++ be4 s.retry.toNat ++ be4 s.expire.toNat) [] 4 rfl
  simp only [List.nil_append, List.append_nil, List.append_assoc] at n0 n1 n2 n3 n4
  have hs : soaOf s.data = s := by
    unfold soaOf
    simp only [f1, f2]
    rw [n0, n1, n2, n3, n4]
    cases s
    simp only [SoaR.mk.injEq, true_and]
    simp only at *
    omega
  refine ⟨?_, ?_⟩
  · unfold parseSoa
    simp only [f1, f2]
    rw [hs, if_pos ⟨trivial, trivial, by simp [hb], hok⟩]
  · have l1 := (labels_parse h1).2
    have l2 := (labels_parse h2).2
    rw [ed]
    simp [hb]
    omega

end Go.Proofs.X
set_option linter.unusedSimpArgs false
set_option linter.unusedVariables false
namespace Go.Proofs.X
open Go.RowKit
set_option maxRecDepth 100000
/-! ### a zone with another serial may be -/
theorem cutR_map {o n d : List UInt8} (l : List RSet) : cutR o (l.map (renS d)) n = cutR o l n := by
  unfold cutR
  rw [List.foldl_map]
  congr 1
  funext b s
  obtain ⟨e1, e2, _⟩ := renS_name (d := d) (s := s)
  unfold cutStep
  rw [e1, e2]
theorem thereS_map {o n d : List UInt8} (l : List RSet) : thereS o (l.map (renS d)) n = thereS o l n := by
  unfold thereS
  rw [List.any_map]
  congr 2
  funext s
  simp only [Function.comp]
  rw [(renS_name (d := d) (s := s)).1]
theorem findS_map {d : List UInt8} (l : List RSet) (n : List UInt8) (k : Int) : findS (l.map (renS d)) n k = (findS l n k).map (renS d) := by
  unfold findS
  rw [List.find?_map]
  congr 2
  funext s
  obtain ⟨e1, e2, _⟩ := renS_name (d := d) (s := s)
  simp only [Function.comp, hit, e1, e2]
theorem clash_map {d : List UInt8} (l : List RSet) (s : RSet) : (l.map (renS d)).any (clash (renS d s)) = l.any (clash s) := by
  rw [List.any_map]
  congr 1
  funext t
  obtain ⟨e1, e2, _⟩ := renS_name (d := d) (s := t)
  obtain ⟨f1, f2, _⟩ := renS_name (d := d) (s := s)
  simp only [Function.comp, clash, e1, e2, f1]
theorem checkR_other {n d0 d : List UInt8} {k t : Int} (h : checkR ⟨n, k, t, d0⟩ = 0) (hl : d.length ≤ 4000) (hf : fits k d = true) : checkR ⟨n, k, t, d⟩ = 0 := by
  unfold checkR at *
  simp only at *
  split at h
  · omega
  · rename_i h1
    rw [if_neg h1]
    split at h
    · omega
    · rename_i h2
      simp only [not_or] at h2
      rw [if_neg (by simp only [not_or]; exact ⟨h2.1, h2.2.1, h2.2.2.1, h2.2.2.2.1, by omega, by rw [hf]; simp⟩)]
      exact h
theorem may_ren {d : List UInt8} {s : RSet} (h : mayS s = true) (hl : d.length ≤ 4000) (hp : (parseSoa d).isSome = true) : mayS (renS d s) = true := by
  by_cases h6 : s.kind = 6
  · have hm := h
    simp only [mayS, Bool.and_eq_true, decide_eq_true_eq] at h
    have h0 : 0 < s.data.length := h.1.1.2
    have hc := may_at hm h0
    rw [renS_yes h6]
    have hc2 := checkR_other hc hl (by rw [h6]; simpa [fits] using hp)
    simp only [mayS, Bool.and_eq_true, decide_eq_true_eq]
    refine ⟨⟨⟨h.1.1.1, by simp⟩, by simp⟩, ?_⟩
    have hb : badAt ⟨s.name, s.kind, s.ttl, [d]⟩ 0 = false := by
      unfold badAt
      simp [hc2]
    simp [List.range_succ, hb]
  · rw [renS_no h6]; exact h
theorem check_ren {d : List UInt8} {l : List RSet} (h : checkS l = 0) (hl : d.length ≤ 4000) (hp : (parseSoa d).isSome = true) : checkS (l.map (renS d)) = 0 := by
  have hlen : ¬ 200 < l.length := by
    intro h2
    unfold checkS at h
    rw [if_pos h2] at h
    cases h
  have hall : ∀ i, i < l.length → badSet (l.map (renS d)) i = false := by
    intro i hi
    have hb := check_ok h i hi
    have hm := check_may h hi
    rw [badSet, List.getElem?_eq_getElem hi] at hb
    rw [badSet, List.getElem?_map, List.getElem?_eq_getElem hi, Option.map_some]
    simp only at hb ⊢
    rw [hm] at hb
    rw [may_ren hm hl hp]
    obtain ⟨e1, e2, _⟩ := renS_name (d := d) (s := l[i])
    have hi1 : i - 1 < l.length := by omega
    have g1 : l.getD (i - 1) default = l[i - 1] := by simp [hi1]
    have g2 : (l.map (renS d)).getD (i - 1) default = renS d l[i - 1] := by simp [hi1]
    obtain ⟨f1, f2, _⟩ := renS_name (d := d) (s := l[i - 1])
    rw [g1] at hb
    rw [g2, e1, e2, f1, f2]
    exact hb
  unfold checkS
  rw [List.length_map, if_neg hlen, if_pos]
  rw [List.all_eq_true]
  intro i hi
  simp [hall i (by simpa using hi)]
theorem ZoneOk.ren {o d : List UInt8} {l : List RSet} (h : ZoneOk o l) (hl : d.length ≤ 4000) (hp : (parseSoa d).isSome = true) : ZoneOk o (l.map (renS d)) := by
  refine ⟨h.lab, h.fold, check_ren h.chk hl hp, ?_, ?_, ?_⟩
  · rw [findS_map, Option.isSome_map]; exact h.soa
  · rw [findS_map, Option.isSome_map]; exact h.ns
  · intro t ht
    obtain ⟨s, hs, rfl⟩ := List.mem_map.1 ht
    have hr := h.right s hs
    obtain ⟨e1, e2, _⟩ := renS_name (d := d) (s := s)
    have h1 : lastR o (l.map (renS d)) (renS d s) = lastR o l s := by
      unfold lastR
      rw [e1, e2, cutR_map]
    by_cases h6 : s.kind = 6
    · have h5 : ¬ s.kind = 5 := by omega
      have hd : (renS d s).data = [d] := by rw [renS_yes h6]
      simp only [rightR, Bool.and_eq_true, Bool.not_eq_true'] at hr ⊢
      rw [h1, e1, e2, hd, clash_map]
      have ho := (h.one6 hs h6).1
      refine ⟨⟨⟨hr.1.1.1, ?_⟩, ?_⟩, hr.2⟩
      · simp [ho]
      · simp [h5]
    · unfold rightR at hr ⊢
      rw [h1, e1, e2, clash_map, renS_no h6]
      exact hr
theorem soaD_ren {o d : List UInt8} {l : List RSet} (h : ZoneOk o l) : soaD o (l.map (renS d)) = d := by
  obtain ⟨s, hs, _, _, h6, _⟩ := h.soaSet
  unfold soaD
  rw [findS_map, hs]
  simp [renS_yes h6]
theorem parse_ok {d : List UInt8} {s : SoaR} (h : parseSoa d = some s) : s.ok = true := by
  unfold parseSoa at h
  simp only at h
  split at h
  · rename_i hh; cases h; exact hh.2.2.2
  · cases h
/-- the set of a zone's beginning of authority is one -/
theorem ZoneOk.only {o : List UInt8} {l : List RSet} (h : ZoneOk o l) {s : RSet} (hs : s ∈ l) (h6 : s.kind = 6) : s.data = [soaD o l] := by
  obtain ⟨t, ht, _, _, _, hd, _⟩ := h.soaSet
  obtain ⟨i, hi, rfl⟩ := List.mem_iff_getElem.1 hs
  have hf := found_all h.chk hi
  rw [h6, (h.one6 hs h6).1, ht] at hf
  rw [← Option.some.inj hf]
  exact hd
theorem ZoneOk.back {o d : List UInt8} {l : List RSet} (h : ZoneOk o l) : (l.map (renS d)).map (renS (soaD o l)) = l := by
  rw [List.map_map]
  conv => rhs; rw [← List.map_id l]
  apply List.map_congr_left
  intro s hs
  simp only [Function.comp, id]
  by_cases h6 : s.kind = 6
  · rw [renS_yes (d := d) h6, renS_yes (by exact h6)]
    have := h.only hs h6
    cases s
    simp only at this
    rw [this]
  · rw [renS_no (d := d) h6, renS_no h6]
/-- what is said of a zone that was renewed -/
structure Renewed (o : List UInt8) (l : List RSet) (n : Int) (l1 : List RSet) : Prop where
  ok : ZoneOk o l
  ok1 : ZoneOk o l1
  soa : soaZ o l1 = withN (soaZ o l) n
  there : ∀ m, thereS o l1 m = thereS o l m
  eBack : renE o l1 (soaZ o l).serial = 0
  lBack : renL o l1 (soaZ o l).serial = l
theorem renewed {o : List UInt8} {l : List RSet} {n : Int} (h : renE o l n = 0) : zoneR o l = 0 ∧ renO o l n = o ∧ Renewed o l n (renL o l n) := by
  have q : zoneR o l = 0 := by
    unfold renE at h
    split at h
    · assumption
    · exact h
  have Z := zone_ok q
  have hok : (withN (soaZ o l) n).ok = true := by
    unfold renE at h
    rw [if_pos q] at h
    split at h
    · assumption
    · cases h
  obtain ⟨hp, hlen⟩ := parse_data hok
  have e1 : renL o l n = l.map (renS (renD o l n)) := by rw [renL, if_pos h]
  have Z1 : ZoneOk o (l.map (renS (renD o l n))) := Z.ren (by show (withN (soaZ o l) n).data.length ≤ 4000; omega) (by show (parseSoa (withN (soaZ o l) n).data).isSome = true; rw [hp]; rfl)
  have q1 := zone_ok' Z1
  have s0 : soaZ o l = soaOf (soaD o l) := by rw [soaZ, if_pos q]
  have s1 : soaZ o (l.map (renS (renD o l n))) = withN (soaZ o l) n := by
    rw [soaZ, if_pos q1, soaD_ren Z]
    have := parse_some (d := renD o l n) (by show (parseSoa (withN (soaZ o l) n).data).isSome = true; rw [hp]; rfl)
    have h2 : parseSoa (renD o l n) = some (withN (soaZ o l) n) := hp
    rw [h2] at this
    exact (Option.some.inj this).symm
  obtain ⟨_, _, _, _, _, _, hpar, _⟩ := Z.soaSet
  rw [← s0] at hpar
  have hok0 := parse_ok hpar
  have hw : withN (soaZ o (l.map (renS (renD o l n)))) (soaZ o l).serial = soaZ o l := by rw [s1]; rfl
  have eB : renE o (l.map (renS (renD o l n))) (soaZ o l).serial = 0 := by
    rw [renE, if_pos q1, hw, if_pos hok0]
  refine ⟨q, by rw [renO, if_pos h], ?_⟩
  rw [e1]
  refine ⟨Z, Z1, s1, fun m => thereS_map l, eB, ?_⟩
  rw [renL, if_pos eB]
  have hd : renD o (l.map (renS (renD o l n))) (soaZ o l).serial = soaD o l := by
    show (withN (soaZ o (l.map (renS (renD o l n)))) (soaZ o l).serial).data = _
    rw [hw]
    exact data_parse hpar
  rw [hd]
  exact Z.back

end Go.Proofs.X
set_option linter.unusedSimpArgs false
set_option linter.unusedVariables false
namespace Go.Proofs.X
open Go.RowKit
set_option maxRecDepth 100000
set_option maxHeartbeats 2000000 in
/-- lodestarlaw08.ZoneRenews -/
theorem z8 (o : List UInt8) (v : Value) (l : List RSet) (n : Int) (m : List UInt8) (w : World) (hv : SetsAt w v l) : Calls Tryz.prog 8 #[.agg #[str o, v], .int .i64 n, str m] w (Yes w) := by
  go_enter Tryz.func8, Tryz.ntmps8
  repeat' ((fail_if_success (with_reducible refine o_s ?_)); go_step)
  refine wpl_box (vs := [str o, v]) rfl rfl ?_
  intro p w1 x1 hp
  refine gset ?_
  repeat' (first | ((with_reducible refine o_s ?_); (first | (refine o_1 ?_; refine o_2 ?_) | (refine o_g ?_; first | refine o_u ?_ | refine o_k ?_ | refine o_n ?_ | refine o_v ?_ | ((first | refine o_G ?_ ?_ | refine o_N ?_ ?_) <;> intro hc)))) | ((fail_if_success (with_reducible refine o_s ?_)); go_step))
  refine wpl_callV (enters_of Tryz.func30 rfl rfl) rfl rfl (r8_Few o v l _ (hv.ext x1)) ?_; intro w2 x2; refine gset ?_
  have hx2 := x1.trans x2
  have hp2 := hp.ext x2
  have hv2 := hv.ext hx2
  cases hf : (decide ((o.length : Int) ≤ 300) && fewS l) with
  | false =>
    repeat' (first | ((with_reducible refine o_s ?_); (first | (refine o_1 ?_; refine o_2 ?_) | (refine o_g ?_; first | refine o_u ?_ | refine o_k ?_ | refine o_n ?_ | refine o_v ?_ | ((first | refine o_G ?_ ?_ | refine o_N ?_ ?_) <;> intro hc)))) | ((fail_if_success (with_reducible refine o_s ?_)); go_step))
    refine wpl_callV (enters_of Tryz.func26 rfl rfl) rfl rfl (z_liveV _) ?_; intro w3 x3; refine gset ?_
    repeat' (first | ((with_reducible refine o_s ?_); (first | (refine o_1 ?_; refine o_2 ?_) | (refine o_g ?_; first | refine o_u ?_ | refine o_k ?_ | refine o_n ?_ | refine o_v ?_ | ((first | refine o_G ?_ ?_ | refine o_N ?_ ?_) <;> intro hc)))) | ((fail_if_success (with_reducible refine o_s ?_)); go_step))
    go_ret
    exact ⟨rfl, hx2.trans x3⟩
  | true =>
    obtain ⟨b1, b2, b3, _⟩ := fewz hf
    repeat' (first | ((with_reducible refine o_s ?_); (first | (refine o_1 ?_; refine o_2 ?_) | (refine o_g ?_; first | refine o_u ?_ | refine o_k ?_ | refine o_n ?_ | refine o_v ?_ | ((first | refine o_G ?_ ?_ | refine o_N ?_ ?_) <;> intro hc)))) | ((fail_if_success (with_reducible refine o_s ?_)); go_step))
    · refine wpl_callV (enters_of Tryz.func26 rfl rfl) rfl rfl (z_liveV _) ?_; intro w3 x3; refine gset ?_
      repeat' (first | ((with_reducible refine o_s ?_); (first | (refine o_1 ?_; refine o_2 ?_) | (refine o_g ?_; first | refine o_u ?_ | refine o_k ?_ | refine o_n ?_ | refine o_v ?_ | ((first | refine o_G ?_ ?_ | refine o_N ?_ ?_) <;> intro hc)))) | ((fail_if_success (with_reducible refine o_s ?_)); go_step))
      go_ret
      exact ⟨rfl, hx2.trans x3⟩
    · refine wpl_callV (enters_of Tryz.func32 rfl rfl) rfl rfl (p_Soa o v l _ hv2 b2 b3) ?_; intro w3 x3; refine gset ?_
      repeat' (first | ((with_reducible refine o_s ?_); (first | (refine o_1 ?_; refine o_2 ?_) | (refine o_g ?_; first | refine o_u ?_ | refine o_k ?_ | refine o_n ?_ | refine o_v ?_ | ((first | refine o_G ?_ ?_ | refine o_N ?_ ?_) <;> intro hc)))) | ((fail_if_success (with_reducible refine o_s ?_)); go_step))
      refine wpl_allocB (z := zeroSoa) rfl (by decide +kernel) ?_
      intro w4 x4 s4 h4
      refine gset ?_
      refine wpl_storeB (v := .agg (soaZ o l).cells.toArray) rfl rfl rfl h4 (show sizeTy Tryz.prog 51 7 = true by decide +kernel) rfl (soaR_one _) ?_
      intro w5 p5
      have x5 : Ext w3 w5 := x4.move p5.mv (by rintro k ⟨⟩; exact Nat.le_refl _)
      have hs5 := pts_block (cs := [str (soaZ o l).main, str (soaZ o l).mail, .int .i64 (soaZ o l).serial, .int .i64 (soaZ o l).refresh, .int .i64 (soaZ o l).retry, .int .i64 (soaZ o l).expire, .int .i64 (soaZ o l).minimum]) p5.this
      have x25 := x3.trans x5
      have hp5 := hp2.ext x25
      have hv5 := hv2.ext x25
      have hx5 := hx2.trans x25
      clear p5 h4 x4 hv2 hp2
      repeat' (first | ((with_reducible refine o_s ?_); (first | (refine o_1 ?_; refine o_2 ?_) | (refine o_g ?_; first | refine o_u ?_ | refine o_k ?_ | refine o_n ?_ | refine o_v ?_ | ((first | refine o_G ?_ ?_ | refine o_N ?_ ?_) <;> intro hc)))) | ((fail_if_success (with_reducible refine o_s ?_)); go_step))
      refine wpl_callR (enters_of Tryz.func34 rfl rfl) rfl rfl (p_Renew o v l n _ hv5 (by omega) b2 b3) ?_
      intro r6 w6 x6 hr6
      obtain ⟨y, rfl, hy⟩ := hr6
      have hy := hy.sets
      have hy1 : y.oneCell' = true := by obtain ⟨css, h, _⟩ := hy; exact h.one
      refine gset ?_
      repeat' (first | ((with_reducible refine o_s ?_); (first | (refine o_1 ?_; refine o_2 ?_) | (refine o_g ?_; first | refine o_u ?_ | refine o_k ?_ | refine o_n ?_ | refine o_v ?_ | ((first | refine o_G ?_ ?_ | refine o_N ?_ ?_) <;> intro hc)))) | ((fail_if_success (with_reducible refine o_s ?_)); go_step))
      refine wpl_allocB (z := zzone) rfl (by decide +kernel) ?_
      intro w7 x7 s7 h7
      refine gset ?_
      refine wpl_storeB (v := .agg #[str (renO o l n), y]) rfl rfl rfl h7 (show sizeTy Tryz.prog 43 2 = true by decide +kernel) rfl (zone_one hy1) ?_
      intro w8 p8
      have x8 : Ext w6 w8 := x7.move p8.mv (by rintro k ⟨⟩; exact Nat.le_refl _)
      have hq8 := pts_block (cs := [str (renO o l n), y]) p8.this
      have hy8 := hy.ext x8
      have x58 := x6.trans x8
      have hs8 := hs5.ext x58
      have hp8 := hp5.ext x58
      have hv8 := hv5.ext x58
      have hx8 := hx5.trans x58
      clear p8 h7 x7 hs5 hp5 hv5 hy
      by_cases hE : renE o l n = 0
      · obtain ⟨q, hO, hR⟩ := renewed hE
        have hl1 : (renL o l n).length = l.length := by rw [renL, if_pos hE, List.length_map]
        have hb1 : ∀ s ∈ renL o l n, s.data.length ≤ 1000000 := by
          intro t ht
          rw [renL, if_pos hE] at ht
          obtain ⟨s, hs, rfl⟩ := List.mem_map.1 ht
          unfold renS
          split
          · simp
          · exact b2 s hs
        have hd1 : ∀ s ∈ renL o l n, ∀ d ∈ s.data, d.length ≤ 4611686018427387904 := by
          intro t ht d hd
          obtain ⟨i, hi, rfl⟩ := List.mem_iff_getElem.1 ht
          obtain ⟨j, hj, rfl⟩ := List.mem_iff_getElem.1 hd
          have := (checkR_data (may_at (hR.ok1.may ht) hj)).1
          simp only at this
          omega
        rw [hO] at hq8
        rw [hE, hO]
        have q1 := zone_ok' hR.ok1
        have hsoa := hR.soa
        generalize hl1g : renL o l n = l1 at *
        repeat' (first | ((with_reducible refine o_s ?_); (first | (refine o_1 ?_; refine o_2 ?_) | (refine o_g ?_; first | refine o_u ?_ | refine o_k ?_ | refine o_n ?_ | refine o_v ?_ | ((first | refine o_G ?_ ?_ | refine o_N ?_ ?_) <;> intro hc)))) | ((fail_if_success (with_reducible refine o_s ?_)); go_step))
        refine wpl_callV (enters_of Tryz.func32 rfl rfl) rfl rfl (p_Soa o y l1 _ hy8 hb1 hd1) ?_; intro w9 x9; refine gset ?_
        rw [hsoa, q1]
        repeat' (first | ((with_reducible refine o_s ?_); (first | (refine o_1 ?_; refine o_2 ?_) | (refine o_g ?_; first | refine o_u ?_ | refine o_k ?_ | refine o_n ?_ | refine o_v ?_ | ((first | refine o_G ?_ ?_ | refine o_N ?_ ?_) <;> intro hc)))) | ((fail_if_success (with_reducible refine o_s ?_)); go_step))
        refine wpl_allocB (z := zeroSoa) rfl (by decide +kernel) ?_
        intro w10 x10 s10 h10
        refine gset ?_
        refine wpl_storeB (v := .agg (withN (soaZ o l) n).cells.toArray) rfl rfl rfl h10 (show sizeTy Tryz.prog 51 7 = true by decide +kernel) rfl (soaR_one _) ?_
        intro w11 p11
        have x11 : Ext w9 w11 := x10.move p11.mv (by rintro k ⟨⟩; exact Nat.le_refl _)
        have ht11 := pts_block (cs := [str (soaZ o l).main, str (soaZ o l).mail, .int .i64 n, .int .i64 (soaZ o l).refresh, .int .i64 (soaZ o l).retry, .int .i64 (soaZ o l).expire, .int .i64 (soaZ o l).minimum]) p11.this
        have x811 := x9.trans x11
        have hs11 := hs8.ext x811
        have hq11 := hq8.ext x811
        have hy11 := hy8.ext x811
        have hp11 := hp8.ext x811
        have hv11 := hv8.ext x811
        have hx11 := hx8.trans x811
        clear p11 h10 x10 hs8 hy8 hv8 hp8 hq8
        repeat' (first | ((with_reducible refine o_s ?_); (first | (refine o_1 ?_; refine o_2 ?_) | (refine o_g ?_; first | refine o_u ?_ | refine o_k ?_ | refine o_n ?_ | refine o_v ?_ | ((first | refine o_G ?_ ?_ | refine o_N ?_ ?_) <;> intro hc)))) | ((fail_if_success (with_reducible refine o_s ?_)); go_step))
        refine wpl_callR (enters_of Tryz.func34 rfl rfl) rfl rfl (p_Renew o y l1 (soaZ o l).serial _ hy11 (by omega) hb1 hd1) ?_
        intro r12 w12 x12 hr12
        obtain ⟨a, rfl, ha⟩ := hr12
        have ha := ha.sets
        rw [hR.lBack] at ha
        rw [hR.eBack, show renO o l1 (soaZ o l).serial = o by rw [renO, if_pos hR.eBack]]
        have ha1 : a.oneCell' = true := by obtain ⟨css, h, _⟩ := ha; exact h.one
        refine gset ?_
        repeat' (first | ((with_reducible refine o_s ?_); (first | (refine o_1 ?_; refine o_2 ?_) | (refine o_g ?_; first | refine o_u ?_ | refine o_k ?_ | refine o_n ?_ | refine o_v ?_ | ((first | refine o_G ?_ ?_ | refine o_N ?_ ?_) <;> intro hc)))) | ((fail_if_success (with_reducible refine o_s ?_)); go_step))
        refine wpl_allocB (z := zzone) rfl (by decide +kernel) ?_
        intro w13 x13 s13 h13
        refine gset ?_
        refine wpl_storeB (v := .agg #[str o, a]) rfl rfl rfl h13 (show sizeTy Tryz.prog 43 2 = true by decide +kernel) rfl (zone_one ha1) ?_
        intro w14 p14
        have x14 : Ext w12 w14 := x13.move p14.mv (by rintro k ⟨⟩; exact Nat.le_refl _)
        have hc14 := pts_block (cs := [str o, a]) p14.this
        have ha14 := ha.ext x14
        have x1114 := x12.trans x14
        have ht14 := ht11.ext x1114
        have hs14 := hs11.ext x1114
        have hq14 := hq11.ext x1114
        have hy14 := hy11.ext x1114
        have hp14 := hp11.ext x1114
        have hv14 := hv11.ext x1114
        have hx14 := hx11.trans x1114
        clear p14 h13 x13 hs11 ht11 hy11 hv11 hp11 hq11 ha
        have c1 := same_true (o := o) (o' := o) ha14 hv14 rfl rfl
        rw [q]
        repeat' (first | ((with_reducible refine o_s ?_); (first | (refine o_1 ?_; refine o_2 ?_) | (refine o_g ?_; first | refine o_u ?_ | refine o_k ?_ | refine o_n ?_ | refine o_v ?_ | ((first | refine o_G ?_ ?_ | refine o_N ?_ ?_) <;> intro hc)))) | ((fail_if_success (with_reducible refine o_s ?_)); go_step))
        refine wpl_callV (enters_of Tryz.func29 rfl rfl) rfl rfl (c1) ?_; intro w15 x15; refine gset ?_
        have hq15 := hq14.ext x15
        have hp15 := hp14.ext x15
        have hy15 := hy14.ext x15
        have hv15 := hv14.ext x15
        have hx15 := hx14.trans x15
        have c2 : ∀ w', Ext w15 w' → Calls Tryz.prog 40 #[.agg #[str o, y], str m] w' (RetV w' (.bool (thereS o l m))) := fun w' x' => by
          have := p_Exists o y l1 m w' (hy15.ext x') hb1
          rw [q1, hR.there m] at this
          exact this
        have c3 : ∀ w', Ext w15 w' → Calls Tryz.prog 40 #[.agg #[str o, v], str m] w' (RetV w' (.bool (thereS o l m))) := fun w' x' => by
          have := p_Exists o v l m w' (hv15.ext x') b2
          rw [q] at this
          exact this
        generalize thereS o l m = e at c2 c3
        repeat' (first | ((with_reducible refine o_s ?_); (first | (refine o_1 ?_; refine o_2 ?_) | (refine o_g ?_; first | refine o_u ?_ | refine o_k ?_ | refine o_n ?_ | refine o_v ?_ | ((first | refine o_G ?_ ?_ | refine o_N ?_ ?_) <;> intro hc)))) | ((fail_if_success (with_reducible refine o_s ?_)); go_step))
        refine wpq_region (by decide +kernel) (by decide +kernel) ?_
        repeat' (first | ((with_reducible refine q_s ?_); (first | (refine q_1 ?_; refine q_2 ?_) | (refine q_g ?_; first | refine q_u ?_ | refine q_k ?_ | refine q_v ?_))) | (with_reducible refine q_n ?_))
        refine wpq_call (enters_of Tryz.func40 rfl rfl) rfl rfl (fun w' x' => c2 w' x') ?_
        refine gset ?_
        repeat' (first | ((with_reducible refine q_s ?_); (first | (refine q_1 ?_; refine q_2 ?_) | (refine q_g ?_; first | refine q_u ?_ | refine q_k ?_ | refine q_v ?_))) | (with_reducible refine q_n ?_))
        refine wpq_call (enters_of Tryz.func40 rfl rfl) rfl rfl (fun w' x' => c3 w' x') ?_
        refine gset ?_
        repeat' (first | ((with_reducible refine q_s ?_); (first | (refine q_1 ?_; refine q_2 ?_) | (refine q_g ?_; first | refine q_u ?_ | refine q_k ?_ | refine q_v ?_))) | (with_reducible refine q_n ?_))
        refine wpq_run0 (fun _ _ => Runs.eqlB rfl rfl (by decide +kernel)) ?_
        rw [show (e == e) = true by simp]
        refine gset ?_
        repeat' (first | ((with_reducible refine q_s ?_); (first | (refine q_1 ?_; refine q_2 ?_) | (refine q_g ?_; first | refine q_u ?_ | refine q_k ?_ | refine q_v ?_))) | (with_reducible refine q_n ?_))
        refine wpq_call (enters_of Tryz.func26 rfl rfl) rfl rfl (fun w' _ => z_liveV w') ?_
        refine gset ?_
        repeat' (first | ((with_reducible refine q_s ?_); (first | (refine q_1 ?_; refine q_2 ?_) | (refine q_g ?_; first | refine q_u ?_ | refine q_k ?_ | refine q_v ?_))) | (with_reducible refine q_n ?_))
        intro w18 x18
        repeat' (first | ((with_reducible refine o_s ?_); (first | (refine o_1 ?_; refine o_2 ?_) | (refine o_g ?_; first | refine o_u ?_ | refine o_k ?_ | refine o_n ?_ | refine o_v ?_ | ((first | refine o_G ?_ ?_ | refine o_N ?_ ?_) <;> intro hc)))) | ((fail_if_success (with_reducible refine o_s ?_)); go_step))
        go_ret
        exact ⟨rfl, hx15.trans x18⟩
      · have hL : renL o l n = [] := by rw [renL, if_neg hE]
        rw [hL] at hy8
        obtain ⟨css, hcs, hcl⟩ := hy8.sl
        have hcl0 : css.length = 0 := hcl
        repeat' (first | ((with_reducible refine o_s ?_); (first | (refine o_1 ?_; refine o_2 ?_) | (refine o_g ?_; first | refine o_u ?_ | refine o_k ?_ | refine o_n ?_ | refine o_v ?_ | ((first | refine o_G ?_ ?_ | refine o_N ?_ ?_) <;> intro hc)))) | ((fail_if_success (with_reducible refine o_s ?_)); go_step))
        · refine wpl_callV (enters_of Tryz.func26 rfl rfl) rfl rfl (z_liveV _) ?_; intro w9 x9; refine gset ?_
          repeat' (first | ((with_reducible refine o_s ?_); (first | (refine o_1 ?_; refine o_2 ?_) | (refine o_g ?_; first | refine o_u ?_ | refine o_k ?_ | refine o_n ?_ | refine o_v ?_ | ((first | refine o_G ?_ ?_ | refine o_N ?_ ?_) <;> intro hc)))) | ((fail_if_success (with_reducible refine o_s ?_)); go_step))
          go_ret
          exact ⟨rfl, hx8.trans x9⟩
        all_goals first
          | (exfalso; rename_i hbad; simp at hbad; omega)
          | exact absurd (by assumption : (!decide (renE o l n = 0)) = false) (by simp [hE])

end Go.Proofs.X
set_option linter.unusedSimpArgs false
set_option linter.unusedVariables false
namespace Go.Proofs.X
open Go.RowKit
set_option maxRecDepth 100000
open Go.ChangeShapes Go.WideShapes Go.ChangeAt Go.RowKit
theorem own : ownKnob Tryz.prog.godebug = none := by kernel_rfl
theorem laidOut : laidOutB Tryz.prog = true := by kernel_rfl
/-- a slice of records that came in -/
theorem open_recs {H : Type} {enc : TypeId × Value → H} {w : World} {base : Nat} {spare : Nat → Bool} {held : Bool} {fuel : Nat} {v : Value} {x : DataW H × List MemPlace} (h : DataW.trod enc Tryz.prog w base spare held fuel 22 [v] = some x) : ∃ l : List Rec, Sl 4 w v (rcells l) := by
  obtain ⟨es, hs, he⟩ := open_rows Tryz.underlying22 (show Tryz.prog.cellsOf 66 = 4 by kernel_rfl) (by omega) h
  obtain ⟨l, rfl⟩ : ∃ l : List Rec, es = l.map Rec.cells := by
    refine all_map fun c hc => ?_
    obtain ⟨n, y, hy⟩ := he c hc
    obtain ⟨xs, n', _, _, hl, hxl, hf⟩ := DataW.trod_struct Tryz.underlying66 hy
    have c30 : Tryz.prog.cellsOf 31 = 1 := by kernel_rfl
    have c3 : Tryz.prog.cellsOf 3 = 1 := by kernel_rfl
    have c9 : Tryz.prog.cellsOf 9 = 1 := by kernel_rfl
    have c32 : Tryz.prog.cellsOf 66 = 4 := by kernel_rfl
    rw [c32] at hl
    match c, hl, xs, hxl with
    | [a, b, d, e], _, [y0, y1, y2, y3], _ =>
      have g0 := hf 0 _ rfl
      have g1 := hf 1 _ rfl
      have g2 := hf 2 _ rfl
      have g3 := hf 3 _ rfl
      simp [c30, c3, c9] at g0 g1 g2 g3
      obtain ⟨s0, rfl, _⟩ := trod_str Tryz.underlying31 g0
      obtain ⟨n1, rfl, _⟩ := trod_num Tryz.underlying3 g1
      obtain ⟨n2, rfl, _⟩ := trod_num Tryz.underlying3 g2
      obtain ⟨s3, rfl, _⟩ := trod_str Tryz.underlying9 g3
      exact ⟨⟨s0, n1, n2, s3⟩, rfl⟩
  exact ⟨l, hs⟩

end Go.Proofs.X
set_option linter.unusedSimpArgs false
set_option linter.unusedVariables false
namespace Go.Proofs.X
open Go.RowKit
set_option maxRecDepth 100000
open Go.ChangeShapes Go.WideShapes Go.ChangeAt Go.RowKit
/-- a slice of texts that came in -/
theorem open_texts {H : Type} {enc : TypeId × Value → H} {w : World} {base : Nat} {spare : Nat → Bool} {held : Bool} {fuel : Nat} {v : Value} {x : DataW H × List MemPlace} (h : DataW.trod enc Tryz.prog w base spare held fuel 33 [v] = some x) : ∃ l : List (List UInt8), Sl 1 w v (tcells l) := by
  obtain ⟨es, hs, he⟩ := open_rows Tryz.underlying33 (show Tryz.prog.cellsOf 9 = 1 by kernel_rfl) (by omega) h
  obtain ⟨l, rfl⟩ : ∃ l : List (List UInt8), es = l.map fun s => [str s] := by
    refine all_map fun c hc => ?_
    obtain ⟨n, y, hy⟩ := he c hc
    have hl : c.length = 1 := by
      obtain ⟨_, _, _, _, _, h4, _, _⟩ := hs
      exact h4 c hc
    match c, hl with
    | [a], _ =>
      obtain ⟨s, rfl, _⟩ := trod_str Tryz.underlying9 hy
      exact ⟨s, rfl⟩
  exact ⟨l, hs⟩
/-- a slice of sets that came in -/
theorem open_sets {H : Type} {enc : TypeId × Value → H} {w : World} {base : Nat} {spare : Nat → Bool} {held : Bool} {fuel : Nat} {v : Value} {x : DataW H × List MemPlace} (h : DataW.trod enc Tryz.prog w base spare held fuel 25 [v] = some x) : ∃ l : List RSet, SetsAt w v l := by
  obtain ⟨es, hs, he⟩ := open_rows Tryz.underlying25 (show Tryz.prog.cellsOf 35 = 4 by kernel_rfl) (by omega) h
  obtain ⟨l, rfl⟩ : ∃ l : List {p : RSet × Value // Sl 1 w p.2 (tcells p.1.data)}, es = l.map fun p => [str p.1.1.name, .int .i64 p.1.1.kind, .int .i64 p.1.1.ttl, p.1.2] := by
    refine all_map fun c hc => ?_
    obtain ⟨n, y, hy⟩ := he c hc
    obtain ⟨xs, n', _, _, hl, hxl, hf⟩ := DataW.trod_struct Tryz.underlying35 hy
    have c30 : Tryz.prog.cellsOf 31 = 1 := by kernel_rfl
    have c3 : Tryz.prog.cellsOf 3 = 1 := by kernel_rfl
    have c35 : Tryz.prog.cellsOf 33 = 1 := by kernel_rfl
    have c37 : Tryz.prog.cellsOf 35 = 4 := by kernel_rfl
    rw [c37] at hl
    match c, hl, xs, hxl with
    | [a, b, d, e], _, [y0, y1, y2, y3], _ =>
      have g0 := hf 0 _ rfl
      have g1 := hf 1 _ rfl
      have g2 := hf 2 _ rfl
      have g3 := hf 3 _ rfl
      simp [c30, c3, c35] at g0 g1 g2 g3
      obtain ⟨s0, rfl, _⟩ := trod_str Tryz.underlying31 g0
      obtain ⟨n1, rfl, _⟩ := trod_num Tryz.underlying3 g1
      obtain ⟨n2, rfl, _⟩ := trod_num Tryz.underlying3 g2
      obtain ⟨ts, hts⟩ := open_texts g3
      exact ⟨⟨(⟨s0, n1, n2, ts⟩, e), hts⟩, rfl⟩
  refine ⟨l.map fun p => p.1.1, _, hs, by simp, ?_⟩
  intro i s hi
  rw [List.getElem?_map] at hi
  obtain ⟨p, hp, rfl⟩ := Option.map_eq_some_iff.1 hi
  exact ⟨p.1.2, by rw [List.getElem?_map, hp]; rfl, p.2⟩

end Go.Proofs.X
set_option linter.unusedSimpArgs false
set_option linter.unusedVariables false
namespace Go.Proofs.X
open Go.RowKit
set_option maxRecDepth 100000
open Go.ChangeShapes Go.WideShapes Go.ChangeAt Go.RowKit
/-- a zone that came in -/
theorem open_zone {H : Type} {enc : TypeId × Value → H} {w : World} {base : Nat} {spare : Nat → Bool} {held : Bool} {fuel : Nat} {c : Array Value} {x : DataW H × List MemPlace} (h : DataW.trod enc Tryz.prog w base spare held fuel 43 (Value.agg c).cells.toList = some x) : ∃ (o : List UInt8) (l : List RSet) (u : Value), c = #[str o, u] ∧ SetsAt w u l := by
  have e : (Value.agg c).cells.toList = c.toList := rfl
  rw [e] at h
  obtain ⟨xs, n', _, _, hl, hxl, hf⟩ := DataW.trod_struct Tryz.underlying43 h
  have c30 : Tryz.prog.cellsOf 31 = 1 := by kernel_rfl
  have c25 : Tryz.prog.cellsOf 25 = 1 := by kernel_rfl
  have c43 : Tryz.prog.cellsOf 43 = 2 := by kernel_rfl
  rw [c43] at hl
  obtain ⟨cl⟩ := c
  match cl, hl, xs, hxl with
  | [a, b], _, [y0, y1], _ =>
    have g0 := hf 0 _ rfl
    have g1 := hf 1 _ rfl
    simp [c30, c25] at g0 g1
    obtain ⟨s0, rfl, _⟩ := trod_str Tryz.underlying31 g0
    obtain ⟨l, hls⟩ := open_sets g1
    exact ⟨s0, l, b, rfl, hls⟩

end Go.Proofs.X
set_option linter.unusedSimpArgs false
set_option linter.unusedVariables false
namespace Go.Proofs.X
open Go.RowKit
set_option maxRecDepth 100000
open Go.ChangeShapes Go.WideShapes Go.ChangeAt Go.RowKit
set_option maxRecDepth 100000 in
theorem zoneRenews_lifted (os : Os) (started : os.Started) (H : Type) (enc : TypeId × Value → H) :
    ReturnsInHanded {} Tryz.checked os 8 .any (YtfgkdjkegifpgaaGreat.Rows.zoneRenewsSpec.pre6 enc Tryz.prog Tryz.f8 YtfgkdjkegifpgaaGreat.Rows.zoneRenewsRow.domain false) (YtfgkdjkegifpgaaGreat.Rows.zoneRenewsSpec.post enc Tryz.prog Tryz.f8 false true false false) := by
  refine returnsInHanded_of_change (C := Tryz.checked) own started (by kernel_rfl) Tryz.func8
    (ChangeSpec.witness6 (enc := enc) (C := Tryz.checked) false ⟨#[], #[.agg #[str [], .slice none 0 0], .int .i64 0, str []], []⟩ 8 (by kernel_rfl) (by kernel_rfl) (by kernel_rfl) (by kernel_rfl)) ?_
  intro W base args ds gs before hval0 hW hcnd _
  have hW' := hW
  obtain ⟨p, q, hA0, hV, rfl, hfz, hnd⟩ := hW
  have hA : DataW.TrodAll enc Tryz.prog W 0 (fun _ => true) true Tryz.f8.params.toList args.toList ds p := hA0
  have hval : ∀ (j : Nat) t v, Tryz.f8.params[j]? = some t → args[j]? = some v → Value.okWide Tryz.prog W .any base t v := hval0
  rw [Tryz.params8] at hA hval
  obtain ⟨v0, vs0, d0, ds0, p0, q0, hargs, rfl, rfl, h0, r0⟩ := trodAll_cons hA
  obtain ⟨v1, vs1, d1, ds1, p1, q1, rfl, rfl, rfl, h1, r1⟩ := trodAll_cons r0
  obtain ⟨v2, vs2, d2, ds2, p2, q2, rfl, rfl, rfl, h2, r2⟩ := trodAll_cons r1
  obtain ⟨rfl, rfl, rfl⟩ := trodAll_nil r2
  obtain rfl : args = #[v0, v1, v2] := by cases args; simp_all
  obtain ⟨rfl, rfl⟩ := trodVars_none hV
  have k0 := h0
  have k1 := h1
  have k2 := h2
  have lt0 : ∀ x ∈ p0, x.block < W.heap.size := by obtain ⟨m, hm⟩ := k0; exact DataW.trod_lt m _ _ _ hm
  have lt1 : ∀ x ∈ p1, x.block < W.heap.size := by obtain ⟨m, hm⟩ := k1; exact DataW.trod_lt m _ _ _ hm
  have lt2 : ∀ x ∈ p2, x.block < W.heap.size := by obtain ⟨m, hm⟩ := k2; exact DataW.trod_lt m _ _ _ hm
  obtain ⟨c0, rfl, z0⟩ := okWide_struct Tryz.underlying43 (hval 0 43 v0 rfl rfl)
  obtain ⟨o0, l0, w0, e0, g0⟩ : ∃ (o : List UInt8) (l : List RSet) (u : Value), c0 = #[str o, u] ∧ SetsAt W u l := by
    obtain ⟨fuel, hf⟩ := h0
    exact open_zone hf
  subst e0
  obtain ⟨n1, rfl⟩ := okWide_int Tryz.underlying3 (hval 1 3 v1 rfl rfl)
  obtain ⟨b2, rfl⟩ := okWide_string Tryz.underlying31 (hval 2 31 v2 rfl rfl)
  obtain ⟨n2, e2⟩ : ∃ n : List UInt8, Value.string b2 = str n := ⟨b2.data.toList, by rw [str, Array.toArray_toList]⟩
  clear hA0 hval0
  have h9 := z8 o0 w0 l0 n1 n2 W g0
  rw [← e2] at h9
  refine h9.mono fun e W' ⟨he, hx⟩ => ?_
  subst he
  have bel := hx.below
  exact ⟨_, rfl, _, _, _, [], _, [], hW', trodAll_mk1 (shut_bool Tryz.underlying4 _), (trodAll_cons_mk (Below.trod laidOut (by kernel_rfl) (of_decide_eq_true (by kernel_rfl)) k0 bel lt0) (trodAll_cons_mk (Below.trod laidOut (by kernel_rfl) (of_decide_eq_true (by kernel_rfl)) k1 bel lt1) (trodAll_cons_mk (Below.trod laidOut (by kernel_rfl) (of_decide_eq_true (by kernel_rfl)) k2 bel lt2) trodAll_mk0))), rfl, bel.frame _, fun h => by cases h⟩
theorem zoneRenews_holds : YtfgkdjkegifpgaaGreat.Rows.ZoneRenewsSaid :=
  OpenClaim.holds_of_wide 8 Tryz.f8 rfl rfl rfl rfl rfl rfl rfl ⟨rfl, rfl, rfl, rfl, rfl⟩ rfl rfl rfl rfl rfl (by kernel_rfl) Tryz.func8 (by kernel_rfl)
    (of_decide_eq_true (by kernel_rfl)) (by unfold Func.isWrapper; first | (rw [if_pos (by decide +kernel)]; kernel_rfl) | (rw [if_neg (by decide +kernel)]; exact ⟨rfl, rfl⟩))
    (fun os started H enc _ => zoneRenews_lifted os started H enc)

end Go.Proofs.X
