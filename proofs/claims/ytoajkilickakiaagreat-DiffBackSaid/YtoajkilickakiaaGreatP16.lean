/- Laws and walks that the proof of the statement is made of (part 16). -/
import Derived.Test.YtoajkilickakiaaGreatProg
import Derived.Test.YtoajkilickakiaaGreatShelf
import Derived.Shelf.SlSortCmp.NoneTotal
import Derived.Shelf.RegionOpenPlain
import Derived.Lib.Strings
import Derived.Lib.Slices
import Derived.Lib.Walk
import Derived.Lib.Builder
import Derived.Lib.AppendStr
import Derived.Lib.UnsafeStr
import Derived.Lib.MakeNoZero
import Derived.WalkKit
import Derived.Laws.Externs
import Derived.Laws.IdiomCopy
import Derived.Laws.BitsLemmas
import GoSem.Claims
import Derived.Lib.Hide
import Derived.OwnWalk
import Derived.Test.YtoajkilickakiaaGreatRows
import Derived.ProofKit
import Derived.OpenShut
import Derived.ShutString
import Derived.ChangeOld
import Derived.Below
import Derived.Test.YtoajkilickakiaaGreatP1
import Derived.Test.YtoajkilickakiaaGreatP2
import Derived.Test.YtoajkilickakiaaGreatP3
import Derived.Test.YtoajkilickakiaaGreatP4
import Derived.Test.YtoajkilickakiaaGreatP5
import Derived.Test.YtoajkilickakiaaGreatP6
import Derived.Test.YtoajkilickakiaaGreatP8
import Derived.Test.YtoajkilickakiaaGreatP9
import Derived.Test.YtoajkilickakiaaGreatP10
import Derived.Test.YtoajkilickakiaaGreatP11
import Derived.Test.YtoajkilickakiaaGreatP12
import Derived.Test.YtoajkilickakiaaGreatP13
import Derived.Test.YtoajkilickakiaaGreatP14
import Derived.Test.YtoajkilickakiaaGreatP15
set_option linter.unusedSimpArgs false
set_option linter.unusedVariables false
namespace Go.Proofs.X
open Go.RowKit
set_option maxRecDepth 100000
/-! ### lodestarlaw08.Simple -/
def simS : List UInt8 := [2, 110, 115, 1, 97, 0, 1, 109, 0, 0, 0, 0, 5, 0, 0, 0, 10, 0, 0, 0, 3, 0, 0, 0, 100, 0, 0, 0, 4]
def simT : List UInt8 := [2, 110, 115, 1, 97, 0, 1, 109, 0, 0, 0, 0, 6, 0, 0, 0, 10, 0, 0, 0, 3, 0, 0, 0, 100, 0, 0, 0, 4]
def simR : List Rec := [⟨[1, 97], 6, 9, simS⟩, ⟨[1, 97], 2, 9, [2, 110, 115, 1, 97, 0]⟩, ⟨[2, 110, 115, 1, 97], 1, 9, [49, 49, 49, 49]⟩]
def simZ : List RSet := [⟨[1, 97], 2, 9, [[2, 110, 115, 1, 97, 0]]⟩, ⟨[1, 97], 6, 9, [simS]⟩, ⟨[2, 110, 115, 1, 97], 1, 9, [[49, 49, 49, 49]]⟩]
def simY : List RSet := [⟨[1, 97], 2, 9, [[2, 110, 115, 1, 97, 0]]⟩, ⟨[1, 97], 6, 9, [simT]⟩, ⟨[2, 110, 115, 1, 97], 1, 9, [[49, 49, 49, 49]]⟩]
theorem sim_E : loadE [1, 65] simR = 0 := by decide +kernel
theorem sim_L : loadL [1, 65] simR = simZ := by decide +kernel
theorem sim_O : loadO [1, 65] simR = [1, 97] := by decide +kernel
theorem sim_E1 : loadE [1, 97] (simR.take 1) = 2 := by decide +kernel
theorem sim_Z : zoneR [1, 97] simZ = 0 := by decide +kernel
theorem sim_soa : soaZ [1, 97] simZ = ⟨[2, 110, 115, 1, 97], [1, 109], 5, 10, 3, 100, 4⟩ := by decide +kernel
theorem sim_renE : renE [1, 97] simZ 6 = 0 := by decide +kernel
theorem sim_renL : renL [1, 97] simZ 6 = simY := by decide +kernel
theorem sim_renO : renO [1, 97] simZ 6 = [1, 97] := by decide +kernel
theorem sim_Y : zoneR [1, 97] simY = 0 := by decide +kernel
theorem sim_soaY : soaZ [1, 97] simY = ⟨[2, 110, 115, 1, 97], [1, 109], 6, 10, 3, 100, 4⟩ := by decide +kernel
theorem sim_cut : cutR [1, 97] simZ [2, 110, 115, 1, 97] = ([], false) := by decide +kernel
theorem sim_is : thereS [1, 97] simZ [2, 78, 83, 1, 97] = true := by decide +kernel
theorem sim_no : thereS [1, 97] simZ [1, 120, 1, 97] = false := by decide +kernel
theorem sim_b : ∀ s ∈ simZ, s.data.length ≤ 1000000 := by decide +kernel
theorem sim_d : ∀ s ∈ simZ, ∀ d ∈ s.data, d.length ≤ 4611686018427387904 := by decide +kernel
theorem sim_b2 : ∀ s ∈ simY, s.data.length ≤ 1000000 := by decide +kernel
theorem sim_d2 : ∀ s ∈ simY, ∀ d ∈ s.data, d.length ≤ 4611686018427387904 := by decide +kernel
theorem sim_r : ∀ r ∈ simR, r.data.length ≤ 4611686018427387904 := by decide +kernel
theorem p_Simple (w : World) : Calls Tryz.prog 65 #[] w (Ret w fun r w' => Sl 4 w' r (rcells simR)) := by
  go_enter Tryz.func65, Tryz.ntmps65
  repeat' ((fail_if_success (with_reducible refine o_s ?_)); go_step)
  repeat' (first | ((with_reducible refine o_s ?_); (first | (refine o_1 ?_; refine o_2 ?_) | (refine o_g ?_; first | refine o_u ?_ | refine o_k ?_ | refine o_n ?_ | refine o_v ?_ | ((first | refine o_G ?_ ?_ | refine o_N ?_ ?_) <;> intro hc)))) | ((fail_if_success (with_reducible refine o_s ?_)); go_step))
  refine wpl_run (v := .agg #[str [1, 97], .int .i64 6, .int .i64 9, str simS]) rfl (Runs.build rfl (by kernel_rfl)) ?_
  refine gset ?_
  refine wpl_run (v := .agg #[str [1, 97], .int .i64 2, .int .i64 9, str [2, 110, 115, 1, 97, 0]]) rfl (Runs.build rfl (by kernel_rfl)) ?_
  refine gset ?_
  refine wpl_run (v := .agg #[str [2, 110, 115, 1, 97], .int .i64 1, .int .i64 9, str [49, 49, 49, 49]]) rfl (Runs.build rfl (by kernel_rfl)) ?_
  refine gset ?_
  refine wpl_slice (e := 75) (k := 4) (bytes := 48) (xs := simR.map fun r => .agg r.cells.toArray) rfl rfl rfl (by intro x hx; obtain ⟨r, _, rfl⟩ := List.mem_map.1 hx; rfl) (by decide +kernel) (by decide +kernel) ?_
  intro v1 w1 x1 s1 sl1 _
  have sl1' : Sl 4 w1 v1 (rcells simR) := by simpa [rcells, Value.cells, List.map_map, Function.comp_def] using sl1
  refine gset ?_
  repeat' (first | ((with_reducible refine o_s ?_); (first | (refine o_1 ?_; refine o_2 ?_) | (refine o_g ?_; first | refine o_u ?_ | refine o_k ?_ | refine o_n ?_ | refine o_v ?_ | ((first | refine o_G ?_ ?_ | refine o_N ?_ ?_) <;> intro hc)))) | ((fail_if_success (with_reducible refine o_s ?_)); go_step))
  go_ret
  exact ⟨_, rfl, x1, sl1'⟩
theorem same_true {o o' : List UInt8} {u v : Value} {a b : List RSet} {w : World} (hu : SetsAt w u a) (hv : SetsAt w v b) (ho : o = o') (hab : a = b) : Calls Tryz.prog 31 #[.agg #[str o, u], .agg #[str o', v]] w (RetV w (.bool true)) := by
  have := r8_Same o o' u v a b w hu hv
  rw [decide_eq_true ho, decide_eq_true hab] at this
  exact this
def Yes (w : World) (e : Ending) (w' : World) : Prop := e = .returned (.bool true) ∧ Ext w w'
/-! ### lodestarlaw10.live -/
def simA : List UInt8 := [1, 97]
def simG : Rec := ⟨[1, 97], 6, 9, simS⟩
def simN : Rec := ⟨[1, 97], 6, 9, simT⟩
def simD : DeltaR := ⟨5, 6, [simG], [simN]⟩
theorem sim_E2 : loadE [1, 97] simR = 0 := by decide +kernel
theorem sim_L2 : loadL [1, 97] simR = simZ := by decide +kernel
theorem sim_O2 : loadO [1, 97] simR = [1, 97] := by decide +kernel
theorem sim_mE : mkE [1, 97] simZ [1, 97] simY = 0 := by decide +kernel
theorem sim_mD : mkD [1, 97] simZ [1, 97] simY = simD := by decide +kernel
theorem sim_aE : appE [1, 97] simZ simD = 0 := by decide +kernel
theorem sim_aL : appL [1, 97] simZ simD = simY := by decide +kernel
theorem sim_aO : appO [1, 97] simZ simD = [1, 97] := by decide +kernel
theorem sim_bE : appE [1, 97] simY simD = 7 := by decide +kernel
theorem sim_iE : appE [1, 97] simY (invD simD) = 0 := by decide +kernel
theorem sim_iL : appL [1, 97] simY (invD simD) = simZ := by decide +kernel
theorem sim_iO : appO [1, 97] simY (invD simD) = [1, 97] := by decide +kernel
theorem sim_cE : comE simD (invD simD) = 0 := by decide +kernel
theorem sim_cD : comD simD (invD simD) = ⟨5, 5, [], []⟩ := by decide +kernel
theorem sim_d3 : ∀ s ∈ simZ, ∀ d ∈ s.data, d.length ≤ 1000000 := by decide +kernel
theorem sim_d4 : ∀ s ∈ simY, ∀ d ∈ s.data, d.length ≤ 1000000 := by decide +kernel
theorem sim_h1 : (recordsS simZ).length ≤ 5000 := by decide +kernel
theorem sim_h2 : (recordsS simY).length ≤ 5000 := by decide +kernel
theorem sim_g : ∀ q ∈ [simG], q.data.length ≤ 1000000 := by decide +kernel
theorem sim_n : ∀ q ∈ [simN], q.data.length ≤ 1000000 := by decide +kernel
theorem Sl.empty {k : Nat} {w : World} {v : Value} (h : Sl k w v []) (w' : World) : Sl k w' v [] := by
  obtain ⟨a, c, h1, h2, h3, h4, h5, h6⟩ := h
  exact ⟨a, c, h1, h2, h3, h4, h5, fun h => absurd rfl h⟩
theorem meet5 {α β γ δ : Type} {F : α → β → γ → δ → World → Prop} {G : α → β → γ → δ → World → Prop} {goal : Prop} (h1 : (∀ x y z u w', F x y z u w' → G x y z u w') → goal) (h2 : ∀ x y z u w', F x y z u w' → G x y z u w') : goal := h1 h2
theorem meet4 {α β γ : Type} {F : α → β → γ → World → Prop} {G : α → β → γ → World → Prop} {goal : Prop} (h1 : (∀ x y z w', F x y z w' → G x y z w') → goal) (h2 : ∀ x y z w', F x y z w' → G x y z w') : goal := h1 h2
set_option maxHeartbeats 8000000 in
theorem d_live (w : World) : Calls Tryz.prog 20 #[] w (Yes w) := by
  go_enter Tryz.func20, Tryz.ntmps20
  repeat' (first | ((with_reducible refine o_s ?_); (first | (refine o_1 ?_; refine o_2 ?_) | (refine o_g ?_; first | refine o_u ?_ | refine o_k ?_ | refine o_n ?_ | refine o_v ?_ | ((first | refine o_G ?_ ?_ | refine o_N ?_ ?_) <;> intro hc)))) | ((fail_if_success (with_reducible refine o_s ?_)); go_step))
  refine wpl_callR (enters_of Tryz.func65 rfl rfl) rfl rfl (p_Simple _) ?_
  intro v1 w1 x1 hv1
  refine gset ?_
  repeat' (first | ((with_reducible refine o_s ?_); (first | (refine o_1 ?_; refine o_2 ?_) | (refine o_g ?_; first | refine o_u ?_ | refine o_k ?_ | refine o_n ?_ | refine o_v ?_ | ((first | refine o_G ?_ ?_ | refine o_N ?_ ?_) <;> intro hc)))) | ((fail_if_success (with_reducible refine o_s ?_)); go_step))
  refine wpl_callR (enters_of Tryz.func64 rfl rfl) rfl rfl (p_Load [1, 97] v1 simR _ hv1 (by decide) sim_r) ?_
  rintro _ w2 x2 ⟨z, rfl, hz⟩
  rw [sim_E2, sim_O2]
  rw [sim_L2] at hz
  have hz := hz.sets
  have hz1 : z.oneCell' = true := by obtain ⟨css, h, _⟩ := hz; exact h.one
  have hx2 := x1.trans x2
  refine gset ?_
  repeat' (first | ((with_reducible refine o_s ?_); (first | (refine o_1 ?_; refine o_2 ?_) | (refine o_g ?_; first | refine o_u ?_ | refine o_k ?_ | refine o_n ?_ | refine o_v ?_ | ((first | refine o_G ?_ ?_ | refine o_N ?_ ?_) <;> intro hc)))) | ((fail_if_success (with_reducible refine o_s ?_)); go_step))
  refine wpl_allocB (z := zzone) rfl (by decide +kernel) ?_
  intro w3 x3 s3 h3
  refine gset ?_
  refine wpl_storeB (v := .agg #[str [1, 97], z]) rfl rfl rfl h3 (show sizeTy Tryz.prog 25 2 = true by decide +kernel) rfl (zone_one hz1) ?_
  intro w4 p4
  have x4 : Ext w2 w4 := x3.move p4.mv (by rintro k ⟨⟩; exact Nat.le_refl _)
  have hp4 := pts_block (cs := [str [1, 97], z]) p4.this
  have hz4 := hz.ext x4
  have hx4 := hx2.trans x4
  clear p4 h3 x3
  repeat' (first | ((with_reducible refine o_s ?_); (first | (refine o_1 ?_; refine o_2 ?_) | (refine o_g ?_; first | refine o_u ?_ | refine o_k ?_ | refine o_n ?_ | refine o_v ?_ | ((first | refine o_G ?_ ?_ | refine o_N ?_ ?_) <;> intro hc)))) | ((fail_if_success (with_reducible refine o_s ?_)); go_step))
  refine wpl_callR (enters_of Tryz.func66 rfl rfl) rfl rfl (p_Renew [1, 97] z simZ 6 _ hz4 (by decide) sim_b sim_d) ?_
  rintro _ w5 x5 ⟨y, rfl, hy⟩
  rw [sim_renE, sim_renO]
  rw [sim_renL] at hy
  have hy := hy.sets
  have hy1 : y.oneCell' = true := by obtain ⟨css, h, _⟩ := hy; exact h.one
  refine gset ?_
  repeat' (first | ((with_reducible refine o_s ?_); (first | (refine o_1 ?_; refine o_2 ?_) | (refine o_g ?_; first | refine o_u ?_ | refine o_k ?_ | refine o_n ?_ | refine o_v ?_ | ((first | refine o_G ?_ ?_ | refine o_N ?_ ?_) <;> intro hc)))) | ((fail_if_success (with_reducible refine o_s ?_)); go_step))
  refine wpl_allocB (z := zzone) rfl (by decide +kernel) ?_
  intro w6 x6 s6 h6
  refine gset ?_
  refine wpl_storeB (v := .agg #[str [1, 97], y]) rfl rfl rfl h6 (show sizeTy Tryz.prog 25 2 = true by decide +kernel) rfl (zone_one hy1) ?_
  intro w7 p7
  have x7 : Ext w5 w7 := x6.move p7.mv (by rintro k ⟨⟩; exact Nat.le_refl _)
  have hq7 := pts_block (cs := [str [1, 97], y]) p7.this
  have x47 := x5.trans x7
  have hy7 := hy.ext x7
  have hz7 := hz4.ext x47
  have hp7 := hp4.ext x47
  have hx7 := hx4.trans x47
  clear p7 h6 x6 hp4 hz4
  repeat' (first | ((with_reducible refine o_s ?_); (first | (refine o_1 ?_; refine o_2 ?_) | (refine o_g ?_; first | refine o_u ?_ | refine o_k ?_ | refine o_n ?_ | refine o_v ?_ | ((first | refine o_G ?_ ?_ | refine o_N ?_ ?_) <;> intro hc)))) | ((fail_if_success (with_reducible refine o_s ?_)); go_step))
  refine wpl_callR (enters_of Tryz.func21 rfl rfl) rfl rfl (p_Make [1, 97] z simZ [1, 97] y simY _ hz7 hy7 sim_b sim_d sim_b2 sim_d2 (by have := sim_h1; omega) (by have := sim_h2; omega)) ?_
  rintro _ w8 x8 ⟨_, rfl, g, n, rfl, og, on⟩
  rw [sim_mE, sim_mD]
  rw [sim_mD] at og on
  have sg := og.sl
  have sn := on.sl
  refine gset ?_
  repeat' (first | ((with_reducible refine o_s ?_); (first | (refine o_1 ?_; refine o_2 ?_) | (refine o_g ?_; first | refine o_u ?_ | refine o_k ?_ | refine o_n ?_ | refine o_v ?_ | ((first | refine o_G ?_ ?_ | refine o_N ?_ ?_) <;> intro hc)))) | ((fail_if_success (with_reducible refine o_s ?_)); go_step))
  refine wpl_allocB (z := zdel) rfl (by decide +kernel) ?_
  intro w9 x9 s9 h9
  refine gset ?_
  refine wpl_storeB (v := .agg #[.int .i64 5, .int .i64 6, g, n]) rfl rfl rfl h9 (show sizeTy Tryz.prog 30 4 = true by decide +kernel) rfl (all4 rfl rfl sg.one sn.one) ?_
  intro w10 p10
  have x10 : Ext w8 w10 := x9.move p10.mv (by rintro k ⟨⟩; exact Nat.le_refl _)
  have hd10 := pts_block (cs := [.int .i64 5, .int .i64 6, g, n]) p10.this
  have x710 := x8.trans x10
  have hy10 := hy7.ext x710
  have hz10 := hz7.ext x710
  have hp10 := hp7.ext x710
  have hq10 := hq7.ext x710
  have hx10 := hx7.trans x710
  have sg10 := sg.ext x10
  have sn10 := sn.ext x10
  have hD10 : DelA simD (.agg #[.int .i64 5, .int .i64 6, g, n]) w10 := ⟨g, n, rfl, sg10, sn10⟩
  clear p10 h9 x9 hp7 hq7 hy7 hz7 sg sn og on
  repeat' (first | ((with_reducible refine o_s ?_); (first | (refine o_1 ?_; refine o_2 ?_) | (refine o_g ?_; first | refine o_u ?_ | refine o_k ?_ | refine o_n ?_ | refine o_v ?_ | ((first | refine o_G ?_ ?_ | refine o_N ?_ ?_) <;> intro hc)))) | ((fail_if_success (with_reducible refine o_s ?_)); go_step))
  refine wpl_callR (enters_of Tryz.func28 rfl rfl) rfl rfl (p_Apply [1, 97] z simZ (d := simD) _ hz10 hD10 sim_b sim_d3 sim_h1 (by decide) sim_n) ?_
  rintro _ w11 x11 ⟨y2, rfl, hy2⟩
  rw [sim_aE, sim_aO]
  rw [sim_aL] at hy2
  have hy2 := hy2.sets
  have hy21 : y2.oneCell' = true := by obtain ⟨css, h, _⟩ := hy2; exact h.one
  refine gset ?_
  repeat' (first | ((with_reducible refine o_s ?_); (first | (refine o_1 ?_; refine o_2 ?_) | (refine o_g ?_; first | refine o_u ?_ | refine o_k ?_ | refine o_n ?_ | refine o_v ?_ | ((first | refine o_G ?_ ?_ | refine o_N ?_ ?_) <;> intro hc)))) | ((fail_if_success (with_reducible refine o_s ?_)); go_step))
  refine wpl_allocB (z := zzone) rfl (by decide +kernel) ?_
  intro w12 x12 s12 h12
  refine gset ?_
  refine wpl_storeB (v := .agg #[str [1, 97], y2]) rfl rfl rfl h12 (show sizeTy Tryz.prog 25 2 = true by decide +kernel) rfl (zone_one hy21) ?_
  intro w13 p13
  have x13 : Ext w11 w13 := x12.move p13.mv (by rintro k ⟨⟩; exact Nat.le_refl _)
  have hr13 := pts_block (cs := [str [1, 97], y2]) p13.this
  have x1013 := x11.trans x13
  have hy13 := hy10.ext x1013
  have hz13 := hz10.ext x1013
  have hp13 := hp10.ext x1013
  have hq13 := hq10.ext x1013
  have hd13 := hd10.ext x1013
  have hx13 := hx10.trans x1013
  have hD13 := hD10.ext x1013
  have hy213 := hy2.ext x13
  have sg13 := sg10.ext x1013
  have sn13 := sn10.ext x1013
  clear p13 h12 x12 hp10 hq10 hy10 hz10 hd10 hD10 sg10 sn10
  repeat' (first | ((with_reducible refine o_s ?_); (first | (refine o_1 ?_; refine o_2 ?_) | (refine o_g ?_; first | refine o_u ?_ | refine o_k ?_ | refine o_n ?_ | refine o_v ?_ | ((first | refine o_G ?_ ?_ | refine o_N ?_ ?_) <;> intro hc)))) | ((fail_if_success (with_reducible refine o_s ?_)); go_step))
  refine wpl_callR (enters_of Tryz.func28 rfl rfl) rfl rfl (p_Apply [1, 97] y simY (d := simD) _ hy13 hD13 sim_b2 sim_d4 sim_h2 (by decide) sim_n) ?_
  rintro _ w14 x14 ⟨y3, rfl, hy3⟩
  rw [sim_bE]
  have hy31 : y3.oneCell' = true := by obtain ⟨css, h, _⟩ := hy3.sets; exact h.one
  refine gset ?_
  repeat' (first | ((with_reducible refine o_s ?_); (first | (refine o_1 ?_; refine o_2 ?_) | (refine o_g ?_; first | refine o_u ?_ | refine o_k ?_ | refine o_n ?_ | refine o_v ?_ | ((first | refine o_G ?_ ?_ | refine o_N ?_ ?_) <;> intro hc)))) | ((fail_if_success (with_reducible refine o_s ?_)); go_step))
  refine wpl_allocB (z := zzone) rfl (by decide +kernel) ?_
  intro w15 x15 s15 h15
  refine gset ?_
  refine wpl_storeB (v := .agg #[str (appO [1, 97] simY simD), y3]) rfl rfl rfl h15 (show sizeTy Tryz.prog 25 2 = true by decide +kernel) rfl (zone_one hy31) ?_
  intro w16 p16
  have x16 : Ext w14 w16 := x15.move p16.mv (by rintro k ⟨⟩; exact Nat.le_refl _)
  have x1316 := x14.trans x16
  have hy16 := hy13.ext x1316
  have hz16 := hz13.ext x1316
  have hp16 := hp13.ext x1316
  have hq16 := hq13.ext x1316
  have hd16 := hd13.ext x1316
  have hr16 := hr13.ext x1316
  have hx16 := hx13.trans x1316
  have hD16 := hD13.ext x1316
  have hy216 := hy213.ext x1316
  have sg16 := sg13.ext x1316
  have sn16 := sn13.ext x1316
  clear p16 h15 x15 hp13 hq13 hy13 hz13 hd13 hD13 hr13 hy213 sg13 sn13
  repeat' (first | ((with_reducible refine o_s ?_); (first | (refine o_1 ?_; refine o_2 ?_) | (refine o_g ?_; first | refine o_u ?_ | refine o_k ?_ | refine o_n ?_ | refine o_v ?_ | ((first | refine o_G ?_ ?_ | refine o_N ?_ ?_) <;> intro hc)))) | ((fail_if_success (with_reducible refine o_s ?_)); go_step))
  refine wph_region (S := fun w' => Ext w16 w') (by decide +kernel) ?_
  intro w17 x17 hh17
  refine tk 0 ?_; refine gset ?_; refine tk 1 ?_; refine gset ?_
  apply meet4 (F := fun (u y : Value) (b : Nat) w' => Ext w16 w' ∧ Pts w' (.pointer (some ⟨b, 0, none⟩)) [str [1, 97], y] ∧ SetsAt w' y simZ)
  · intro hG
    refine wph_two (i := 2) (j := 7) (by decide +kernel) rfl rfl rfl ?_ ?_
    · refine wpl_callR (enters_of Tryz.func35 rfl rfl) rfl rfl (p_Invert (d := simD) _ (hD16.ext x17) (by decide) (by decide)) ?_
      intro u wC xC ou
      refine gset ?_
      have x1 := x17.trans xC
      refine wph_nil ⟨x1, ?_⟩
      refine wph_two (i := 3) (j := 7) (by decide +kernel) rfl rfl rfl ?_ ?_
      · refine wpl_callR (enters_of Tryz.func28 rfl rfl) rfl rfl (p_Apply [1, 97] y simY (d := invD simD) _ (hy16.ext x1) ou.a sim_b2 sim_d4 sim_h2 (by decide) sim_g) ?_
        rintro _ wD xD ⟨y4, rfl, hy4⟩
        rw [sim_iE, sim_iO]
        rw [sim_iL] at hy4
        have hy41 : y4.oneCell' = true := by obtain ⟨css, h, _⟩ := hy4.sets; exact h.one
        refine gset ?_
        have x2 := x1.trans xD
        refine wph_nil ⟨x2, ?_⟩
        refine tk 4 ?_; refine gset ?_; refine tk 5 ?_; refine gset ?_; refine tk 6 ?_; refine gset ?_
        refine wph_one (i := 7) (by decide +kernel) rfl rfl ?_
        refine wpl_allocB (z := zzone) rfl (by decide +kernel) ?_
        intro wE xE sE hE
        refine gset ?_
        have x3 := x2.trans xE
        refine wph_nil ⟨x3, ?_⟩
        refine wph_one (i := 8) (by decide +kernel) rfl rfl ?_
        refine wpl_storeB (v := .agg #[str [1, 97], y4]) rfl rfl rfl hE (show sizeTy Tryz.prog 25 2 = true by decide +kernel) rfl (zone_one hy41) ?_
        intro wF pF
        have xF : Ext wD wF := xE.move pF.mv (by rintro k ⟨⟩; exact Nat.le_refl _)
        have hF := pts_block (cs := [str [1, 97], y4]) pF.this
        refine wph_nil ⟨x2.trans xF, ?_⟩
        refine tk 9 ?_; refine gset ?_
        have x4 := x2.trans xF
        clear pF hE xE sE
        generalize wD.heap.size = b at *
        exact hG u _ b _ ⟨x4, hF, hy4.sets.ext xF⟩
      · refine wpl_allocB (z := zzone) rfl (by decide +kernel) ?_
        intro wD xD sD hD
        refine gset ?_
        have x2 := x1.trans xD
        refine wph_nil ⟨x2, ?_⟩
        refine wph_one (i := 3) (by decide +kernel) rfl rfl ?_
        refine wpl_callR (enters_of Tryz.func28 rfl rfl) rfl rfl (p_Apply [1, 97] y simY (d := invD simD) _ (hy16.ext x2) (ou.a.ext xD) sim_b2 sim_d4 sim_h2 (by decide) sim_g) ?_
        rintro _ wE xE ⟨y4, rfl, hy4⟩
        rw [sim_iE, sim_iO]
        rw [sim_iL] at hy4
        have hy41 : y4.oneCell' = true := by obtain ⟨css, h, _⟩ := hy4.sets; exact h.one
        refine gset ?_
        have x3 := x2.trans xE
        refine wph_nil ⟨x3, ?_⟩
        refine tk 4 ?_; refine gset ?_; refine tk 5 ?_; refine gset ?_; refine tk 6 ?_; refine gset ?_
        have hb := x1.size
        have hE := xE.at hD
        have hlt : wC.heap.size < wD.heap.size := by omega
        refine wph_one (i := 8) (by decide +kernel) rfl rfl ?_
        refine wpl_storeB (v := .agg #[str [1, 97], y4]) rfl rfl rfl hE (show sizeTy Tryz.prog 25 2 = true by decide +kernel) rfl (zone_one hy41) ?_
        intro wF pF
        have xF : Ext w16 wF := x3.move pF.mv (by rintro k ⟨⟩; exact hb)
        have hF := pts_block (cs := [str [1, 97], y4]) pF.this
        refine wph_nil ⟨xF, ?_⟩
        refine tk 9 ?_; refine gset ?_
        have hfin := (hy4.put pF hlt).sets
        clear pF hE hD sD
        generalize wC.heap.size = b at *
        exact hG u _ b _ ⟨xF, hF, hfin⟩
    · refine wpl_allocB (z := zzone) rfl (by decide +kernel) ?_
      intro wC xC sC hC
      refine gset ?_
      have x1 := x17.trans xC
      refine wph_nil ⟨x1, ?_⟩
      refine wph_one (i := 2) (by decide +kernel) rfl rfl ?_
      refine wpl_callR (enters_of Tryz.func35 rfl rfl) rfl rfl (p_Invert (d := simD) _ (hD16.ext x1) (by decide) (by decide)) ?_
      intro u wD xD ou
      refine gset ?_
      have x2 := x1.trans xD
      refine wph_nil ⟨x2, ?_⟩
      refine wph_one (i := 3) (by decide +kernel) rfl rfl ?_
      refine wpl_callR (enters_of Tryz.func28 rfl rfl) rfl rfl (p_Apply [1, 97] y simY (d := invD simD) _ (hy16.ext x2) ou.a sim_b2 sim_d4 sim_h2 (by decide) sim_g) ?_
      rintro _ wE xE ⟨y4, rfl, hy4⟩
      rw [sim_iE, sim_iO]
      rw [sim_iL] at hy4
      have hy41 : y4.oneCell' = true := by obtain ⟨css, h, _⟩ := hy4.sets; exact h.one
      refine gset ?_
      have x3 := x2.trans xE
      refine wph_nil ⟨x3, ?_⟩
      refine tk 4 ?_; refine gset ?_; refine tk 5 ?_; refine gset ?_; refine tk 6 ?_; refine gset ?_
      have hb := x17.size
      have hE := xE.at (xD.at hC)
      have hlt : w17.heap.size < wD.heap.size := by have := xD.size; omega
      refine wph_one (i := 8) (by decide +kernel) rfl rfl ?_
      refine wpl_storeB (v := .agg #[str [1, 97], y4]) rfl rfl rfl hE (show sizeTy Tryz.prog 25 2 = true by decide +kernel) rfl (zone_one hy41) ?_
      intro wF pF
      have xF : Ext w16 wF := x3.move pF.mv (by rintro k ⟨⟩; exact hb)
      have hF := pts_block (cs := [str [1, 97], y4]) pF.this
      refine wph_nil ⟨xF, ?_⟩
      refine tk 9 ?_; refine gset ?_
      have hfin := (hy4.put pF hlt).sets
      clear pF hE hC sC
      generalize w17.heap.size = b at *
      exact hG u _ b _ ⟨xF, hF, hfin⟩
  · rintro u y4 b w20 ⟨x1620, hf20, hy420⟩
    refine wph_done (by decide +kernel) ?_
    have hy20 := hy16.ext x1620
    have hz20 := hz16.ext x1620
    have hp20 := hp16.ext x1620
    have hq20 := hq16.ext x1620
    have hd20 := hd16.ext x1620
    have hr20 := hr16.ext x1620
    have hx20 := hx16.trans x1620
    have hD20 := hD16.ext x1620
    have hy220 := hy216.ext x1620
    have sg20 := sg16.ext x1620
    have sn20 := sn16.ext x1620
    clear hp16 hq16 hy16 hz16 hd16 hD16 hr16 hy216 sg16 sn16
    repeat' (first | ((with_reducible refine o_s ?_); (first | (refine o_1 ?_; refine o_2 ?_) | (refine o_g ?_; first | refine o_u ?_ | refine o_k ?_ | refine o_n ?_ | refine o_v ?_ | ((first | refine o_G ?_ ?_ | refine o_N ?_ ?_) <;> intro hc)))) | ((fail_if_success (with_reducible refine o_s ?_)); go_step))
    refine wph_region (S := fun w' => Ext w20 w') (by decide +kernel) ?_
    intro w21 x21 hh21
    refine tk 0 ?_; refine gset ?_; refine tk 1 ?_; refine gset ?_
    apply meet5 (F := fun (u g' n' : Value) (b : Nat) w' => Ext w20 w' ∧ Pts w' (.pointer (some ⟨b, 0, none⟩)) [.int .i64 5, .int .i64 5, g', n'] ∧ Sl 4 w' g' [] ∧ Sl 4 w' n' [])
    · intro hG
      refine wph_two (i := 2) (j := 7) (by decide +kernel) rfl rfl rfl ?_ ?_
      · refine wpl_callR (enters_of Tryz.func35 rfl rfl) rfl rfl (p_Invert (d := simD) _ (hD20.ext x21) (by decide) (by decide)) ?_
        intro u wC xC ou
        refine gset ?_
        have x1 := x21.trans xC
        refine wph_nil ⟨x1, ?_⟩
        refine wph_two (i := 3) (j := 7) (by decide +kernel) rfl rfl rfl ?_ ?_
        · refine wpl_callR (enters_of Tryz.func33 rfl rfl) rfl rfl (p_Compose (a := simD) (b := invD simD) _ (hD20.ext x1) ou.a (by decide) (by decide) (by decide) (by decide)) ?_
          rintro _ wD xD ⟨_, rfl, g', n', rfl, og', on'⟩
          rw [sim_cE, sim_cD]
          rw [sim_cD] at og' on'
          have sg' := og'.sl; rw [show rcells ([] : List Rec) = [] from rfl] at sg'
          have sn' := on'.sl; rw [show rcells ([] : List Rec) = [] from rfl] at sn'
          refine gset ?_
          have x2 := x1.trans xD
          refine wph_nil ⟨x2, ?_⟩
          refine tk 4 ?_; refine gset ?_; refine tk 5 ?_; refine gset ?_; refine tk 6 ?_; refine gset ?_
          refine wph_one (i := 7) (by decide +kernel) rfl rfl ?_
          refine wpl_allocB (z := zdel) rfl (by decide +kernel) ?_
          intro wE xE sE hE
          refine gset ?_
          have x3 := x2.trans xE
          refine wph_nil ⟨x3, ?_⟩
          refine wph_one (i := 8) (by decide +kernel) rfl rfl ?_
          refine wpl_storeB (v := .agg #[.int .i64 5, .int .i64 5, g', n']) rfl rfl rfl hE (show sizeTy Tryz.prog 30 4 = true by decide +kernel) rfl (all4 rfl rfl sg'.one sn'.one) ?_
          intro wF pF
          have xF : Ext wD wF := xE.move pF.mv (by rintro k ⟨⟩; exact Nat.le_refl _)
          have hF := pts_block (cs := [.int .i64 5, .int .i64 5, g', n']) pF.this
          refine wph_nil ⟨x2.trans xF, ?_⟩
          refine tk 9 ?_; refine gset ?_
          have x4 := x2.trans xF
          clear pF hE xE sE
          generalize wD.heap.size = b at *
          exact hG u g' n' b _ ⟨x4, hF, sg'.empty _, sn'.empty _⟩
        · refine wpl_allocB (z := zdel) rfl (by decide +kernel) ?_
          intro wD xD sD hD
          refine gset ?_
          have x2 := x1.trans xD
          refine wph_nil ⟨x2, ?_⟩
          refine wph_one (i := 3) (by decide +kernel) rfl rfl ?_
          refine wpl_callR (enters_of Tryz.func33 rfl rfl) rfl rfl (p_Compose (a := simD) (b := invD simD) _ (hD20.ext x2) (ou.a.ext xD) (by decide) (by decide) (by decide) (by decide)) ?_
          rintro _ wE xE ⟨_, rfl, g', n', rfl, og', on'⟩
          rw [sim_cE, sim_cD]
          rw [sim_cD] at og' on'
          have sg' := og'.sl; rw [show rcells ([] : List Rec) = [] from rfl] at sg'
          have sn' := on'.sl; rw [show rcells ([] : List Rec) = [] from rfl] at sn'
          refine gset ?_
          have x3 := x2.trans xE
          refine wph_nil ⟨x3, ?_⟩
          refine tk 4 ?_; refine gset ?_; refine tk 5 ?_; refine gset ?_; refine tk 6 ?_; refine gset ?_
          have hb := x1.size
          have hE := xE.at hD
          have hlt : wC.heap.size < wD.heap.size := by omega
          refine wph_one (i := 8) (by decide +kernel) rfl rfl ?_
          refine wpl_storeB (v := .agg #[.int .i64 5, .int .i64 5, g', n']) rfl rfl rfl hE (show sizeTy Tryz.prog 30 4 = true by decide +kernel) rfl (all4 rfl rfl sg'.one sn'.one) ?_
          intro wF pF
          have xF : Ext w20 wF := x3.move pF.mv (by rintro k ⟨⟩; exact hb)
          have hF := pts_block (cs := [.int .i64 5, .int .i64 5, g', n']) pF.this
          refine wph_nil ⟨xF, ?_⟩
          refine tk 9 ?_; refine gset ?_
          clear pF hE hD sD
          generalize wC.heap.size = b at *
          exact hG u g' n' b _ ⟨xF, hF, sg'.empty _, sn'.empty _⟩
      · refine wpl_allocB (z := zdel) rfl (by decide +kernel) ?_
        intro wC xC sC hC
        refine gset ?_
        have x1 := x21.trans xC
        refine wph_nil ⟨x1, ?_⟩
        refine wph_one (i := 2) (by decide +kernel) rfl rfl ?_
        refine wpl_callR (enters_of Tryz.func35 rfl rfl) rfl rfl (p_Invert (d := simD) _ (hD20.ext x1) (by decide) (by decide)) ?_
        intro u wD xD ou
        refine gset ?_
        have x2 := x1.trans xD
        refine wph_nil ⟨x2, ?_⟩
        refine wph_one (i := 3) (by decide +kernel) rfl rfl ?_
        refine wpl_callR (enters_of Tryz.func33 rfl rfl) rfl rfl (p_Compose (a := simD) (b := invD simD) _ (hD20.ext x2) ou.a (by decide) (by decide) (by decide) (by decide)) ?_
        rintro _ wE xE ⟨_, rfl, g', n', rfl, og', on'⟩
        rw [sim_cE, sim_cD]
        rw [sim_cD] at og' on'
        have sg' := og'.sl; rw [show rcells ([] : List Rec) = [] from rfl] at sg'
        have sn' := on'.sl; rw [show rcells ([] : List Rec) = [] from rfl] at sn'
        refine gset ?_
        have x3 := x2.trans xE
        refine wph_nil ⟨x3, ?_⟩
        refine tk 4 ?_; refine gset ?_; refine tk 5 ?_; refine gset ?_; refine tk 6 ?_; refine gset ?_
        have hb := x21.size
        have hE := xE.at (xD.at hC)
        have hlt : w21.heap.size < wD.heap.size := by have := xD.size; omega
        refine wph_one (i := 8) (by decide +kernel) rfl rfl ?_
        refine wpl_storeB (v := .agg #[.int .i64 5, .int .i64 5, g', n']) rfl rfl rfl hE (show sizeTy Tryz.prog 30 4 = true by decide +kernel) rfl (all4 rfl rfl sg'.one sn'.one) ?_
        intro wF pF
        have xF : Ext w20 wF := x3.move pF.mv (by rintro k ⟨⟩; exact hb)
        have hF := pts_block (cs := [.int .i64 5, .int .i64 5, g', n']) pF.this
        refine wph_nil ⟨xF, ?_⟩
        refine tk 9 ?_; refine gset ?_
        clear pF hE hC sC
        generalize w21.heap.size = b at *
        exact hG u g' n' b _ ⟨xF, hF, sg'.empty _, sn'.empty _⟩
    · rintro u g' n' b' w22 ⟨x2022, hc22, sg22, sn22⟩
      refine wph_done (by decide +kernel) ?_
      have hy22 := hy20.ext x2022
      have hz22 := hz20.ext x2022
      have hp22 := hp20.ext x2022
      have hq22 := hq20.ext x2022
      have hd22 := hd20.ext x2022
      have hr22 := hr20.ext x2022
      have hx22 := hx20.trans x2022
      have hy222 := hy220.ext x2022
      have hy422 := hy420.ext x2022
      have hf22 := hf20.ext x2022
      have sgd := sg20.ext x2022
      have snd := sn20.ext x2022
      clear hp20 hq20 hy20 hz20 hd20 hD20 hr20 hy220 hy420 hf20 sg20 sn20
      repeat' (first | ((with_reducible refine o_s ?_); (first | (refine o_1 ?_; refine o_2 ?_) | (refine o_g ?_; first | refine o_u ?_ | refine o_k ?_ | refine o_n ?_ | refine o_v ?_ | ((first | refine o_G ?_ ?_ | refine o_N ?_ ?_) <;> intro hc)))) | ((fail_if_success (with_reducible refine o_s ?_)); go_step))
      · refine wpl_callV (enters_of Tryz.func31 rfl rfl) rfl rfl (same_true hy222 hy22 rfl rfl) ?_; intro w23 x23; refine gset ?_
        have hp23 := hp22.ext x23
        have hf23 := hf22.ext x23
        have hc23 := hc22.ext x23
        repeat' (first | ((with_reducible refine o_s ?_); (first | (refine o_1 ?_; refine o_2 ?_) | (refine o_g ?_; first | refine o_u ?_ | refine o_k ?_ | refine o_n ?_ | refine o_v ?_ | ((first | refine o_G ?_ ?_ | refine o_N ?_ ?_) <;> intro hc)))) | ((fail_if_success (with_reducible refine o_s ?_)); go_step))
        refine wpl_callV (enters_of Tryz.func31 rfl rfl) rfl rfl (same_true (hy422.ext x23) (hz22.ext x23) rfl rfl) ?_; intro w24 x24; refine gset ?_
        have hc24 := hc23.ext x24
        have sg24 := sg22.empty w24
        have sn24 := sn22.empty w24
        repeat' (first | ((with_reducible refine o_s ?_); (first | (refine o_1 ?_; refine o_2 ?_) | (refine o_g ?_; first | refine o_u ?_ | refine o_k ?_ | refine o_n ?_ | refine o_v ?_ | ((first | refine o_G ?_ ?_ | refine o_N ?_ ?_) <;> intro hc)))) | ((fail_if_success (with_reducible refine o_s ?_)); go_step))
        · go_ret
          exact ⟨rfl, (hx22.trans x23).trans x24⟩
        · exact (hc rfl).elim
        · exact (hc rfl).elim
      · exact (hc rfl).elim
      · exact (hc rfl).elim
section
variable {P : Program} {w : World} {ts : List Value} {df : List Deferred} {d : Option Nat} {ty : TypeId} {ps : String} {af : Array Edge} {g : Option (Nat × Bool)}
def boolTy (P : Program) (t : TypeId) : Bool := match P.underlying t with | some .bool => true | _ => false
theorem Runs.eqlB {t u : TypeId} {x y : Operand} {a b : Bool} (hx : (Act.mk ts.toArray df).eval x = .bool a) (hy : (Act.mk ts.toArray df).eval y = .bool b) (ht : boolTy P t = true) :
    Runs P (Oper.mk d (.binOp .eql t x y u) ty ps af g) (Act.mk ts.toArray df) w (.bool (a == b)) := by
  have hu : P.underlying t = some .bool := by
    unfold boolTy at ht; split at ht
    · assumption
    · cases ht
  constructor
  simp [execOp, hx, hy, eqGuard, binOp, run_equal_bool w t a b hu]
end
theorem few_bounds {l : List RSet} (h : fewS l = true) : l.length ≤ 25 ∧ (∀ s ∈ l, s.data.length ≤ 12) ∧ (∀ s ∈ l, s.name.length ≤ 300) ∧ ∀ s ∈ l, ∀ d ∈ s.data, d.length ≤ 300 := by
  simp only [fewS, Bool.and_eq_true, decide_eq_true_eq, List.all_eq_true, fewAt] at h
  exact ⟨h.1, fun s hs => (h.2 s hs).1.1, fun s hs => (h.2 s hs).1.2, fun s hs d hd => (h.2 s hs).2 d hd⟩
theorem recs_bound : ∀ {l : List RSet}, (∀ s ∈ l, s.data.length ≤ 12) → (recordsS l).length ≤ 12 * l.length
  | [], _ => by simp [recordsS]
  | s :: l, h => by
    have ih := recs_bound (l := l) fun t ht => h t (List.mem_cons_of_mem _ ht)
    have h1 := h s (by simp)
    have e : recordsS (s :: l) = recsOf s ++ recordsS l := by simp [recordsS]
    rw [e, List.length_append, List.length_cons]
    simp only [recsOf, List.length_map]
    omega
def zS : RSet := ⟨[], 0, 0, []⟩
theorem find_uni {w w' : World} {r : Value} {o : Option RSet} (h : match o with
    | some s => ∃ x, r = .tuple #[.agg #[str s.name, .int .i64 s.kind, .int .i64 s.ttl, x], .bool true] ∧ Own w.heap.size 1 9 w' x (tcells s.data)
    | none => r = .tuple #[.agg zset.toArray, .bool false]) :
    ∃ x, r = .tuple #[.agg #[str (o.getD zS).name, .int .i64 (o.getD zS).kind, .int .i64 (o.getD zS).ttl, x], .bool o.isSome] ∧ Sl 1 w' x (tcells (o.getD zS).data) := by
  cases o with
  | none => exact ⟨.slice none 0 0, h, Sl.nil _ _⟩
  | some s =>
    obtain ⟨x, h1, h2⟩ := h
    exact ⟨x, h1, h2.sl⟩
theorem fewz {o : List UInt8} {l : List RSet} (h : (decide ((o.length : Int) ≤ 300) && fewS l) = true) : l.length ≤ 25 ∧ (∀ s ∈ l, s.data.length ≤ 1000000) ∧ (∀ s ∈ l, ∀ d ∈ s.data, d.length ≤ 4611686018427387904) ∧ o.length ≤ 300 ∧ (∀ s ∈ l, s.data.length ≤ 12) ∧ (∀ s ∈ l, ∀ d ∈ s.data, d.length ≤ 300) := by
  simp only [Bool.and_eq_true, decide_eq_true_eq] at h
  obtain ⟨b1, b2, b3, b4⟩ := few_bounds h.2
  exact ⟨b1, fun s hs => by have := b2 s hs; omega, fun s hs d hd => by have := b4 s hs d hd; omega, by omega, b2, b4⟩
/-! ### bounds of small zones' deltas -/
theorem d_liveV (w : World) : Calls Tryz.prog 20 #[] w (RetV w (.bool true)) := d_live w
theorem fewd {o : List UInt8} {l : List RSet} (h : (decide ((o.length : Int) ≤ 300) && fewS l) = true) : (recordsS l).length ≤ 300 ∧ (∀ s ∈ l, ∀ d ∈ s.data, d.length ≤ 1000000) ∧ ∀ r ∈ recordsS l, r.data.length ≤ 1000000 := by
  obtain ⟨a, _, _, _, b, c⟩ := fewz h
  have := recs_bound b
  have hd : ∀ s ∈ l, ∀ d ∈ s.data, d.length ≤ 1000000 := fun s hs d hd => by have := c s hs d hd; omega
  exact ⟨by omega, hd, recs_data hd⟩
theorem mkD_bounds {oa ob : List UInt8} {la lb : List RSet} (ha : (recordsS la).length ≤ 300) (hb : (recordsS lb).length ≤ 300) (da : ∀ r ∈ recordsS la, r.data.length ≤ 1000000) (db : ∀ r ∈ recordsS lb, r.data.length ≤ 1000000) :
    ((mkD oa la ob lb).gone.length ≤ 300 ∧ (mkD oa la ob lb).new.length ≤ 300) ∧ (∀ q ∈ (mkD oa la ob lb).gone, q.data.length ≤ 1000000) ∧ ∀ q ∈ (mkD oa la ob lb).new, q.data.length ≤ 1000000 := by
  unfold mkD
  split
  · have h1 := less_len (recordsS la) (recordsS lb)
    have h2 := less_len (recordsS lb) (recordsS la)
    exact ⟨⟨by show (lessR _ _).length ≤ _; omega, by show (lessR _ _).length ≤ _; omega⟩, fun q hq => da q (mem_less.1 hq).1, fun q hq => db q (mem_less.1 hq).1⟩
  · simp [zeroD]
theorem comD_bounds {a b : DeltaR} {n : Nat} (h1 : a.gone.length ≤ n) (h2 : a.new.length ≤ n) (h3 : b.gone.length ≤ n) (h4 : b.new.length ≤ n) (d2 : ∀ q ∈ a.new, q.data.length ≤ 1000000) (d4 : ∀ q ∈ b.new, q.data.length ≤ 1000000) :
    ((comD a b).gone.length ≤ n + n ∧ (comD a b).new.length ≤ n + n) ∧ ∀ q ∈ (comD a b).new, q.data.length ≤ 1000000 := by
  unfold comD
  split
  · have e1 := less_len b.gone a.new
    have e2 := less_len a.new b.gone
    have e3 := less_len (comG a b) (comN a b)
    have e4 := less_len (comN a b) (comG a b)
    have lG : (comG a b).length ≤ n + n := by rw [comG, List.length_append]; omega
    have lN : (comN a b).length ≤ n + n := by rw [comN, List.length_append]; omega
    refine ⟨⟨by show (lessR _ _).length ≤ _; omega, by show (lessR _ _).length ≤ _; omega⟩, fun q hq => ?_⟩
    rcases List.mem_append.1 (mem_less.1 hq).1 with h | h
    · exact d2 q (mem_less.1 h).1
    · exact d4 q h
  · simp [zeroD]
set_option maxHeartbeats 6000000 in
/-- lodestarlaw10.DiffBack -/
theorem d6 (oa : List UInt8) (u : Value) (la : List RSet) (ob : List UInt8) (v : Value) (lb : List RSet) (w : World) (hu : SetsAt w u la) (hv : SetsAt w v lb) : Calls Tryz.prog 6 #[.agg #[str oa, u], .agg #[str ob, v]] w (Yes w) := by
  go_enter Tryz.func6, Tryz.ntmps6
  repeat' ((fail_if_success (with_reducible refine o_s ?_)); go_step)
  refine wpl_box (vs := [str oa, u]) rfl rfl ?_
  intro p w1 x1 hp
  refine gset ?_
  refine wpl_box (vs := [str ob, v]) rfl rfl ?_
  intro q w2 x2 hq
  refine gset ?_
  have hx2 := x1.trans x2
  have hp2 := hp.ext x2
  repeat' (first | ((with_reducible refine o_s ?_); (first | (refine o_1 ?_; refine o_2 ?_) | (refine o_g ?_; first | refine o_u ?_ | refine o_k ?_ | refine o_n ?_ | refine o_v ?_ | ((first | refine o_G ?_ ?_ | refine o_N ?_ ?_) <;> intro hc)))) | ((fail_if_success (with_reducible refine o_s ?_)); go_step))
  refine wpl_callV (enters_of Tryz.func19 rfl rfl) rfl rfl (l10_few oa ob u v la lb _ (hu.ext hx2) (hv.ext hx2)) ?_; intro w4 x4; refine gset ?_
  have hx5 := hx2.trans x4
  have hp5 := hp2.ext x4
  have hq5 := hq.ext x4
  cases hf : ((decide ((oa.length : Int) ≤ 300) && fewS la) && (decide ((ob.length : Int) ≤ 300) && fewS lb)) with
  | false =>
    repeat' (first | ((with_reducible refine o_s ?_); (first | (refine o_1 ?_; refine o_2 ?_) | (refine o_g ?_; first | refine o_u ?_ | refine o_k ?_ | refine o_n ?_ | refine o_v ?_ | ((first | refine o_G ?_ ?_ | refine o_N ?_ ?_) <;> intro hc)))) | ((fail_if_success (with_reducible refine o_s ?_)); go_step))
    refine wpl_callV (enters_of Tryz.func20 rfl rfl) rfl rfl (d_liveV _) ?_; intro w5 x5; refine gset ?_
    repeat' (first | ((with_reducible refine o_s ?_); (first | (refine o_1 ?_; refine o_2 ?_) | (refine o_g ?_; first | refine o_u ?_ | refine o_k ?_ | refine o_n ?_ | refine o_v ?_ | ((first | refine o_G ?_ ?_ | refine o_N ?_ ?_) <;> intro hc)))) | ((fail_if_success (with_reducible refine o_s ?_)); go_step))
    go_ret
    exact ⟨rfl, hx5.trans x5⟩
  | true =>
    obtain ⟨fa, fb⟩ := Bool.and_eq_true_iff.1 hf
    obtain ⟨_, ba, da, _⟩ := fewz fa
    obtain ⟨_, bb, db, _⟩ := fewz fb
    obtain ⟨ra, ea, ga⟩ := fewd fa
    obtain ⟨rb, eb, gb⟩ := fewd fb
    obtain ⟨⟨m1, m2⟩, m3, m4⟩ := mkD_bounds (oa := oa) (ob := ob) ra rb ga gb
    repeat' (first | ((with_reducible refine o_s ?_); (first | (refine o_1 ?_; refine o_2 ?_) | (refine o_g ?_; first | refine o_u ?_ | refine o_k ?_ | refine o_n ?_ | refine o_v ?_ | ((first | refine o_G ?_ ?_ | refine o_N ?_ ?_) <;> intro hc)))) | ((fail_if_success (with_reducible refine o_s ?_)); go_step))
    refine wpl_callR (enters_of Tryz.func21 rfl rfl) rfl rfl (p_Make oa u la ob v lb _ (hu.ext hx5) (hv.ext hx5) ba da bb db (by omega) (by omega)) ?_
    rintro _ w6 x6 ⟨_, rfl, g, n, rfl, og, on⟩
    have sg := og.sl
    have sn := on.sl
    refine gset ?_
    repeat' (first | ((with_reducible refine o_s ?_); (first | (refine o_1 ?_; refine o_2 ?_) | (refine o_g ?_; first | refine o_u ?_ | refine o_k ?_ | refine o_n ?_ | refine o_v ?_ | ((first | refine o_G ?_ ?_ | refine o_N ?_ ?_) <;> intro hc)))) | ((fail_if_success (with_reducible refine o_s ?_)); go_step))
    refine wpl_allocB (z := zdel) rfl (by decide +kernel) ?_
    intro w7 x7 s7 h7
    refine gset ?_
    generalize hmd : mkD oa la ob lb = dd at *
    refine wpl_storeB (v := .agg #[.int .i64 dd.fr, .int .i64 dd.to, g, n]) rfl rfl rfl h7 (show sizeTy Tryz.prog 30 4 = true by decide +kernel) rfl (all4 rfl rfl sg.one sn.one) ?_
    intro w8 p8
    have x8 : Ext w6 w8 := x7.move p8.mv (by rintro k ⟨⟩; exact Nat.le_refl _)
    have hd8 := pts_block (cs := [.int .i64 dd.fr, .int .i64 dd.to, g, n]) p8.this
    have x58 := x6.trans x8
    have hp8 := hp5.ext x58
    have hq8 := hq5.ext x58
    have hx8 := hx5.trans x58
    have sg8 := sg.ext x8
    have sn8 := sn.ext x8
    have hD8 : DelA dd (.agg #[.int .i64 dd.fr, .int .i64 dd.to, g, n]) w8 := ⟨g, n, rfl, sg8, sn8⟩
    clear p8 h7 x7
    by_cases q1 : mkE oa la ob lb = 0
    · obtain ⟨⟨a1, a2, a3⟩, i1, i2, i3⟩ := back_ok q1
      obtain ⟨_, _, eo, _⟩ := mk_ok q1
      rw [hmd] at a1 a2 a3 i1 i2 i3
      subst eo
      rw [q1]
      repeat' (first | ((with_reducible refine o_s ?_); (first | (refine o_1 ?_; refine o_2 ?_) | (refine o_g ?_; first | refine o_u ?_ | refine o_k ?_ | refine o_n ?_ | refine o_v ?_ | ((first | refine o_G ?_ ?_ | refine o_N ?_ ?_) <;> intro hc)))) | ((fail_if_success (with_reducible refine o_s ?_)); go_step))
      refine wpl_callR (enters_of Tryz.func28 rfl rfl) rfl rfl (p_Apply oa u la (d := dd) _ (hu.ext hx8) hD8 ba ea (by omega) (by omega) m4) ?_
      rintro _ w11 x11 ⟨y2, rfl, hy2⟩
      rw [a1, a3]
      rw [a2] at hy2
      have hy2 := hy2.sets
      have hy21 : y2.oneCell' = true := by obtain ⟨css, h, _⟩ := hy2; exact h.one
      refine gset ?_
      repeat' (first | ((with_reducible refine o_s ?_); (first | (refine o_1 ?_; refine o_2 ?_) | (refine o_g ?_; first | refine o_u ?_ | refine o_k ?_ | refine o_n ?_ | refine o_v ?_ | ((first | refine o_G ?_ ?_ | refine o_N ?_ ?_) <;> intro hc)))) | ((fail_if_success (with_reducible refine o_s ?_)); go_step))
      refine wpl_allocB (z := zzone) rfl (by decide +kernel) ?_
      intro w12 x12 s12 h12
      refine gset ?_
      refine wpl_storeB (v := .agg #[str oa, y2]) rfl rfl rfl h12 (show sizeTy Tryz.prog 25 2 = true by decide +kernel) rfl (zone_one hy21) ?_
      intro w13 p13
      have x13 : Ext w11 w13 := x12.move p13.mv (by rintro k ⟨⟩; exact Nat.le_refl _)
      have hr13 := pts_block (cs := [str oa, y2]) p13.this
      have x813 := x11.trans x13
      have hx13 := hx8.trans x813
      have hp13 := hp8.ext x813
      have hq13 := hq8.ext x813
      have hd13 := hd8.ext x813
      have hD13 := hD8.ext x813
      have sg13 := sg8.ext x813
      have sn13 := sn8.ext x813
      have hv13 := hv.ext hx13
      have hy213 := hy2.ext x13
      clear p13 h12 x12
      repeat' (first | ((with_reducible refine o_s ?_); (first | (refine o_1 ?_; refine o_2 ?_) | (refine o_g ?_; first | refine o_u ?_ | refine o_k ?_ | refine o_n ?_ | refine o_v ?_ | ((first | refine o_G ?_ ?_ | refine o_N ?_ ?_) <;> intro hc)))) | ((fail_if_success (with_reducible refine o_s ?_)); go_step))
      refine wph_region (S := fun w' => Ext w13 w') (by decide +kernel) ?_
      intro w21 x21 hh21
      refine tk 0 ?_; refine gset ?_; refine tk 1 ?_; refine gset ?_
      apply meet4 (F := fun (u y : Value) (b : Nat) w' => Ext w13 w' ∧ Pts w' (.pointer (some ⟨b, 0, none⟩)) [str oa, y] ∧ SetsAt w' y la)
      · intro hG
        refine wph_two (i := 2) (j := 7) (by decide +kernel) rfl rfl rfl ?_ ?_
        · refine wpl_callR (enters_of Tryz.func35 rfl rfl) rfl rfl (p_Invert (d := dd) _ (hD13.ext x21) (by omega) (by omega)) ?_
          intro u wC xC ou
          refine gset ?_
          have x1 := x21.trans xC
          refine wph_nil ⟨x1, ?_⟩
          refine wph_two (i := 3) (j := 7) (by decide +kernel) rfl rfl rfl ?_ ?_
          · refine wpl_callR (enters_of Tryz.func28 rfl rfl) rfl rfl (p_Apply oa v lb (d := invD dd) _ (hv13.ext x1) ou.a bb eb (by omega) (show dd.gone.length ≤ 5000 by omega) m3) ?_
            rintro _ wD xD ⟨y4, rfl, hy4⟩
            rw [i1, i3]
            rw [i2] at hy4
            have hy41 : y4.oneCell' = true := by obtain ⟨css, h, _⟩ := hy4.sets; exact h.one
            refine gset ?_
            have x2 := x1.trans xD
            refine wph_nil ⟨x2, ?_⟩
            refine tk 4 ?_; refine gset ?_; refine tk 5 ?_; refine gset ?_; refine tk 6 ?_; refine gset ?_
            refine wph_one (i := 7) (by decide +kernel) rfl rfl ?_
            refine wpl_allocB (z := zzone) rfl (by decide +kernel) ?_
            intro wE xE sE hE
            refine gset ?_
            have x3 := x2.trans xE
            refine wph_nil ⟨x3, ?_⟩
            refine wph_one (i := 8) (by decide +kernel) rfl rfl ?_
            refine wpl_storeB (v := .agg #[str oa, y4]) rfl rfl rfl hE (show sizeTy Tryz.prog 25 2 = true by decide +kernel) rfl (zone_one hy41) ?_
            intro wF pF
            have xF : Ext wD wF := xE.move pF.mv (by rintro k ⟨⟩; exact Nat.le_refl _)
            have hF := pts_block (cs := [str oa, y4]) pF.this
            refine wph_nil ⟨x2.trans xF, ?_⟩
            refine tk 9 ?_; refine gset ?_
            have x4 := x2.trans xF
            clear pF hE xE sE
            generalize wD.heap.size = b at *
            exact hG u _ b _ ⟨x4, hF, hy4.sets.ext xF⟩
          · refine wpl_allocB (z := zzone) rfl (by decide +kernel) ?_
            intro wD xD sD hD
            refine gset ?_
            have x2 := x1.trans xD
            refine wph_nil ⟨x2, ?_⟩
            refine wph_one (i := 3) (by decide +kernel) rfl rfl ?_
            refine wpl_callR (enters_of Tryz.func28 rfl rfl) rfl rfl (p_Apply oa v lb (d := invD dd) _ (hv13.ext x2) (ou.a.ext xD) bb eb (by omega) (show dd.gone.length ≤ 5000 by omega) m3) ?_
            rintro _ wE xE ⟨y4, rfl, hy4⟩
            rw [i1, i3]
            rw [i2] at hy4
            have hy41 : y4.oneCell' = true := by obtain ⟨css, h, _⟩ := hy4.sets; exact h.one
            refine gset ?_
            have x3 := x2.trans xE
            refine wph_nil ⟨x3, ?_⟩
            refine tk 4 ?_; refine gset ?_; refine tk 5 ?_; refine gset ?_; refine tk 6 ?_; refine gset ?_
            have hb := x1.size
            have hE := xE.at hD
            have hlt : wC.heap.size < wD.heap.size := by omega
            refine wph_one (i := 8) (by decide +kernel) rfl rfl ?_
            refine wpl_storeB (v := .agg #[str oa, y4]) rfl rfl rfl hE (show sizeTy Tryz.prog 25 2 = true by decide +kernel) rfl (zone_one hy41) ?_
            intro wF pF
            have xF : Ext w13 wF := x3.move pF.mv (by rintro k ⟨⟩; exact hb)
            have hF := pts_block (cs := [str oa, y4]) pF.this
            refine wph_nil ⟨xF, ?_⟩
            refine tk 9 ?_; refine gset ?_
            have hfin := (hy4.put pF hlt).sets
            clear pF hE hD sD
            generalize wC.heap.size = b at *
            exact hG u _ b _ ⟨xF, hF, hfin⟩
        · refine wpl_allocB (z := zzone) rfl (by decide +kernel) ?_
          intro wC xC sC hC
          refine gset ?_
          have x1 := x21.trans xC
          refine wph_nil ⟨x1, ?_⟩
          refine wph_one (i := 2) (by decide +kernel) rfl rfl ?_
          refine wpl_callR (enters_of Tryz.func35 rfl rfl) rfl rfl (p_Invert (d := dd) _ (hD13.ext x1) (by omega) (by omega)) ?_
          intro u wD xD ou
          refine gset ?_
          have x2 := x1.trans xD
          refine wph_nil ⟨x2, ?_⟩
          refine wph_one (i := 3) (by decide +kernel) rfl rfl ?_
          refine wpl_callR (enters_of Tryz.func28 rfl rfl) rfl rfl (p_Apply oa v lb (d := invD dd) _ (hv13.ext x2) ou.a bb eb (by omega) (show dd.gone.length ≤ 5000 by omega) m3) ?_
          rintro _ wE xE ⟨y4, rfl, hy4⟩
          rw [i1, i3]
          rw [i2] at hy4
          have hy41 : y4.oneCell' = true := by obtain ⟨css, h, _⟩ := hy4.sets; exact h.one
          refine gset ?_
          have x3 := x2.trans xE
          refine wph_nil ⟨x3, ?_⟩
          refine tk 4 ?_; refine gset ?_; refine tk 5 ?_; refine gset ?_; refine tk 6 ?_; refine gset ?_
          have hb := x21.size
          have hE := xE.at (xD.at hC)
          have hlt : w21.heap.size < wD.heap.size := by have := xD.size; omega
          refine wph_one (i := 8) (by decide +kernel) rfl rfl ?_
          refine wpl_storeB (v := .agg #[str oa, y4]) rfl rfl rfl hE (show sizeTy Tryz.prog 25 2 = true by decide +kernel) rfl (zone_one hy41) ?_
          intro wF pF
          have xF : Ext w13 wF := x3.move pF.mv (by rintro k ⟨⟩; exact hb)
          have hF := pts_block (cs := [str oa, y4]) pF.this
          refine wph_nil ⟨xF, ?_⟩
          refine tk 9 ?_; refine gset ?_
          have hfin := (hy4.put pF hlt).sets
          clear pF hE hC sC
          generalize w21.heap.size = b at *
          exact hG u _ b _ ⟨xF, hF, hfin⟩
      · rintro u' y4 b w20 ⟨x1320, hf20, hy420⟩
        refine wph_done (by decide +kernel) ?_
        have hx20 := hx13.trans x1320
        have hr20 := hr13.ext x1320
        have hp20 := hp13.ext x1320
        have hq20 := hq13.ext x1320
        repeat' (first | ((with_reducible refine o_s ?_); (first | (refine o_1 ?_; refine o_2 ?_) | (refine o_g ?_; first | refine o_u ?_ | refine o_k ?_ | refine o_n ?_ | refine o_v ?_ | ((first | refine o_G ?_ ?_ | refine o_N ?_ ?_) <;> intro hc)))) | ((fail_if_success (with_reducible refine o_s ?_)); go_step))
        refine wpl_callV (enters_of Tryz.func31 rfl rfl) rfl rfl (same_true (hy213.ext x1320) (hv13.ext x1320) rfl rfl) ?_; intro w21 x21; refine gset ?_
        have hf21 := hf20.ext x21
        have hp21 := hp20.ext x21
        repeat' (first | ((with_reducible refine o_s ?_); (first | (refine o_1 ?_; refine o_2 ?_) | (refine o_g ?_; first | refine o_u ?_ | refine o_k ?_ | refine o_n ?_ | refine o_v ?_ | ((first | refine o_G ?_ ?_ | refine o_N ?_ ?_) <;> intro hc)))) | ((fail_if_success (with_reducible refine o_s ?_)); go_step))
        refine wpl_callV (enters_of Tryz.func31 rfl rfl) rfl rfl (same_true (hy420.ext x21) (hu.ext (hx20.trans x21)) rfl rfl) ?_; intro w22 x22; refine gset ?_
        repeat' (first | ((with_reducible refine o_s ?_); (first | (refine o_1 ?_; refine o_2 ?_) | (refine o_g ?_; first | refine o_u ?_ | refine o_k ?_ | refine o_n ?_ | refine o_v ?_ | ((first | refine o_G ?_ ?_ | refine o_N ?_ ?_) <;> intro hc)))) | ((fail_if_success (with_reducible refine o_s ?_)); go_step))
        refine wpl_callV (enters_of Tryz.func20 rfl rfl) rfl rfl (d_liveV _) ?_; intro w23 x23; refine gset ?_
        repeat' (first | ((with_reducible refine o_s ?_); (first | (refine o_1 ?_; refine o_2 ?_) | (refine o_g ?_; first | refine o_u ?_ | refine o_k ?_ | refine o_n ?_ | refine o_v ?_ | ((first | refine o_G ?_ ?_ | refine o_N ?_ ?_) <;> intro hc)))) | ((fail_if_success (with_reducible refine o_s ?_)); go_step))
        go_ret
        exact ⟨rfl, ((hx20.trans x21).trans x22).trans x23⟩
    · obtain rfl : dd = zeroD := by rw [← hmd]; exact mkD_bad q1
      repeat' (first | ((with_reducible refine o_s ?_); (first | (refine o_1 ?_; refine o_2 ?_) | (refine o_g ?_; first | refine o_u ?_ | refine o_k ?_ | refine o_n ?_ | refine o_v ?_ | ((first | refine o_G ?_ ?_ | refine o_N ?_ ?_) <;> intro hc)))) | ((fail_if_success (with_reducible refine o_s ?_)); go_step))
      · refine wpl_callV (enters_of Tryz.func20 rfl rfl) rfl rfl (d_liveV _) ?_; intro w9 x9; refine gset ?_
        repeat' (first | ((with_reducible refine o_s ?_); (first | (refine o_1 ?_; refine o_2 ?_) | (refine o_g ?_; first | refine o_u ?_ | refine o_k ?_ | refine o_n ?_ | refine o_v ?_ | ((first | refine o_G ?_ ?_ | refine o_N ?_ ?_) <;> intro hc)))) | ((fail_if_success (with_reducible refine o_s ?_)); go_step))
        go_ret
        exact ⟨rfl, hx8.trans x9⟩
      · exact (hc rfl).elim
      · exact (hc rfl).elim
      · exact absurd (by assumption : (!decide (mkE oa la ob lb = 0)) = false) (by simp [q1])
open Go.ChangeShapes Go.WideShapes Go.ChangeAt Go.RowKit
theorem own : ownKnob Tryz.prog.godebug = none := by kernel_rfl
theorem laidOut : laidOutB Tryz.prog = true := by kernel_rfl
/-- a slice of records that came in -/
theorem open_recs {H : Type} {enc : TypeId × Value → H} {w : World} {base : Nat} {spare : Nat → Bool} {held : Bool} {fuel : Nat} {v : Value} {x : DataW H × List MemPlace} (h : DataW.trod enc Tryz.prog w base spare held fuel 28 [v] = some x) : ∃ l : List Rec, Sl 4 w v (rcells l) := by
  obtain ⟨es, hs, he⟩ := open_rows Tryz.underlying28 (show Tryz.prog.cellsOf 75 = 4 by kernel_rfl) (by omega) h
  obtain ⟨l, rfl⟩ : ∃ l : List Rec, es = l.map Rec.cells := by
    refine all_map fun c hc => ?_
    obtain ⟨n, y, hy⟩ := he c hc
    obtain ⟨xs, n', _, _, hl, hxl, hf⟩ := DataW.trod_struct Tryz.underlying75 hy
    have c30 : Tryz.prog.cellsOf 22 = 1 := by kernel_rfl
    have c3 : Tryz.prog.cellsOf 3 = 1 := by kernel_rfl
    have c9 : Tryz.prog.cellsOf 9 = 1 := by kernel_rfl
    have c32 : Tryz.prog.cellsOf 75 = 4 := by kernel_rfl
    rw [c32] at hl
    match c, hl, xs, hxl with
    | [a, b, d, e], _, [y0, y1, y2, y3], _ =>
      have g0 := hf 0 _ rfl
      have g1 := hf 1 _ rfl
      have g2 := hf 2 _ rfl
      have g3 := hf 3 _ rfl
      simp [c30, c3, c9] at g0 g1 g2 g3
      obtain ⟨s0, rfl, _⟩ := trod_str Tryz.underlying22 g0
      obtain ⟨n1, rfl, _⟩ := trod_num Tryz.underlying3 g1
      obtain ⟨n2, rfl, _⟩ := trod_num Tryz.underlying3 g2
      obtain ⟨s3, rfl, _⟩ := trod_str Tryz.underlying9 g3
      exact ⟨⟨s0, n1, n2, s3⟩, rfl⟩
  exact ⟨l, hs⟩
open Go.ChangeShapes Go.WideShapes Go.ChangeAt Go.RowKit
/-- a slice of texts that came in -/
theorem open_texts {H : Type} {enc : TypeId × Value → H} {w : World} {base : Nat} {spare : Nat → Bool} {held : Bool} {fuel : Nat} {v : Value} {x : DataW H × List MemPlace} (h : DataW.trod enc Tryz.prog w base spare held fuel 53 [v] = some x) : ∃ l : List (List UInt8), Sl 1 w v (tcells l) := by
  obtain ⟨es, hs, he⟩ := open_rows Tryz.underlying53 (show Tryz.prog.cellsOf 9 = 1 by kernel_rfl) (by omega) h
  obtain ⟨l, rfl⟩ : ∃ l : List (List UInt8), es = l.map fun s => [str s] := by
    refine all_map fun c hc => ?_
    obtain ⟨n, y, hy⟩ := he c hc
    have hl : c.length = 1 := by
      obtain ⟨_, _, _, _, _, h4, _, _⟩ := hs
      exact h4 c hc
    match c, hl with
    | [a], _ =>
      obtain ⟨s, rfl, _⟩ := trod_str Tryz.underlying9 hy
      exact ⟨s, rfl⟩
  exact ⟨l, hs⟩
/-- a slice of sets that came in -/
theorem open_sets {H : Type} {enc : TypeId × Value → H} {w : World} {base : Nat} {spare : Nat → Bool} {held : Bool} {fuel : Nat} {v : Value} {x : DataW H × List MemPlace} (h : DataW.trod enc Tryz.prog w base spare held fuel 23 [v] = some x) : ∃ l : List RSet, SetsAt w v l := by
  obtain ⟨es, hs, he⟩ := open_rows Tryz.underlying23 (show Tryz.prog.cellsOf 55 = 4 by kernel_rfl) (by omega) h
  obtain ⟨l, rfl⟩ : ∃ l : List {p : RSet × Value // Sl 1 w p.2 (tcells p.1.data)}, es = l.map fun p => [str p.1.1.name, .int .i64 p.1.1.kind, .int .i64 p.1.1.ttl, p.1.2] := by
    refine all_map fun c hc => ?_
    obtain ⟨n, y, hy⟩ := he c hc
    obtain ⟨xs, n', _, _, hl, hxl, hf⟩ := DataW.trod_struct Tryz.underlying55 hy
    have c30 : Tryz.prog.cellsOf 22 = 1 := by kernel_rfl
    have c3 : Tryz.prog.cellsOf 3 = 1 := by kernel_rfl
    have c35 : Tryz.prog.cellsOf 53 = 1 := by kernel_rfl
    have c37 : Tryz.prog.cellsOf 55 = 4 := by kernel_rfl
    rw [c37] at hl
    match c, hl, xs, hxl with
    | [a, b, d, e], _, [y0, y1, y2, y3], _ =>
      have g0 := hf 0 _ rfl
      have g1 := hf 1 _ rfl
      have g2 := hf 2 _ rfl
      have g3 := hf 3 _ rfl
      simp [c30, c3, c35] at g0 g1 g2 g3
      obtain ⟨s0, rfl, _⟩ := trod_str Tryz.underlying22 g0
      obtain ⟨n1, rfl, _⟩ := trod_num Tryz.underlying3 g1
      obtain ⟨n2, rfl, _⟩ := trod_num Tryz.underlying3 g2
      obtain ⟨ts, hts⟩ := open_texts g3
      exact ⟨⟨(⟨s0, n1, n2, ts⟩, e), hts⟩, rfl⟩
  refine ⟨l.map fun p => p.1.1, _, hs, by simp, ?_⟩
  intro i s hi
  rw [List.getElem?_map] at hi
  obtain ⟨p, hp, rfl⟩ := Option.map_eq_some_iff.1 hi
  exact ⟨p.1.2, by rw [List.getElem?_map, hp]; rfl, p.2⟩
open Go.ChangeShapes Go.WideShapes Go.ChangeAt Go.RowKit
/-- a zone that came in -/
theorem open_zone {H : Type} {enc : TypeId × Value → H} {w : World} {base : Nat} {spare : Nat → Bool} {held : Bool} {fuel : Nat} {c : Array Value} {x : DataW H × List MemPlace} (h : DataW.trod enc Tryz.prog w base spare held fuel 25 (Value.agg c).cells.toList = some x) : ∃ (o : List UInt8) (l : List RSet) (u : Value), c = #[str o, u] ∧ SetsAt w u l := by
  have e : (Value.agg c).cells.toList = c.toList := rfl
  rw [e] at h
  obtain ⟨xs, n', _, _, hl, hxl, hf⟩ := DataW.trod_struct Tryz.underlying25 h
  have c30 : Tryz.prog.cellsOf 22 = 1 := by kernel_rfl
  have c25 : Tryz.prog.cellsOf 23 = 1 := by kernel_rfl
  have c43 : Tryz.prog.cellsOf 25 = 2 := by kernel_rfl
  rw [c43] at hl
  obtain ⟨cl⟩ := c
  match cl, hl, xs, hxl with
  | [a, b], _, [y0, y1], _ =>
    have g0 := hf 0 _ rfl
    have g1 := hf 1 _ rfl
    simp [c30, c25] at g0 g1
    obtain ⟨s0, rfl, _⟩ := trod_str Tryz.underlying22 g0
    obtain ⟨l, hls⟩ := open_sets g1
    exact ⟨s0, l, b, rfl, hls⟩
open Go.ChangeShapes Go.WideShapes Go.ChangeAt Go.RowKit
set_option maxRecDepth 100000 in
theorem diffBack_lifted (os : Os) (started : os.Started) (H : Type) (enc : TypeId × Value → H) :
    ReturnsInHanded {} Tryz.checked os 6 .any (YtoajkilickakiaaGreat.Rows.diffBackSpec.pre6 enc Tryz.prog Tryz.f6 YtoajkilickakiaaGreat.Rows.diffBackRow.domain false) (YtoajkilickakiaaGreat.Rows.diffBackSpec.post enc Tryz.prog Tryz.f6 false true false false) := by
  refine returnsInHanded_of_change (C := Tryz.checked) own started (by kernel_rfl) Tryz.func6
    (ChangeSpec.witness6 (enc := enc) (C := Tryz.checked) false ⟨#[], #[.agg #[str [], .slice none 0 0], .agg #[str [], .slice none 0 0]], []⟩ 8 (by kernel_rfl) (by kernel_rfl) (by kernel_rfl) (by kernel_rfl)) ?_
  intro W base args ds gs before hval0 hW hcnd _
  have hW' := hW
  obtain ⟨p, q, hA0, hV, rfl, hfz, hnd⟩ := hW
  have hA : DataW.TrodAll enc Tryz.prog W 0 (fun _ => true) true Tryz.f6.params.toList args.toList ds p := hA0
  have hval : ∀ (j : Nat) t v, Tryz.f6.params[j]? = some t → args[j]? = some v → Value.okWide Tryz.prog W .any base t v := hval0
  rw [Tryz.params6] at hA hval
  obtain ⟨v0, vs0, d0, ds0, p0, q0, hargs, rfl, rfl, h0, r0⟩ := trodAll_cons hA
  obtain ⟨v1, vs1, d1, ds1, p1, q1, rfl, rfl, rfl, h1, r1⟩ := trodAll_cons r0
  obtain ⟨rfl, rfl, rfl⟩ := trodAll_nil r1
  obtain rfl : args = #[v0, v1] := by cases args; simp_all
  obtain ⟨rfl, rfl⟩ := trodVars_none hV
  have k0 := h0
  have k1 := h1
  have lt0 : ∀ x ∈ p0, x.block < W.heap.size := by obtain ⟨m, hm⟩ := k0; exact DataW.trod_lt m _ _ _ hm
  have lt1 : ∀ x ∈ p1, x.block < W.heap.size := by obtain ⟨m, hm⟩ := k1; exact DataW.trod_lt m _ _ _ hm
  obtain ⟨c0, rfl, z0⟩ := okWide_struct Tryz.underlying25 (hval 0 25 v0 rfl rfl)
  obtain ⟨o0, l0, w0, e0, g0⟩ : ∃ (o : List UInt8) (l : List RSet) (u : Value), c0 = #[str o, u] ∧ SetsAt W u l := by
    obtain ⟨fuel, hf⟩ := h0
    exact open_zone hf
  subst e0
  obtain ⟨c1, rfl, z1⟩ := okWide_struct Tryz.underlying25 (hval 1 25 v1 rfl rfl)
  obtain ⟨o1, l1, w1, e1, g1⟩ : ∃ (o : List UInt8) (l : List RSet) (u : Value), c1 = #[str o, u] ∧ SetsAt W u l := by
    obtain ⟨fuel, hf⟩ := h1
    exact open_zone hf
  subst e1
  clear hA0 hval0
  have h9 := d6 o0 w0 l0 o1 w1 l1 W g0 g1
  refine h9.mono fun e W' ⟨he, hx⟩ => ?_
  subst he
  have bel := hx.below
  exact ⟨_, rfl, _, _, _, [], _, [], hW', trodAll_mk1 (shut_bool Tryz.underlying4 _), (trodAll_cons_mk (Below.trod laidOut (by kernel_rfl) (of_decide_eq_true (by kernel_rfl)) k0 bel lt0) (trodAll_cons_mk (Below.trod laidOut (by kernel_rfl) (of_decide_eq_true (by kernel_rfl)) k1 bel lt1) trodAll_mk0)), rfl, bel.frame _, fun h => by cases h⟩
theorem e_enter : Tryz.checked.prog.mayEnter = true := by kernel_rfl
theorem e_lift : (YtoajkilickakiaaGreat.Rows.diffBackRow.lifted == Tryz.checked.prog.liftsFinal) = true := by kernel_rfl
theorem e_make : (Tryz.checked.prog.make == some YtoajkilickakiaaGreat.Rows.diffBackRow.make) = true := by kernel_rfl
theorem diffBack_closed : joinedFacts Tryz.checked.prog 6 Tryz.f6 YtoajkilickakiaaGreat.Rows.diffBackSpec YtoajkilickakiaaGreat.Rows.diffBackRow = true := by
  unfold joinedFacts
  simp only [Bool.and_eq_true]
  repeat' (refine And.intro ?_ ?_)
  all_goals first | (with_reducible exact e_enter) | (with_reducible exact e_lift) | (with_reducible exact e_make) | kernel_rfl
theorem diffBack_holds : YtoajkilickakiaaGreat.Rows.DiffBackSaid :=
  OpenClaim.holds_of_wide 6 Tryz.f6 rfl rfl rfl rfl rfl rfl rfl ⟨rfl, rfl, rfl, rfl, rfl⟩ rfl rfl rfl rfl rfl (by kernel_rfl) Tryz.func6 diffBack_closed
    (of_decide_eq_true (by kernel_rfl)) (by unfold Func.isWrapper; first | (rw [if_pos (by decide +kernel)]; kernel_rfl) | (rw [if_neg (by decide +kernel)]; exact ⟨rfl, rfl⟩))
    (fun os started H enc _ => diffBack_lifted os started H enc)
end Go.Proofs.X
