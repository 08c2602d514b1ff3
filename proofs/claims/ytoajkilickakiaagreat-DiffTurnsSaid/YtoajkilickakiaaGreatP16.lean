/- Laws and walks that the proof of the statement is made of (part 16). -/
import Derived.Test.YtoajkilickakiaaGreatProg
import Derived.Test.YtoajkilickakiaaGreatShelf
import Derived.Shelf.SlSortCmp.NoneTotal
import Derived.Shelf.RegionOpenPlain
import Derived.Lib.Strings
import Derived.Lib.Slices
import Derived.Lib.Walk
import Derived.Lib.Builder
import Derived.Lib.AppendStr
import Derived.Lib.UnsafeStr
import Derived.Lib.MakeNoZero
import Derived.WalkKit
import Derived.Laws.Externs
import Derived.Laws.IdiomCopy
import Derived.Laws.BitsLemmas
import GoSem.Claims
import Derived.Lib.Hide
import Derived.OwnWalk
import Derived.Test.YtoajkilickakiaaGreatP1
import Derived.Test.YtoajkilickakiaaGreatP2
import Derived.Test.YtoajkilickakiaaGreatP3
import Derived.Test.YtoajkilickakiaaGreatP4
import Derived.Test.YtoajkilickakiaaGreatP5
import Derived.Test.YtoajkilickakiaaGreatP6
import Derived.Test.YtoajkilickakiaaGreatP8
import Derived.Test.YtoajkilickakiaaGreatP9
import Derived.Test.YtoajkilickakiaaGreatP10
import Derived.Test.YtoajkilickakiaaGreatP11
import Derived.Test.YtoajkilickakiaaGreatP12
import Derived.Test.YtoajkilickakiaaGreatP13
import Derived.Test.YtoajkilickakiaaGreatP14
import Derived.Test.YtoajkilickakiaaGreatP15
set_option linter.unusedSimpArgs false
set_option linter.unusedVariables false
namespace Go.Proofs.X
open Go.RowKit
set_option maxRecDepth 100000
/-! ### lodestarlaw08.Simple -/
def simS : List UInt8 := [2, 110, 115, 1, 97, 0, 1, 109, 0, 0, 0, 0, 5, 0, 0, 0, 10, 0, 0, 0, 3, 0, 0, 0, 100, 0, 0, 0, 4]
def simT : List UInt8 := [2, 110, 115, 1, 97, 0, 1, 109, 0, 0, 0, 0, 6, 0, 0, 0, 10, 0, 0, 0, 3, 0, 0, 0, 100, 0, 0, 0, 4]
def simR : List Rec := [⟨[1, 97], 6, 9, simS⟩, ⟨[1, 97], 2, 9, [2, 110, 115, 1, 97, 0]⟩, ⟨[2, 110, 115, 1, 97], 1, 9, [49, 49, 49, 49]⟩]
def simZ : List RSet := [⟨[1, 97], 2, 9, [[2, 110, 115, 1, 97, 0]]⟩, ⟨[1, 97], 6, 9, [simS]⟩, ⟨[2, 110, 115, 1, 97], 1, 9, [[49, 49, 49, 49]]⟩]
def simY : List RSet := [⟨[1, 97], 2, 9, [[2, 110, 115, 1, 97, 0]]⟩, ⟨[1, 97], 6, 9, [simT]⟩, ⟨[2, 110, 115, 1, 97], 1, 9, [[49, 49, 49, 49]]⟩]
theorem sim_E : loadE [1, 65] simR = 0 := by decide +kernel
theorem sim_L : loadL [1, 65] simR = simZ := by decide +kernel
theorem sim_O : loadO [1, 65] simR = [1, 97] := by decide +kernel
theorem sim_E1 : loadE [1, 97] (simR.take 1) = 2 := by decide +kernel
theorem sim_Z : zoneR [1, 97] simZ = 0 := by decide +kernel
theorem sim_soa : soaZ [1, 97] simZ = ⟨[2, 110, 115, 1, 97], [1, 109], 5, 10, 3, 100, 4⟩ := by decide +kernel
theorem sim_renE : renE [1, 97] simZ 6 = 0 := by decide +kernel
theorem sim_renL : renL [1, 97] simZ 6 = simY := by decide +kernel
theorem sim_renO : renO [1, 97] simZ 6 = [1, 97] := by decide +kernel
theorem sim_Y : zoneR [1, 97] simY = 0 := by decide +kernel
theorem sim_soaY : soaZ [1, 97] simY = ⟨[2, 110, 115, 1, 97], [1, 109], 6, 10, 3, 100, 4⟩ := by decide +kernel
theorem sim_cut : cutR [1, 97] simZ [2, 110, 115, 1, 97] = ([], false) := by decide +kernel
theorem sim_is : thereS [1, 97] simZ [2, 78, 83, 1, 97] = true := by decide +kernel
theorem sim_no : thereS [1, 97] simZ [1, 120, 1, 97] = false := by decide +kernel
theorem sim_b : ∀ s ∈ simZ, s.data.length ≤ 1000000 := by decide +kernel
theorem sim_d : ∀ s ∈ simZ, ∀ d ∈ s.data, d.length ≤ 4611686018427387904 := by decide +kernel
theorem sim_b2 : ∀ s ∈ simY, s.data.length ≤ 1000000 := by decide +kernel
theorem sim_d2 : ∀ s ∈ simY, ∀ d ∈ s.data, d.length ≤ 4611686018427387904 := by decide +kernel
theorem sim_r : ∀ r ∈ simR, r.data.length ≤ 4611686018427387904 := by decide +kernel
theorem p_Simple (w : World) : Calls Tryz.prog 65 #[] w (Ret w fun r w' => Sl 4 w' r (rcells simR)) := by
  go_enter Tryz.func65, Tryz.ntmps65
  repeat' ((fail_if_success (with_reducible refine o_s ?_)); go_step)
  repeat' (first | ((with_reducible refine o_s ?_); (first | (refine o_1 ?_; refine o_2 ?_) | (refine o_g ?_; first | refine o_u ?_ | refine o_k ?_ | refine o_n ?_ | refine o_v ?_ | ((first | refine o_G ?_ ?_ | refine o_N ?_ ?_) <;> intro hc)))) | ((fail_if_success (with_reducible refine o_s ?_)); go_step))
  refine wpl_run (v := .agg #[str [1, 97], .int .i64 6, .int .i64 9, str simS]) rfl (Runs.build rfl (by kernel_rfl)) ?_
  refine gset ?_
  refine wpl_run (v := .agg #[str [1, 97], .int .i64 2, .int .i64 9, str [2, 110, 115, 1, 97, 0]]) rfl (Runs.build rfl (by kernel_rfl)) ?_
  refine gset ?_
  refine wpl_run (v := .agg #[str [2, 110, 115, 1, 97], .int .i64 1, .int .i64 9, str [49, 49, 49, 49]]) rfl (Runs.build rfl (by kernel_rfl)) ?_
  refine gset ?_
  refine wpl_slice (e := 75) (k := 4) (bytes := 48) (xs := simR.map fun r => .agg r.cells.toArray) rfl rfl rfl (by intro x hx; obtain ⟨r, _, rfl⟩ := List.mem_map.1 hx; rfl) (by decide +kernel) (by decide +kernel) ?_
  intro v1 w1 x1 s1 sl1 _
  have sl1' : Sl 4 w1 v1 (rcells simR) := by simpa [rcells, Value.cells, List.map_map, Function.comp_def] using sl1
  refine gset ?_
  repeat' (first | ((with_reducible refine o_s ?_); (first | (refine o_1 ?_; refine o_2 ?_) | (refine o_g ?_; first | refine o_u ?_ | refine o_k ?_ | refine o_n ?_ | refine o_v ?_ | ((first | refine o_G ?_ ?_ | refine o_N ?_ ?_) <;> intro hc)))) | ((fail_if_success (with_reducible refine o_s ?_)); go_step))
  go_ret
  exact ⟨_, rfl, x1, sl1'⟩
theorem same_true {o o' : List UInt8} {u v : Value} {a b : List RSet} {w : World} (hu : SetsAt w u a) (hv : SetsAt w v b) (ho : o = o') (hab : a = b) : Calls Tryz.prog 31 #[.agg #[str o, u], .agg #[str o', v]] w (RetV w (.bool true)) := by
  have := r8_Same o o' u v a b w hu hv
  rw [decide_eq_true ho, decide_eq_true hab] at this
  exact this
def Yes (w : World) (e : Ending) (w' : World) : Prop := e = .returned (.bool true) ∧ Ext w w'
/-! ### lodestarlaw10.live -/
def simA : List UInt8 := [1, 97]
def simG : Rec := ⟨[1, 97], 6, 9, simS⟩
def simN : Rec := ⟨[1, 97], 6, 9, simT⟩
def simD : DeltaR := ⟨5, 6, [simG], [simN]⟩
theorem sim_E2 : loadE [1, 97] simR = 0 := by decide +kernel
theorem sim_L2 : loadL [1, 97] simR = simZ := by decide +kernel
theorem sim_O2 : loadO [1, 97] simR = [1, 97] := by decide +kernel
theorem sim_mE : mkE [1, 97] simZ [1, 97] simY = 0 := by decide +kernel
theorem sim_mD : mkD [1, 97] simZ [1, 97] simY = simD := by decide +kernel
theorem sim_aE : appE [1, 97] simZ simD = 0 := by decide +kernel
theorem sim_aL : appL [1, 97] simZ simD = simY := by decide +kernel
theorem sim_aO : appO [1, 97] simZ simD = [1, 97] := by decide +kernel
theorem sim_bE : appE [1, 97] simY simD = 7 := by decide +kernel
theorem sim_iE : appE [1, 97] simY (invD simD) = 0 := by decide +kernel
theorem sim_iL : appL [1, 97] simY (invD simD) = simZ := by decide +kernel
theorem sim_iO : appO [1, 97] simY (invD simD) = [1, 97] := by decide +kernel
theorem sim_cE : comE simD (invD simD) = 0 := by decide +kernel
theorem sim_cD : comD simD (invD simD) = ⟨5, 5, [], []⟩ := by decide +kernel
theorem sim_d3 : ∀ s ∈ simZ, ∀ d ∈ s.data, d.length ≤ 1000000 := by decide +kernel
theorem sim_d4 : ∀ s ∈ simY, ∀ d ∈ s.data, d.length ≤ 1000000 := by decide +kernel
theorem sim_h1 : (recordsS simZ).length ≤ 5000 := by decide +kernel
theorem sim_h2 : (recordsS simY).length ≤ 5000 := by decide +kernel
theorem sim_g : ∀ q ∈ [simG], q.data.length ≤ 1000000 := by decide +kernel
theorem sim_n : ∀ q ∈ [simN], q.data.length ≤ 1000000 := by decide +kernel
theorem Sl.empty {k : Nat} {w : World} {v : Value} (h : Sl k w v []) (w' : World) : Sl k w' v [] := by
  obtain ⟨a, c, h1, h2, h3, h4, h5, h6⟩ := h
  exact ⟨a, c, h1, h2, h3, h4, h5, fun h => absurd rfl h⟩
theorem meet5 {α β γ δ : Type} {F : α → β → γ → δ → World → Prop} {G : α → β → γ → δ → World → Prop} {goal : Prop} (h1 : (∀ x y z u w', F x y z u w' → G x y z u w') → goal) (h2 : ∀ x y z u w', F x y z u w' → G x y z u w') : goal := h1 h2
theorem meet4 {α β γ : Type} {F : α → β → γ → World → Prop} {G : α → β → γ → World → Prop} {goal : Prop} (h1 : (∀ x y z w', F x y z w' → G x y z w') → goal) (h2 : ∀ x y z w', F x y z w' → G x y z w') : goal := h1 h2
set_option maxHeartbeats 8000000 in
theorem d_live (w : World) : Calls Tryz.prog 20 #[] w (Yes w) := by
  go_enter Tryz.func20, Tryz.ntmps20
  repeat' (first | ((with_reducible refine o_s ?_); (first | (refine o_1 ?_; refine o_2 ?_) | (refine o_g ?_; first | refine o_u ?_ | refine o_k ?_ | refine o_n ?_ | refine o_v ?_ | ((first | refine o_G ?_ ?_ | refine o_N ?_ ?_) <;> intro hc)))) | ((fail_if_success (with_reducible refine o_s ?_)); go_step))
  refine wpl_callR (enters_of Tryz.func65 rfl rfl) rfl rfl (p_Simple _) ?_
  intro v1 w1 x1 hv1
  refine gset ?_
  repeat' (first | ((with_reducible refine o_s ?_); (first | (refine o_1 ?_; refine o_2 ?_) | (refine o_g ?_; first | refine o_u ?_ | refine o_k ?_ | refine o_n ?_ | refine o_v ?_ | ((first | refine o_G ?_ ?_ | refine o_N ?_ ?_) <;> intro hc)))) | ((fail_if_success (with_reducible refine o_s ?_)); go_step))
  refine wpl_callR (enters_of Tryz.func64 rfl rfl) rfl rfl (p_Load [1, 97] v1 simR _ hv1 (by decide) sim_r) ?_
  rintro _ w2 x2 ⟨z, rfl, hz⟩
  rw [sim_E2, sim_O2]
  rw [sim_L2] at hz
  have hz := hz.sets
  have hz1 : z.oneCell' = true := by obtain ⟨css, h, _⟩ := hz; exact h.one
  have hx2 := x1.trans x2
  refine gset ?_
  repeat' (first | ((with_reducible refine o_s ?_); (first | (refine o_1 ?_; refine o_2 ?_) | (refine o_g ?_; first | refine o_u ?_ | refine o_k ?_ | refine o_n ?_ | refine o_v ?_ | ((first | refine o_G ?_ ?_ | refine o_N ?_ ?_) <;> intro hc)))) | ((fail_if_success (with_reducible refine o_s ?_)); go_step))
  refine wpl_allocB (z := zzone) rfl (by decide +kernel) ?_
  intro w3 x3 s3 h3
  refine gset ?_
  refine wpl_storeB (v := .agg #[str [1, 97], z]) rfl rfl rfl h3 (show sizeTy Tryz.prog 25 2 = true by decide +kernel) rfl (zone_one hz1) ?_
  intro w4 p4
  have x4 : Ext w2 w4 := x3.move p4.mv (by rintro k ⟨⟩; exact Nat.le_refl _)
  have hp4 := pts_block (cs := [str [1, 97], z]) p4.this
  have hz4 := hz.ext x4
  have hx4 := hx2.trans x4
  clear p4 h3 x3
  repeat' (first | ((with_reducible refine o_s ?_); (first | (refine o_1 ?_; refine o_2 ?_) | (refine o_g ?_; first | refine o_u ?_ | refine o_k ?_ | refine o_n ?_ | refine o_v ?_ | ((first | refine o_G ?_ ?_ | refine o_N ?_ ?_) <;> intro hc)))) | ((fail_if_success (with_reducible refine o_s ?_)); go_step))
  refine wpl_callR (enters_of Tryz.func66 rfl rfl) rfl rfl (p_Renew [1, 97] z simZ 6 _ hz4 (by decide) sim_b sim_d) ?_
  rintro _ w5 x5 ⟨y, rfl, hy⟩
  rw [sim_renE, sim_renO]
  rw [sim_renL] at hy
  have hy := hy.sets
  have hy1 : y.oneCell' = true := by obtain ⟨css, h, _⟩ := hy; exact h.one
  refine gset ?_
  repeat' (first | ((with_reducible refine o_s ?_); (first | (refine o_1 ?_; refine o_2 ?_) | (refine o_g ?_; first | refine o_u ?_ | refine o_k ?_ | refine o_n ?_ | refine o_v ?_ | ((first | refine o_G ?_ ?_ | refine o_N ?_ ?_) <;> intro hc)))) | ((fail_if_success (with_reducible refine o_s ?_)); go_step))
  refine wpl_allocB (z := zzone) rfl (by decide +kernel) ?_
  intro w6 x6 s6 h6
  refine gset ?_
  refine wpl_storeB (v := .agg #[str [1, 97], y]) rfl rfl rfl h6 (show sizeTy Tryz.prog 25 2 = true by decide +kernel) rfl (zone_one hy1) ?_
  intro w7 p7
  have x7 : Ext w5 w7 := x6.move p7.mv (by rintro k ⟨⟩; exact Nat.le_refl _)
  have hq7 := pts_block (cs := [str [1, 97], y]) p7.this
  have x47 := x5.trans x7
  have hy7 := hy.ext x7
  have hz7 := hz4.ext x47
  have hp7 := hp4.ext x47
  have hx7 := hx4.trans x47
  clear p7 h6 x6 hp4 hz4
  repeat' (first | ((with_reducible refine o_s ?_); (first | (refine o_1 ?_; refine o_2 ?_) | (refine o_g ?_; first | refine o_u ?_ | refine o_k ?_ | refine o_n ?_ | refine o_v ?_ | ((first | refine o_G ?_ ?_ | refine o_N ?_ ?_) <;> intro hc)))) | ((fail_if_success (with_reducible refine o_s ?_)); go_step))
  refine wpl_callR (enters_of Tryz.func21 rfl rfl) rfl rfl (p_Make [1, 97] z simZ [1, 97] y simY _ hz7 hy7 sim_b sim_d sim_b2 sim_d2 (by have := sim_h1; omega) (by have := sim_h2; omega)) ?_
  rintro _ w8 x8 ⟨_, rfl, g, n, rfl, og, on⟩
  rw [sim_mE, sim_mD]
  rw [sim_mD] at og on
  have sg := og.sl
  have sn := on.sl
  refine gset ?_
  repeat' (first | ((with_reducible refine o_s ?_); (first | (refine o_1 ?_; refine o_2 ?_) | (refine o_g ?_; first | refine o_u ?_ | refine o_k ?_ | refine o_n ?_ | refine o_v ?_ | ((first | refine o_G ?_ ?_ | refine o_N ?_ ?_) <;> intro hc)))) | ((fail_if_success (with_reducible refine o_s ?_)); go_step))
  refine wpl_allocB (z := zdel) rfl (by decide +kernel) ?_
  intro w9 x9 s9 h9
  refine gset ?_
  refine wpl_storeB (v := .agg #[.int .i64 5, .int .i64 6, g, n]) rfl rfl rfl h9 (show sizeTy Tryz.prog 30 4 = true by decide +kernel) rfl (all4 rfl rfl sg.one sn.one) ?_
  intro w10 p10
  have x10 : Ext w8 w10 := x9.move p10.mv (by rintro k ⟨⟩; exact Nat.le_refl _)
  have hd10 := pts_block (cs := [.int .i64 5, .int .i64 6, g, n]) p10.this
  have x710 := x8.trans x10
  have hy10 := hy7.ext x710
  have hz10 := hz7.ext x710
  have hp10 := hp7.ext x710
  have hq10 := hq7.ext x710
  have hx10 := hx7.trans x710
  have sg10 := sg.ext x10
  have sn10 := sn.ext x10
  have hD10 : DelA simD (.agg #[.int .i64 5, .int .i64 6, g, n]) w10 := ⟨g, n, rfl, sg10, sn10⟩
  clear p10 h9 x9 hp7 hq7 hy7 hz7 sg sn og on
  repeat' (first | ((with_reducible refine o_s ?_); (first | (refine o_1 ?_; refine o_2 ?_) | (refine o_g ?_; first | refine o_u ?_ | refine o_k ?_ | refine o_n ?_ | refine o_v ?_ | ((first | refine o_G ?_ ?_ | refine o_N ?_ ?_) <;> intro hc)))) | ((fail_if_success (with_reducible refine o_s ?_)); go_step))
  refine wpl_callR (enters_of Tryz.func28 rfl rfl) rfl rfl (p_Apply [1, 97] z simZ (d := simD) _ hz10 hD10 sim_b sim_d3 sim_h1 (by decide) sim_n) ?_
  rintro _ w11 x11 ⟨y2, rfl, hy2⟩
  rw [sim_aE, sim_aO]
  rw [sim_aL] at hy2
  have hy2 := hy2.sets
  have hy21 : y2.oneCell' = true := by obtain ⟨css, h, _⟩ := hy2; exact h.one
  refine gset ?_
  repeat' (first | ((with_reducible refine o_s ?_); (first | (refine o_1 ?_; refine o_2 ?_) | (refine o_g ?_; first | refine o_u ?_ | refine o_k ?_ | refine o_n ?_ | refine o_v ?_ | ((first | refine o_G ?_ ?_ | refine o_N ?_ ?_) <;> intro hc)))) | ((fail_if_success (with_reducible refine o_s ?_)); go_step))
  refine wpl_allocB (z := zzone) rfl (by decide +kernel) ?_
  intro w12 x12 s12 h12
  refine gset ?_
  refine wpl_storeB (v := .agg #[str [1, 97], y2]) rfl rfl rfl h12 (show sizeTy Tryz.prog 25 2 = true by decide +kernel) rfl (zone_one hy21) ?_
  intro w13 p13
  have x13 : Ext w11 w13 := x12.move p13.mv (by rintro k ⟨⟩; exact Nat.le_refl _)
  have hr13 := pts_block (cs := [str [1, 97], y2]) p13.this
  have x1013 := x11.trans x13
  have hy13 := hy10.ext x1013
  have hz13 := hz10.ext x1013
  have hp13 := hp10.ext x1013
  have hq13 := hq10.ext x1013
  have hd13 := hd10.ext x1013
  have hx13 := hx10.trans x1013
  have hD13 := hD10.ext x1013
  have hy213 := hy2.ext x13
  have sg13 := sg10.ext x1013
  have sn13 := sn10.ext x1013
  clear p13 h12 x12 hp10 hq10 hy10 hz10 hd10 hD10 sg10 sn10
  repeat' (first | ((with_reducible refine o_s ?_); (first | (refine o_1 ?_; refine o_2 ?_) | (refine o_g ?_; first | refine o_u ?_ | refine o_k ?_ | refine o_n ?_ | refine o_v ?_ | ((first | refine o_G ?_ ?_ | refine o_N ?_ ?_) <;> intro hc)))) | ((fail_if_success (with_reducible refine o_s ?_)); go_step))
  refine wpl_callR (enters_of Tryz.func28 rfl rfl) rfl rfl (p_Apply [1, 97] y simY (d := simD) _ hy13 hD13 sim_b2 sim_d4 sim_h2 (by decide) sim_n) ?_
  rintro _ w14 x14 ⟨y3, rfl, hy3⟩
  rw [sim_bE]
  have hy31 : y3.oneCell' = true := by obtain ⟨css, h, _⟩ := hy3.sets; exact h.one
  refine gset ?_
  repeat' (first | ((with_reducible refine o_s ?_); (first | (refine o_1 ?_; refine o_2 ?_) | (refine o_g ?_; first | refine o_u ?_ | refine o_k ?_ | refine o_n ?_ | refine o_v ?_ | ((first | refine o_G ?_ ?_ | refine o_N ?_ ?_) <;> intro hc)))) | ((fail_if_success (with_reducible refine o_s ?_)); go_step))
  refine wpl_allocB (z := zzone) rfl (by decide +kernel) ?_
  intro w15 x15 s15 h15
  refine gset ?_
  refine wpl_storeB (v := .agg #[str (appO [1, 97] simY simD), y3]) rfl rfl rfl h15 (show sizeTy Tryz.prog 25 2 = true by decide +kernel) rfl (zone_one hy31) ?_
  intro w16 p16
  have x16 : Ext w14 w16 := x15.move p16.mv (by rintro k ⟨⟩; exact Nat.le_refl _)
  have x1316 := x14.trans x16
  have hy16 := hy13.ext x1316
  have hz16 := hz13.ext x1316
  have hp16 := hp13.ext x1316
  have hq16 := hq13.ext x1316
  have hd16 := hd13.ext x1316
  have hr16 := hr13.ext x1316
  have hx16 := hx13.trans x1316
  have hD16 := hD13.ext x1316
  have hy216 := hy213.ext x1316
  have sg16 := sg13.ext x1316
  have sn16 := sn13.ext x1316
  clear p16 h15 x15 hp13 hq13 hy13 hz13 hd13 hD13 hr13 hy213 sg13 sn13
  repeat' (first | ((with_reducible refine o_s ?_); (first | (refine o_1 ?_; refine o_2 ?_) | (refine o_g ?_; first | refine o_u ?_ | refine o_k ?_ | refine o_n ?_ | refine o_v ?_ | ((first | refine o_G ?_ ?_ | refine o_N ?_ ?_) <;> intro hc)))) | ((fail_if_success (with_reducible refine o_s ?_)); go_step))
  refine wph_region (S := fun w' => Ext w16 w') (by decide +kernel) ?_
  intro w17 x17 hh17
  refine tk 0 ?_; refine gset ?_; refine tk 1 ?_; refine gset ?_
  apply meet4 (F := fun (u y : Value) (b : Nat) w' => Ext w16 w' ∧ Pts w' (.pointer (some ⟨b, 0, none⟩)) [str [1, 97], y] ∧ SetsAt w' y simZ)
  · intro hG
    refine wph_two (i := 2) (j := 7) (by decide +kernel) rfl rfl rfl ?_ ?_
    · refine wpl_callR (enters_of Tryz.func35 rfl rfl) rfl rfl (p_Invert (d := simD) _ (hD16.ext x17) (by decide) (by decide)) ?_
      intro u wC xC ou
      refine gset ?_
      have x1 := x17.trans xC
      refine wph_nil ⟨x1, ?_⟩
      refine wph_two (i := 3) (j := 7) (by decide +kernel) rfl rfl rfl ?_ ?_
      · refine wpl_callR (enters_of Tryz.func28 rfl rfl) rfl rfl (p_Apply [1, 97] y simY (d := invD simD) _ (hy16.ext x1) ou.a sim_b2 sim_d4 sim_h2 (by decide) sim_g) ?_
        rintro _ wD xD ⟨y4, rfl, hy4⟩
        rw [sim_iE, sim_iO]
        rw [sim_iL] at hy4
        have hy41 : y4.oneCell' = true := by obtain ⟨css, h, _⟩ := hy4.sets; exact h.one
        refine gset ?_
        have x2 := x1.trans xD
        refine wph_nil ⟨x2, ?_⟩
        refine tk 4 ?_; refine gset ?_; refine tk 5 ?_; refine gset ?_; refine tk 6 ?_; refine gset ?_
        refine wph_one (i := 7) (by decide +kernel) rfl rfl ?_
        refine wpl_allocB (z := zzone) rfl (by decide +kernel) ?_
        intro wE xE sE hE
        refine gset ?_
        have x3 := x2.trans xE
        refine wph_nil ⟨x3, ?_⟩
        refine wph_one (i := 8) (by decide +kernel) rfl rfl ?_
        refine wpl_storeB (v := .agg #[str [1, 97], y4]) rfl rfl rfl hE (show sizeTy Tryz.prog 25 2 = true by decide +kernel) rfl (zone_one hy41) ?_
        intro wF pF
        have xF : Ext wD wF := xE.move pF.mv (by rintro k ⟨⟩; exact Nat.le_refl _)
        have hF := pts_block (cs := [str [1, 97], y4]) pF.this
        refine wph_nil ⟨x2.trans xF, ?_⟩
        refine tk 9 ?_; refine gset ?_
        have x4 := x2.trans xF
        clear pF hE xE sE
        generalize wD.heap.size = b at *
        exact hG u _ b _ ⟨x4, hF, hy4.sets.ext xF⟩
      · refine wpl_allocB (z := zzone) rfl (by decide +kernel) ?_
        intro wD xD sD hD
        refine gset ?_
        have x2 := x1.trans xD
        refine wph_nil ⟨x2, ?_⟩
        refine wph_one (i := 3) (by decide +kernel) rfl rfl ?_
        refine wpl_callR (enters_of Tryz.func28 rfl rfl) rfl rfl (p_Apply [1, 97] y simY (d := invD simD) _ (hy16.ext x2) (ou.a.ext xD) sim_b2 sim_d4 sim_h2 (by decide) sim_g) ?_
        rintro _ wE xE ⟨y4, rfl, hy4⟩
        rw [sim_iE, sim_iO]
        rw [sim_iL] at hy4
        have hy41 : y4.oneCell' = true := by obtain ⟨css, h, _⟩ := hy4.sets; exact h.one
        refine gset ?_
        have x3 := x2.trans xE
        refine wph_nil ⟨x3, ?_⟩
        refine tk 4 ?_; refine gset ?_; refine tk 5 ?_; refine gset ?_; refine tk 6 ?_; refine gset ?_
        have hb := x1.size
        have hE := xE.at hD
        have hlt : wC.heap.size < wD.heap.size := by omega
        refine wph_one (i := 8) (by decide +kernel) rfl rfl ?_
        refine wpl_storeB (v := .agg #[str [1, 97], y4]) rfl rfl rfl hE (show sizeTy Tryz.prog 25 2 = true by decide +kernel) rfl (zone_one hy41) ?_
        intro wF pF
        have xF : Ext w16 wF := x3.move pF.mv (by rintro k ⟨⟩; exact hb)
        have hF := pts_block (cs := [str [1, 97], y4]) pF.this
        refine wph_nil ⟨xF, ?_⟩
        refine tk 9 ?_; refine gset ?_
        have hfin := (hy4.put pF hlt).sets
        clear pF hE hD sD
        generalize wC.heap.size = b at *
        exact hG u _ b _ ⟨xF, hF, hfin⟩
    · refine wpl_allocB (z := zzone) rfl (by decide +kernel) ?_
      intro wC xC sC hC
      refine gset ?_
      have x1 := x17.trans xC
      refine wph_nil ⟨x1, ?_⟩
      refine wph_one (i := 2) (by decide +kernel) rfl rfl ?_
      refine wpl_callR (enters_of Tryz.func35 rfl rfl) rfl rfl (p_Invert (d := simD) _ (hD16.ext x1) (by decide) (by decide)) ?_
      intro u wD xD ou
      refine gset ?_
      have x2 := x1.trans xD
      refine wph_nil ⟨x2, ?_⟩
      refine wph_one (i := 3) (by decide +kernel) rfl rfl ?_
      refine wpl_callR (enters_of Tryz.func28 rfl rfl) rfl rfl (p_Apply [1, 97] y simY (d := invD simD) _ (hy16.ext x2) ou.a sim_b2 sim_d4 sim_h2 (by decide) sim_g) ?_
      rintro _ wE xE ⟨y4, rfl, hy4⟩
      rw [sim_iE, sim_iO]
      rw [sim_iL] at hy4
      have hy41 : y4.oneCell' = true := by obtain ⟨css, h, _⟩ := hy4.sets; exact h.one
      refine gset ?_
      have x3 := x2.trans xE
      refine wph_nil ⟨x3, ?_⟩
      refine tk 4 ?_; refine gset ?_; refine tk 5 ?_; refine gset ?_; refine tk 6 ?_; refine gset ?_
      have hb := x17.size
      have hE := xE.at (xD.at hC)
      have hlt : w17.heap.size < wD.heap.size := by have := xD.size; omega
      refine wph_one (i := 8) (by decide +kernel) rfl rfl ?_
      refine wpl_storeB (v := .agg #[str [1, 97], y4]) rfl rfl rfl hE (show sizeTy Tryz.prog 25 2 = true by decide +kernel) rfl (zone_one hy41) ?_
      intro wF pF
      have xF : Ext w16 wF := x3.move pF.mv (by rintro k ⟨⟩; exact hb)
      have hF := pts_block (cs := [str [1, 97], y4]) pF.this
      refine wph_nil ⟨xF, ?_⟩
      refine tk 9 ?_; refine gset ?_
      have hfin := (hy4.put pF hlt).sets
      clear pF hE hC sC
      generalize w17.heap.size = b at *
      exact hG u _ b _ ⟨xF, hF, hfin⟩
  · rintro u y4 b w20 ⟨x1620, hf20, hy420⟩
    refine wph_done (by decide +kernel) ?_
    have hy20 := hy16.ext x1620
    have hz20 := hz16.ext x1620
    have hp20 := hp16.ext x1620
    have hq20 := hq16.ext x1620
    have hd20 := hd16.ext x1620
    have hr20 := hr16.ext x1620
    have hx20 := hx16.trans x1620
    have hD20 := hD16.ext x1620
    have hy220 := hy216.ext x1620
    have sg20 := sg16.ext x1620
    have sn20 := sn16.ext x1620
    clear hp16 hq16 hy16 hz16 hd16 hD16 hr16 hy216 sg16 sn16
    repeat' (first | ((with_reducible refine o_s ?_); (first | (refine o_1 ?_; refine o_2 ?_) | (refine o_g ?_; first | refine o_u ?_ | refine o_k ?_ | refine o_n ?_ | refine o_v ?_ | ((first | refine o_G ?_ ?_ | refine o_N ?_ ?_) <;> intro hc)))) | ((fail_if_success (with_reducible refine o_s ?_)); go_step))
    refine wph_region (S := fun w' => Ext w20 w') (by decide +kernel) ?_
    intro w21 x21 hh21
    refine tk 0 ?_; refine gset ?_; refine tk 1 ?_; refine gset ?_
    apply meet5 (F := fun (u g' n' : Value) (b : Nat) w' => Ext w20 w' ∧ Pts w' (.pointer (some ⟨b, 0, none⟩)) [.int .i64 5, .int .i64 5, g', n'] ∧ Sl 4 w' g' [] ∧ Sl 4 w' n' [])
    · intro hG
      refine wph_two (i := 2) (j := 7) (by decide +kernel) rfl rfl rfl ?_ ?_
      · refine wpl_callR (enters_of Tryz.func35 rfl rfl) rfl rfl (p_Invert (d := simD) _ (hD20.ext x21) (by decide) (by decide)) ?_
        intro u wC xC ou
        refine gset ?_
        have x1 := x21.trans xC
        refine wph_nil ⟨x1, ?_⟩
        refine wph_two (i := 3) (j := 7) (by decide +kernel) rfl rfl rfl ?_ ?_
        · refine wpl_callR (enters_of Tryz.func33 rfl rfl) rfl rfl (p_Compose (a := simD) (b := invD simD) _ (hD20.ext x1) ou.a (by decide) (by decide) (by decide) (by decide)) ?_
          rintro _ wD xD ⟨_, rfl, g', n', rfl, og', on'⟩
          rw [sim_cE, sim_cD]
          rw [sim_cD] at og' on'
          have sg' := og'.sl; rw [show rcells ([] : List Rec) = [] from rfl] at sg'
          have sn' := on'.sl; rw [show rcells ([] : List Rec) = [] from rfl] at sn'
          refine gset ?_
          have x2 := x1.trans xD
          refine wph_nil ⟨x2, ?_⟩
          refine tk 4 ?_; refine gset ?_; refine tk 5 ?_; refine gset ?_; refine tk 6 ?_; refine gset ?_
          refine wph_one (i := 7) (by decide +kernel) rfl rfl ?_
          refine wpl_allocB (z := zdel) rfl (by decide +kernel) ?_
          intro wE xE sE hE
          refine gset ?_
          have x3 := x2.trans xE
          refine wph_nil ⟨x3, ?_⟩
          refine wph_one (i := 8) (by decide +kernel) rfl rfl ?_
          refine wpl_storeB (v := .agg #[.int .i64 5, .int .i64 5, g', n']) rfl rfl rfl hE (show sizeTy Tryz.prog 30 4 = true by decide +kernel) rfl (all4 rfl rfl sg'.one sn'.one) ?_
          intro wF pF
          have xF : Ext wD wF := xE.move pF.mv (by rintro k ⟨⟩; exact Nat.le_refl _)
          have hF := pts_block (cs := [.int .i64 5, .int .i64 5, g', n']) pF.this
          refine wph_nil ⟨x2.trans xF, ?_⟩
          refine tk 9 ?_; refine gset ?_
          have x4 := x2.trans xF
          clear pF hE xE sE
          generalize wD.heap.size = b at *
          exact hG u g' n' b _ ⟨x4, hF, sg'.empty _, sn'.empty _⟩
        · refine wpl_allocB (z := zdel) rfl (by decide +kernel) ?_
          intro wD xD sD hD
          refine gset ?_
          have x2 := x1.trans xD
          refine wph_nil ⟨x2, ?_⟩
          refine wph_one (i := 3) (by decide +kernel) rfl rfl ?_
          refine wpl_callR (enters_of Tryz.func33 rfl rfl) rfl rfl (p_Compose (a := simD) (b := invD simD) _ (hD20.ext x2) (ou.a.ext xD) (by decide) (by decide) (by decide) (by decide)) ?_
          rintro _ wE xE ⟨_, rfl, g', n', rfl, og', on'⟩
          rw [sim_cE, sim_cD]
          rw [sim_cD] at og' on'
          have sg' := og'.sl; rw [show rcells ([] : List Rec) = [] from rfl] at sg'
          have sn' := on'.sl; rw [show rcells ([] : List Rec) = [] from rfl] at sn'
          refine gset ?_
          have x3 := x2.trans xE
          refine wph_nil ⟨x3, ?_⟩
          refine tk 4 ?_; refine gset ?_; refine tk 5 ?_; refine gset ?_; refine tk 6 ?_; refine gset ?_
          have hb := x1.size
          have hE := xE.at hD
          have hlt : wC.heap.size < wD.heap.size := by omega
          refine wph_one (i := 8) (by decide +kernel) rfl rfl ?_
          refine wpl_storeB (v := .agg #[.int .i64 5, .int .i64 5, g', n']) rfl rfl rfl hE (show sizeTy Tryz.prog 30 4 = true by decide +kernel) rfl (all4 rfl rfl sg'.one sn'.one) ?_
          intro wF pF
          have xF : Ext w20 wF := x3.move pF.mv (by rintro k ⟨⟩; exact hb)
          have hF := pts_block (cs := [.int .i64 5, .int .i64 5, g', n']) pF.this
          refine wph_nil ⟨xF, ?_⟩
          refine tk 9 ?_; refine gset ?_
          clear pF hE hD sD
          generalize wC.heap.size = b at *
          exact hG u g' n' b _ ⟨xF, hF, sg'.empty _, sn'.empty _⟩
      · refine wpl_allocB (z := zdel) rfl (by decide +kernel) ?_
        intro wC xC sC hC
        refine gset ?_
        have x1 := x21.trans xC
        refine wph_nil ⟨x1, ?_⟩
        refine wph_one (i := 2) (by decide +kernel) rfl rfl ?_
        refine wpl_callR (enters_of Tryz.func35 rfl rfl) rfl rfl (p_Invert (d := simD) _ (hD20.ext x1) (by decide) (by decide)) ?_
        intro u wD xD ou
        refine gset ?_
        have x2 := x1.trans xD
        refine wph_nil ⟨x2, ?_⟩
        refine wph_one (i := 3) (by decide +kernel) rfl rfl ?_
        refine wpl_callR (enters_of Tryz.func33 rfl rfl) rfl rfl (p_Compose (a := simD) (b := invD simD) _ (hD20.ext x2) ou.a (by decide) (by decide) (by decide) (by decide)) ?_
        rintro _ wE xE ⟨_, rfl, g', n', rfl, og', on'⟩
        rw [sim_cE, sim_cD]
        rw [sim_cD] at og' on'
        have sg' := og'.sl; rw [show rcells ([] : List Rec) = [] from rfl] at sg'
        have sn' := on'.sl; rw [show rcells ([] : List Rec) = [] from rfl] at sn'
        refine gset ?_
        have x3 := x2.trans xE
        refine wph_nil ⟨x3, ?_⟩
        refine tk 4 ?_; refine gset ?_; refine tk 5 ?_; refine gset ?_; refine tk 6 ?_; refine gset ?_
        have hb := x21.size
        have hE := xE.at (xD.at hC)
        have hlt : w21.heap.size < wD.heap.size := by have := xD.size; omega
        refine wph_one (i := 8) (by decide +kernel) rfl rfl ?_
        refine wpl_storeB (v := .agg #[.int .i64 5, .int .i64 5, g', n']) rfl rfl rfl hE (show sizeTy Tryz.prog 30 4 = true by decide +kernel) rfl (all4 rfl rfl sg'.one sn'.one) ?_
        intro wF pF
        have xF : Ext w20 wF := x3.move pF.mv (by rintro k ⟨⟩; exact hb)
        have hF := pts_block (cs := [.int .i64 5, .int .i64 5, g', n']) pF.this
        refine wph_nil ⟨xF, ?_⟩
        refine tk 9 ?_; refine gset ?_
        clear pF hE hC sC
        generalize w21.heap.size = b at *
        exact hG u g' n' b _ ⟨xF, hF, sg'.empty _, sn'.empty _⟩
    · rintro u g' n' b' w22 ⟨x2022, hc22, sg22, sn22⟩
      refine wph_done (by decide +kernel) ?_
      have hy22 := hy20.ext x2022
      have hz22 := hz20.ext x2022
      have hp22 := hp20.ext x2022
      have hq22 := hq20.ext x2022
      have hd22 := hd20.ext x2022
      have hr22 := hr20.ext x2022
      have hx22 := hx20.trans x2022
      have hy222 := hy220.ext x2022
      have hy422 := hy420.ext x2022
      have hf22 := hf20.ext x2022
      have sgd := sg20.ext x2022
      have snd := sn20.ext x2022
      clear hp20 hq20 hy20 hz20 hd20 hD20 hr20 hy220 hy420 hf20 sg20 sn20
      repeat' (first | ((with_reducible refine o_s ?_); (first | (refine o_1 ?_; refine o_2 ?_) | (refine o_g ?_; first | refine o_u ?_ | refine o_k ?_ | refine o_n ?_ | refine o_v ?_ | ((first | refine o_G ?_ ?_ | refine o_N ?_ ?_) <;> intro hc)))) | ((fail_if_success (with_reducible refine o_s ?_)); go_step))
      · refine wpl_callV (enters_of Tryz.func31 rfl rfl) rfl rfl (same_true hy222 hy22 rfl rfl) ?_; intro w23 x23; refine gset ?_
        have hp23 := hp22.ext x23
        have hf23 := hf22.ext x23
        have hc23 := hc22.ext x23
        repeat' (first | ((with_reducible refine o_s ?_); (first | (refine o_1 ?_; refine o_2 ?_) | (refine o_g ?_; first | refine o_u ?_ | refine o_k ?_ | refine o_n ?_ | refine o_v ?_ | ((first | refine o_G ?_ ?_ | refine o_N ?_ ?_) <;> intro hc)))) | ((fail_if_success (with_reducible refine o_s ?_)); go_step))
        refine wpl_callV (enters_of Tryz.func31 rfl rfl) rfl rfl (same_true (hy422.ext x23) (hz22.ext x23) rfl rfl) ?_; intro w24 x24; refine gset ?_
        have hc24 := hc23.ext x24
        have sg24 := sg22.empty w24
        have sn24 := sn22.empty w24
        repeat' (first | ((with_reducible refine o_s ?_); (first | (refine o_1 ?_; refine o_2 ?_) | (refine o_g ?_; first | refine o_u ?_ | refine o_k ?_ | refine o_n ?_ | refine o_v ?_ | ((first | refine o_G ?_ ?_ | refine o_N ?_ ?_) <;> intro hc)))) | ((fail_if_success (with_reducible refine o_s ?_)); go_step))
        · go_ret
          exact ⟨rfl, (hx22.trans x23).trans x24⟩
        · exact (hc rfl).elim
        · exact (hc rfl).elim
      · exact (hc rfl).elim
      · exact (hc rfl).elim
section
variable {P : Program} {w : World} {ts : List Value} {df : List Deferred} {d : Option Nat} {ty : TypeId} {ps : String} {af : Array Edge} {g : Option (Nat × Bool)}
def boolTy (P : Program) (t : TypeId) : Bool := match P.underlying t with | some .bool => true | _ => false
theorem Runs.eqlB {t u : TypeId} {x y : Operand} {a b : Bool} (hx : (Act.mk ts.toArray df).eval x = .bool a) (hy : (Act.mk ts.toArray df).eval y = .bool b) (ht : boolTy P t = true) :
    Runs P (Oper.mk d (.binOp .eql t x y u) ty ps af g) (Act.mk ts.toArray df) w (.bool (a == b)) := by
  have hu : P.underlying t = some .bool := by
    unfold boolTy at ht; split at ht
    · assumption
    · cases ht
  constructor
  simp [execOp, hx, hy, eqGuard, binOp, run_equal_bool w t a b hu]
end
theorem few_bounds {l : List RSet} (h : fewS l = true) : l.length ≤ 25 ∧ (∀ s ∈ l, s.data.length ≤ 12) ∧ (∀ s ∈ l, s.name.length ≤ 300) ∧ ∀ s ∈ l, ∀ d ∈ s.data, d.length ≤ 300 := by
  simp only [fewS, Bool.and_eq_true, decide_eq_true_eq, List.all_eq_true, fewAt] at h
  exact ⟨h.1, fun s hs => (h.2 s hs).1.1, fun s hs => (h.2 s hs).1.2, fun s hs d hd => (h.2 s hs).2 d hd⟩
theorem recs_bound : ∀ {l : List RSet}, (∀ s ∈ l, s.data.length ≤ 12) → (recordsS l).length ≤ 12 * l.length
  | [], _ => by simp [recordsS]
  | s :: l, h => by
    have ih := recs_bound (l := l) fun t ht => h t (List.mem_cons_of_mem _ ht)
    have h1 := h s (by simp)
    have e : recordsS (s :: l) = recsOf s ++ recordsS l := by simp [recordsS]
    rw [e, List.length_append, List.length_cons]
    simp only [recsOf, List.length_map]
    omega
def zS : RSet := ⟨[], 0, 0, []⟩
theorem find_uni {w w' : World} {r : Value} {o : Option RSet} (h : match o with
    | some s => ∃ x, r = .tuple #[.agg #[str s.name, .int .i64 s.kind, .int .i64 s.ttl, x], .bool true] ∧ Own w.heap.size 1 9 w' x (tcells s.data)
    | none => r = .tuple #[.agg zset.toArray, .bool false]) :
    ∃ x, r = .tuple #[.agg #[str (o.getD zS).name, .int .i64 (o.getD zS).kind, .int .i64 (o.getD zS).ttl, x], .bool o.isSome] ∧ Sl 1 w' x (tcells (o.getD zS).data) := by
  cases o with
  | none => exact ⟨.slice none 0 0, h, Sl.nil _ _⟩
  | some s =>
    obtain ⟨x, h1, h2⟩ := h
    exact ⟨x, h1, h2.sl⟩
theorem fewz {o : List UInt8} {l : List RSet} (h : (decide ((o.length : Int) ≤ 300) && fewS l) = true) : l.length ≤ 25 ∧ (∀ s ∈ l, s.data.length ≤ 1000000) ∧ (∀ s ∈ l, ∀ d ∈ s.data, d.length ≤ 4611686018427387904) ∧ o.length ≤ 300 ∧ (∀ s ∈ l, s.data.length ≤ 12) ∧ (∀ s ∈ l, ∀ d ∈ s.data, d.length ≤ 300) := by
  simp only [Bool.and_eq_true, decide_eq_true_eq] at h
  obtain ⟨b1, b2, b3, b4⟩ := few_bounds h.2
  exact ⟨b1, fun s hs => by have := b2 s hs; omega, fun s hs d hd => by have := b4 s hs d hd; omega, by omega, b2, b4⟩
/-! ### bounds of small zones' deltas -/
theorem d_liveV (w : World) : Calls Tryz.prog 20 #[] w (RetV w (.bool true)) := d_live w
theorem fewd {o : List UInt8} {l : List RSet} (h : (decide ((o.length : Int) ≤ 300) && fewS l) = true) : (recordsS l).length ≤ 300 ∧ (∀ s ∈ l, ∀ d ∈ s.data, d.length ≤ 1000000) ∧ ∀ r ∈ recordsS l, r.data.length ≤ 1000000 := by
  obtain ⟨a, _, _, _, b, c⟩ := fewz h
  have := recs_bound b
  have hd : ∀ s ∈ l, ∀ d ∈ s.data, d.length ≤ 1000000 := fun s hs d hd => by have := c s hs d hd; omega
  exact ⟨by omega, hd, recs_data hd⟩
theorem mkD_bounds {oa ob : List UInt8} {la lb : List RSet} (ha : (recordsS la).length ≤ 300) (hb : (recordsS lb).length ≤ 300) (da : ∀ r ∈ recordsS la, r.data.length ≤ 1000000) (db : ∀ r ∈ recordsS lb, r.data.length ≤ 1000000) :
    ((mkD oa la ob lb).gone.length ≤ 300 ∧ (mkD oa la ob lb).new.length ≤ 300) ∧ (∀ q ∈ (mkD oa la ob lb).gone, q.data.length ≤ 1000000) ∧ ∀ q ∈ (mkD oa la ob lb).new, q.data.length ≤ 1000000 := by
  unfold mkD
  split
  · have h1 := less_len (recordsS la) (recordsS lb)
    have h2 := less_len (recordsS lb) (recordsS la)
    exact ⟨⟨by show (lessR _ _).length ≤ _; omega, by show (lessR _ _).length ≤ _; omega⟩, fun q hq => da q (mem_less.1 hq).1, fun q hq => db q (mem_less.1 hq).1⟩
  · simp [zeroD]
theorem comD_bounds {a b : DeltaR} {n : Nat} (h1 : a.gone.length ≤ n) (h2 : a.new.length ≤ n) (h3 : b.gone.length ≤ n) (h4 : b.new.length ≤ n) (d2 : ∀ q ∈ a.new, q.data.length ≤ 1000000) (d4 : ∀ q ∈ b.new, q.data.length ≤ 1000000) :
    ((comD a b).gone.length ≤ n + n ∧ (comD a b).new.length ≤ n + n) ∧ ∀ q ∈ (comD a b).new, q.data.length ≤ 1000000 := by
  unfold comD
  split
  · have e1 := less_len b.gone a.new
    have e2 := less_len a.new b.gone
    have e3 := less_len (comG a b) (comN a b)
    have e4 := less_len (comN a b) (comG a b)
    have lG : (comG a b).length ≤ n + n := by rw [comG, List.length_append]; omega
    have lN : (comN a b).length ≤ n + n := by rw [comN, List.length_append]; omega
    refine ⟨⟨by show (lessR _ _).length ≤ _; omega, by show (lessR _ _).length ≤ _; omega⟩, fun q hq => ?_⟩
    rcases List.mem_append.1 (mem_less.1 hq).1 with h | h
    · exact d2 q (mem_less.1 h).1
    · exact d4 q h
  · simp [zeroD]
set_option maxHeartbeats 12000000 in
/-- lodestarref07.Records -/
theorem r7_Records (v : Value) (l : List RSet) (w : World) (hv : SetsAt w v l) (hb : (recordsS l).length ≤ 100000) : Calls Tryz.prog 69 #[v] w (Ret w fun r w' => Own w.heap.size 4 75 w' r (rcells (recordsS l))) := by
  obtain ⟨cv, hv1, hvl⟩ := hv.sl
  have hle := hv1.le
  go_enter Tryz.func69, Tryz.ntmps69
  repeat' (first | ((with_reducible refine o_s ?_); (first | (refine o_1 ?_; refine o_2 ?_) | (refine o_g ?_; first | refine o_u ?_ | refine o_k ?_ | refine o_n ?_ | refine o_v ?_ | ((first | refine o_G ?_ ?_ | refine o_N ?_ ?_) <;> intro hc)))) | ((fail_if_success (with_reducible refine o_s ?_)); go_step))
  go_loopw [3, 4, 5] (fun o i _ wr => ∃ k : Nat, k ≤ l.length ∧ i = .int .i64 k ∧ Ext w wr ∧ Own w.heap.size 4 75 wr o (rcells (recsP l k))) (fun _ i _ _ => l.length - (intOf i).toNat)
  case atStart => exact ⟨0, Nat.zero_le _, rfl, Ext.refl _, Own.nil _ _ _ _⟩
  case round =>
    obtain ⟨k, hk, rfl, hx, ho⟩ := hrel
    have hv2 := hv1.ext hx
    by_cases hlt : k < l.length
    · obtain ⟨x, h4, h4d⟩ := hv.elem (List.getElem?_eq_getElem hlt)
      have hdl := tcells_length l[k].data
      have hdle := h4d.le
      repeat' (first | ((with_reducible refine o_s ?_); (first | (refine o_1 ?_; refine o_2 ?_) | (refine o_g ?_; first | refine o_u ?_ | refine o_k ?_ | refine o_n ?_ | refine o_v ?_ | ((first | refine o_G ?_ ?_ | refine o_N ?_ ?_) <;> intro hc)))) | ((fail_if_success (with_reducible refine o_s ?_)); go_step))
      go_loopw [3, 5] (fun o i wq => ∃ j : Nat, j ≤ l[k].data.length ∧ i = .int .i64 j ∧ Ext w wq ∧ Own w.heap.size 4 75 wq o (rcells (recsP l k ++ (l[k].data.take j).map (recOf l[k])))) (fun _ i _ => l[k].data.length - (intOf i).toNat)
      case atStart => exact ⟨0, Nat.zero_le _, rfl, hx, by simpa using ho⟩
      case round =>
        obtain ⟨j, hj, rfl, hxq, hoq⟩ := hrel
        have hv3 := hv1.ext hxq
        have h4q := h4.ext hxq
        have h4dq := h4d.ext hxq
        by_cases hlt2 : j < l[k].data.length
        · have h3 := h4d.elem (tcells_at hlt2)
          have hle1 := recsP_le l (k + 1)
          rw [recsP_succ hlt, List.length_append] at hle1
          have hle2 : (recsOf l[k]).length = l[k].data.length := by simp [recsOf]
          have hcl : (rcells (recsP l k ++ (l[k].data.take j).map (recOf l[k]))).length = (recsP l k).length + j := by simp [rcells]; omega
          repeat' (first | ((with_reducible refine o_s ?_); (first | (refine o_1 ?_; refine o_2 ?_) | (refine o_g ?_; first | refine o_u ?_ | refine o_k ?_ | refine o_n ?_ | refine o_v ?_ | ((first | refine o_G ?_ ?_ | refine o_N ?_ ?_) <;> intro hc)))) | ((fail_if_success (with_reducible refine o_s ?_)); go_step))
          clear hv2 hv3 h4q h4dq
          refine wph_region (S := fun w' => Ext w w') (by decide +kernel) ?_
          intro w5 x5 hh5
          refine tk 0 ?_; refine gset ?_; refine tk 1 ?_; refine gset ?_; refine tk 2 ?_; refine gset ?_; refine tk 3 ?_; refine gset ?_; refine tk 4 ?_; refine gset ?_; refine tk 5 ?_; refine gset ?_; refine tk 6 ?_; refine gset ?_; refine tk 7 ?_; refine gset ?_; refine tk 8 ?_; refine gset ?_; refine tk 9 ?_; refine gset ?_; refine tk 10 ?_; refine gset ?_; refine tk 11 ?_; refine gset ?_; refine tk 12 ?_; refine gset ?_; refine tk 13 ?_; refine gset ?_; refine tk 14 ?_; refine gset ?_; refine tk 15 ?_; refine gset ?_; refine tk 16 ?_; refine gset ?_; refine tk 17 ?_; refine gset ?_; refine tk 18 ?_; refine gset ?_; refine tk 19 ?_; refine gset ?_; refine tk 20 ?_; refine gset ?_; refine tk 21 ?_; refine gset ?_; refine tk 22 ?_; refine gset ?_; refine tk 23 ?_; refine gset ?_
          refine wph_take (i := 24) (v := .agg #[str l[k].name, .int .i64 l[k].kind, .int .i64 l[k].ttl, str l[k].data[j]]) rfl rfl (by decide +kernel) (by decide +kernel) (by decide +kernel) rfl (hxq.trans x5) (fun w' _ => Runs.build rfl (by kernel_rfl)) (fun _ _ _ h => h) ?_
          refine gset ?_
          refine wph_one (i := 25) (by decide +kernel) rfl rfl ?_
          refine wpl_slice (e := 75) (k := 4) (bytes := 48) (xs := [.agg #[str l[k].name, .int .i64 l[k].kind, .int .i64 l[k].ttl, str l[k].data[j]]]) rfl rfl rfl (by simp [Value.cells]) (by decide +kernel) (by simp) ?_
          intro v8 w8 x8 s8 sl8 _
          refine gset ?_
          have hx8 := (hxq.trans x5).trans x8
          refine wph_nil ⟨hx8, ?_⟩
          refine wph_one (i := 26) (by decide +kernel) rfl rfl ?_
          have ho8 := (hoq.ext x5).ext x8
          refine wpl_appendO (B := w.heap.size) (e := 75) (k := 4) rfl ho8 rfl sl8 (by simp [Value.cells, str, Value.oneCell']) hx8.size (by rw [hcl]; simp; omega) ?_
          intro v9 w9 o9 m9 k9
          refine gset ?_
          have x9 : Ext w w9 := ho8.mvx m9 hx8 (Nat.le_refl _)
          have o9 : Own w.heap.size 4 75 w9 v9 (rcells (recsP l k ++ (l[k].data.take (j + 1)).map (recOf l[k]))) := by
            rw [map_take_succ hlt2, ← List.append_assoc]
            simpa [rcells, Rec.cells, recOf, Value.cells] using o9
          refine wph_nil ⟨x9, ?_⟩
          refine wph_one (i := 27) (by decide +kernel) rfl rfl ?_
          repeat' (first | ((with_reducible refine o_s ?_); (first | (refine o_1 ?_; refine o_2 ?_) | (refine o_g ?_; first | refine o_u ?_ | refine o_k ?_ | refine o_n ?_ | refine o_v ?_ | ((first | refine o_G ?_ ?_ | refine o_N ?_ ?_) <;> intro hc)))) | ((fail_if_success (with_reducible refine o_s ?_)); go_step))
          refine ⟨x9, ?_⟩
          refine wph_done (by decide +kernel) ?_
          repeat' (first | ((with_reducible refine o_s ?_); (first | (refine o_1 ?_; refine o_2 ?_) | (refine o_g ?_; first | refine o_u ?_ | refine o_k ?_ | refine o_n ?_ | refine o_v ?_ | ((first | refine o_G ?_ ?_ | refine o_N ?_ ?_) <;> intro hc)))) | ((fail_if_success (with_reducible refine o_s ?_)); go_step))
          exact ⟨⟨j + 1, by omega, by go_num, x9, o9⟩, by simp [intOf]; omega⟩
        · have : j = l[k].data.length := by omega
          subst this
          repeat' (first | ((with_reducible refine o_s ?_); (first | (refine o_1 ?_; refine o_2 ?_) | (refine o_g ?_; first | refine o_u ?_ | refine o_k ?_ | refine o_n ?_ | refine o_v ?_ | ((first | refine o_G ?_ ?_ | refine o_N ?_ ?_) <;> intro hc)))) | ((fail_if_success (with_reducible refine o_s ?_)); go_step))
          refine ⟨⟨k + 1, by omega, by go_num, hxq, ?_⟩, by simp [intOf]; omega⟩
          rw [recsP_succ hlt]
          rw [List.take_length] at hoq
          exact hoq
    · have : k = l.length := by omega
      subst this
      rw [recsP_all] at ho
      repeat' (first | ((with_reducible refine o_s ?_); (first | (refine o_1 ?_; refine o_2 ?_) | (refine o_g ?_; first | refine o_u ?_ | refine o_k ?_ | refine o_n ?_ | refine o_v ?_ | ((first | refine o_G ?_ ?_ | refine o_N ?_ ?_) <;> intro hc)))) | ((fail_if_success (with_reducible refine o_s ?_)); go_step))
      go_ret
      exact ⟨_, rfl, hx, ho⟩
/-! ### Make, of the reference -/
set_option maxHeartbeats 6000000 in
/-- lodestarref10.Make -/
theorem r10_Make (oa : List UInt8) (u : Value) (la : List RSet) (ob : List UInt8) (v : Value) (lb : List RSet) (w : World) (hu : SetsAt w u la) (hv : SetsAt w v lb)
    (ba : ∀ s ∈ la, s.data.length ≤ 1000000) (da : ∀ s ∈ la, ∀ d ∈ s.data, d.length ≤ 4611686018427387904) (bb : ∀ s ∈ lb, s.data.length ≤ 1000000) (db : ∀ s ∈ lb, ∀ d ∈ s.data, d.length ≤ 4611686018427387904)
    (h1 : (recordsS la).length ≤ 100000) (h2 : (recordsS lb).length ≤ 100000) : Calls Tryz.prog 22 #[.agg #[str oa, u], .agg #[str ob, v]] w (Ret w (DelU w.heap.size (mkD oa la ob lb) (mkE oa la ob lb))) := by
  go_enter Tryz.func22, Tryz.ntmps22
  repeat' ((fail_if_success (with_reducible refine o_s ?_)); go_step)
  refine wpl_box (vs := [str oa, u]) rfl rfl ?_
  intro p w1 x1 hp
  refine gset ?_
  refine wpl_box (vs := [str ob, v]) rfl rfl ?_
  intro q w2 x2 hq
  refine gset ?_
  refine wpl_allocB (z := zdel) rfl (by decide +kernel) ?_
  intro w3 x3 s3 h3
  refine gset ?_
  have hx3 := (x1.trans x2).trans x3
  have zz := (x1.trans x2).size
  have hp3 := (hp.ext x2).ext x3
  have hq3 := hq.ext x3
  repeat' (first | ((with_reducible refine o_s ?_); (first | (refine o_1 ?_; refine o_2 ?_) | (refine o_g ?_; first | refine o_u ?_ | refine o_k ?_ | refine o_n ?_ | refine o_v ?_ | ((first | refine o_G ?_ ?_ | refine o_N ?_ ?_) <;> intro hc)))) | ((fail_if_success (with_reducible refine o_s ?_)); go_step))
  refine wpl_callV (enters_of Tryz.func68 rfl rfl) rfl rfl (r8_Soa oa u la _ (hu.ext hx3) ba da) ?_; intro w4 x4; refine gset ?_
  have hx4 := hx3.trans x4
  repeat' (first | ((with_reducible refine o_s ?_); (first | (refine o_1 ?_; refine o_2 ?_) | (refine o_g ?_; first | refine o_u ?_ | refine o_k ?_ | refine o_n ?_ | refine o_v ?_ | ((first | refine o_G ?_ ?_ | refine o_N ?_ ?_) <;> intro hc)))) | ((fail_if_success (with_reducible refine o_s ?_)); go_step))
  refine wpl_allocB (z := zeroSoa) rfl (by decide +kernel) ?_
  intro w5 x5 s5 h5
  refine gset ?_
  refine wpl_storeB (v := .agg (soaZ oa la).cells.toArray) rfl rfl rfl h5 (show sizeTy Tryz.prog 103 7 = true by decide +kernel) rfl (soaR_one _) ?_
  intro w6 p6
  have x46 : Ext w4 w6 := x5.move p6.mv (by rintro k ⟨⟩; exact Nat.le_refl _)
  have b6 : w6.heap[w4.heap.size]? = some (.cells (soaZ oa la).cells.toArray 103 (0, 0)) := p6.this
  have x36 := x4.trans x46
  have hx6 := hx3.trans x36
  clear p6 h5 x5
  have h6 := x36.at h3
  have hp6 := hp3.ext x36
  have hq6 := hq3.ext x36
  repeat' (first | ((with_reducible refine o_s ?_); (first | (refine o_1 ?_; refine o_2 ?_) | (refine o_g ?_; first | refine o_u ?_ | refine o_k ?_ | refine o_n ?_ | refine o_v ?_ | ((first | refine o_G ?_ ?_ | refine o_N ?_ ?_) <;> intro hc)))) | ((fail_if_success (with_reducible refine o_s ?_)); go_step))
  · have q0 : ¬ zoneR oa la = 0 := by simpa using (by assumption : (!decide (zoneR oa la = 0)) = true)
    refine wpl_run (v := .agg zdel.toArray) rfl (Runs.build0 (by kernel_rfl)) ?_
    refine gset ?_
    repeat' (first | ((with_reducible refine o_s ?_); (first | (refine o_1 ?_; refine o_2 ?_) | (refine o_g ?_; first | refine o_u ?_ | refine o_k ?_ | refine o_n ?_ | refine o_v ?_ | ((first | refine o_G ?_ ?_ | refine o_N ?_ ?_) <;> intro hc)))) | ((fail_if_success (with_reducible refine o_s ?_)); go_step))
    refine wpl_storeB (v := .agg zdel.toArray) rfl rfl rfl h6 (by decide +kernel) rfl (by decide +kernel) ?_
    intro w7 p7
    have x7 : Ext w w7 := hx6.move p7.mv (by rintro k ⟨⟩; exact zz)
    repeat' (first | ((with_reducible refine o_s ?_); (first | (refine o_1 ?_; refine o_2 ?_) | (refine o_g ?_; first | refine o_u ?_ | refine o_k ?_ | refine o_n ?_ | refine o_v ?_ | ((first | refine o_G ?_ ?_ | refine o_N ?_ ?_) <;> intro hc)))) | ((fail_if_success (with_reducible refine o_s ?_)); go_step))
    refine bodyPost_ret (results_cellT (cs := zdel) rfl rfl p7.this (by decide +kernel)) rfl ⟨_, rfl, x7, ?_⟩
    have he : mkE oa la ob lb = zoneR oa la := by rw [mkE, if_neg q0]
    rw [mkD_bad (by rw [he]; exact q0), he]
    exact DelU.bad rfl
  · have q0 : zoneR oa la = 0 := by simpa using (by assumption : (!decide (zoneR oa la = 0)) = false)
    refine wpl_callV (enters_of Tryz.func68 rfl rfl) rfl rfl (r8_Soa ob v lb _ (hv.ext hx6) bb db) ?_; intro w7 x7; refine gset ?_
    have hx7 := hx6.trans x7
    repeat' (first | ((with_reducible refine o_s ?_); (first | (refine o_1 ?_; refine o_2 ?_) | (refine o_g ?_; first | refine o_u ?_ | refine o_k ?_ | refine o_n ?_ | refine o_v ?_ | ((first | refine o_G ?_ ?_ | refine o_N ?_ ?_) <;> intro hc)))) | ((fail_if_success (with_reducible refine o_s ?_)); go_step))
    refine wpl_allocB (z := zeroSoa) rfl (by decide +kernel) ?_
    intro w8 x8 s8 h8
    refine gset ?_
    refine wpl_storeB (v := .agg (soaZ ob lb).cells.toArray) rfl rfl rfl h8 (show sizeTy Tryz.prog 103 7 = true by decide +kernel) rfl (soaR_one _) ?_
    intro w9 p9
    have x79 : Ext w7 w9 := x8.move p9.mv (by rintro k ⟨⟩; exact Nat.le_refl _)
    have c9 : w9.heap[w7.heap.size]? = some (.cells (soaZ ob lb).cells.toArray 103 (0, 0)) := p9.this
    have x69 := x7.trans x79
    have hx9 := hx6.trans x69
    clear p9 h8 x8
    have h9 := x69.at h6
    have b9 := x69.at b6
    have hp9 := hp6.ext x69
    have hq9 := hq6.ext x69
    repeat' (first | ((with_reducible refine o_s ?_); (first | (refine o_1 ?_; refine o_2 ?_) | (refine o_g ?_; first | refine o_u ?_ | refine o_k ?_ | refine o_n ?_ | refine o_v ?_ | ((first | refine o_G ?_ ?_ | refine o_N ?_ ?_) <;> intro hc)))) | ((fail_if_success (with_reducible refine o_s ?_)); go_step))
    · have q1 : ¬ zoneR ob lb = 0 := by simpa using (by assumption : (!decide (zoneR ob lb = 0)) = true)
      refine wpl_run (v := .agg zdel.toArray) rfl (Runs.build0 (by kernel_rfl)) ?_
      refine gset ?_
      repeat' (first | ((with_reducible refine o_s ?_); (first | (refine o_1 ?_; refine o_2 ?_) | (refine o_g ?_; first | refine o_u ?_ | refine o_k ?_ | refine o_n ?_ | refine o_v ?_ | ((first | refine o_G ?_ ?_ | refine o_N ?_ ?_) <;> intro hc)))) | ((fail_if_success (with_reducible refine o_s ?_)); go_step))
      refine wpl_storeB (v := .agg zdel.toArray) rfl rfl rfl h9 (by decide +kernel) rfl (by decide +kernel) ?_
      intro wz pz
      have xz : Ext w wz := hx9.move pz.mv (by rintro k ⟨⟩; exact zz)
      repeat' (first | ((with_reducible refine o_s ?_); (first | (refine o_1 ?_; refine o_2 ?_) | (refine o_g ?_; first | refine o_u ?_ | refine o_k ?_ | refine o_n ?_ | refine o_v ?_ | ((first | refine o_G ?_ ?_ | refine o_N ?_ ?_) <;> intro hc)))) | ((fail_if_success (with_reducible refine o_s ?_)); go_step))
      refine bodyPost_ret (results_cellT (cs := zdel) rfl rfl pz.this (by decide +kernel)) rfl ⟨_, rfl, xz, ?_⟩
      have he : mkE oa la ob lb = zoneR ob lb := by rw [mkE, if_pos q0, if_neg q1]
      rw [mkD_bad (by rw [he]; exact q1), he]
      exact DelU.bad rfl
    · have q1 : zoneR ob lb = 0 := by simpa using (by assumption : (!decide (zoneR ob lb = 0)) = false)
      · have q2 : ¬ oa = ob := by simpa using (by assumption : (!decide (oa = ob)) = true)
        refine wpl_run (v := .agg zdel.toArray) rfl (Runs.build0 (by kernel_rfl)) ?_
        refine gset ?_
        repeat' (first | ((with_reducible refine o_s ?_); (first | (refine o_1 ?_; refine o_2 ?_) | (refine o_g ?_; first | refine o_u ?_ | refine o_k ?_ | refine o_n ?_ | refine o_v ?_ | ((first | refine o_G ?_ ?_ | refine o_N ?_ ?_) <;> intro hc)))) | ((fail_if_success (with_reducible refine o_s ?_)); go_step))
        refine wpl_storeB (v := .agg zdel.toArray) rfl rfl rfl h9 (by decide +kernel) rfl (by decide +kernel) ?_
        intro wz pz
        have xz : Ext w wz := hx9.move pz.mv (by rintro k ⟨⟩; exact zz)
        repeat' (first | ((with_reducible refine o_s ?_); (first | (refine o_1 ?_; refine o_2 ?_) | (refine o_g ?_; first | refine o_u ?_ | refine o_k ?_ | refine o_n ?_ | refine o_v ?_ | ((first | refine o_G ?_ ?_ | refine o_N ?_ ?_) <;> intro hc)))) | ((fail_if_success (with_reducible refine o_s ?_)); go_step))
        refine bodyPost_ret (results_cellT (cs := zdel) rfl rfl pz.this (by decide +kernel)) rfl ⟨_, rfl, xz, ?_⟩
        have he : mkE oa la ob lb = 1 := by rw [mkE, if_pos q0, if_pos q1, if_neg q2]
        rw [mkD_bad (by rw [he]; decide), he]
        exact DelU.bad rfl
    · have q1 : zoneR ob lb = 0 := by simpa using (by assumption : (!decide (zoneR ob lb = 0)) = false)
      have q2 : oa = ob := by simpa using (by assumption : (!decide (oa = ob)) = false)
      have he : mkE oa la ob lb = 0 := by rw [mkE, if_pos q0, if_pos q1, if_pos q2]
      repeat' (first | ((with_reducible refine o_s ?_); (first | (refine o_1 ?_; refine o_2 ?_) | (refine o_g ?_; first | refine o_u ?_ | refine o_k ?_ | refine o_n ?_ | refine o_v ?_ | ((first | refine o_G ?_ ?_ | refine o_N ?_ ?_) <;> intro hc)))) | ((fail_if_success (with_reducible refine o_s ?_)); go_step))
      refine wpl_callR (enters_of Tryz.func69 rfl rfl) rfl rfl (r7_Records u la _ (hu.ext hx9) (by omega)) ?_
      intro r1 w11 x911 o11
      refine gset ?_
      have hq11 := hq9.ext x911
      repeat' (first | ((with_reducible refine o_s ?_); (first | (refine o_1 ?_; refine o_2 ?_) | (refine o_g ?_; first | refine o_u ?_ | refine o_k ?_ | refine o_n ?_ | refine o_v ?_ | ((first | refine o_G ?_ ?_ | refine o_N ?_ ?_) <;> intro hc)))) | ((fail_if_success (with_reducible refine o_s ?_)); go_step))
      refine wpl_callR (enters_of Tryz.func69 rfl rfl) rfl rfl (r7_Records v lb _ (hv.ext (hx9.trans x911)) (by omega)) ?_
      intro r2 w12 x12 o12
      refine gset ?_
      have x912 := x911.trans x12
      have hx12 := hx9.trans x912
      have h12 := x912.at h9
      have sr1 := (o11.ext x12).sl
      have sr2 := o12.sl
      have pb12 := pts_block (x912.at b9)
      have pc12 := pts_block (x912.at c9)
      repeat' (first | ((with_reducible refine o_s ?_); (first | (refine o_1 ?_; refine o_2 ?_) | (refine o_g ?_; first | refine o_u ?_ | refine o_k ?_ | refine o_n ?_ | refine o_v ?_ | ((first | refine o_G ?_ ?_ | refine o_N ?_ ?_) <;> intro hc)))) | ((fail_if_success (with_reducible refine o_s ?_)); go_step))
      refine wpi_region 11 (Ext w12) (by decide +kernel) ?_
      intro w13 x13 _
      refine ⟨x13, ?_⟩
      ((with_reducible apply wpi_take (i := 0)); (rfl); (rfl); (rfl); (decide +kernel); (decide +kernel); (decide +kernel); (decide +kernel); (rfl); (intro _ _; exact rn); (exact fun _ _ _ h => h); (refine gset ?_)); ((with_reducible apply wpi_take (i := 1)); (rfl); (rfl); (rfl); (decide +kernel); (decide +kernel); (decide +kernel); (decide +kernel); (rfl); (intro _ _; exact rn); (exact fun _ _ _ h => h); (refine gset ?_)); ((with_reducible apply wpi_take (i := 2)); (rfl); (rfl); (rfl); (decide +kernel); (decide +kernel); (decide +kernel); (decide +kernel); (rfl); (intro _ _; exact rn); (exact fun _ _ _ h => h); (refine gset ?_)); ((with_reducible apply wpi_take (i := 3)); (rfl); (rfl); (rfl); (decide +kernel); (decide +kernel); (decide +kernel); (decide +kernel); (rfl); (intro _ _; exact rn); (exact fun _ _ _ h => h); (refine gset ?_)); ((with_reducible apply wpi_take (i := 4)); (rfl); (rfl); (rfl); (decide +kernel); (decide +kernel); (decide +kernel); (decide +kernel); (rfl); (intro _ _; exact rn); (exact fun _ _ _ h => h); (refine gset ?_)); ((with_reducible apply wpi_take (i := 5)); (rfl); (rfl); (rfl); (decide +kernel); (decide +kernel); (decide +kernel); (decide +kernel); (rfl); (intro _ _; exact rn); (exact fun _ _ _ h => h); (refine gset ?_)); ((with_reducible apply wpi_take (i := 7)); (rfl); (rfl); (rfl); (decide +kernel); (decide +kernel); (decide +kernel); (decide +kernel); (rfl); (intro _ _; exact rn); (exact fun _ _ _ h => h); (refine gset ?_)); ((with_reducible apply wpi_take (i := 8)); (rfl); (rfl); (rfl); (decide +kernel); (decide +kernel); (decide +kernel); (decide +kernel); (rfl); (intro _ _; exact rn); (exact fun _ _ _ h => h); (refine gset ?_))
      refine wpi_op (i := 6) (by decide +kernel) rfl rfl ?_
      refine wpl_callR (enters_of Tryz.func70 rfl rfl) rfl rfl (r10_less r1 r2 _ _ _ (sr1.ext x13) (sr2.ext x13) (by omega)) ?_
      intro g w14 x14 og
      refine gset ?_
      have x1214 := x13.trans x14
      refine wph_nil ⟨till_yes x1214, ?_⟩
      refine wpi_op (i := 9) (by decide +kernel) rfl rfl ?_
      refine wpl_callR (enters_of Tryz.func70 rfl rfl) rfl rfl (r10_less r2 r1 _ _ _ (sr2.ext x1214) (sr1.ext x1214) (by omega)) ?_
      intro n w15 x15 on
      refine gset ?_
      have x1215 := x1214.trans x15
      refine wph_nil ⟨till_yes x1215, ?_⟩
      have sg := (og.ext x15).sl
      have sn := on.sl
      refine wpi_take (i := 10) (v := .agg #[.int .i64 (soaZ oa la).serial, .int .i64 (soaZ ob lb).serial, g, n]) rfl rfl rfl (by decide +kernel) (by decide +kernel) (by decide +kernel) (by decide +kernel) rfl (fun w' _ => Runs.build rfl (by obtain ⟨_, _, _, rfl⟩ := sg.slf; obtain ⟨_, _, _, rfl⟩ := sn.slf; kernel_rfl)) (fun _ _ _ h => h) ?_
      refine gset ?_
      refine wpi_op (i := 11) (by decide +kernel) rfl rfl ?_
      have h15 := x1215.at h12
      refine wpl_storeB (v := .agg #[.int .i64 (soaZ oa la).serial, .int .i64 (soaZ ob lb).serial, g, n]) rfl rfl rfl h15 (show sizeTy Tryz.prog 34 4 = true by decide +kernel) rfl (all4 rfl rfl sg.one sn.one) ?_
      intro w16 p16
      refine wph_nil ⟨till_no rfl, ?_⟩
      ((with_reducible apply wpi_pure (i := 12)); (rfl); (rfl); (rfl); (decide +kernel); (decide +kernel); (decide +kernel); (rfl); (intro _; exact rn); (exact fun _ _ _ h => h); (refine gset ?_))
      refine wpi_done (by decide +kernel) ?_
      have x16 : Ext w w16 := (hx12.trans x1215).move p16.mv (by rintro k ⟨⟩; exact zz)
      repeat' (first | ((with_reducible refine o_s ?_); (first | (refine o_1 ?_; refine o_2 ?_) | (refine o_g ?_; first | refine o_u ?_ | refine o_k ?_ | refine o_n ?_ | refine o_v ?_ | ((first | refine o_G ?_ ?_ | refine o_N ?_ ?_) <;> intro hc)))) | ((fail_if_success (with_reducible refine o_s ?_)); go_step))
      refine bodyPost_ret (results_cellT (cs := [.int .i64 (soaZ oa la).serial, .int .i64 (soaZ ob lb).serial, g, n]) rfl rfl p16.this (show aggTy Tryz.prog 34 4 = true by decide +kernel)) rfl ⟨_, rfl, x16, ?_⟩
      have hd : mkD oa la ob lb = ⟨(soaZ oa la).serial, (soaZ ob lb).serial, lessR (recordsS la) (recordsS lb), lessR (recordsS lb) (recordsS la)⟩ := by rw [mkD, if_pos he]
      rw [hd, he]
      exact ⟨_, rfl, g, n, rfl, (og.ext x15).mv p16.mv (.inr ((og.ext x15).neBlock h15 (by decide))) |>.weaken (hx12.trans x13).size, on.mv p16.mv (.inr (on.neBlock h15 (by decide))) |>.weaken (hx12.trans x1214).size⟩
theorem same_delT {d : DeltaR} {r q : Value} (w : World) (h : DelA d r w) (k : DelA d q w) : Calls Tryz.prog 23 #[r, q] w (RetV w (.bool true)) := by
  have := r10_Same w h k
  rw [decide_eq_true rfl] at this
  exact this
set_option maxHeartbeats 6000000 in
/-- lodestarlaw10.DiffMakes -/
theorem d3 (oa : List UInt8) (u : Value) (la : List RSet) (ob : List UInt8) (v : Value) (lb : List RSet) (w : World) (hu : SetsAt w u la) (hv : SetsAt w v lb) : Calls Tryz.prog 3 #[.agg #[str oa, u], .agg #[str ob, v]] w (Yes w) := by
  go_enter Tryz.func3, Tryz.ntmps3
  repeat' ((fail_if_success (with_reducible refine o_s ?_)); go_step)
  refine wpl_box (vs := [str oa, u]) rfl rfl ?_
  intro p w1 x1 hp
  refine gset ?_
  refine wpl_box (vs := [str ob, v]) rfl rfl ?_
  intro q w2 x2 hq
  refine gset ?_
  have hx2 := x1.trans x2
  have hp2 := hp.ext x2
  repeat' (first | ((with_reducible refine o_s ?_); (first | (refine o_1 ?_; refine o_2 ?_) | (refine o_g ?_; first | refine o_u ?_ | refine o_k ?_ | refine o_n ?_ | refine o_v ?_ | ((first | refine o_G ?_ ?_ | refine o_N ?_ ?_) <;> intro hc)))) | ((fail_if_success (with_reducible refine o_s ?_)); go_step))
  refine wpl_callV (enters_of Tryz.func19 rfl rfl) rfl rfl (l10_few oa ob u v la lb _ (hu.ext hx2) (hv.ext hx2)) ?_; intro w4 x4; refine gset ?_
  have hx5 := hx2.trans x4
  have hp5 := hp2.ext x4
  have hq5 := hq.ext x4
  cases hf : ((decide ((oa.length : Int) ≤ 300) && fewS la) && (decide ((ob.length : Int) ≤ 300) && fewS lb)) with
  | false =>
    repeat' (first | ((with_reducible refine o_s ?_); (first | (refine o_1 ?_; refine o_2 ?_) | (refine o_g ?_; first | refine o_u ?_ | refine o_k ?_ | refine o_n ?_ | refine o_v ?_ | ((first | refine o_G ?_ ?_ | refine o_N ?_ ?_) <;> intro hc)))) | ((fail_if_success (with_reducible refine o_s ?_)); go_step))
    refine wpl_callV (enters_of Tryz.func20 rfl rfl) rfl rfl (d_liveV _) ?_; intro w5 x5; refine gset ?_
    repeat' (first | ((with_reducible refine o_s ?_); (first | (refine o_1 ?_; refine o_2 ?_) | (refine o_g ?_; first | refine o_u ?_ | refine o_k ?_ | refine o_n ?_ | refine o_v ?_ | ((first | refine o_G ?_ ?_ | refine o_N ?_ ?_) <;> intro hc)))) | ((fail_if_success (with_reducible refine o_s ?_)); go_step))
    go_ret
    exact ⟨rfl, hx5.trans x5⟩
  | true =>
    obtain ⟨fa, fb⟩ := Bool.and_eq_true_iff.1 hf
    obtain ⟨_, ba, da, _⟩ := fewz fa
    obtain ⟨_, bb, db, _⟩ := fewz fb
    obtain ⟨ra, ea, ga⟩ := fewd fa
    obtain ⟨rb, eb, gb⟩ := fewd fb
    obtain ⟨⟨m1, m2⟩, m3, m4⟩ := mkD_bounds (oa := oa) (ob := ob) ra rb ga gb
    repeat' (first | ((with_reducible refine o_s ?_); (first | (refine o_1 ?_; refine o_2 ?_) | (refine o_g ?_; first | refine o_u ?_ | refine o_k ?_ | refine o_n ?_ | refine o_v ?_ | ((first | refine o_G ?_ ?_ | refine o_N ?_ ?_) <;> intro hc)))) | ((fail_if_success (with_reducible refine o_s ?_)); go_step))
    refine wpl_callR (enters_of Tryz.func21 rfl rfl) rfl rfl (p_Make oa u la ob v lb _ (hu.ext hx5) (hv.ext hx5) ba da bb db (by omega) (by omega)) ?_
    rintro _ w6 x6 ⟨_, rfl, g, n, rfl, og, on⟩
    have sg := og.sl
    have sn := on.sl
    refine gset ?_
    repeat' (first | ((with_reducible refine o_s ?_); (first | (refine o_1 ?_; refine o_2 ?_) | (refine o_g ?_; first | refine o_u ?_ | refine o_k ?_ | refine o_n ?_ | refine o_v ?_ | ((first | refine o_G ?_ ?_ | refine o_N ?_ ?_) <;> intro hc)))) | ((fail_if_success (with_reducible refine o_s ?_)); go_step))
    refine wpl_allocB (z := zdel) rfl (by decide +kernel) ?_
    intro w7 x7 s7 h7
    refine gset ?_
    generalize hmd : mkD oa la ob lb = dd at *
    refine wpl_storeB (v := .agg #[.int .i64 dd.fr, .int .i64 dd.to, g, n]) rfl rfl rfl h7 (show sizeTy Tryz.prog 30 4 = true by decide +kernel) rfl (all4 rfl rfl sg.one sn.one) ?_
    intro w8 p8
    have x8 : Ext w6 w8 := x7.move p8.mv (by rintro k ⟨⟩; exact Nat.le_refl _)
    have hd8 := pts_block (cs := [.int .i64 dd.fr, .int .i64 dd.to, g, n]) p8.this
    have x58 := x6.trans x8
    have hp8 := hp5.ext x58
    have hq8 := hq5.ext x58
    have hx8 := hx5.trans x58
    have sg8 := sg.ext x8
    have sn8 := sn.ext x8
    have hD8 : DelA dd (.agg #[.int .i64 dd.fr, .int .i64 dd.to, g, n]) w8 := ⟨g, n, rfl, sg8, sn8⟩
    clear p8 h7 x7
    repeat' (first | ((with_reducible refine o_s ?_); (first | (refine o_1 ?_; refine o_2 ?_) | (refine o_g ?_; first | refine o_u ?_ | refine o_k ?_ | refine o_n ?_ | refine o_v ?_ | ((first | refine o_G ?_ ?_ | refine o_N ?_ ?_) <;> intro hc)))) | ((fail_if_success (with_reducible refine o_s ?_)); go_step))
    refine wpl_callR (enters_of Tryz.func22 rfl rfl) rfl rfl (r10_Make oa u la ob v lb _ (hu.ext hx8) (hv.ext hx8) ba da bb db (by omega) (by omega)) ?_
    rintro _ w9 x9 ⟨_, rfl, g', n', rfl, og', on'⟩
    rw [hmd] at og' on' ⊢
    have sg' := og'.sl
    have sn' := on'.sl
    refine gset ?_
    repeat' (first | ((with_reducible refine o_s ?_); (first | (refine o_1 ?_; refine o_2 ?_) | (refine o_g ?_; first | refine o_u ?_ | refine o_k ?_ | refine o_n ?_ | refine o_v ?_ | ((first | refine o_G ?_ ?_ | refine o_N ?_ ?_) <;> intro hc)))) | ((fail_if_success (with_reducible refine o_s ?_)); go_step))
    refine wpl_allocB (z := zdel) rfl (by decide +kernel) ?_
    intro w10 x10 s10 h10
    refine gset ?_
    refine wpl_storeB (v := .agg #[.int .i64 dd.fr, .int .i64 dd.to, g', n']) rfl rfl rfl h10 (show sizeTy Tryz.prog 34 4 = true by decide +kernel) rfl (all4 rfl rfl sg'.one sn'.one) ?_
    intro w11 p11
    have x11 : Ext w9 w11 := x10.move p11.mv (by rintro k ⟨⟩; exact Nat.le_refl _)
    have he11 := pts_block (cs := [.int .i64 dd.fr, .int .i64 dd.to, g', n']) p11.this
    have x811 := x9.trans x11
    have hd11 := hd8.ext x811
    have hx11 := hx8.trans x811
    have hD11 := hD8.ext x811
    have sg11 := sg8.ext x811
    have sn11 := sn8.ext x811
    have sg'11 := sg'.ext x11
    have sn'11 := sn'.ext x11
    have hE11 : DelA dd (.agg #[.int .i64 dd.fr, .int .i64 dd.to, g', n']) w11 := ⟨g', n', rfl, sg'11, sn'11⟩
    clear p11 h10 x10
    repeat' (first | ((with_reducible refine o_s ?_); (first | (refine o_1 ?_; refine o_2 ?_) | (refine o_g ?_; first | refine o_u ?_ | refine o_k ?_ | refine o_n ?_ | refine o_v ?_ | ((first | refine o_G ?_ ?_ | refine o_N ?_ ?_) <;> intro hc)))) | ((fail_if_success (with_reducible refine o_s ?_)); go_step))
    refine wpq_region (by decide +kernel) (by decide +kernel) ?_
    repeat' (first | ((with_reducible refine q_s ?_); (first | (refine q_1 ?_; refine q_2 ?_) | (refine q_g ?_; first | refine q_u ?_ | refine q_k ?_ | refine q_v ?_))) | (with_reducible refine q_n ?_))
    refine wpq_call (enters_of Tryz.func24 rfl rfl) rfl rfl (fun w' x' => l10_Told w' (hD11.ext x')) ?_
    refine gset ?_
    repeat' (first | ((with_reducible refine q_s ?_); (first | (refine q_1 ?_; refine q_2 ?_) | (refine q_g ?_; first | refine q_u ?_ | refine q_k ?_ | refine q_v ?_))) | (with_reducible refine q_n ?_))
    refine wpq_call (enters_of Tryz.func23 rfl rfl) rfl rfl (fun w' x' => same_delT w' (hD11.ext x') (hE11.ext x')) ?_
    refine gset ?_
    repeat' (first | ((with_reducible refine q_s ?_); (first | (refine q_1 ?_; refine q_2 ?_) | (refine q_g ?_; first | refine q_u ?_ | refine q_k ?_ | refine q_v ?_))) | (with_reducible refine q_n ?_))
    refine wpq_call (enters_of Tryz.func20 rfl rfl) rfl rfl (fun w' x' => d_liveV w') ?_
    refine gset ?_
    repeat' (first | ((with_reducible refine q_s ?_); (first | (refine q_1 ?_; refine q_2 ?_) | (refine q_g ?_; first | refine q_u ?_ | refine q_k ?_ | refine q_v ?_))) | (with_reducible refine q_n ?_))
    intro w12 x12
    repeat' (first | ((with_reducible refine o_s ?_); (first | (refine o_1 ?_; refine o_2 ?_) | (refine o_g ?_; first | refine o_u ?_ | refine o_k ?_ | refine o_n ?_ | refine o_v ?_ | ((first | refine o_G ?_ ?_ | refine o_N ?_ ?_) <;> intro hc)))) | ((fail_if_success (with_reducible refine o_s ?_)); go_step))
    go_ret
    exact ⟨rfl, hx11.trans x12⟩
theorem self_ok (o : List UInt8) (l : List RSet) : mkE o l o l = zoneR o l ∧ ∃ n : Int, mkD o l o l = ⟨n, n, [], []⟩ := by
  have he : mkE o l o l = zoneR o l := by
    unfold mkE
    by_cases q : zoneR o l = 0
    · rw [if_pos q, if_pos q, if_pos rfl, q]
    · rw [if_neg q]
  refine ⟨he, ?_⟩
  unfold mkD
  split
  · exact ⟨_, by rw [less_self]⟩
  · exact ⟨0, rfl⟩
theorem shortD {l : List Rec} (h : shortR l = true) : l.length ≤ 25 ∧ ∀ r ∈ l, r.data.length ≤ 300 := by
  simp only [shortR, Bool.and_eq_true, decide_eq_true_eq, List.all_eq_true] at h
  refine ⟨h.1, fun r hr => ?_⟩
  have := h.2 r hr
  simp only [shortAt, Bool.and_eq_true, decide_eq_true_eq] at this
  omega
set_option maxHeartbeats 6000000 in
/-- lodestarlaw10.DiffSelf -/
theorem d8 (o : List UInt8) (v : Value) (l : List RSet) {d : DeltaR} {r : Value} (w : World) (hv : SetsAt w v l) (hd : DelA d r w) : Calls Tryz.prog 8 #[.agg #[str o, v], r] w (Yes w) := by
  obtain ⟨g, n, rfl, sg, sn⟩ := hd
  go_enter Tryz.func8, Tryz.ntmps8
  repeat' ((fail_if_success (with_reducible refine o_s ?_)); go_step)
  refine wpl_box (vs := [str o, v]) rfl rfl ?_
  intro p w1 x1 hp
  refine gset ?_
  refine wpl_box (vs := [.int .i64 d.fr, .int .i64 d.to, g, n]) rfl rfl ?_
  intro q w2 x2 hq
  refine gset ?_
  have hx2 := x1.trans x2
  have hp2 := hp.ext x2
  have sg2 := sg.ext hx2
  have sn2 := sn.ext hx2
  have hD2 : DelA d (.agg #[.int .i64 d.fr, .int .i64 d.to, g, n]) w2 := ⟨g, n, rfl, sg2, sn2⟩
  repeat' (first | ((with_reducible refine o_s ?_); (first | (refine o_1 ?_; refine o_2 ?_) | (refine o_g ?_; first | refine o_u ?_ | refine o_k ?_ | refine o_n ?_ | refine o_v ?_ | ((first | refine o_G ?_ ?_ | refine o_N ?_ ?_) <;> intro hc)))) | ((fail_if_success (with_reducible refine o_s ?_)); go_step))
  refine wpl_callV (enters_of Tryz.func25 rfl rfl) rfl rfl (r8_Few o v l _ (hv.ext hx2)) ?_; intro w3 x3; refine gset ?_
  have hx3 := hx2.trans x3
  have hp3 := hp2.ext x3
  have hq3 := hq.ext x3
  have sg3 := sg2.ext x3
  have sn3 := sn2.ext x3
  have hD3 := hD2.ext x3
  cases hf : (decide ((o.length : Int) ≤ 300) && fewS l) with
  | false =>
    repeat' (first | ((with_reducible refine o_s ?_); (first | (refine o_1 ?_; refine o_2 ?_) | (refine o_g ?_; first | refine o_u ?_ | refine o_k ?_ | refine o_n ?_ | refine o_v ?_ | ((first | refine o_G ?_ ?_ | refine o_N ?_ ?_) <;> intro hc)))) | ((fail_if_success (with_reducible refine o_s ?_)); go_step))
    refine wpl_callV (enters_of Tryz.func20 rfl rfl) rfl rfl (d_liveV _) ?_; intro w4 x4; refine gset ?_
    repeat' (first | ((with_reducible refine o_s ?_); (first | (refine o_1 ?_; refine o_2 ?_) | (refine o_g ?_; first | refine o_u ?_ | refine o_k ?_ | refine o_n ?_ | refine o_v ?_ | ((first | refine o_G ?_ ?_ | refine o_N ?_ ?_) <;> intro hc)))) | ((fail_if_success (with_reducible refine o_s ?_)); go_step))
    go_ret
    exact ⟨rfl, hx3.trans x4⟩
  | true =>
    repeat' (first | ((with_reducible refine o_s ?_); (first | (refine o_1 ?_; refine o_2 ?_) | (refine o_g ?_; first | refine o_u ?_ | refine o_k ?_ | refine o_n ?_ | refine o_v ?_ | ((first | refine o_G ?_ ?_ | refine o_N ?_ ?_) <;> intro hc)))) | ((fail_if_success (with_reducible refine o_s ?_)); go_step))
    refine wpl_callV (enters_of Tryz.func26 rfl rfl) rfl rfl (l10_short _ hD3) ?_; intro w4 x4; refine gset ?_
    have hx4 := hx3.trans x4
    have hp4 := hp3.ext x4
    have hq4 := hq3.ext x4
    have hD4 := hD3.ext x4
    have sg4 := sg3.ext x4
    have sn4 := sn3.ext x4
    cases hs : (shortR d.gone && shortR d.new) with
    | false =>
      repeat' (first | ((with_reducible refine o_s ?_); (first | (refine o_1 ?_; refine o_2 ?_) | (refine o_g ?_; first | refine o_u ?_ | refine o_k ?_ | refine o_n ?_ | refine o_v ?_ | ((first | refine o_G ?_ ?_ | refine o_N ?_ ?_) <;> intro hc)))) | ((fail_if_success (with_reducible refine o_s ?_)); go_step))
      refine wpl_callV (enters_of Tryz.func20 rfl rfl) rfl rfl (d_liveV _) ?_; intro w5 x5; refine gset ?_
      repeat' (first | ((with_reducible refine o_s ?_); (first | (refine o_1 ?_; refine o_2 ?_) | (refine o_g ?_; first | refine o_u ?_ | refine o_k ?_ | refine o_n ?_ | refine o_v ?_ | ((first | refine o_G ?_ ?_ | refine o_N ?_ ?_) <;> intro hc)))) | ((fail_if_success (with_reducible refine o_s ?_)); go_step))
      go_ret
      exact ⟨rfl, hx4.trans x5⟩
    | true =>
      obtain ⟨_, ba, da, _⟩ := fewz hf
      obtain ⟨ra, ea, ga⟩ := fewd hf
      obtain ⟨hs1, hs2⟩ := Bool.and_eq_true_iff.1 hs
      obtain ⟨l1, _⟩ := shortD hs1
      obtain ⟨l2, _⟩ := shortD hs2
      obtain ⟨e1, k, e2⟩ := self_ok o l
      repeat' (first | ((with_reducible refine o_s ?_); (first | (refine o_1 ?_; refine o_2 ?_) | (refine o_g ?_; first | refine o_u ?_ | refine o_k ?_ | refine o_n ?_ | refine o_v ?_ | ((first | refine o_G ?_ ?_ | refine o_N ?_ ?_) <;> intro hc)))) | ((fail_if_success (with_reducible refine o_s ?_)); go_step))
      refine wpl_callR (enters_of Tryz.func21 rfl rfl) rfl rfl (p_Make o v l o v l _ (hv.ext hx4) (hv.ext hx4) ba da ba da (by omega) (by omega)) ?_
      rintro _ w6 x6 ⟨_, rfl, g', n', rfl, og, on⟩
      rw [e1, e2]
      rw [e2] at og on
      have sg' := og.sl
      have sn' := on.sl
      rw [show rcells ([] : List Rec) = [] from rfl] at sg' sn'
      refine gset ?_
      repeat' (first | ((with_reducible refine o_s ?_); (first | (refine o_1 ?_; refine o_2 ?_) | (refine o_g ?_; first | refine o_u ?_ | refine o_k ?_ | refine o_n ?_ | refine o_v ?_ | ((first | refine o_G ?_ ?_ | refine o_N ?_ ?_) <;> intro hc)))) | ((fail_if_success (with_reducible refine o_s ?_)); go_step))
      refine wpl_allocB (z := zdel) rfl (by decide +kernel) ?_
      intro w7 x7 s7 h7
      refine gset ?_
      refine wpl_storeB (v := .agg #[.int .i64 k, .int .i64 k, g', n']) rfl rfl rfl h7 (show sizeTy Tryz.prog 30 4 = true by decide +kernel) rfl (all4 rfl rfl sg'.one sn'.one) ?_
      intro w8 p8
      have x8 : Ext w6 w8 := x7.move p8.mv (by rintro k ⟨⟩; exact Nat.le_refl _)
      have hd8 := pts_block (cs := [.int .i64 k, .int .i64 k, g', n']) p8.this
      have x48 := x6.trans x8
      have hx8 := hx4.trans x48
      have hp8 := hp4.ext x48
      have hq8 := hq4.ext x48
      have hD8 := hD4.ext x48
      have sg8 := sg4.ext x48
      have sn8 := sn4.ext x48
      have sg'8 := sg'.ext x8
      have sn'8 := sn'.ext x8
      clear p8 h7 x7
      repeat' (first | ((with_reducible refine o_s ?_); (first | (refine o_1 ?_; refine o_2 ?_) | (refine o_g ?_; first | refine o_u ?_ | refine o_k ?_ | refine o_n ?_ | refine o_v ?_ | ((first | refine o_G ?_ ?_ | refine o_N ?_ ?_) <;> intro hc)))) | ((fail_if_success (with_reducible refine o_s ?_)); go_step))
      · refine wpl_callV (enters_of Tryz.func37 rfl rfl) rfl rfl (p_Check o v l _ (hv.ext hx8) ba) ?_; intro w9 x9; refine gset ?_
        have hx9 := hx8.trans x9
        have hq9 := hq8.ext x9
        have hD9 := hD8.ext x9
        have sg9 := sg8.ext x9
        have sn9 := sn8.ext x9
        repeat' (first | ((with_reducible refine o_s ?_); (first | (refine o_1 ?_; refine o_2 ?_) | (refine o_g ?_; first | refine o_u ?_ | refine o_k ?_ | refine o_n ?_ | refine o_v ?_ | ((first | refine o_G ?_ ?_ | refine o_N ?_ ?_) <;> intro hc)))) | ((fail_if_success (with_reducible refine o_s ?_)); go_step))
        refine wph_region (S := fun w' => Ext w9 w') (by decide +kernel) ?_
        intro w10 x10 hh10
        refine tk 0 ?_; refine gset ?_; refine tk 5 ?_; refine gset ?_
        refine wph_one (i := 1) (by decide +kernel) rfl rfl ?_
        refine wpl_callV (enters_of Tryz.func29 rfl rfl) rfl rfl (l10_Delta _ (hD9.ext x10)) ?_; intro w11 x11; refine gset ?_
        have y11 := x10.trans x11
        refine wph_nil ⟨y11, ?_⟩
        refine wph_one (i := 2) (by decide +kernel) rfl rfl ?_
        refine wpl_callR (enters_of Tryz.func35 rfl rfl) rfl rfl (p_Invert _ (hD9.ext y11) (by omega) (by omega)) ?_
        intro u12 w12 x12 o12
        refine gset ?_
        have y12 := y11.trans x12
        refine wph_nil ⟨y12, ?_⟩
        refine wph_one (i := 3) (by decide +kernel) rfl rfl ?_
        refine wpl_callR (enters_of Tryz.func35 rfl rfl) rfl rfl (p_Invert _ o12.a (show d.new.length ≤ 100000 by omega) (show d.gone.length ≤ 100000 by omega)) ?_
        intro u13 w13 x13 o13
        refine gset ?_
        have y13 := y12.trans x13
        refine wph_nil ⟨y13, ?_⟩
        refine wph_one (i := 4) (by decide +kernel) rfl rfl ?_
        refine wpl_callV (enters_of Tryz.func24 rfl rfl) rfl rfl (l10_Told _ o13.a) ?_; intro w14 x14; refine gset ?_
        have y14 := y13.trans x14
        refine wph_nil ⟨y14, ?_⟩
        refine wph_one (i := 6) (by decide +kernel) rfl rfl ?_
        refine wpl_callV (enters_of Tryz.func23 rfl rfl) rfl rfl (same_delT (d := d) _ (o13.a.ext x14) (hD9.ext y14)) ?_; intro w15 x15; refine gset ?_
        have y15 := y14.trans x15
        refine wph_nil ⟨y15, ?_⟩
        refine tk 7 ?_; refine gset ?_
        refine wph_one (i := 8) (by decide +kernel) rfl rfl ?_
        refine wpl_callV (enters_of Tryz.func20 rfl rfl) rfl rfl (d_liveV _) ?_; intro w16 x16; refine gset ?_
        have y16 := y15.trans x16
        refine wph_nil ⟨y16, ?_⟩
        refine tk 9 ?_; refine gset ?_; refine tk 10 ?_; refine gset ?_
        refine wph_done (by decide +kernel) ?_
        repeat' (first | ((with_reducible refine o_s ?_); (first | (refine o_1 ?_; refine o_2 ?_) | (refine o_g ?_; first | refine o_u ?_ | refine o_k ?_ | refine o_n ?_ | refine o_v ?_ | ((first | refine o_G ?_ ?_ | refine o_N ?_ ?_) <;> intro hc)))) | ((fail_if_success (with_reducible refine o_s ?_)); go_step))
        go_ret
        exact ⟨rfl, hx9.trans y16⟩
      · exact absurd hc (by decide)
      · exact absurd hc (by decide)
end Go.Proofs.X
