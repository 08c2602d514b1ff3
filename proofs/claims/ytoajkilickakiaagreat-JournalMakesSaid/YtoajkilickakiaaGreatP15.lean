/- Laws and walks that the proof of the statement is made of (part 15). -/
import Derived.Test.YtoajkilickakiaaGreatProg
import Derived.Test.YtoajkilickakiaaGreatShelf
import Derived.Shelf.SlSortCmp.NoneTotal
import Derived.Shelf.RegionOpenPlain
import Derived.Lib.Strings
import Derived.Lib.Slices
import Derived.Lib.Walk
import Derived.Lib.Builder
import Derived.Lib.AppendStr
import Derived.Lib.UnsafeStr
import Derived.Lib.MakeNoZero
import Derived.WalkKit
import Derived.Laws.Externs
import Derived.Laws.IdiomCopy
import Derived.Laws.BitsLemmas
import GoSem.Claims
import Derived.Lib.Hide
import Derived.OwnWalk
import Derived.OrdersIn
import Derived.LoopIn
import Derived.Laws.Pointers
import Derived.Test.YtoajkilickakiaaGreatP1
import Derived.Test.YtoajkilickakiaaGreatP2
import Derived.Test.YtoajkilickakiaaGreatP3
import Derived.Test.YtoajkilickakiaaGreatP4
import Derived.Test.YtoajkilickakiaaGreatP5
import Derived.Test.YtoajkilickakiaaGreatP6
import Derived.Test.YtoajkilickakiaaGreatP9
import Derived.Test.YtoajkilickakiaaGreatP10
import Derived.Test.YtoajkilickakiaaGreatP11
import Derived.Test.YtoajkilickakiaaGreatP12
import Derived.Test.YtoajkilickakiaaGreatP13
import Derived.Test.YtoajkilickakiaaGreatP14
set_option linter.unusedSimpArgs false
set_option linter.unusedVariables false
namespace Go.Proofs.X
open Go.RowKit
set_option maxRecDepth 100000
def jT : List UInt8 := [2, 110, 115, 1, 97, 0, 1, 109, 0, 0, 0, 0, 7, 0, 0, 0, 10, 0, 0, 0, 3, 0, 0, 0, 100, 0, 0, 0, 4]
def simX : List RSet := [⟨[1, 97], 2, 9, [[2, 110, 115, 1, 97, 0]]⟩, ⟨[1, 97], 6, 9, [jT]⟩, ⟨[2, 110, 115, 1, 97], 1, 9, [[49, 49, 49, 49]]⟩]
def jD1 : DeltaR := ⟨5, 6, [⟨[1, 97], 6, 9, simS⟩], [⟨[1, 97], 6, 9, simT⟩]⟩
def jD2 : DeltaR := ⟨6, 7, [⟨[1, 97], 6, 9, simT⟩], [⟨[1, 97], 6, 9, jT⟩]⟩
theorem jl_E2 : loadE [1, 97] simR = 0 := by decide +kernel
theorem jl_L2 : loadL [1, 97] simR = simZ := by decide +kernel
theorem jl_O2 : loadO [1, 97] simR = [1, 97] := by decide +kernel
theorem jl_E7 : renE [1, 97] simZ 7 = 0 := by decide +kernel
theorem jl_L7 : renL [1, 97] simZ 7 = simX := by decide +kernel
theorem jl_O7 : renO [1, 97] simZ 7 = [1, 97] := by decide +kernel
theorem jl_sX : (soaZ [1, 97] simX).serial = 7 := by decide +kernel
theorem jl_b3 : ∀ s ∈ simX, s.data.length ≤ 1000000 := by decide +kernel
theorem jl_d3 : ∀ s ∈ simX, ∀ d ∈ s.data, d.length ≤ 4611686018427387904 := by decide +kernel
theorem jl_n1 : newE [1, 97] simZ 1 = 0 := by decide +kernel
theorem jl_n2 : newE [1, 97] simZ 21 = 1 := by decide +kernel
theorem jl_u1 : updE [1, 97] simZ [1, 97] simY = 0 := by decide +kernel
theorem jl_u2 : updE [1, 97] simY [1, 97] simY = 7 := by decide +kernel
theorem jl_u3 : updE [1, 97] simY [1, 97] simX = 0 := by decide +kernel
theorem jl_t1 : trimD 1 ([] ++ [mkD [1, 97] simZ [1, 97] simY]) = [jD1] := by decide +kernel
theorem jl_t2 : trimD 1 ([jD1] ++ [mkD [1, 97] simY [1, 97] simX]) = [jD2] := by decide +kernel
theorem jl_s6 : sinceR [1, 97] simX [jD2] 6 = ([jD2], true) := by decide +kernel
theorem jl_s5 : sinceR [1, 97] simX [jD2] 5 = ([], false) := by decide +kernel
theorem jl_s7 : sinceR [1, 97] simX [jD2] 7 = ([], true) := by decide +kernel
theorem jl_g : ∀ d ∈ [jD2], d.gone.length ≤ 1000000 ∧ d.new.length ≤ 1000000 := by decide +kernel
theorem jl_since {w0 w : World} {b : Nat} (h : JAt w0 w b [1, 97] simX 1 [jD2]) (s : Int) {r : List DeltaR × Bool} (hr : sinceR [1, 97] simX [jD2] s = r) :
    Calls Tryz.prog 59 #[.pointer (some ⟨b, 0, none⟩), .int .i64 s] w (Ret w fun x w' => ∃ y css, x = .tuple #[y, .bool r.2] ∧ Sl 4 w' y css ∧ css.length = r.1.length) := by
  refine (p_Since h jl_b3 jl_d3 (by decide) jl_g s).mono ?_
  rintro e w' ⟨x, rfl, hx, y, rfl, hD⟩
  rw [hr] at hD
  obtain ⟨css, h1, h2⟩ := hD.len
  exact ⟨_, rfl, hx, y, css, by rw [hr], h1, h2⟩
set_option maxHeartbeats 8000000 in
theorem j_live (w : World) : Calls Tryz.prog 51 #[] w (Yes w) := by
  go_enter Tryz.func51, Tryz.ntmps51
  repeat' (first | ((with_reducible refine o_s ?_); (first | (refine o_1 ?_; refine o_2 ?_) | (refine o_g ?_; first | refine o_u ?_ | refine o_k ?_ | refine o_n ?_ | refine o_v ?_ | ((first | refine o_G ?_ ?_ | refine o_N ?_ ?_) <;> intro hc)))) | ((fail_if_success (with_reducible refine o_s ?_)); go_step))
  refine wpl_callR (enters_of Tryz.func65 rfl rfl) rfl rfl (p_Simple _) ?_
  intro v1 w1 x1 hv1
  refine gset ?_
  repeat' (first | ((with_reducible refine o_s ?_); (first | (refine o_1 ?_; refine o_2 ?_) | (refine o_g ?_; first | refine o_u ?_ | refine o_k ?_ | refine o_n ?_ | refine o_v ?_ | ((first | refine o_G ?_ ?_ | refine o_N ?_ ?_) <;> intro hc)))) | ((fail_if_success (with_reducible refine o_s ?_)); go_step))
  refine wpl_callR (enters_of Tryz.func64 rfl rfl) rfl rfl (p_Load [1, 97] v1 simR _ hv1 (by decide) sim_r) ?_
  rintro _ w2 x2 ⟨z, rfl, hz⟩
  rw [jl_E2, jl_O2]
  rw [jl_L2] at hz
  have hz := hz.sets
  have hz1 : z.oneCell' = true := by obtain ⟨css, h, _⟩ := hz; exact h.one
  have hx2 := x1.trans x2
  refine gset ?_
  repeat' (first | ((with_reducible refine o_s ?_); (first | (refine o_1 ?_; refine o_2 ?_) | (refine o_g ?_; first | refine o_u ?_ | refine o_k ?_ | refine o_n ?_ | refine o_v ?_ | ((first | refine o_G ?_ ?_ | refine o_N ?_ ?_) <;> intro hc)))) | ((fail_if_success (with_reducible refine o_s ?_)); go_step))
  refine wpl_allocB (z := zzone) rfl (by decide +kernel) ?_
  intro w3 x3 s3 h3
  refine gset ?_
  refine wpl_storeB (v := .agg #[str [1, 97], z]) rfl rfl rfl h3 (show sizeTy Tryz.prog 25 2 = true by decide +kernel) rfl (zone_one hz1) ?_
  intro w4 p4
  have x4 : Ext w2 w4 := x3.move p4.mv (by rintro k ⟨⟩; exact Nat.le_refl _)
  have hp4 := pts_block (cs := [str [1, 97], z]) p4.this
  have hz4 := hz.ext x4
  have hx4 := hx2.trans x4
  clear p4 h3 x3
  repeat' (first | ((with_reducible refine o_s ?_); (first | (refine o_1 ?_; refine o_2 ?_) | (refine o_g ?_; first | refine o_u ?_ | refine o_k ?_ | refine o_n ?_ | refine o_v ?_ | ((first | refine o_G ?_ ?_ | refine o_N ?_ ?_) <;> intro hc)))) | ((fail_if_success (with_reducible refine o_s ?_)); go_step))
  refine wpl_callR (enters_of Tryz.func66 rfl rfl) rfl rfl (p_Renew [1, 97] z simZ 6 _ hz4 (by decide) sim_b sim_d) ?_
  rintro _ w5 x5 ⟨y, rfl, hy⟩
  rw [sim_renE, sim_renO]
  rw [sim_renL] at hy
  have hy := hy.sets
  have hy1 : y.oneCell' = true := by obtain ⟨css, h, _⟩ := hy; exact h.one
  refine gset ?_
  repeat' (first | ((with_reducible refine o_s ?_); (first | (refine o_1 ?_; refine o_2 ?_) | (refine o_g ?_; first | refine o_u ?_ | refine o_k ?_ | refine o_n ?_ | refine o_v ?_ | ((first | refine o_G ?_ ?_ | refine o_N ?_ ?_) <;> intro hc)))) | ((fail_if_success (with_reducible refine o_s ?_)); go_step))
  refine wpl_allocB (z := zzone) rfl (by decide +kernel) ?_
  intro w6 x6 s6 h6
  refine gset ?_
  refine wpl_storeB (v := .agg #[str [1, 97], y]) rfl rfl rfl h6 (show sizeTy Tryz.prog 25 2 = true by decide +kernel) rfl (zone_one hy1) ?_
  intro w7 p7
  have x7 : Ext w5 w7 := x6.move p7.mv (by rintro k ⟨⟩; exact Nat.le_refl _)
  have hq7 := pts_block (cs := [str [1, 97], y]) p7.this
  have x47 := x5.trans x7
  have hy7 := hy.ext x7
  have hz7 := hz4.ext x47
  have hp7 := hp4.ext x47
  have hx7 := hx4.trans x47
  clear p7 h6 x6 hp4 hz4
  repeat' (first | ((with_reducible refine o_s ?_); (first | (refine o_1 ?_; refine o_2 ?_) | (refine o_g ?_; first | refine o_u ?_ | refine o_k ?_ | refine o_n ?_ | refine o_v ?_ | ((first | refine o_G ?_ ?_ | refine o_N ?_ ?_) <;> intro hc)))) | ((fail_if_success (with_reducible refine o_s ?_)); go_step))
  refine wpl_callR (enters_of Tryz.func66 rfl rfl) rfl rfl (p_Renew [1, 97] z simZ 7 _ hz7 (by decide) sim_b sim_d) ?_
  rintro _ w8 x8 ⟨y3, rfl, hy3⟩
  rw [jl_E7, jl_O7]
  rw [jl_L7] at hy3
  have hy3 := hy3.sets
  have hy31 : y3.oneCell' = true := by obtain ⟨css, h, _⟩ := hy3; exact h.one
  refine gset ?_
  repeat' (first | ((with_reducible refine o_s ?_); (first | (refine o_1 ?_; refine o_2 ?_) | (refine o_g ?_; first | refine o_u ?_ | refine o_k ?_ | refine o_n ?_ | refine o_v ?_ | ((first | refine o_G ?_ ?_ | refine o_N ?_ ?_) <;> intro hc)))) | ((fail_if_success (with_reducible refine o_s ?_)); go_step))
  refine wpl_allocB (z := zzone) rfl (by decide +kernel) ?_
  intro w9 x9 s9 h9
  refine gset ?_
  refine wpl_storeB (v := .agg #[str [1, 97], y3]) rfl rfl rfl h9 (show sizeTy Tryz.prog 25 2 = true by decide +kernel) rfl (zone_one hy31) ?_
  intro w10 p10
  have x10 : Ext w8 w10 := x9.move p10.mv (by rintro k ⟨⟩; exact Nat.le_refl _)
  have hr10 := pts_block (cs := [str [1, 97], y3]) p10.this
  have x710 := x8.trans x10
  have hu10 := hy3.ext x10
  have hy10 := hy7.ext x710
  have hz10 := hz7.ext x710
  have hp10 := hp7.ext x710
  have hq10 := hq7.ext x710
  have hx10 := hx7.trans x710
  clear p10 h9 x9 hp7 hq7 hy7 hz7
  repeat' (first | ((with_reducible refine o_s ?_); (first | (refine o_1 ?_; refine o_2 ?_) | (refine o_g ?_; first | refine o_u ?_ | refine o_k ?_ | refine o_n ?_ | refine o_v ?_ | ((first | refine o_G ?_ ?_ | refine o_N ?_ ?_) <;> intro hc)))) | ((fail_if_success (with_reducible refine o_s ?_)); go_step))
  refine wpl_callG (enters_of Tryz.func52 rfl rfl) rfl rfl (p_New [1, 97] z simZ 1 _ hz10 (by decide) sim_b) ?_
  rintro e w11 (⟨hne, -⟩ | ⟨-, b, rfl, hJ11⟩)
  · exact absurd jl_n1 hne
  refine ⟨_, rfl, ?_⟩
  refine gset ?_
  have x11 := hJ11.ext
  have hp11 := hp10.ext x11
  repeat' (first | ((with_reducible refine o_s ?_); (first | (refine o_1 ?_; refine o_2 ?_) | (refine o_g ?_; first | refine o_u ?_ | refine o_k ?_ | refine o_n ?_ | refine o_v ?_ | ((first | refine o_G ?_ ?_ | refine o_N ?_ ?_) <;> intro hc)))) | ((fail_if_success (with_reducible refine o_s ?_)); go_step))
  refine wpl_callG (enters_of Tryz.func52 rfl rfl) rfl rfl (p_New [1, 97] z simZ 21 _ (hz10.ext x11) (by decide) sim_b) ?_
  rintro e w12 (⟨-, rfl, x12⟩ | ⟨h0, -⟩)
  rotate_left
  · rw [jl_n2] at h0; cases h0
  rw [jl_n2]
  refine ⟨_, rfl, ?_⟩
  refine gset ?_
  have hJ12 := hJ11.grow x12
  have hq12 := hq10.ext hJ12.ext
  clear hp11 x11 x12 hJ11
  repeat' (first | ((with_reducible refine o_s ?_); (first | (refine o_1 ?_; refine o_2 ?_) | (refine o_g ?_; first | refine o_u ?_ | refine o_k ?_ | refine o_n ?_ | refine o_v ?_ | ((first | refine o_G ?_ ?_ | refine o_N ?_ ?_) <;> intro hc)))) | ((fail_if_success (with_reducible refine o_s ?_)); go_step))
  refine wpl_run0 (v := .bool false) (Runs.isNil (p := some ⟨b, 0, none⟩) rfl rfl (by kernel_rfl)) ?_
  refine gset ?_
  repeat' (first | ((with_reducible refine o_s ?_); (first | (refine o_1 ?_; refine o_2 ?_) | (refine o_g ?_; first | refine o_u ?_ | refine o_k ?_ | refine o_n ?_ | refine o_v ?_ | ((first | refine o_G ?_ ?_ | refine o_N ?_ ?_) <;> intro hc)))) | ((fail_if_success (with_reducible refine o_s ?_)); go_step))
  refine wpl_callG (enters_of Tryz.func54 rfl rfl) rfl rfl (p_Update hJ12 (zone_ok sim_Z) (by decide) (by decide) [1, 97] y simY hy10 sim_b2 sim_d2) ?_
  rintro e w13 ⟨rfl, -, -, hU⟩
  have hJ13 := hU jl_u1
  rw [jl_t1] at hJ13
  rw [jl_u1]
  refine ⟨_, rfl, ?_⟩
  refine gset ?_
  have hq13 := hq10.ext hJ13.ext
  clear hU hJ12 hq12
  repeat' (first | ((with_reducible refine o_s ?_); (first | (refine o_1 ?_; refine o_2 ?_) | (refine o_g ?_; first | refine o_u ?_ | refine o_k ?_ | refine o_n ?_ | refine o_v ?_ | ((first | refine o_G ?_ ?_ | refine o_N ?_ ?_) <;> intro hc)))) | ((fail_if_success (with_reducible refine o_s ?_)); go_step))
  refine wpl_callG (enters_of Tryz.func54 rfl rfl) rfl rfl (p_Update hJ13 (zone_ok sim_Y) (by decide) (by decide) [1, 97] y simY hy10 sim_b2 sim_d2) ?_
  rintro e w14 ⟨rfl, -, hU, -⟩
  have hJ14 := hU (by rw [jl_u2]; decide)
  rw [jl_u2]
  refine ⟨_, rfl, ?_⟩
  refine gset ?_
  have hr14 := hr10.ext hJ14.ext
  clear hU hJ13 hq13
  repeat' (first | ((with_reducible refine o_s ?_); (first | (refine o_1 ?_; refine o_2 ?_) | (refine o_g ?_; first | refine o_u ?_ | refine o_k ?_ | refine o_n ?_ | refine o_v ?_ | ((first | refine o_G ?_ ?_ | refine o_N ?_ ?_) <;> intro hc)))) | ((fail_if_success (with_reducible refine o_s ?_)); go_step))
  refine wpl_callG (enters_of Tryz.func54 rfl rfl) rfl rfl (p_Update hJ14 (zone_ok sim_Y) (by decide) (by decide) [1, 97] y3 simX hu10 jl_b3 jl_d3) ?_
  rintro e w15 ⟨rfl, -, -, hU⟩
  have hJ15 := hU jl_u3
  rw [jl_t2] at hJ15
  rw [jl_u3]
  refine ⟨_, rfl, ?_⟩
  refine gset ?_
  clear hU hJ14 hr14
  repeat' (first | ((with_reducible refine o_s ?_); (first | (refine o_1 ?_; refine o_2 ?_) | (refine o_g ?_; first | refine o_u ?_ | refine o_k ?_ | refine o_n ?_ | refine o_v ?_ | ((first | refine o_G ?_ ?_ | refine o_N ?_ ?_) <;> intro hc)))) | ((fail_if_success (with_reducible refine o_s ?_)); go_step))
  refine wpl_callR (enters_of Tryz.func59 rfl rfl) rfl rfl (jl_since hJ15 6 jl_s6) ?_
  rintro _ w16 x16 ⟨l1, css1, rfl, sl0, len1⟩
  have hJ16 := hJ15.grow x16
  refine gset ?_
  repeat' (first | ((with_reducible refine o_s ?_); (first | (refine o_1 ?_; refine o_2 ?_) | (refine o_g ?_; first | refine o_u ?_ | refine o_k ?_ | refine o_n ?_ | refine o_v ?_ | ((first | refine o_G ?_ ?_ | refine o_N ?_ ?_) <;> intro hc)))) | ((fail_if_success (with_reducible refine o_s ?_)); go_step))
  refine wpl_callR (enters_of Tryz.func59 rfl rfl) rfl rfl (jl_since hJ16 5 jl_s5) ?_
  rintro _ w17 x17 ⟨l2, css2, rfl, sl2, len2⟩
  have hJ17 := hJ16.grow x17
  refine gset ?_
  repeat' (first | ((with_reducible refine o_s ?_); (first | (refine o_1 ?_; refine o_2 ?_) | (refine o_g ?_; first | refine o_u ?_ | refine o_k ?_ | refine o_n ?_ | refine o_v ?_ | ((first | refine o_G ?_ ?_ | refine o_N ?_ ?_) <;> intro hc)))) | ((fail_if_success (with_reducible refine o_s ?_)); go_step))
  refine wpl_callR (enters_of Tryz.func59 rfl rfl) rfl rfl (jl_since hJ17 7 jl_s7) ?_
  rintro _ w18 x18 ⟨l3, css3, rfl, sl3, len3⟩
  have hJ18 := hJ17.grow x18
  refine gset ?_
  have sl1 := sl0.ext (x17.trans x18)
  clear sl0
  obtain ⟨c1, rfl⟩ : ∃ c, css1 = [c] := List.length_eq_one_iff.1 len1
  have hc3 : css3 = [] := List.eq_nil_of_length_eq_zero len3
  subst hc3
  have hr18 := hr10.ext hJ18.ext
  clear hJ15 hJ16 hJ17 x16 x17 x18 len1 len3 sl2 len2
  repeat' (first | ((with_reducible refine o_s ?_); (first | (refine o_1 ?_; refine o_2 ?_) | (refine o_g ?_; first | refine o_u ?_ | refine o_k ?_ | refine o_n ?_ | refine o_v ?_ | ((first | refine o_G ?_ ?_ | refine o_N ?_ ?_) <;> intro hc)))) | ((fail_if_success (with_reducible refine o_s ?_)); go_step))
  refine wph_region (S := fun w' => Ext w18 w') (by decide +kernel) ?_
  intro w19 x19 _
  refine tk 0 ?_; refine gset ?_; refine tk 1 ?_; refine gset ?_; refine tk 2 ?_; refine gset ?_; refine tk 3 ?_; refine gset ?_; refine tk 4 ?_; refine gset ?_; refine tk 5 ?_; refine gset ?_; refine tk 6 ?_; refine gset ?_; refine tk 7 ?_; refine gset ?_; refine tk 8 ?_; refine gset ?_; refine tk 9 ?_; refine gset ?_; refine tk 10 ?_; refine gset ?_; refine tk 11 ?_; refine gset ?_; refine tk 12 ?_; refine gset ?_; refine tk 13 ?_; refine gset ?_; refine tk 14 ?_; refine gset ?_; refine tk 15 ?_; refine gset ?_; refine tk 16 ?_; refine gset ?_; refine tk 17 ?_; refine gset ?_; refine tk 18 ?_; refine gset ?_; refine tk 19 ?_; refine gset ?_; refine tk 20 ?_; refine gset ?_; refine tk 21 ?_; refine gset ?_; refine tk 22 ?_; refine gset ?_; refine tk 23 ?_; refine gset ?_; refine tk 24 ?_; refine gset ?_; refine tk 25 ?_; refine gset ?_; refine tk 26 ?_; refine gset ?_; refine tk 27 ?_; refine gset ?_; refine tk 28 ?_; refine gset ?_; refine tk 29 ?_; refine gset ?_; refine tk 30 ?_; refine gset ?_; refine tk 31 ?_; refine gset ?_
  refine wph_one (i := 32) (by decide +kernel) rfl rfl ?_
  refine wpl_callV (enters_of Tryz.func56 rfl rfl) rfl rfl (p_Serial (hJ18.grow x19) jl_b3 jl_d3) ?_
  intro w20 x20
  rw [jl_sX]
  refine gset ?_
  have x20 := x19.trans x20
  refine wph_nil ⟨x20, ?_⟩
  refine tk 33 ?_; refine gset ?_; refine tk 34 ?_; refine gset ?_; refine tk 35 ?_; refine gset ?_; refine tk 36 ?_; refine gset ?_
  refine wph_one (i := 37) (by decide +kernel) rfl rfl ?_
  refine wpl_callV (enters_of Tryz.func58 rfl rfl) rfl rfl (p_Len (hJ18.grow x20)) ?_
  intro w21 x21
  refine gset ?_
  have x21 := x20.trans x21
  refine wph_nil ⟨x21, ?_⟩
  refine tk 38 ?_; refine gset ?_; refine tk 39 ?_; refine gset ?_; refine tk 40 ?_; refine gset ?_; refine tk 41 ?_; refine gset ?_; refine tk 43 ?_; refine gset ?_
  refine wph_one (i := 42) (by decide +kernel) rfl rfl ?_
  refine wpl_callR (enters_of Tryz.func62 rfl rfl) rfl rfl (p_Zone (hJ18.grow x21) (by decide) jl_b3) ?_
  rintro _ w22 x22 ⟨y4, rfl, hy4⟩
  refine gset ?_
  have x22 := x21.trans x22
  refine wph_nil ⟨x22, ?_⟩
  refine wph_one (i := 44) (by decide +kernel) rfl rfl ?_
  refine wpl_callV (enters_of Tryz.func31 rfl rfl) rfl rfl (same_true hy4.sets ((hu10.ext hJ18.ext).ext x22) rfl rfl) ?_
  intro w23 x23
  refine gset ?_
  have x23 := x22.trans x23
  refine wph_nil ⟨x23, ?_⟩
  refine tk 45 ?_; refine gset ?_; refine tk 46 ?_; refine gset ?_
  refine wph_done (by decide +kernel) ?_
  repeat' (first | ((with_reducible refine o_s ?_); (first | (refine o_1 ?_; refine o_2 ?_) | (refine o_g ?_; first | refine o_u ?_ | refine o_k ?_ | refine o_n ?_ | refine o_v ?_ | ((first | refine o_G ?_ ?_ | refine o_N ?_ ?_) <;> intro hc)))) | ((fail_if_success (with_reducible refine o_s ?_)); go_step))
  go_ret
  exact ⟨rfl, (hx10.trans hJ18.ext).trans x23⟩
theorem p_SinceN (s : Int) (w : World) : Calls Tryz.prog 59 #[.pointer none, .int .i64 s] w (RetV w (.tuple #[.slice none 0 0, .bool false])) := by
  refine calls_of_wp_marks Tryz.func59 rfl ?_
  simp only [Tryz.ntmps59, List.size_toArray, List.length_cons, List.length_nil, Nat.reduceAdd, Nat.reduceSub, Array.replicate_succ, Array.replicate_zero, List.push_toArray, List.append_toArray, List.nil_append, List.cons_append]
  repeat' ((fail_if_success (with_reducible refine o_s ?_)); go_step)
  refine wpl_boxB (vs := [.pointer none]) rfl rfl ?_
  intro w1 x1 s1 h1
  refine gset ?_
  refine wpl_boxB (vs := [.int .i64 s]) rfl rfl ?_
  intro w2 x2 s2 h2
  refine gset ?_
  refine wpl_allocB (z := [.slice none 0 0]) rfl (by decide +kernel) ?_
  intro w3 x3 s3 h3
  refine gset ?_
  refine wpl_allocB (z := [.bool false]) rfl (by decide +kernel) ?_
  intro w4 x4 s4 h4
  refine gset ?_
  have z1 := x1.size
  have z2 := x2.size
  have g0 : w4.heap[w.heap.size]? = _ := x4.at (x3.at (x2.at h1))
  have g2 : w4.heap[w2.heap.size]? = _ := x4.at h3
  have gx : Ext w w4 := ((x1.trans x2).trans x3).trans x4
  have hne : w3.heap.size ≠ w2.heap.size := by omega
  have hne2 : w2.heap.size ≠ w3.heap.size := by omega
  have hz3 : w.heap.size ≤ w3.heap.size := by omega
  have hz2 : w.heap.size ≤ w2.heap.size := by omega
  clear h1 h2 h3 x1 x2 x3 x4 s1 s2 s3 s4 z1 z2
  have hp0 := pts_block (cs := [.pointer none]) g0
  generalize w2.heap.size = b2 at *
  generalize w3.heap.size = b3 at *
  repeat' (first | ((with_reducible refine o_s ?_); (first | (refine o_1 ?_; refine o_2 ?_) | (refine o_g ?_; first | refine o_u ?_ | refine o_k ?_ | refine o_n ?_ | refine o_v ?_ | ((first | refine o_G ?_ ?_ | refine o_N ?_ ?_) <;> intro hc)))) | ((fail_if_success (with_reducible refine o_s ?_)); go_step))
  refine wpl_run0 (v := .bool true) (Runs.isNil (p := none) rfl rfl (by kernel_rfl)) ?_
  refine gset ?_
  repeat' (first | ((with_reducible refine o_s ?_); (first | (refine o_1 ?_; refine o_2 ?_) | (refine o_g ?_; first | refine o_u ?_ | refine o_k ?_ | refine o_n ?_ | refine o_v ?_ | ((first | refine o_G ?_ ?_ | refine o_N ?_ ?_) <;> intro hc)))) | ((fail_if_success (with_reducible refine o_s ?_)); go_step))
  refine wpl_store1 (v := .slice none 0 0) rfl rfl rfl g2 (by decide +kernel) rfl ?_
  intro w6 p6
  refine wpl_store1 (v := .bool false) rfl rfl rfl (p6.at h4 hne) (by decide +kernel) rfl ?_
  intro w7 p7
  repeat' (first | ((with_reducible refine o_s ?_); (first | (refine o_1 ?_; refine o_2 ?_) | (refine o_g ?_; first | refine o_u ?_ | refine o_k ?_ | refine o_n ?_ | refine o_v ?_ | ((first | refine o_G ?_ ?_ | refine o_N ?_ ?_) <;> intro hc)))) | ((fail_if_success (with_reducible refine o_s ?_)); go_step))
  exact leaves_nil (results_cells2 rfl rfl rfl (p7.at p6.this hne2) p7.this (by decide +kernel) (by decide +kernel)) ⟨rfl, (gx.move p6.mv (by rintro k ⟨⟩; omega)).move p7.mv (by rintro k ⟨⟩; omega)⟩
theorem p_SerialN (w : World) : Calls Tryz.prog 56 #[.pointer none] w (RetV w (.int .i64 0)) := by
  go_enter Tryz.func56, Tryz.ntmps56
  repeat' (first | ((with_reducible refine o_s ?_); (first | (refine o_1 ?_; refine o_2 ?_) | (refine o_g ?_; first | refine o_u ?_ | refine o_k ?_ | refine o_n ?_ | refine o_v ?_ | ((first | refine o_G ?_ ?_ | refine o_N ?_ ?_) <;> intro hc)))) | ((fail_if_success (with_reducible refine o_s ?_)); go_step))
  refine wpl_run0 (v := .bool true) (Runs.isNil (p := none) rfl rfl (by kernel_rfl)) ?_
  refine gset ?_
  repeat' (first | ((with_reducible refine o_s ?_); (first | (refine o_1 ?_; refine o_2 ?_) | (refine o_g ?_; first | refine o_u ?_ | refine o_k ?_ | refine o_n ?_ | refine o_v ?_ | ((first | refine o_G ?_ ?_ | refine o_N ?_ ?_) <;> intro hc)))) | ((fail_if_success (with_reducible refine o_s ?_)); go_step))
  go_ret
  exact ⟨rfl, Ext.refl _⟩
theorem p_LenN (w : World) : Calls Tryz.prog 58 #[.pointer none] w (RetV w (.int .i64 0)) := by
  go_enter Tryz.func58, Tryz.ntmps58
  repeat' (first | ((with_reducible refine o_s ?_); (first | (refine o_1 ?_; refine o_2 ?_) | (refine o_g ?_; first | refine o_u ?_ | refine o_k ?_ | refine o_n ?_ | refine o_v ?_ | ((first | refine o_G ?_ ?_ | refine o_N ?_ ?_) <;> intro hc)))) | ((fail_if_success (with_reducible refine o_s ?_)); go_step))
  refine wpl_run0 (v := .bool true) (Runs.isNil (p := none) rfl rfl (by kernel_rfl)) ?_
  refine gset ?_
  repeat' (first | ((with_reducible refine o_s ?_); (first | (refine o_1 ?_; refine o_2 ?_) | (refine o_g ?_; first | refine o_u ?_ | refine o_k ?_ | refine o_n ?_ | refine o_v ?_ | ((first | refine o_G ?_ ?_ | refine o_N ?_ ?_) <;> intro hc)))) | ((fail_if_success (with_reducible refine o_s ?_)); go_step))
  go_ret
  exact ⟨rfl, Ext.refl _⟩
theorem p_ZoneN (w : World) : Calls Tryz.prog 62 #[.pointer none] w (RetV w (.agg #[str [], .slice none 0 0])) := by
  go_enter Tryz.func62, Tryz.ntmps62
  repeat' ((fail_if_success (with_reducible refine o_s ?_)); go_step)
  refine wpl_allocB (z := zzone) rfl (by decide +kernel) ?_
  intro w1 x1 s1 h1
  refine gset ?_
  repeat' (first | ((with_reducible refine o_s ?_); (first | (refine o_1 ?_; refine o_2 ?_) | (refine o_g ?_; first | refine o_u ?_ | refine o_k ?_ | refine o_n ?_ | refine o_v ?_ | ((first | refine o_G ?_ ?_ | refine o_N ?_ ?_) <;> intro hc)))) | ((fail_if_success (with_reducible refine o_s ?_)); go_step))
  refine wpl_run0 (v := .bool true) (Runs.isNil (p := none) rfl rfl (by kernel_rfl)) ?_
  refine gset ?_
  repeat' (first | ((with_reducible refine o_s ?_); (first | (refine o_1 ?_; refine o_2 ?_) | (refine o_g ?_; first | refine o_u ?_ | refine o_k ?_ | refine o_n ?_ | refine o_v ?_ | ((first | refine o_G ?_ ?_ | refine o_N ?_ ?_) <;> intro hc)))) | ((fail_if_success (with_reducible refine o_s ?_)); go_step))
  refine wpl_run (v := .agg zzone.toArray) rfl (Runs.build0 (by kernel_rfl)) ?_
  refine gset ?_
  refine wpl_storeB (v := .agg zzone.toArray) rfl rfl rfl h1 (show sizeTy Tryz.prog 25 2 = true by decide +kernel) rfl (by decide +kernel) ?_
  intro w3 p3
  have x3 : Ext w w3 := x1.move p3.mv (by rintro k ⟨⟩; exact Nat.le_refl _)
  repeat' (first | ((with_reducible refine o_s ?_); (first | (refine o_1 ?_; refine o_2 ?_) | (refine o_g ?_; first | refine o_u ?_ | refine o_k ?_ | refine o_n ?_ | refine o_v ?_ | ((first | refine o_G ?_ ?_ | refine o_N ?_ ?_) <;> intro hc)))) | ((fail_if_success (with_reducible refine o_s ?_)); go_step))
  exact bodyPost_ret (results_cell1 (cs := zzone) rfl rfl p3.this (show aggTy Tryz.prog 25 2 = true by decide +kernel)) rfl ⟨rfl, x3⟩
theorem p_UpdateN (x : Value) (cs : List Value) (hx : x = .agg cs.toArray) (w : World) : Calls Tryz.prog 54 #[.pointer none, x] w (RetV w (.int .i64 1)) := by
  subst hx
  go_enter Tryz.func54, Tryz.ntmps54
  repeat' ((fail_if_success (with_reducible refine o_s ?_)); go_step)
  refine wpl_boxB (vs := cs) rfl rfl ?_
  intro w1 x1 sz1 hcz
  refine gset ?_
  repeat' (first | ((with_reducible refine o_s ?_); (first | (refine o_1 ?_; refine o_2 ?_) | (refine o_g ?_; first | refine o_u ?_ | refine o_k ?_ | refine o_n ?_ | refine o_v ?_ | ((first | refine o_G ?_ ?_ | refine o_N ?_ ?_) <;> intro hc)))) | ((fail_if_success (with_reducible refine o_s ?_)); go_step))
  refine wpl_run0 (v := .bool true) (Runs.isNil (p := none) rfl rfl (by kernel_rfl)) ?_
  refine gset ?_
  repeat' (first | ((with_reducible refine o_s ?_); (first | (refine o_1 ?_; refine o_2 ?_) | (refine o_g ?_; first | refine o_u ?_ | refine o_k ?_ | refine o_n ?_ | refine o_v ?_ | ((first | refine o_G ?_ ?_ | refine o_N ?_ ?_) <;> intro hc)))) | ((fail_if_success (with_reducible refine o_s ?_)); go_step))
  go_ret
  exact ⟨rfl, x1⟩
theorem new_zero : newE [] [] 5 = 2 := by decide +kernel
theorem j_liveV (w : World) : Calls Tryz.prog 51 #[] w (RetV w (.bool true)) := j_live w
set_option maxHeartbeats 2000000 in
theorem j16 (o : List UInt8) (v : Value) (l : List RSet) (s : Int) (w : World) (hv : SetsAt w v l) : Calls Tryz.prog 16 #[.agg #[str o, v], .int .i64 s] w (Yes w) := by
  go_enter Tryz.func16, Tryz.ntmps16
  repeat' ((fail_if_success (with_reducible refine o_s ?_)); go_step)
  refine wpl_box (vs := [str o, v]) rfl rfl ?_
  intro p w1 x1 hp
  refine gset ?_
  repeat' (first | ((with_reducible refine o_s ?_); (first | (refine o_1 ?_; refine o_2 ?_) | (refine o_g ?_; first | refine o_u ?_ | refine o_k ?_ | refine o_n ?_ | refine o_v ?_ | ((first | refine o_G ?_ ?_ | refine o_N ?_ ?_) <;> intro hc)))) | ((fail_if_success (with_reducible refine o_s ?_)); go_step))
  refine wpl_callV (enters_of Tryz.func25 rfl rfl) rfl rfl (r8_Few o v l _ (hv.ext x1)) ?_; intro w2 x2; refine gset ?_
  have hx2 := x1.trans x2
  have hp2 := hp.ext x2
  cases hf : (decide ((o.length : Int) ≤ 300) && fewS l) with
  | false =>
    repeat' (first | ((with_reducible refine o_s ?_); (first | (refine o_1 ?_; refine o_2 ?_) | (refine o_g ?_; first | refine o_u ?_ | refine o_k ?_ | refine o_n ?_ | refine o_v ?_ | ((first | refine o_G ?_ ?_ | refine o_N ?_ ?_) <;> intro hc)))) | ((fail_if_success (with_reducible refine o_s ?_)); go_step))
    refine wpl_callV (enters_of Tryz.func51 rfl rfl) rfl rfl (j_liveV _) ?_; intro w3 x3; refine gset ?_
    repeat' (first | ((with_reducible refine o_s ?_); (first | (refine o_1 ?_; refine o_2 ?_) | (refine o_g ?_; first | refine o_u ?_ | refine o_k ?_ | refine o_n ?_ | refine o_v ?_ | ((first | refine o_G ?_ ?_ | refine o_N ?_ ?_) <;> intro hc)))) | ((fail_if_success (with_reducible refine o_s ?_)); go_step))
    go_ret
    exact ⟨rfl, hx2.trans x3⟩
  | true =>
    repeat' (first | ((with_reducible refine o_s ?_); (first | (refine o_1 ?_; refine o_2 ?_) | (refine o_g ?_; first | refine o_u ?_ | refine o_k ?_ | refine o_n ?_ | refine o_v ?_ | ((first | refine o_G ?_ ?_ | refine o_N ?_ ?_) <;> intro hc)))) | ((fail_if_success (with_reducible refine o_s ?_)); go_step))
    refine wpl_run (v := .agg zzone.toArray) rfl (Runs.build0 (by kernel_rfl)) ?_
    refine gset ?_
    repeat' (first | ((with_reducible refine o_s ?_); (first | (refine o_1 ?_; refine o_2 ?_) | (refine o_g ?_; first | refine o_u ?_ | refine o_k ?_ | refine o_n ?_ | refine o_v ?_ | ((first | refine o_G ?_ ?_ | refine o_N ?_ ?_) <;> intro hc)))) | ((fail_if_success (with_reducible refine o_s ?_)); go_step))
    refine wpl_callG (enters_of Tryz.func52 rfl rfl) rfl rfl (p_New [] (.slice none 0 0) [] 5 _ (⟨[], Sl.nil _ _, rfl, by simp⟩ : SetsAt _ (.slice none 0 0) []) (by simp) (by simp)) ?_
    rintro e w3 (⟨-, rfl, x3⟩ | ⟨h0, -⟩)
    rotate_left
    · rw [new_zero] at h0; cases h0
    rw [new_zero]
    refine ⟨_, rfl, ?_⟩
    refine gset ?_
    have hp3 := hp2.ext x3
    have hx3 := hx2.trans x3
    repeat' (first | ((with_reducible refine o_s ?_); (first | (refine o_1 ?_; refine o_2 ?_) | (refine o_g ?_; first | refine o_u ?_ | refine o_k ?_ | refine o_n ?_ | refine o_v ?_ | ((first | refine o_G ?_ ?_ | refine o_N ?_ ?_) <;> intro hc)))) | ((fail_if_success (with_reducible refine o_s ?_)); go_step))
    refine wpl_callV (enters_of Tryz.func59 rfl rfl) rfl rfl (p_SinceN s _) ?_; intro w4 x4; refine gset ?_
    have hp4 := hp3.ext x4
    have hx4 := hx3.trans x4
    repeat' (first | ((with_reducible refine o_s ?_); (first | (refine o_1 ?_; refine o_2 ?_) | (refine o_g ?_; first | refine o_u ?_ | refine o_k ?_ | refine o_n ?_ | refine o_v ?_ | ((first | refine o_G ?_ ?_ | refine o_N ?_ ?_) <;> intro hc)))) | ((fail_if_success (with_reducible refine o_s ?_)); go_step))
    refine wpl_run0 (v := .bool true) (Runs.isNil (p := none) rfl rfl (by kernel_rfl)) ?_
    refine gset ?_
    iterate 3 ((with_reducible refine o_s ?_); (first | (refine o_1 ?_; refine o_2 ?_) | (refine o_g ?_; refine o_u ?_; (with_reducible refine o_s ?_); refine o_1 ?_; refine o_2 ?_)))
    try rw [show decide ((2 : Int) = 2) = true from rfl]
    repeat' (first | ((with_reducible refine o_s ?_); (first | (refine o_1 ?_; refine o_2 ?_) | (refine o_g ?_; first | refine o_u ?_ | refine o_k ?_ | refine o_n ?_ | refine o_v ?_ | ((first | refine o_G ?_ ?_ | refine o_N ?_ ?_) <;> intro hc)))) | ((fail_if_success (with_reducible refine o_s ?_)); go_step))
    refine wpl_callV (enters_of Tryz.func54 rfl rfl) rfl rfl (p_UpdateN _ [str o, v] rfl _) ?_; intro w5 x5; refine gset ?_
    have hx5 := hx4.trans x5
    have hn5 := Sl.nil 4 w5
    ((with_reducible refine o_s ?_); (first | (refine o_1 ?_; refine o_2 ?_) | (refine o_g ?_; refine o_u ?_; (with_reducible refine o_s ?_); refine o_1 ?_; refine o_2 ?_)))
    try rw [show decide ((1 : Int) = 1) = true from rfl]
    iterate 5 ((with_reducible refine o_s ?_); (first | (refine o_1 ?_; refine o_2 ?_) | (refine o_g ?_; refine o_u ?_; (with_reducible refine o_s ?_); refine o_1 ?_; refine o_2 ?_)))
    try rw [show decide ((([] : List (List Value)).length : Int) = 0) = true from rfl]
    repeat' (first | ((with_reducible refine o_s ?_); (first | (refine o_1 ?_; refine o_2 ?_) | (refine o_g ?_; first | refine o_u ?_ | refine o_k ?_ | refine o_n ?_ | refine o_v ?_ | ((first | refine o_G ?_ ?_ | refine o_N ?_ ?_) <;> intro hc)))) | ((fail_if_success (with_reducible refine o_s ?_)); go_step))
    refine wpl_callV (enters_of Tryz.func56 rfl rfl) rfl rfl (p_SerialN _) ?_; intro w6 x6; refine gset ?_
    have hx6 := hx5.trans x6
    ((with_reducible refine o_s ?_); (first | (refine o_1 ?_; refine o_2 ?_) | (refine o_g ?_; refine o_u ?_; (with_reducible refine o_s ?_); refine o_1 ?_; refine o_2 ?_)))
    try rw [show decide ((0 : Int) = 0) = true from rfl]
    repeat' (first | ((with_reducible refine o_s ?_); (first | (refine o_1 ?_; refine o_2 ?_) | (refine o_g ?_; first | refine o_u ?_ | refine o_k ?_ | refine o_n ?_ | refine o_v ?_ | ((first | refine o_G ?_ ?_ | refine o_N ?_ ?_) <;> intro hc)))) | ((fail_if_success (with_reducible refine o_s ?_)); go_step))
    refine wpl_callV (enters_of Tryz.func58 rfl rfl) rfl rfl (p_LenN _) ?_; intro w7 x7; refine gset ?_
    have hx7 := hx6.trans x7
    ((with_reducible refine o_s ?_); (first | (refine o_1 ?_; refine o_2 ?_) | (refine o_g ?_; refine o_u ?_; (with_reducible refine o_s ?_); refine o_1 ?_; refine o_2 ?_)))
    try rw [show decide ((0 : Int) = 0) = true from rfl]
    repeat' (first | ((with_reducible refine o_s ?_); (first | (refine o_1 ?_; refine o_2 ?_) | (refine o_g ?_; first | refine o_u ?_ | refine o_k ?_ | refine o_n ?_ | refine o_v ?_ | ((first | refine o_G ?_ ?_ | refine o_N ?_ ?_) <;> intro hc)))) | ((fail_if_success (with_reducible refine o_s ?_)); go_step))
    refine wpl_callV (enters_of Tryz.func62 rfl rfl) rfl rfl (p_ZoneN _) ?_; intro w8 x8; refine gset ?_
    have hx8 := hx7.trans x8
    have hn8 := Sl.nil 4 w8
    (with_reducible refine o_s ?_); refine o_g ?_; refine o_u ?_
    refine wpl_run0 (Runs.fieldV (off := 1) rfl rfl (by decide +kernel)) ?_
    refine gset ?_
    repeat' (first | ((with_reducible refine o_s ?_); (first | (refine o_1 ?_; refine o_2 ?_) | (refine o_g ?_; first | refine o_u ?_ | refine o_k ?_ | refine o_n ?_ | refine o_v ?_ | ((first | refine o_G ?_ ?_ | refine o_N ?_ ?_) <;> intro hc)))) | ((fail_if_success (with_reducible refine o_s ?_)); go_step))
    refine wpl_callV (enters_of Tryz.func51 rfl rfl) rfl rfl (j_liveV _) ?_; intro w9 x9; refine gset ?_
    repeat' (first | ((with_reducible refine o_s ?_); (first | (refine o_1 ?_; refine o_2 ?_) | (refine o_g ?_; first | refine o_u ?_ | refine o_k ?_ | refine o_n ?_ | refine o_v ?_ | ((first | refine o_G ?_ ?_ | refine o_N ?_ ?_) <;> intro hc)))) | ((fail_if_success (with_reducible refine o_s ?_)); go_step))
    go_ret
    · exact ⟨rfl, hx8.trans x9⟩
    exact absurd rfl ‹¬ (([] : List (List Value)).length : Int) = 0›
set_option maxHeartbeats 12000000 in
theorem r7_Records (v : Value) (l : List RSet) (w : World) (hv : SetsAt w v l) (hb : (recordsS l).length ≤ 100000) : Calls Tryz.prog 69 #[v] w (Ret w fun r w' => Own w.heap.size 4 75 w' r (rcells (recordsS l))) := by
  obtain ⟨cv, hv1, hvl⟩ := hv.sl
  have hle := hv1.le
  go_enter Tryz.func69, Tryz.ntmps69
  repeat' (first | ((with_reducible refine o_s ?_); (first | (refine o_1 ?_; refine o_2 ?_) | (refine o_g ?_; first | refine o_u ?_ | refine o_k ?_ | refine o_n ?_ | refine o_v ?_ | ((first | refine o_G ?_ ?_ | refine o_N ?_ ?_) <;> intro hc)))) | ((fail_if_success (with_reducible refine o_s ?_)); go_step))
  go_loopw [3, 4, 5] (fun o i _ wr => ∃ k : Nat, k ≤ l.length ∧ i = .int .i64 k ∧ Ext w wr ∧ Own w.heap.size 4 75 wr o (rcells (recsP l k))) (fun _ i _ _ => l.length - (intOf i).toNat)
  case atStart => exact ⟨0, Nat.zero_le _, rfl, Ext.refl _, Own.nil _ _ _ _⟩
  case round =>
    obtain ⟨k, hk, rfl, hx, ho⟩ := hrel
    have hv2 := hv1.ext hx
    by_cases hlt : k < l.length
    · obtain ⟨x, h4, h4d⟩ := hv.elem (List.getElem?_eq_getElem hlt)
      have hdl := tcells_length l[k].data
      have hdle := h4d.le
      repeat' (first | ((with_reducible refine o_s ?_); (first | (refine o_1 ?_; refine o_2 ?_) | (refine o_g ?_; first | refine o_u ?_ | refine o_k ?_ | refine o_n ?_ | refine o_v ?_ | ((first | refine o_G ?_ ?_ | refine o_N ?_ ?_) <;> intro hc)))) | ((fail_if_success (with_reducible refine o_s ?_)); go_step))
      go_loopw [3, 5] (fun o i wq => ∃ j : Nat, j ≤ l[k].data.length ∧ i = .int .i64 j ∧ Ext w wq ∧ Own w.heap.size 4 75 wq o (rcells (recsP l k ++ (l[k].data.take j).map (recOf l[k])))) (fun _ i _ => l[k].data.length - (intOf i).toNat)
      case atStart => exact ⟨0, Nat.zero_le _, rfl, hx, by simpa using ho⟩
      case round =>
        obtain ⟨j, hj, rfl, hxq, hoq⟩ := hrel
        have hv3 := hv1.ext hxq
        have h4q := h4.ext hxq
        have h4dq := h4d.ext hxq
        by_cases hlt2 : j < l[k].data.length
        · have h3 := h4d.elem (tcells_at hlt2)
          have hle1 := recsP_le l (k + 1)
          rw [recsP_succ hlt, List.length_append] at hle1
          have hle2 : (recsOf l[k]).length = l[k].data.length := by simp [recsOf]
          have hcl : (rcells (recsP l k ++ (l[k].data.take j).map (recOf l[k]))).length = (recsP l k).length + j := by simp [rcells]; omega
          repeat' (first | ((with_reducible refine o_s ?_); (first | (refine o_1 ?_; refine o_2 ?_) | (refine o_g ?_; first | refine o_u ?_ | refine o_k ?_ | refine o_n ?_ | refine o_v ?_ | ((first | refine o_G ?_ ?_ | refine o_N ?_ ?_) <;> intro hc)))) | ((fail_if_success (with_reducible refine o_s ?_)); go_step))
          clear hv2 hv3 h4q h4dq
          refine wph_region (S := fun w' => Ext w w') (by decide +kernel) ?_
          intro w5 x5 hh5
          refine tk 0 ?_; refine gset ?_; refine tk 1 ?_; refine gset ?_; refine tk 2 ?_; refine gset ?_; refine tk 3 ?_; refine gset ?_; refine tk 4 ?_; refine gset ?_; refine tk 5 ?_; refine gset ?_; refine tk 6 ?_; refine gset ?_; refine tk 7 ?_; refine gset ?_; refine tk 8 ?_; refine gset ?_; refine tk 9 ?_; refine gset ?_; refine tk 10 ?_; refine gset ?_; refine tk 11 ?_; refine gset ?_; refine tk 12 ?_; refine gset ?_; refine tk 13 ?_; refine gset ?_; refine tk 14 ?_; refine gset ?_; refine tk 15 ?_; refine gset ?_; refine tk 16 ?_; refine gset ?_; refine tk 17 ?_; refine gset ?_; refine tk 18 ?_; refine gset ?_; refine tk 19 ?_; refine gset ?_; refine tk 20 ?_; refine gset ?_; refine tk 21 ?_; refine gset ?_; refine tk 22 ?_; refine gset ?_; refine tk 23 ?_; refine gset ?_
          refine wph_take (i := 24) (v := .agg #[str l[k].name, .int .i64 l[k].kind, .int .i64 l[k].ttl, str l[k].data[j]]) rfl rfl (by decide +kernel) (by decide +kernel) (by decide +kernel) rfl (hxq.trans x5) (fun w' _ => Runs.build rfl (by kernel_rfl)) (fun _ _ _ h => h) ?_
          refine gset ?_
          refine wph_one (i := 25) (by decide +kernel) rfl rfl ?_
          refine wpl_slice (e := 75) (k := 4) (bytes := 48) (xs := [.agg #[str l[k].name, .int .i64 l[k].kind, .int .i64 l[k].ttl, str l[k].data[j]]]) rfl rfl rfl (by simp [Value.cells]) (by decide +kernel) (by simp) ?_
          intro v8 w8 x8 s8 sl8 _
          refine gset ?_
          have hx8 := (hxq.trans x5).trans x8
          refine wph_nil ⟨hx8, ?_⟩
          refine wph_one (i := 26) (by decide +kernel) rfl rfl ?_
          have ho8 := (hoq.ext x5).ext x8
          refine wpl_appendO (B := w.heap.size) (e := 75) (k := 4) rfl ho8 rfl sl8 (by simp [Value.cells, str, Value.oneCell']) hx8.size (by rw [hcl]; simp; omega) ?_
          intro v9 w9 o9 m9 k9
          refine gset ?_
          have x9 : Ext w w9 := ho8.mvx m9 hx8 (Nat.le_refl _)
          have o9 : Own w.heap.size 4 75 w9 v9 (rcells (recsP l k ++ (l[k].data.take (j + 1)).map (recOf l[k]))) := by
            rw [map_take_succ hlt2, ← List.append_assoc]
            simpa [rcells, Rec.cells, recOf, Value.cells] using o9
          refine wph_nil ⟨x9, ?_⟩
          refine wph_one (i := 27) (by decide +kernel) rfl rfl ?_
          repeat' (first | ((with_reducible refine o_s ?_); (first | (refine o_1 ?_; refine o_2 ?_) | (refine o_g ?_; first | refine o_u ?_ | refine o_k ?_ | refine o_n ?_ | refine o_v ?_ | ((first | refine o_G ?_ ?_ | refine o_N ?_ ?_) <;> intro hc)))) | ((fail_if_success (with_reducible refine o_s ?_)); go_step))
          refine ⟨x9, ?_⟩
          refine wph_done (by decide +kernel) ?_
          repeat' (first | ((with_reducible refine o_s ?_); (first | (refine o_1 ?_; refine o_2 ?_) | (refine o_g ?_; first | refine o_u ?_ | refine o_k ?_ | refine o_n ?_ | refine o_v ?_ | ((first | refine o_G ?_ ?_ | refine o_N ?_ ?_) <;> intro hc)))) | ((fail_if_success (with_reducible refine o_s ?_)); go_step))
          exact ⟨⟨j + 1, by omega, by go_num, x9, o9⟩, by simp [intOf]; omega⟩
        · have : j = l[k].data.length := by omega
          subst this
          repeat' (first | ((with_reducible refine o_s ?_); (first | (refine o_1 ?_; refine o_2 ?_) | (refine o_g ?_; first | refine o_u ?_ | refine o_k ?_ | refine o_n ?_ | refine o_v ?_ | ((first | refine o_G ?_ ?_ | refine o_N ?_ ?_) <;> intro hc)))) | ((fail_if_success (with_reducible refine o_s ?_)); go_step))
          refine ⟨⟨k + 1, by omega, by go_num, hxq, ?_⟩, by simp [intOf]; omega⟩
          rw [recsP_succ hlt]
          rw [List.take_length] at hoq
          exact hoq
    · have : k = l.length := by omega
      subst this
      rw [recsP_all] at ho
      repeat' (first | ((with_reducible refine o_s ?_); (first | (refine o_1 ?_; refine o_2 ?_) | (refine o_g ?_; first | refine o_u ?_ | refine o_k ?_ | refine o_n ?_ | refine o_v ?_ | ((first | refine o_G ?_ ?_ | refine o_N ?_ ?_) <;> intro hc)))) | ((fail_if_success (with_reducible refine o_s ?_)); go_step))
      go_ret
      exact ⟨_, rfl, hx, ho⟩
set_option maxHeartbeats 6000000 in
theorem r10_Make (oa : List UInt8) (u : Value) (la : List RSet) (ob : List UInt8) (v : Value) (lb : List RSet) (w : World) (hu : SetsAt w u la) (hv : SetsAt w v lb)
    (ba : ∀ s ∈ la, s.data.length ≤ 1000000) (da : ∀ s ∈ la, ∀ d ∈ s.data, d.length ≤ 4611686018427387904) (bb : ∀ s ∈ lb, s.data.length ≤ 1000000) (db : ∀ s ∈ lb, ∀ d ∈ s.data, d.length ≤ 4611686018427387904)
    (h1 : (recordsS la).length ≤ 100000) (h2 : (recordsS lb).length ≤ 100000) : Calls Tryz.prog 22 #[.agg #[str oa, u], .agg #[str ob, v]] w (Ret w (DelU w.heap.size (mkD oa la ob lb) (mkE oa la ob lb))) := by
  go_enter Tryz.func22, Tryz.ntmps22
  repeat' ((fail_if_success (with_reducible refine o_s ?_)); go_step)
  refine wpl_box (vs := [str oa, u]) rfl rfl ?_
  intro p w1 x1 hp
  refine gset ?_
  refine wpl_box (vs := [str ob, v]) rfl rfl ?_
  intro q w2 x2 hq
  refine gset ?_
  refine wpl_allocB (z := zdel) rfl (by decide +kernel) ?_
  intro w3 x3 s3 h3
  refine gset ?_
  have hx3 := (x1.trans x2).trans x3
  have zz := (x1.trans x2).size
  have hp3 := (hp.ext x2).ext x3
  have hq3 := hq.ext x3
  repeat' (first | ((with_reducible refine o_s ?_); (first | (refine o_1 ?_; refine o_2 ?_) | (refine o_g ?_; first | refine o_u ?_ | refine o_k ?_ | refine o_n ?_ | refine o_v ?_ | ((first | refine o_G ?_ ?_ | refine o_N ?_ ?_) <;> intro hc)))) | ((fail_if_success (with_reducible refine o_s ?_)); go_step))
  refine wpl_callV (enters_of Tryz.func68 rfl rfl) rfl rfl (r8_Soa oa u la _ (hu.ext hx3) ba da) ?_; intro w4 x4; refine gset ?_
  have hx4 := hx3.trans x4
  repeat' (first | ((with_reducible refine o_s ?_); (first | (refine o_1 ?_; refine o_2 ?_) | (refine o_g ?_; first | refine o_u ?_ | refine o_k ?_ | refine o_n ?_ | refine o_v ?_ | ((first | refine o_G ?_ ?_ | refine o_N ?_ ?_) <;> intro hc)))) | ((fail_if_success (with_reducible refine o_s ?_)); go_step))
  refine wpl_allocB (z := zeroSoa) rfl (by decide +kernel) ?_
  intro w5 x5 s5 h5
  refine gset ?_
  refine wpl_storeB (v := .agg (soaZ oa la).cells.toArray) rfl rfl rfl h5 (show sizeTy Tryz.prog 103 7 = true by decide +kernel) rfl (soaR_one _) ?_
  intro w6 p6
  have x46 : Ext w4 w6 := x5.move p6.mv (by rintro k ⟨⟩; exact Nat.le_refl _)
  have b6 : w6.heap[w4.heap.size]? = some (.cells (soaZ oa la).cells.toArray 103 (0, 0)) := p6.this
  have x36 := x4.trans x46
  have hx6 := hx3.trans x36
  clear p6 h5 x5
  have h6 := x36.at h3
  have hp6 := hp3.ext x36
  have hq6 := hq3.ext x36
  repeat' (first | ((with_reducible refine o_s ?_); (first | (refine o_1 ?_; refine o_2 ?_) | (refine o_g ?_; first | refine o_u ?_ | refine o_k ?_ | refine o_n ?_ | refine o_v ?_ | ((first | refine o_G ?_ ?_ | refine o_N ?_ ?_) <;> intro hc)))) | ((fail_if_success (with_reducible refine o_s ?_)); go_step))
  · have q0 : ¬ zoneR oa la = 0 := by simpa using (by assumption : (!decide (zoneR oa la = 0)) = true)
    refine wpl_run (v := .agg zdel.toArray) rfl (Runs.build0 (by kernel_rfl)) ?_
    refine gset ?_
    repeat' (first | ((with_reducible refine o_s ?_); (first | (refine o_1 ?_; refine o_2 ?_) | (refine o_g ?_; first | refine o_u ?_ | refine o_k ?_ | refine o_n ?_ | refine o_v ?_ | ((first | refine o_G ?_ ?_ | refine o_N ?_ ?_) <;> intro hc)))) | ((fail_if_success (with_reducible refine o_s ?_)); go_step))
    refine wpl_storeB (v := .agg zdel.toArray) rfl rfl rfl h6 (by decide +kernel) rfl (by decide +kernel) ?_
    intro w7 p7
    have x7 : Ext w w7 := hx6.move p7.mv (by rintro k ⟨⟩; exact zz)
    repeat' (first | ((with_reducible refine o_s ?_); (first | (refine o_1 ?_; refine o_2 ?_) | (refine o_g ?_; first | refine o_u ?_ | refine o_k ?_ | refine o_n ?_ | refine o_v ?_ | ((first | refine o_G ?_ ?_ | refine o_N ?_ ?_) <;> intro hc)))) | ((fail_if_success (with_reducible refine o_s ?_)); go_step))
    refine bodyPost_ret (results_cellT (cs := zdel) rfl rfl p7.this (by decide +kernel)) rfl ⟨_, rfl, x7, ?_⟩
    have he : mkE oa la ob lb = zoneR oa la := by rw [mkE, if_neg q0]
    rw [mkD_bad (by rw [he]; exact q0), he]
    exact DelU.bad rfl
  · have q0 : zoneR oa la = 0 := by simpa using (by assumption : (!decide (zoneR oa la = 0)) = false)
    refine wpl_callV (enters_of Tryz.func68 rfl rfl) rfl rfl (r8_Soa ob v lb _ (hv.ext hx6) bb db) ?_; intro w7 x7; refine gset ?_
    have hx7 := hx6.trans x7
    repeat' (first | ((with_reducible refine o_s ?_); (first | (refine o_1 ?_; refine o_2 ?_) | (refine o_g ?_; first | refine o_u ?_ | refine o_k ?_ | refine o_n ?_ | refine o_v ?_ | ((first | refine o_G ?_ ?_ | refine o_N ?_ ?_) <;> intro hc)))) | ((fail_if_success (with_reducible refine o_s ?_)); go_step))
    refine wpl_allocB (z := zeroSoa) rfl (by decide +kernel) ?_
    intro w8 x8 s8 h8
    refine gset ?_
    refine wpl_storeB (v := .agg (soaZ ob lb).cells.toArray) rfl rfl rfl h8 (show sizeTy Tryz.prog 103 7 = true by decide +kernel) rfl (soaR_one _) ?_
    intro w9 p9
    have x79 : Ext w7 w9 := x8.move p9.mv (by rintro k ⟨⟩; exact Nat.le_refl _)
    have c9 : w9.heap[w7.heap.size]? = some (.cells (soaZ ob lb).cells.toArray 103 (0, 0)) := p9.this
    have x69 := x7.trans x79
    have hx9 := hx6.trans x69
    clear p9 h8 x8
    have h9 := x69.at h6
    have b9 := x69.at b6
    have hp9 := hp6.ext x69
    have hq9 := hq6.ext x69
    repeat' (first | ((with_reducible refine o_s ?_); (first | (refine o_1 ?_; refine o_2 ?_) | (refine o_g ?_; first | refine o_u ?_ | refine o_k ?_ | refine o_n ?_ | refine o_v ?_ | ((first | refine o_G ?_ ?_ | refine o_N ?_ ?_) <;> intro hc)))) | ((fail_if_success (with_reducible refine o_s ?_)); go_step))
    · have q1 : ¬ zoneR ob lb = 0 := by simpa using (by assumption : (!decide (zoneR ob lb = 0)) = true)
      refine wpl_run (v := .agg zdel.toArray) rfl (Runs.build0 (by kernel_rfl)) ?_
      refine gset ?_
      repeat' (first | ((with_reducible refine o_s ?_); (first | (refine o_1 ?_; refine o_2 ?_) | (refine o_g ?_; first | refine o_u ?_ | refine o_k ?_ | refine o_n ?_ | refine o_v ?_ | ((first | refine o_G ?_ ?_ | refine o_N ?_ ?_) <;> intro hc)))) | ((fail_if_success (with_reducible refine o_s ?_)); go_step))
      refine wpl_storeB (v := .agg zdel.toArray) rfl rfl rfl h9 (by decide +kernel) rfl (by decide +kernel) ?_
      intro wz pz
      have xz : Ext w wz := hx9.move pz.mv (by rintro k ⟨⟩; exact zz)
      repeat' (first | ((with_reducible refine o_s ?_); (first | (refine o_1 ?_; refine o_2 ?_) | (refine o_g ?_; first | refine o_u ?_ | refine o_k ?_ | refine o_n ?_ | refine o_v ?_ | ((first | refine o_G ?_ ?_ | refine o_N ?_ ?_) <;> intro hc)))) | ((fail_if_success (with_reducible refine o_s ?_)); go_step))
      refine bodyPost_ret (results_cellT (cs := zdel) rfl rfl pz.this (by decide +kernel)) rfl ⟨_, rfl, xz, ?_⟩
      have he : mkE oa la ob lb = zoneR ob lb := by rw [mkE, if_pos q0, if_neg q1]
      rw [mkD_bad (by rw [he]; exact q1), he]
      exact DelU.bad rfl
    · have q1 : zoneR ob lb = 0 := by simpa using (by assumption : (!decide (zoneR ob lb = 0)) = false)
      · have q2 : ¬ oa = ob := by simpa using (by assumption : (!decide (oa = ob)) = true)
        refine wpl_run (v := .agg zdel.toArray) rfl (Runs.build0 (by kernel_rfl)) ?_
        refine gset ?_
        repeat' (first | ((with_reducible refine o_s ?_); (first | (refine o_1 ?_; refine o_2 ?_) | (refine o_g ?_; first | refine o_u ?_ | refine o_k ?_ | refine o_n ?_ | refine o_v ?_ | ((first | refine o_G ?_ ?_ | refine o_N ?_ ?_) <;> intro hc)))) | ((fail_if_success (with_reducible refine o_s ?_)); go_step))
        refine wpl_storeB (v := .agg zdel.toArray) rfl rfl rfl h9 (by decide +kernel) rfl (by decide +kernel) ?_
        intro wz pz
        have xz : Ext w wz := hx9.move pz.mv (by rintro k ⟨⟩; exact zz)
        repeat' (first | ((with_reducible refine o_s ?_); (first | (refine o_1 ?_; refine o_2 ?_) | (refine o_g ?_; first | refine o_u ?_ | refine o_k ?_ | refine o_n ?_ | refine o_v ?_ | ((first | refine o_G ?_ ?_ | refine o_N ?_ ?_) <;> intro hc)))) | ((fail_if_success (with_reducible refine o_s ?_)); go_step))
        refine bodyPost_ret (results_cellT (cs := zdel) rfl rfl pz.this (by decide +kernel)) rfl ⟨_, rfl, xz, ?_⟩
        have he : mkE oa la ob lb = 1 := by rw [mkE, if_pos q0, if_pos q1, if_neg q2]
        rw [mkD_bad (by rw [he]; decide), he]
        exact DelU.bad rfl
    · have q1 : zoneR ob lb = 0 := by simpa using (by assumption : (!decide (zoneR ob lb = 0)) = false)
      have q2 : oa = ob := by simpa using (by assumption : (!decide (oa = ob)) = false)
      have he : mkE oa la ob lb = 0 := by rw [mkE, if_pos q0, if_pos q1, if_pos q2]
      repeat' (first | ((with_reducible refine o_s ?_); (first | (refine o_1 ?_; refine o_2 ?_) | (refine o_g ?_; first | refine o_u ?_ | refine o_k ?_ | refine o_n ?_ | refine o_v ?_ | ((first | refine o_G ?_ ?_ | refine o_N ?_ ?_) <;> intro hc)))) | ((fail_if_success (with_reducible refine o_s ?_)); go_step))
      refine wpl_callR (enters_of Tryz.func69 rfl rfl) rfl rfl (r7_Records u la _ (hu.ext hx9) (by omega)) ?_
      intro r1 w11 x911 o11
      refine gset ?_
      have hq11 := hq9.ext x911
      repeat' (first | ((with_reducible refine o_s ?_); (first | (refine o_1 ?_; refine o_2 ?_) | (refine o_g ?_; first | refine o_u ?_ | refine o_k ?_ | refine o_n ?_ | refine o_v ?_ | ((first | refine o_G ?_ ?_ | refine o_N ?_ ?_) <;> intro hc)))) | ((fail_if_success (with_reducible refine o_s ?_)); go_step))
      refine wpl_callR (enters_of Tryz.func69 rfl rfl) rfl rfl (r7_Records v lb _ (hv.ext (hx9.trans x911)) (by omega)) ?_
      intro r2 w12 x12 o12
      refine gset ?_
      have x912 := x911.trans x12
      have hx12 := hx9.trans x912
      have h12 := x912.at h9
      have sr1 := (o11.ext x12).sl
      have sr2 := o12.sl
      have pb12 := pts_block (x912.at b9)
      have pc12 := pts_block (x912.at c9)
      repeat' (first | ((with_reducible refine o_s ?_); (first | (refine o_1 ?_; refine o_2 ?_) | (refine o_g ?_; first | refine o_u ?_ | refine o_k ?_ | refine o_n ?_ | refine o_v ?_ | ((first | refine o_G ?_ ?_ | refine o_N ?_ ?_) <;> intro hc)))) | ((fail_if_success (with_reducible refine o_s ?_)); go_step))
      refine wpi_region 11 (Ext w12) (by decide +kernel) ?_
      intro w13 x13 _
      refine ⟨x13, ?_⟩
      ((with_reducible apply wpi_take (i := 0)); (rfl); (rfl); (rfl); (decide +kernel); (decide +kernel); (decide +kernel); (decide +kernel); (rfl); (intro _ _; exact rn); (exact fun _ _ _ h => h); (refine gset ?_)); ((with_reducible apply wpi_take (i := 1)); (rfl); (rfl); (rfl); (decide +kernel); (decide +kernel); (decide +kernel); (decide +kernel); (rfl); (intro _ _; exact rn); (exact fun _ _ _ h => h); (refine gset ?_)); ((with_reducible apply wpi_take (i := 2)); (rfl); (rfl); (rfl); (decide +kernel); (decide +kernel); (decide +kernel); (decide +kernel); (rfl); (intro _ _; exact rn); (exact fun _ _ _ h => h); (refine gset ?_)); ((with_reducible apply wpi_take (i := 3)); (rfl); (rfl); (rfl); (decide +kernel); (decide +kernel); (decide +kernel); (decide +kernel); (rfl); (intro _ _; exact rn); (exact fun _ _ _ h => h); (refine gset ?_)); ((with_reducible apply wpi_take (i := 4)); (rfl); (rfl); (rfl); (decide +kernel); (decide +kernel); (decide +kernel); (decide +kernel); (rfl); (intro _ _; exact rn); (exact fun _ _ _ h => h); (refine gset ?_)); ((with_reducible apply wpi_take (i := 5)); (rfl); (rfl); (rfl); (decide +kernel); (decide +kernel); (decide +kernel); (decide +kernel); (rfl); (intro _ _; exact rn); (exact fun _ _ _ h => h); (refine gset ?_)); ((with_reducible apply wpi_take (i := 7)); (rfl); (rfl); (rfl); (decide +kernel); (decide +kernel); (decide +kernel); (decide +kernel); (rfl); (intro _ _; exact rn); (exact fun _ _ _ h => h); (refine gset ?_)); ((with_reducible apply wpi_take (i := 8)); (rfl); (rfl); (rfl); (decide +kernel); (decide +kernel); (decide +kernel); (decide +kernel); (rfl); (intro _ _; exact rn); (exact fun _ _ _ h => h); (refine gset ?_))
      refine wpi_op (i := 6) (by decide +kernel) rfl rfl ?_
      refine wpl_callR (enters_of Tryz.func70 rfl rfl) rfl rfl (r10_less r1 r2 _ _ _ (sr1.ext x13) (sr2.ext x13) (by omega)) ?_
      intro g w14 x14 og
      refine gset ?_
      have x1214 := x13.trans x14
      refine wph_nil ⟨till_yes x1214, ?_⟩
      refine wpi_op (i := 9) (by decide +kernel) rfl rfl ?_
      refine wpl_callR (enters_of Tryz.func70 rfl rfl) rfl rfl (r10_less r2 r1 _ _ _ (sr2.ext x1214) (sr1.ext x1214) (by omega)) ?_
      intro n w15 x15 on
      refine gset ?_
      have x1215 := x1214.trans x15
      refine wph_nil ⟨till_yes x1215, ?_⟩
      have sg := (og.ext x15).sl
      have sn := on.sl
      refine wpi_take (i := 10) (v := .agg #[.int .i64 (soaZ oa la).serial, .int .i64 (soaZ ob lb).serial, g, n]) rfl rfl rfl (by decide +kernel) (by decide +kernel) (by decide +kernel) (by decide +kernel) rfl (fun w' _ => Runs.build rfl (by obtain ⟨_, _, _, rfl⟩ := sg.slf; obtain ⟨_, _, _, rfl⟩ := sn.slf; kernel_rfl)) (fun _ _ _ h => h) ?_
      refine gset ?_
      refine wpi_op (i := 11) (by decide +kernel) rfl rfl ?_
      have h15 := x1215.at h12
      refine wpl_storeB (v := .agg #[.int .i64 (soaZ oa la).serial, .int .i64 (soaZ ob lb).serial, g, n]) rfl rfl rfl h15 (show sizeTy Tryz.prog 34 4 = true by decide +kernel) rfl (all4 rfl rfl sg.one sn.one) ?_
      intro w16 p16
      refine wph_nil ⟨till_no rfl, ?_⟩
      ((with_reducible apply wpi_pure (i := 12)); (rfl); (rfl); (rfl); (decide +kernel); (decide +kernel); (decide +kernel); (rfl); (intro _; exact rn); (exact fun _ _ _ h => h); (refine gset ?_))
      refine wpi_done (by decide +kernel) ?_
      have x16 : Ext w w16 := (hx12.trans x1215).move p16.mv (by rintro k ⟨⟩; exact zz)
      repeat' (first | ((with_reducible refine o_s ?_); (first | (refine o_1 ?_; refine o_2 ?_) | (refine o_g ?_; first | refine o_u ?_ | refine o_k ?_ | refine o_n ?_ | refine o_v ?_ | ((first | refine o_G ?_ ?_ | refine o_N ?_ ?_) <;> intro hc)))) | ((fail_if_success (with_reducible refine o_s ?_)); go_step))
      refine bodyPost_ret (results_cellT (cs := [.int .i64 (soaZ oa la).serial, .int .i64 (soaZ ob lb).serial, g, n]) rfl rfl p16.this (show aggTy Tryz.prog 34 4 = true by decide +kernel)) rfl ⟨_, rfl, x16, ?_⟩
      have hd : mkD oa la ob lb = ⟨(soaZ oa la).serial, (soaZ ob lb).serial, lessR (recordsS la) (recordsS lb), lessR (recordsS lb) (recordsS la)⟩ := by rw [mkD, if_pos he]
      rw [hd, he]
      exact ⟨_, rfl, g, n, rfl, (og.ext x15).mv p16.mv (.inr ((og.ext x15).neBlock h15 (by decide))) |>.weaken (hx12.trans x13).size, on.mv p16.mv (.inr (on.neBlock h15 (by decide))) |>.weaken (hx12.trans x1214).size⟩
theorem r2_May (n : Int) (w : World) : Calls Tryz.prog 177 #[.int .i64 n] w (RetV w (.bool (okSer n))) := by
  go_enter Tryz.func177, Tryz.ntmps177
  repeat' (first | ((with_reducible refine o_s ?_); (first | (refine o_1 ?_; refine o_2 ?_) | (refine o_g ?_; first | refine o_u ?_ | refine o_k ?_ | refine o_n ?_ | refine o_v ?_ | ((first | refine o_G ?_ ?_ | refine o_N ?_ ?_) <;> intro hc)))) | ((fail_if_success (with_reducible refine o_s ?_)); go_step))
  all_goals
    go_ret
    refine ⟨?_, Ext.refl _⟩
    unfold okSer
    first
      | (rw [decide_eq_false (show ¬ (0 ≤ n) by omega)]; rfl)
      | (rw [decide_eq_true (show 0 ≤ n by omega)]
         by_cases h : n ≤ 4294967295
         · rw [decide_eq_true h, decide_eq_true (show n < 4294967296 by omega)]; rfl
         · rw [decide_eq_false h, decide_eq_false (show ¬ n < 4294967296 by omega)]; rfl)
theorem r2_Compare (a b : Int) (w : World) : Calls Tryz.prog 141 #[.int .i64 a, .int .i64 b] w (RetV w (.tuple #[.int .i64 (serCmp a b).1, .int .i64 (serCmp a b).2])) := by
  go_enter Tryz.func141, Tryz.ntmps141
  repeat' (first | ((with_reducible refine o_s ?_); (first | (refine o_1 ?_; refine o_2 ?_) | (refine o_g ?_; first | refine o_u ?_ | refine o_k ?_ | refine o_n ?_ | refine o_v ?_ | ((first | refine o_G ?_ ?_ | refine o_N ?_ ?_) <;> intro hc)))) | ((fail_if_success (with_reducible refine o_s ?_)); go_step))
  refine wpl_callV (enters_of Tryz.func177 rfl rfl) rfl rfl (r2_May a _) ?_; intro w1 x1; refine gset ?_
  cases ha : okSer a with
  | false =>
    repeat' (first | ((with_reducible refine o_s ?_); (first | (refine o_1 ?_; refine o_2 ?_) | (refine o_g ?_; first | refine o_u ?_ | refine o_k ?_ | refine o_n ?_ | refine o_v ?_ | ((first | refine o_G ?_ ?_ | refine o_N ?_ ?_) <;> intro hc)))) | ((fail_if_success (with_reducible refine o_s ?_)); go_step))
    go_ret2
    exact ⟨by rw [serCmp, if_pos (by simp [ha])]; rfl, x1⟩
  | true =>
    repeat' (first | ((with_reducible refine o_s ?_); (first | (refine o_1 ?_; refine o_2 ?_) | (refine o_g ?_; first | refine o_u ?_ | refine o_k ?_ | refine o_n ?_ | refine o_v ?_ | ((first | refine o_G ?_ ?_ | refine o_N ?_ ?_) <;> intro hc)))) | ((fail_if_success (with_reducible refine o_s ?_)); go_step))
    refine wpl_callV (enters_of Tryz.func177 rfl rfl) rfl rfl (r2_May b _) ?_; intro w2 x2; refine gset ?_
    have hx2 := x1.trans x2
    cases hb : okSer b with
    | false =>
      repeat' (first | ((with_reducible refine o_s ?_); (first | (refine o_1 ?_; refine o_2 ?_) | (refine o_g ?_; first | refine o_u ?_ | refine o_k ?_ | refine o_n ?_ | refine o_v ?_ | ((first | refine o_G ?_ ?_ | refine o_N ?_ ?_) <;> intro hc)))) | ((fail_if_success (with_reducible refine o_s ?_)); go_step))
      go_ret2
      exact ⟨by rw [serCmp, if_pos (by simp [hb])]; rfl, hx2⟩
    | true =>
      have hk : 0 ≤ a ∧ a ≤ 4294967295 ∧ 0 ≤ b ∧ b ≤ 4294967295 := by
        simp only [okSer, Bool.and_eq_true, decide_eq_true_eq] at ha hb
        omega
      obtain ⟨m, hm⟩ : ∃ m : Nat, b - a + 4294967296 = (m : Int) := ⟨(b - a + 4294967296).toNat, by omega⟩
      have hmod : ((m % 4294967296 : Nat) : Int) = (b - a) % 4294967296 := by
        rw [Int.natCast_emod, ← hm]
        omega
      repeat' (first | ((with_reducible refine o_s ?_); (first | (refine o_1 ?_; refine o_2 ?_) | (refine o_g ?_; first | refine o_u ?_ | refine o_k ?_ | refine o_n ?_ | refine o_v ?_ | ((first | refine o_G ?_ ?_ | refine o_N ?_ ?_) <;> intro hc)))) | ((fail_if_success (with_reducible refine o_s ?_)); go_step))
      refine wpl_run0 (Runs.remN (m := m) (n := 4294967296) (by rw [← hm]; rfl) rfl (by decide) (by omega)) ?_
      refine gset ?_
      rw [hmod]
      repeat' (first | ((with_reducible refine o_s ?_); (first | (refine o_1 ?_; refine o_2 ?_) | (refine o_g ?_; first | refine o_u ?_ | refine o_k ?_ | refine o_n ?_ | refine o_v ?_ | ((first | refine o_G ?_ ?_ | refine o_N ?_ ?_) <;> intro hc)))) | ((fail_if_success (with_reducible refine o_s ?_)); go_step))
      all_goals
        go_ret2
        refine ⟨?_, hx2⟩
        rw [serCmp, if_neg (by simp [ha, hb])]
        first
          | (rw [if_pos (by omega)]; rfl)
          | (rw [if_neg (by omega), if_pos (by omega)]; rfl)
          | (rw [if_neg (by omega), if_neg (by omega), if_pos (by omega)]; rfl)
          | (rw [if_neg (by omega), if_neg (by omega), if_neg (by omega)]; rfl)
theorem later_cmp (a b : Int) : serCmp a b = (0, 1) ∧ laterB a b = false ∨ serCmp a b = (0, 0) ∧ laterB a b = false ∨ serCmp a b = (-1, 0) ∧ laterB a b = false ∨ serCmp a b = (1, 0) ∧ laterB a b = true ∨ serCmp a b = (0, 5) ∧ laterB a b = false := by
  unfold serCmp laterB
  cases hok : (okSer a && okSer b) with
  | false => simp
  | true =>
    simp only [Bool.true_eq_false, if_false, Bool.true_and]
    generalize (b - a) % 4294967296 = d
    by_cases h1 : d = 0
    · simp [h1]
    · by_cases h2 : d < 2147483648
      · have : ¬ 2147483648 < d := by omega
        simp [h1, h2, this]
      · by_cases h3 : 2147483648 < d
        · simp [h1, h2, h3]
        · simp [h1, h2, h3]
theorem r2_Later (a b : Int) (w : World) : Calls Tryz.prog 103 #[.int .i64 a, .int .i64 b] w (RetV w (.bool (laterB a b))) := by
  go_enter Tryz.func103, Tryz.ntmps103
  repeat' (first | ((with_reducible refine o_s ?_); (first | (refine o_1 ?_; refine o_2 ?_) | (refine o_g ?_; first | refine o_u ?_ | refine o_k ?_ | refine o_n ?_ | refine o_v ?_ | ((first | refine o_G ?_ ?_ | refine o_N ?_ ?_) <;> intro hc)))) | ((fail_if_success (with_reducible refine o_s ?_)); go_step))
  refine wpl_callV (enters_of Tryz.func141 rfl rfl) rfl rfl (r2_Compare a b _) ?_; intro w1 x1; refine gset ?_
  rcases later_cmp a b with ⟨h1, h2⟩ | ⟨h1, h2⟩ | ⟨h1, h2⟩ | ⟨h1, h2⟩ | ⟨h1, h2⟩
  all_goals
    rw [h1]
    repeat' (first | ((with_reducible refine o_s ?_); (first | (refine o_1 ?_; refine o_2 ?_) | (refine o_g ?_; first | refine o_u ?_ | refine o_k ?_ | refine o_n ?_ | refine o_v ?_ | ((first | refine o_G ?_ ?_ | refine o_N ?_ ?_) <;> intro hc)))) | ((fail_if_success (with_reducible refine o_s ?_)); go_step))
    go_ret
    exact ⟨by rw [h2]; rfl, x1⟩
def histD (o : List UInt8) : List (List RSet) → List DeltaR
  | a :: b :: t => mkD o a o b :: histD o (b :: t)
  | _ => []
theorem histD_len (o : List UInt8) : ∀ zs : List (List RSet), (histD o zs).length = zs.length - 1
  | [] => rfl
  | [a] => rfl
  | a :: b :: t => by
    rw [histD, List.length_cons, histD_len o (b :: t)]
    simp
theorem histD_at (o : List UInt8) : ∀ (zs : List (List RSet)) (i : Nat) (a b : List RSet), zs[i]? = some a → zs[i + 1]? = some b → (histD o zs)[i]? = some (mkD o a o b)
  | [], i, a, b, h, _ => by simp at h
  | [x], i, a, b, h, k => by simp at k
  | x :: y :: t, 0, a, b, h, k => by
    simp at h k
    subst h; subst k
    rfl
  | x :: y :: t, i + 1, a, b, h, k => by
    rw [histD, List.getElem?_cons_succ]
    exact histD_at o (y :: t) i a b (by simpa using h) (by simpa using k)
theorem histD_snoc (o : List UInt8) : ∀ (zs : List (List RSet)) (l l' : List RSet), zs.getLast? = some l → histD o (zs ++ [l']) = histD o zs ++ [mkD o l o l']
  | [], l, l', h => by simp at h
  | [a], l, l', h => by
    simp at h
    subst h
    rfl
  | a :: b :: t, l, l', h => by
    have ih := histD_snoc o (b :: t) l l' (by simpa using h)
    rw [List.cons_append] at ih
    rw [List.cons_append, List.cons_append, histD, ih, histD, List.cons_append]
theorem trim_len (room : Int) (ds : List DeltaR) (h : 0 ≤ room) : ((trimD room ds).length : Int) = min (ds.length : Int) room := by
  rw [trimD, List.length_drop]
  omega
theorem trim_id {room : Int} {ds : List DeltaR} (h : (ds.length : Int) ≤ room) : trimD room ds = ds := by
  rw [trimD, show ds.length - room.toNat = 0 by omega, List.drop_zero]
theorem trim_snoc (room : Int) (H : List DeltaR) (D : DeltaR) (h : 0 ≤ room) : trimD room (trimD room H ++ [D]) = trimD room (H ++ [D]) := by
  have hl := trim_len room H h
  by_cases hc : (H.length : Int) ≤ room
  · rw [trim_id hc]
  · have e1 : trimD room H ++ [D] = (H ++ [D]).drop (H.length - room.toNat) := by
      rw [trimD, List.drop_append_of_le_length (by omega)]
    rw [e1]
    unfold trimD
    rw [List.drop_drop, List.length_drop]
    congr 1
    simp only [List.length_append, List.length_cons, List.length_nil]
    omega
theorem trim_tail {room : Int} {ds : List DeltaR} (D : DeltaR) (h : (ds.length : Int) ≤ room) : trimD room (ds ++ [D]) = if room < ((ds ++ [D]).length : Int) then (ds ++ [D]).drop 1 else ds ++ [D] := by
  split
  · rename_i hc
    rw [trimD]
    congr 1
    simp only [List.length_append, List.length_cons, List.length_nil] at hc ⊢
    omega
  · rename_i hc
    exact trim_id (by omega)
theorem sinceI_spec (ds : List DeltaR) (s : Int) : ∀ n, match sinceI ds s n with
    | some j => j < n ∧ ds[j]?.map DeltaR.fr = some s ∧ ∀ j', j < j' → j' < n → ds[j']?.map DeltaR.fr ≠ some s
    | none => ∀ j', j' < n → ds[j']?.map DeltaR.fr ≠ some s
  | 0 => by simp [sinceI]
  | n + 1 => by
    have ih := sinceI_spec ds s n
    rw [sinceI]
    split
    · rename_i h
      split at h
      · rename_i hc
        cases h
        exact ⟨by omega, hc, fun j' h1 h2 => by omega⟩
      · rename_i hc
        rw [h] at ih
        obtain ⟨h1, h2, h3⟩ := ih
        refine ⟨by omega, h2, fun j' h4 h5 => ?_⟩
        by_cases e : j' = n
        · subst e; exact hc
        · exact h3 j' h4 (by omega)
    · rename_i h
      split at h
      · cases h
      · rename_i hc
        rw [h] at ih
        intro j' h5
        by_cases e : j' = n
        · subst e; exact hc
        · exact ih j' (by omega)
theorem mkE_ok {o : List UInt8} {a b : List RSet} (ha : ZoneOk o a) (hb : ZoneOk o b) : mkE o a o b = 0 := by
  rw [mkE, if_pos (zone_ok' ha), if_pos (zone_ok' hb), if_pos rfl]
theorem mkD_fr {o : List UInt8} {a b : List RSet} (ha : ZoneOk o a) (hb : ZoneOk o b) : (mkD o a o b).fr = (soaZ o a).serial := by
  rw [(mk_ok (mkE_ok ha hb)).2.2.2]
theorem since_made {o : List UInt8} {zs : List (List RSet)} {l a : List RSet} {room s : Int} {i : Nat} (hr : 0 ≤ room) (hz : ∀ z ∈ zs, ZoneOk o z) (hlast : zs.getLast? = some l) (hi : zs[i]? = some a) (hs : (soaZ o a).serial = s)
    (hna : ∀ k b, i < k → zs[k]? = some b → (soaZ o b).serial ≠ s) (hsr : (sinceR o l (trimD room (histD o zs)) s).2 = true) :
    (sinceR o l (trimD room (histD o zs)) s).1.length + i + 1 = zs.length ∧ ∀ k a b, zs[i + k]? = some a → zs[i + k + 1]? = some b → (sinceR o l (trimD room (histD o zs)) s).1[k]? = some (mkD o a o b) := by
  have hil := (List.getElem?_eq_some_iff.1 hi).1
  have hlast' : zs[zs.length - 1]? = some l := by rw [← List.getLast?_eq_getElem?]; exact hlast
  by_cases q : s = (soaZ o l).serial
  · have e : sinceR o l (trimD room (histD o zs)) s = ([], true) := by rw [sinceR, if_pos q]
    rw [e]
    have : ¬ i < zs.length - 1 := fun hlt => hna _ _ hlt hlast' q.symm
    have hi2 : i + 1 = zs.length := by omega
    refine ⟨by simpa using hi2, fun k a b h1 h2 => ?_⟩
    have := (List.getElem?_eq_some_iff.1 h2).1
    omega
  · have hH := histD_len o zs
    have hT := trim_len room (histD o zs) hr
    have hti : ∀ k, (trimD room (histD o zs))[k]? = (histD o zs)[(histD o zs).length - room.toNat + k]? := fun k => by rw [trimD, List.getElem?_drop]
    have hsp := sinceI_spec (trimD room (histD o zs)) s (trimD room (histD o zs)).length
    have hfr : ∀ k (h : k + 1 < zs.length), (histD o zs)[k]?.map DeltaR.fr = some (soaZ o zs[k]).serial := fun k h => by
      rw [histD_at o zs k zs[k] zs[k + 1] (List.getElem?_eq_getElem _) (List.getElem?_eq_getElem _), Option.map_some, mkD_fr (hz _ (List.getElem_mem _)) (hz _ (List.getElem_mem _))]
    cases hsi : sinceI (trimD room (histD o zs)) s (trimD room (histD o zs)).length with
    | none =>
      rw [sinceR, if_neg q, hsi] at hsr
      cases hsr
    | some j =>
      have e : sinceR o l (trimD room (histD o zs)) s = ((trimD room (histD o zs)).drop j, true) := by rw [sinceR, if_neg q, hsi]
      rw [e]
      rw [hsi] at hsp
      obtain ⟨h1, h2, h3⟩ := hsp
      rw [hti, hfr _ (by omega)] at h2
      have h2 := Option.some.inj h2
      have hle : ¬ i < (histD o zs).length - room.toNat + j := fun hlt => hna _ _ hlt (List.getElem?_eq_getElem (by omega)) h2
      have hlt : i + 1 < zs.length := by
        have : i ≠ zs.length - 1 := by
          rintro rfl
          rw [hlast'] at hi
          cases hi
          exact q hs.symm
        omega
      have hge : ¬ (histD o zs).length - room.toNat + j < i := fun hgt => by
        refine h3 (i - ((histD o zs).length - room.toNat)) (by omega) (by omega) ?_
        rw [hti, show (histD o zs).length - room.toNat + (i - ((histD o zs).length - room.toNat)) = i by omega, hfr i hlt]
        rw [List.getElem?_eq_getElem hil] at hi
        rw [Option.some.inj hi, hs]
      have hij : i = (histD o zs).length - room.toNat + j := by omega
      refine ⟨by simp only [List.length_drop]; omega, fun k a b k1 k2 => ?_⟩
      rw [List.getElem?_drop, hti, show (histD o zs).length - room.toNat + (j + k) = i + k by omega]
      exact histD_at o zs _ a b k1 k2
end Go.Proofs.X
