/- Laws and walks that the proof of the statement is made of (part 17). -/
import Derived.Test.YtoajkilickakiaaGreatProg
import Derived.Lib.Hide
import Derived.OwnWalk
import Derived.StringKeys
import Derived.Test.YtoajkilickakiaaGreatShelf
import Derived.WalkMore
import Derived.Shelf.RegionOpenPlain
import Derived.Lib.Strings
import Derived.Lib.Slices
import Derived.Lib.Walk
import Derived.Lib.Builder
import Derived.Lib.AppendStr
import Derived.Lib.UnsafeStr
import Derived.Lib.MakeNoZero
import Derived.WalkKit
import Derived.Laws.Externs
import Derived.Laws.IdiomCopy
import Derived.Laws.BitsLemmas
import GoSem.Claims
import Derived.Shelf.SlSortCmp.NoneTotal
import Derived.Test.YtoajkilickakiaaGreatRows
import Derived.ProofKit
import Derived.OpenShut
import Derived.ShutString
import Derived.ChangeOld
import Derived.Below
import Derived.Test.YtoajkilickakiaaGreatP1
import Derived.Test.YtoajkilickakiaaGreatP2
import Derived.Test.YtoajkilickakiaaGreatP4
import Derived.Test.YtoajkilickakiaaGreatP5
import Derived.Test.YtoajkilickakiaaGreatP6
import Derived.Test.YtoajkilickakiaaGreatP8
import Derived.Test.YtoajkilickakiaaGreatP9
import Derived.Test.YtoajkilickakiaaGreatP10
import Derived.Test.YtoajkilickakiaaGreatP11
import Derived.Test.YtoajkilickakiaaGreatP12
import Derived.Test.YtoajkilickakiaaGreatP14
import Derived.Test.YtoajkilickakiaaGreatP15
import Derived.Test.YtoajkilickakiaaGreatP16
set_option linter.unusedSimpArgs false
set_option linter.unusedVariables false
namespace Go.Proofs.X
open Go.RowKit
set_option maxRecDepth 100000
set_option maxHeartbeats 8000000 in
theorem k10 (o : List UInt8) (v : Value) (l : List RSet) (i : Int) (w : World) (hv : SetsAt w v l) : Calls Tryz.prog 10 #[.agg #[str o, v], .int .i64 i] w (Yes w) := by
  obtain ⟨cv, hv1, hvl⟩ := hv.sl
  go_enter Tryz.func10, Tryz.ntmps10
  repeat' ((fail_if_success (with_reducible refine o_s ?_)); go_step)
  refine wpl_box (vs := [str o, v]) rfl rfl ?_
  intro p w1 x1 hp
  refine gset ?_
  have hv1' := hv.ext x1
  repeat' (first | ((with_reducible refine o_s ?_); (first | (refine o_1 ?_; refine o_2 ?_) | (refine o_g ?_; first | refine o_u ?_ | refine o_k ?_ | refine o_n ?_ | refine o_v ?_ | ((first | refine o_G ?_ ?_ | refine o_N ?_ ?_) <;> intro hc)))) | ((fail_if_success (with_reducible refine o_s ?_)); go_step))
  refine wpl_callV (enters_of Tryz.func25 rfl rfl) rfl rfl (r8_Few o v l _ hv1') ?_; intro w2 x2; refine gset ?_
  have hx2 := x1.trans x2
  have hp2 := hp.ext x2
  have hv2 := hv1'.ext x2
  cases hF : (decide ((o.length : Int) ≤ 300) && fewS l) with
  | false =>
    repeat' (first | ((with_reducible refine o_s ?_); (first | (refine o_1 ?_; refine o_2 ?_) | (refine o_g ?_; first | refine o_u ?_ | refine o_k ?_ | refine o_n ?_ | refine o_v ?_ | ((first | refine o_G ?_ ?_ | refine o_N ?_ ?_) <;> intro hc)))) | ((fail_if_success (with_reducible refine o_s ?_)); go_step))
    refine wpl_callV (enters_of Tryz.func38 rfl rfl) rfl rfl (l9_live _) ?_; intro w3 x3; refine gset ?_
    repeat' (first | ((with_reducible refine o_s ?_); (first | (refine o_1 ?_; refine o_2 ?_) | (refine o_g ?_; first | refine o_u ?_ | refine o_k ?_ | refine o_n ?_ | refine o_v ?_ | ((first | refine o_G ?_ ?_ | refine o_N ?_ ?_) <;> intro hc)))) | ((fail_if_success (with_reducible refine o_s ?_)); go_step))
    go_ret
    exact ⟨rfl, hx2.trans x3⟩
  | true =>
    have hb := (fewz hF).2.1
    have hl25 := (fewz hF).1
    repeat' (first | ((with_reducible refine o_s ?_); (first | (refine o_1 ?_; refine o_2 ?_) | (refine o_g ?_; first | refine o_u ?_ | refine o_k ?_ | refine o_n ?_ | refine o_v ?_ | ((first | refine o_G ?_ ?_ | refine o_N ?_ ?_) <;> intro hc)))) | ((fail_if_success (with_reducible refine o_s ?_)); go_step))
    refine wpl_callV (enters_of Tryz.func37 rfl rfl) rfl rfl (p_Check o v l _ hv2 hb) ?_; intro w3 x3; refine gset ?_
    have hx3 := hx2.trans x3
    have hp3 := hp2.ext x3
    have hv3 := hv2.ext x3
    have sl3 := hv1.ext hx3
    by_cases q1 : zoneR o l = 0
    · rw [q1]
      iterate 5 ((with_reducible refine o_s ?_); (first | (refine o_1 ?_; refine o_2 ?_) | (refine o_g ?_; refine o_u ?_; (with_reducible refine o_s ?_); refine o_1 ?_; refine o_2 ?_)))
      by_cases h0 : i < 0
      · rw [decide_eq_true h0]
        repeat' (first | ((with_reducible refine o_s ?_); (first | (refine o_1 ?_; refine o_2 ?_) | (refine o_g ?_; first | refine o_u ?_ | refine o_k ?_ | refine o_n ?_ | refine o_v ?_ | ((first | refine o_G ?_ ?_ | refine o_N ?_ ?_) <;> intro hc)))) | ((fail_if_success (with_reducible refine o_s ?_)); go_step))
        refine wpl_callV (enters_of Tryz.func38 rfl rfl) rfl rfl (l9_live _) ?_; intro w4 x4; refine gset ?_
        repeat' (first | ((with_reducible refine o_s ?_); (first | (refine o_1 ?_; refine o_2 ?_) | (refine o_g ?_; first | refine o_u ?_ | refine o_k ?_ | refine o_n ?_ | refine o_v ?_ | ((first | refine o_G ?_ ?_ | refine o_N ?_ ?_) <;> intro hc)))) | ((fail_if_success (with_reducible refine o_s ?_)); go_step))
        go_ret
        exact ⟨rfl, hx3.trans x4⟩
      · rw [decide_eq_false h0]
        obtain ⟨j, rfl⟩ := Int.eq_ofNat_of_zero_le (show 0 ≤ i by omega)
        clear h0
        iterate 7 ((with_reducible refine o_s ?_); (first | (refine o_1 ?_; refine o_2 ?_) | (refine o_g ?_; refine o_u ?_; (with_reducible refine o_s ?_); refine o_1 ?_; refine o_2 ?_)))
        by_cases hj : j < l.length
        · rw [decide_eq_false (show ¬ ((cv.length : Int) ≤ (j : Int)) by omega)]
          have hz := zone_ok q1
          obtain ⟨x, h4, h4d⟩ := hv3.elem (List.getElem?_eq_getElem hj)
          have hmem : l[j] ∈ l := List.getElem_mem hj
          obtain ⟨aE, aC, aN⟩ := ask_sets hz hmem
          have hmay := may_data (hz.may hmem)
          generalize l[j] = s at *
          repeat' (first | ((with_reducible refine o_s ?_); (first | (refine o_1 ?_; refine o_2 ?_) | (refine o_g ?_; first | refine o_u ?_ | refine o_k ?_ | refine o_n ?_ | refine o_v ?_ | ((first | refine o_G ?_ ?_ | refine o_N ?_ ?_) <;> intro hc)))) | ((fail_if_success (with_reducible refine o_s ?_)); go_step))
          refine wpl_allocB (z := zset) rfl (by decide +kernel) ?_
          intro w4 x4 s4 h5
          refine gset ?_
          refine wpl_storeB (v := .agg #[str s.name, .int .i64 s.kind, .int .i64 s.ttl, x]) rfl rfl rfl h5 (show sizeTy Tryz.prog 55 4 = true by decide +kernel) rfl (all4 rfl rfl rfl h4d.one) ?_
          intro w5 p5
          have x5 : Ext w3 w5 := x4.move p5.mv (by rintro k ⟨⟩; exact Nat.le_refl _)
          have hs5 := pts_block (cs := [str s.name, .int .i64 s.kind, .int .i64 s.ttl, x]) p5.this
          have hx5 := hx3.trans x5
          have hp5 := hp3.ext x5
          have hv5 := hv3.ext x5
          have hd5 := h4d.ext x5
          clear p5 h5 x4 h4 sl3
          have c39 : Calls Tryz.prog 39 #[.agg #[str o, v], str s.name] w5 (RetV w5 (.tuple #[str (cutP o l s.name).1, .bool (cutP o l s.name).2])) := by
            have := p_Cut o v l s.name w5 hv5 (zone_data hz)
            rw [if_pos q1, cut_eq hz.chk] at this
            exact this
          repeat' (first | ((with_reducible refine o_s ?_); (first | (refine o_1 ?_; refine o_2 ?_) | (refine o_g ?_; first | refine o_u ?_ | refine o_k ?_ | refine o_n ?_ | refine o_v ?_ | ((first | refine o_G ?_ ?_ | refine o_N ?_ ?_) <;> intro hc)))) | ((fail_if_success (with_reducible refine o_s ?_)); go_step))
          refine wpl_callV (enters_of Tryz.func39 rfl rfl) rfl rfl (c39) ?_; intro w6 x6; refine gset ?_
          have hs6 := hs5.ext x6
          have hp6 := hp5.ext x6
          have hv6 := hv5.ext x6
          have hd6 := hd5.ext x6
          have hx6 := hx5.trans x6
          repeat' (first | ((with_reducible refine o_s ?_); (first | (refine o_1 ?_; refine o_2 ?_) | (refine o_g ?_; first | refine o_u ?_ | refine o_k ?_ | refine o_n ?_ | refine o_v ?_ | ((first | refine o_G ?_ ?_ | refine o_N ?_ ?_) <;> intro hc)))) | ((fail_if_success (with_reducible refine o_s ?_)); go_step))
          refine wpl_callR (enters_of Tryz.func40 rfl rfl) rfl rfl (t13 v l s.name 5 _ hv6 (fun s hs => by have := zone_data hz s hs; omega)) ?_
          intro r7 w7 x7 hr7
          obtain ⟨y7, rfl, hy7⟩ := find_one hr7
          clear hr7
          repeat' (first | ((with_reducible refine o_s ?_); (first | (refine o_1 ?_; refine o_2 ?_) | (refine o_g ?_; first | refine o_u ?_ | refine o_k ?_ | refine o_n ?_ | refine o_v ?_ | ((first | refine o_G ?_ ?_ | refine o_N ?_ ?_) <;> intro hc)))) | ((fail_if_success (with_reducible refine o_s ?_)); go_step))
          refine wpl_allocB (z := zset) rfl (by decide +kernel) ?_
          intro w8 x8 s8 h8
          refine gset ?_
          refine wpl_storeB (v := .agg #[str ((findS l s.name 5).getD zeroS).name, .int .i64 ((findS l s.name 5).getD zeroS).kind, .int .i64 ((findS l s.name 5).getD zeroS).ttl, y7]) rfl rfl rfl h8 (show sizeTy Tryz.prog 55 4 = true by decide +kernel) rfl (all4 rfl rfl rfl hy7.one) ?_
          intro w9 p9
          have x9 : Ext w7 w9 := x8.move p9.mv (by rintro k ⟨⟩; exact Nat.le_refl _)
          have x69 := x7.trans x9
          have hs9 := hs6.ext x69
          have hp9 := hp6.ext x69
          have hv9 := hv6.ext x69
          have hd9 := hd6.ext x69
          have hx9 := hx6.trans x69
          clear p9 h8 x8
          repeat' (first | ((with_reducible refine o_s ?_); (first | (refine o_1 ?_; refine o_2 ?_) | (refine o_g ?_; first | refine o_u ?_ | refine o_k ?_ | refine o_n ?_ | refine o_v ?_ | ((first | refine o_G ?_ ?_ | refine o_N ?_ ?_) <;> intro hc)))) | ((fail_if_success (with_reducible refine o_s ?_)); go_step))
          refine wpl_run (v := .agg #[str s.name, .int .i64 s.kind]) rfl (Runs.build rfl (by kernel_rfl)) ?_
          refine gset ?_
          refine wpl_callR (enters_of Tryz.func41 rfl rfl) rfl rfl (ask_is rfl aE _ hv9 (zone_data hz)) ?_
          rintro _ w10 x10 ⟨u1, u2, u3, rfl, s1, s2, s3⟩
          generalize askA o l s.name s.kind = A at *
          refine gset ?_
          repeat' (first | ((with_reducible refine o_s ?_); (first | (refine o_1 ?_; refine o_2 ?_) | (refine o_g ?_; first | refine o_u ?_ | refine o_k ?_ | refine o_n ?_ | refine o_v ?_ | ((first | refine o_G ?_ ?_ | refine o_N ?_ ?_) <;> intro hc)))) | ((fail_if_success (with_reducible refine o_s ?_)); go_step))
          refine wpl_allocB (z := zans) rfl (by decide +kernel) ?_
          intro w11 x11 s11 h11
          refine gset ?_
          refine wpl_storeB (v := .agg #[.int .i64 A.kind, u1, u2, u3]) rfl rfl rfl h11 (show sizeTy Tryz.prog 61 4 = true by decide +kernel) rfl (all4 rfl s1.one s2.one s3.one) ?_
          intro w12 p12
          have x12 : Ext w10 w12 := x11.move p12.mv (by rintro k ⟨⟩; exact Nat.le_refl _)
          have ha12 := pts_block (cs := [.int .i64 A.kind, u1, u2, u3]) p12.this
          have x912 := x10.trans x12
          have hs12 := hs9.ext x912
          have hd12 := hd9.ext x912
          have hx12 := hx9.trans x912
          have g1 := s1.ext x12
          clear p12 h11 x11 s1 s2 s3 hs5 hs6 hs9 hp5 hp6 hp9 hv5 hv6 hv9
          cases hc : (cutP o l s.name).2 with
          | true =>
            obtain ⟨e1, e2⟩ := aC hc
            rw [e1] at ha12
            rw [e2] at g1
            repeat' (first | ((with_reducible refine o_s ?_); (first | (refine o_1 ?_; refine o_2 ?_) | (refine o_g ?_; first | refine o_u ?_ | refine o_k ?_ | refine o_n ?_ | refine o_v ?_ | ((first | refine o_G ?_ ?_ | refine o_N ?_ ?_) <;> intro hc)))) | ((fail_if_success (with_reducible refine o_s ?_)); go_step))
            · refine wpl_callV (enters_of Tryz.func38 rfl rfl) rfl rfl (l9_live _) ?_; intro w13 x13; refine gset ?_
              repeat' (first | ((with_reducible refine o_s ?_); (first | (refine o_1 ?_; refine o_2 ?_) | (refine o_g ?_; first | refine o_u ?_ | refine o_k ?_ | refine o_n ?_ | refine o_v ?_ | ((first | refine o_G ?_ ?_ | refine o_N ?_ ?_) <;> intro hc)))) | ((fail_if_success (with_reducible refine o_s ?_)); go_step))
              go_ret
              exact ⟨rfl, hx12.trans x13⟩
            · exfalso
              have hh := ‹¬ ((rcells ([] : List Rec)).length : Int) = 0›
              exact hh rfl
          | false =>
            obtain ⟨e0, e1, e2⟩ := aN hc
            rw [e1] at ha12
            rw [e2] at g1
            have hal : (findS l s.name 5).isSome = true → s.kind = 5 := e0
            clear e0 aC aN
            cases hfs : (findS l s.name 5).isSome with
            | true =>
              have h5 := hal hfs
              repeat' (first | ((with_reducible refine o_s ?_); (first | (refine o_1 ?_; refine o_2 ?_) | (refine o_g ?_; first | refine o_u ?_ | refine o_k ?_ | refine o_n ?_ | refine o_v ?_ | ((first | refine o_G ?_ ?_ | refine o_N ?_ ?_) <;> intro hc)))) | ((fail_if_success (with_reducible refine o_s ?_)); go_step))
              all_goals first
                | (exfalso
                   have hh := ‹(!decide (s.kind = 5)) = true›
                   simp [h5] at hh)
                | skip
              refine wph_region (S := fun w' => Ext w12 w') (by decide +kernel) ?_
              intro wA xA hhA
              refine tk 0 ?_; refine gset ?_; refine tk 1 ?_; refine gset ?_; refine tk 2 ?_; refine gset ?_; refine tk 3 ?_; refine gset ?_; refine tk 4 ?_; refine gset ?_; refine tk 5 ?_; refine gset ?_; refine tk 6 ?_; refine gset ?_
              refine wph_one (i := 7) (by decide +kernel) rfl rfl ?_
              refine wpl_slice (e := 55) (k := 4) (bytes := 56) (xs := [.agg #[str s.name, .int .i64 s.kind, .int .i64 s.ttl, x]]) rfl rfl rfl (by simp [Value.cells]) (by decide +kernel) (by simp) ?_
              intro vB wB xB _ slB _
              refine gset ?_
              have hx := xA.trans xB
              have hsB : SetsAt wB vB [s] := (SetsC.one (hd12.ext hx)).sets slB
              refine wph_nil ⟨hx, ?_⟩
              refine wph_one (i := 8) (by decide +kernel) rfl rfl ?_
              refine wpl_callR (enters_of Tryz.func43 rfl rfl) rfl rfl (t10 vB _ _ hsB (by rw [records_one, recsOf, List.length_map]; omega)) ?_
              intro rC wC xC oC
              rw [records_one] at oC
              refine gset ?_
              have hx := hx.trans xC
              refine wph_nil ⟨hx, ?_⟩
              refine wph_one (i := 9) (by decide +kernel) rfl rfl ?_
              refine wpl_callV (enters_of Tryz.func42 rfl rfl) rfl rfl (r3_Same u1 rC (recsOf s) (recsOf s) _ (g1.ext hx) oC.sl) ?_
              intro wD xD
              refine gset ?_
              have hx := hx.trans xD
              refine wph_nil ⟨hx, ?_⟩
              refine tk 10 ?_; refine gset ?_; refine tk 11 ?_; refine gset ?_
              refine wph_one (i := 12) (by decide +kernel) rfl rfl ?_
              refine wpl_callV (enters_of Tryz.func38 rfl rfl) rfl rfl (l9_live _) ?_
              intro wE xE
              refine gset ?_
              have hx := hx.trans xE
              refine wph_nil ⟨hx, ?_⟩
              refine tk 13 ?_; refine gset ?_; refine tk 14 ?_; refine gset ?_
              refine wph_done (by decide +kernel) ?_
              repeat' (first | ((with_reducible refine o_s ?_); (first | (refine o_1 ?_; refine o_2 ?_) | (refine o_g ?_; first | refine o_u ?_ | refine o_k ?_ | refine o_n ?_ | refine o_v ?_ | ((first | refine o_G ?_ ?_ | refine o_N ?_ ?_) <;> intro hc)))) | ((fail_if_success (with_reducible refine o_s ?_)); go_step))
              go_ret
              exact ⟨rfl, hx12.trans hx⟩
            | false =>
              repeat' (first | ((with_reducible refine o_s ?_); (first | (refine o_1 ?_; refine o_2 ?_) | (refine o_g ?_; first | refine o_u ?_ | refine o_k ?_ | refine o_n ?_ | refine o_v ?_ | ((first | refine o_G ?_ ?_ | refine o_N ?_ ?_) <;> intro hc)))) | ((fail_if_success (with_reducible refine o_s ?_)); go_step))
              refine wph_region (S := fun w' => Ext w12 w') (by decide +kernel) ?_
              intro wA xA hhA
              refine tk 0 ?_; refine gset ?_; refine tk 1 ?_; refine gset ?_; refine tk 2 ?_; refine gset ?_; refine tk 3 ?_; refine gset ?_; refine tk 4 ?_; refine gset ?_; refine tk 5 ?_; refine gset ?_; refine tk 6 ?_; refine gset ?_
              refine wph_one (i := 7) (by decide +kernel) rfl rfl ?_
              refine wpl_slice (e := 55) (k := 4) (bytes := 56) (xs := [.agg #[str s.name, .int .i64 s.kind, .int .i64 s.ttl, x]]) rfl rfl rfl (by simp [Value.cells]) (by decide +kernel) (by simp) ?_
              intro vB wB xB _ slB _
              refine gset ?_
              have hx := xA.trans xB
              have hsB : SetsAt wB vB [s] := (SetsC.one (hd12.ext hx)).sets slB
              refine wph_nil ⟨hx, ?_⟩
              refine wph_one (i := 8) (by decide +kernel) rfl rfl ?_
              refine wpl_callR (enters_of Tryz.func43 rfl rfl) rfl rfl (t10 vB _ _ hsB (by rw [records_one, recsOf, List.length_map]; omega)) ?_
              intro rC wC xC oC
              rw [records_one] at oC
              refine gset ?_
              have hx := hx.trans xC
              refine wph_nil ⟨hx, ?_⟩
              refine wph_one (i := 9) (by decide +kernel) rfl rfl ?_
              refine wpl_callV (enters_of Tryz.func42 rfl rfl) rfl rfl (r3_Same u1 rC (recsOf s) (recsOf s) _ (g1.ext hx) oC.sl) ?_
              intro wD xD
              refine gset ?_
              have hx := hx.trans xD
              refine wph_nil ⟨hx, ?_⟩
              refine tk 10 ?_; refine gset ?_; refine tk 11 ?_; refine gset ?_
              refine wph_one (i := 12) (by decide +kernel) rfl rfl ?_
              refine wpl_callV (enters_of Tryz.func38 rfl rfl) rfl rfl (l9_live _) ?_
              intro wE xE
              refine gset ?_
              have hx := hx.trans xE
              refine wph_nil ⟨hx, ?_⟩
              refine tk 13 ?_; refine gset ?_; refine tk 14 ?_; refine gset ?_
              refine wph_done (by decide +kernel) ?_
              repeat' (first | ((with_reducible refine o_s ?_); (first | (refine o_1 ?_; refine o_2 ?_) | (refine o_g ?_; first | refine o_u ?_ | refine o_k ?_ | refine o_n ?_ | refine o_v ?_ | ((first | refine o_G ?_ ?_ | refine o_N ?_ ?_) <;> intro hc)))) | ((fail_if_success (with_reducible refine o_s ?_)); go_step))
              go_ret
              exact ⟨rfl, hx12.trans hx⟩
        · rw [decide_eq_true (show ((cv.length : Int) ≤ (j : Int)) by omega)]
          repeat' (first | ((with_reducible refine o_s ?_); (first | (refine o_1 ?_; refine o_2 ?_) | (refine o_g ?_; first | refine o_u ?_ | refine o_k ?_ | refine o_n ?_ | refine o_v ?_ | ((first | refine o_G ?_ ?_ | refine o_N ?_ ?_) <;> intro hc)))) | ((fail_if_success (with_reducible refine o_s ?_)); go_step))
          refine wpl_callV (enters_of Tryz.func38 rfl rfl) rfl rfl (l9_live _) ?_; intro w4 x4; refine gset ?_
          repeat' (first | ((with_reducible refine o_s ?_); (first | (refine o_1 ?_; refine o_2 ?_) | (refine o_g ?_; first | refine o_u ?_ | refine o_k ?_ | refine o_n ?_ | refine o_v ?_ | ((first | refine o_G ?_ ?_ | refine o_N ?_ ?_) <;> intro hc)))) | ((fail_if_success (with_reducible refine o_s ?_)); go_step))
          go_ret
          exact ⟨rfl, hx3.trans x4⟩
    · ((with_reducible refine o_s ?_); (first | (refine o_1 ?_; refine o_2 ?_) | (refine o_g ?_; refine o_u ?_; (with_reducible refine o_s ?_); refine o_1 ?_; refine o_2 ?_)))
      rw [decide_eq_false q1]
      simp only [Bool.not_false]
      repeat' (first | ((with_reducible refine o_s ?_); (first | (refine o_1 ?_; refine o_2 ?_) | (refine o_g ?_; first | refine o_u ?_ | refine o_k ?_ | refine o_n ?_ | refine o_v ?_ | ((first | refine o_G ?_ ?_ | refine o_N ?_ ?_) <;> intro hc)))) | ((fail_if_success (with_reducible refine o_s ?_)); go_step))
      refine wpl_callV (enters_of Tryz.func38 rfl rfl) rfl rfl (l9_live _) ?_; intro w4 x4; refine gset ?_
      repeat' (first | ((with_reducible refine o_s ?_); (first | (refine o_1 ?_; refine o_2 ?_) | (refine o_g ?_; first | refine o_u ?_ | refine o_k ?_ | refine o_n ?_ | refine o_v ?_ | ((first | refine o_G ?_ ?_ | refine o_N ?_ ?_) <;> intro hc)))) | ((fail_if_success (with_reducible refine o_s ?_)); go_step))
      go_ret
      exact ⟨rfl, hx3.trans x4⟩
open Go.ChangeShapes Go.WideShapes Go.ChangeAt Go.RowKit
theorem own : ownKnob Tryz.prog.godebug = none := by kernel_rfl
theorem laidOut : laidOutB Tryz.prog = true := by kernel_rfl
open Go.ChangeShapes Go.WideShapes Go.ChangeAt Go.RowKit
theorem open_texts {H : Type} {enc : TypeId × Value → H} {w : World} {base : Nat} {spare : Nat → Bool} {held : Bool} {fuel : Nat} {v : Value} {x : DataW H × List MemPlace} (h : DataW.trod enc Tryz.prog w base spare held fuel 53 [v] = some x) : ∃ l : List (List UInt8), Sl 1 w v (tcells l) := by
  obtain ⟨es, hs, he⟩ := open_rows Tryz.underlying53 (show Tryz.prog.cellsOf 9 = 1 by kernel_rfl) (by omega) h
  obtain ⟨l, rfl⟩ : ∃ l : List (List UInt8), es = l.map fun s => [str s] := by
    refine all_map fun c hc => ?_
    obtain ⟨n, y, hy⟩ := he c hc
    have hl : c.length = 1 := by
      obtain ⟨_, _, _, _, _, h4, _, _⟩ := hs
      exact h4 c hc
    match c, hl with
    | [a], _ =>
      obtain ⟨s, rfl, _⟩ := trod_str Tryz.underlying9 hy
      exact ⟨s, rfl⟩
  exact ⟨l, hs⟩
theorem open_sets {H : Type} {enc : TypeId × Value → H} {w : World} {base : Nat} {spare : Nat → Bool} {held : Bool} {fuel : Nat} {v : Value} {x : DataW H × List MemPlace} (h : DataW.trod enc Tryz.prog w base spare held fuel 23 [v] = some x) : ∃ l : List RSet, SetsAt w v l := by
  obtain ⟨es, hs, he⟩ := open_rows Tryz.underlying23 (show Tryz.prog.cellsOf 55 = 4 by kernel_rfl) (by omega) h
  obtain ⟨l, rfl⟩ : ∃ l : List {p : RSet × Value // Sl 1 w p.2 (tcells p.1.data)}, es = l.map fun p => [str p.1.1.name, .int .i64 p.1.1.kind, .int .i64 p.1.1.ttl, p.1.2] := by
    refine all_map fun c hc => ?_
    obtain ⟨n, y, hy⟩ := he c hc
    obtain ⟨xs, n', _, _, hl, hxl, hf⟩ := DataW.trod_struct Tryz.underlying55 hy
    have c30 : Tryz.prog.cellsOf 22 = 1 := by kernel_rfl
    have c3 : Tryz.prog.cellsOf 3 = 1 := by kernel_rfl
    have c35 : Tryz.prog.cellsOf 53 = 1 := by kernel_rfl
    have c37 : Tryz.prog.cellsOf 55 = 4 := by kernel_rfl
    rw [c37] at hl
    match c, hl, xs, hxl with
    | [a, b, d, e], _, [y0, y1, y2, y3], _ =>
      have g0 := hf 0 _ rfl
      have g1 := hf 1 _ rfl
      have g2 := hf 2 _ rfl
      have g3 := hf 3 _ rfl
      simp [c30, c3, c35] at g0 g1 g2 g3
      obtain ⟨s0, rfl, _⟩ := trod_str Tryz.underlying22 g0
      obtain ⟨n1, rfl, _⟩ := trod_num Tryz.underlying3 g1
      obtain ⟨n2, rfl, _⟩ := trod_num Tryz.underlying3 g2
      obtain ⟨ts, hts⟩ := open_texts g3
      exact ⟨⟨(⟨s0, n1, n2, ts⟩, e), hts⟩, rfl⟩
  refine ⟨l.map fun p => p.1.1, _, hs, by simp, ?_⟩
  intro i s hi
  rw [List.getElem?_map] at hi
  obtain ⟨p, hp, rfl⟩ := Option.map_eq_some_iff.1 hi
  exact ⟨p.1.2, by rw [List.getElem?_map, hp]; rfl, p.2⟩
open Go.ChangeShapes Go.WideShapes Go.ChangeAt Go.RowKit
theorem open_zone {H : Type} {enc : TypeId × Value → H} {w : World} {base : Nat} {spare : Nat → Bool} {held : Bool} {fuel : Nat} {c : Array Value} {x : DataW H × List MemPlace} (h : DataW.trod enc Tryz.prog w base spare held fuel 25 (Value.agg c).cells.toList = some x) : ∃ (o : List UInt8) (l : List RSet) (u : Value), c = #[str o, u] ∧ SetsAt w u l := by
  have e : (Value.agg c).cells.toList = c.toList := rfl
  rw [e] at h
  obtain ⟨xs, n', _, _, hl, hxl, hf⟩ := DataW.trod_struct Tryz.underlying25 h
  have c30 : Tryz.prog.cellsOf 22 = 1 := by kernel_rfl
  have c25 : Tryz.prog.cellsOf 23 = 1 := by kernel_rfl
  have c43 : Tryz.prog.cellsOf 25 = 2 := by kernel_rfl
  rw [c43] at hl
  obtain ⟨cl⟩ := c
  match cl, hl, xs, hxl with
  | [a, b], _, [y0, y1], _ =>
    have g0 := hf 0 _ rfl
    have g1 := hf 1 _ rfl
    simp [c30, c25] at g0 g1
    obtain ⟨s0, rfl, _⟩ := trod_str Tryz.underlying22 g0
    obtain ⟨l, hls⟩ := open_sets g1
    exact ⟨s0, l, b, rfl, hls⟩
open Go.ChangeShapes Go.WideShapes Go.ChangeAt Go.RowKit
set_option maxRecDepth 100000 in
theorem lookupSets_lifted (os : Os) (started : os.Started) (H : Type) (enc : TypeId × Value → H) :
    ReturnsInHanded {} Tryz.checked os 10 .any (YtoajkilickakiaaGreat.Rows.lookupSetsSpec.pre6 enc Tryz.prog Tryz.f10 YtoajkilickakiaaGreat.Rows.lookupSetsRow.domain false) (YtoajkilickakiaaGreat.Rows.lookupSetsSpec.post enc Tryz.prog Tryz.f10 false true false false) := by
  refine returnsInHanded_of_change (C := Tryz.checked) own started (by kernel_rfl) Tryz.func10
    (ChangeSpec.witness6 (enc := enc) (C := Tryz.checked) false ⟨#[], #[.agg #[str [], .slice none 0 0], .int .i64 0], []⟩ 8 (by kernel_rfl) (by kernel_rfl) (by kernel_rfl) (by kernel_rfl)) ?_
  intro W base args ds gs before hval0 hW hcnd _
  have hW' := hW
  obtain ⟨p, q, hA0, hV, rfl, hfz, hnd⟩ := hW
  have hA : DataW.TrodAll enc Tryz.prog W 0 (fun _ => true) true Tryz.f10.params.toList args.toList ds p := hA0
  have hval : ∀ (j : Nat) t v, Tryz.f10.params[j]? = some t → args[j]? = some v → Value.okWide Tryz.prog W .any base t v := hval0
  rw [Tryz.params10] at hA hval
  obtain ⟨v0, vs0, d0, ds0, p0, q0, hargs, rfl, rfl, h0, r0⟩ := trodAll_cons hA
  obtain ⟨v1, vs1, d1, ds1, p1, q1, rfl, rfl, rfl, h1, r1⟩ := trodAll_cons r0
  obtain ⟨rfl, rfl, rfl⟩ := trodAll_nil r1
  obtain rfl : args = #[v0, v1] := by cases args; simp_all
  obtain ⟨rfl, rfl⟩ := trodVars_none hV
  have k0 := h0
  have k1 := h1
  have lt0 : ∀ x ∈ p0, x.block < W.heap.size := by obtain ⟨m, hm⟩ := k0; exact DataW.trod_lt m _ _ _ hm
  have lt1 : ∀ x ∈ p1, x.block < W.heap.size := by obtain ⟨m, hm⟩ := k1; exact DataW.trod_lt m _ _ _ hm
  obtain ⟨c0, rfl, z0⟩ := okWide_struct Tryz.underlying25 (hval 0 25 v0 rfl rfl)
  obtain ⟨o0, l0, w0, e0, g0⟩ : ∃ (o : List UInt8) (l : List RSet) (u : Value), c0 = #[str o, u] ∧ SetsAt W u l := by
    obtain ⟨fuel, hf⟩ := h0
    exact open_zone hf
  subst e0
  obtain ⟨n1, rfl⟩ := okWide_int Tryz.underlying3 (hval 1 3 v1 rfl rfl)
  clear hA0 hval0
  have h9 := k10 o0 w0 l0 n1 W g0
  refine h9.mono fun e W' ⟨he, hx⟩ => ?_
  subst he
  have bel := hx.below
  exact ⟨_, rfl, _, _, _, [], _, [], hW', trodAll_mk1 (shut_bool Tryz.underlying4 _), (trodAll_cons_mk (Below.trod laidOut (by kernel_rfl) (of_decide_eq_true (by kernel_rfl)) k0 bel lt0) (trodAll_cons_mk (Below.trod laidOut (by kernel_rfl) (of_decide_eq_true (by kernel_rfl)) k1 bel lt1) trodAll_mk0)), rfl, bel.frame _, fun h => by cases h⟩
theorem e_enter : Tryz.checked.prog.mayEnter = true := by kernel_rfl
theorem e_lift : (YtoajkilickakiaaGreat.Rows.lookupSetsRow.lifted == Tryz.checked.prog.liftsFinal) = true := by kernel_rfl
theorem e_make : (Tryz.checked.prog.make == some YtoajkilickakiaaGreat.Rows.lookupSetsRow.make) = true := by kernel_rfl
theorem lookupSets_closed : joinedFacts Tryz.checked.prog 10 Tryz.f10 YtoajkilickakiaaGreat.Rows.lookupSetsSpec YtoajkilickakiaaGreat.Rows.lookupSetsRow = true := by
  unfold joinedFacts
  simp only [Bool.and_eq_true]
  repeat' (refine And.intro ?_ ?_)
  all_goals first | (with_reducible exact e_enter) | (with_reducible exact e_lift) | (with_reducible exact e_make) | kernel_rfl
theorem lookupSets_holds : YtoajkilickakiaaGreat.Rows.LookupSetsSaid :=
  OpenClaim.holds_of_wide 10 Tryz.f10 rfl rfl rfl rfl rfl rfl rfl ⟨rfl, rfl, rfl, rfl, rfl⟩ rfl rfl rfl rfl rfl (by kernel_rfl) Tryz.func10 lookupSets_closed
    (of_decide_eq_true (by kernel_rfl)) (by unfold Func.isWrapper; first | (rw [if_pos (by decide +kernel)]; kernel_rfl) | (rw [if_neg (by decide +kernel)]; exact ⟨rfl, rfl⟩))
    (fun os started H enc _ => lookupSets_lifted os started H enc)
end Go.Proofs.X
