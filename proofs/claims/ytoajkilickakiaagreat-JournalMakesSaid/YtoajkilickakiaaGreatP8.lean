/- Laws and walks that the proof of the statement is made of (part 8). -/
import Derived.Test.YtoajkilickakiaaGreatProg
import Derived.Lib.Hide
import Derived.Test.YtoajkilickakiaaGreatShelf
import Derived.Shelf.SlSortCmp.NoneTotal
import Derived.OwnWalk
import Derived.Shelf.RegionOpenPlain
import Derived.Lib.Strings
import Derived.Lib.Slices
import Derived.Lib.Walk
import Derived.Lib.Builder
import Derived.Lib.AppendStr
import Derived.Lib.UnsafeStr
import Derived.Lib.MakeNoZero
import Derived.WalkKit
import Derived.Laws.Externs
import Derived.Laws.IdiomCopy
import Derived.Laws.BitsLemmas
import GoSem.Claims
import Derived.Test.YtoajkilickakiaaGreatP1
import Derived.Test.YtoajkilickakiaaGreatP2
import Derived.Test.YtoajkilickakiaaGreatP3
import Derived.Test.YtoajkilickakiaaGreatP4
import Derived.Test.YtoajkilickakiaaGreatP5
import Derived.Test.YtoajkilickakiaaGreatP6
import Derived.Test.YtoajkilickakiaaGreatP7
set_option linter.unusedSimpArgs false
set_option linter.unusedVariables false
namespace Go.Proofs.X
open Go.RowKit
set_option maxRecDepth 100000
theorem r3_NumAt (r : List UInt8) (i : Nat) (w : World) (hr : r.length = 20) (hi : i < 5) : Calls Tryz.prog 152 #[str ((r.take (4 * i + 4)).drop (4 * i))] w (RetV w (.int .i64 (numP r i 4 : Nat))) := by
  rw [← numU4 hr hi]
  exact r3_Num4 _ w (by simp; omega)
set_option maxHeartbeats 24000000 in
theorem r3_ParseSoa (d : List UInt8) (w : World) (hl : d.length ≤ 4611686018427387904) : Calls Tryz.prog 110 #[str d] w (RetV w (match parseSoa d with | some s => .tuple #[.agg s.cells.toArray, .int .i64 0] | none => .tuple #[.agg zeroSoa.toArray, .int .i64 2])) := by
  have hps := parseSoa_ref d
  have l1 := firstR_le d
  have l2 := firstR_le (d.drop (firstR d))
  rw [List.length_drop] at l2
  have hd := firstR_firstN d
  have he := firstR_firstN (d.drop (firstR d))
  go_enter Tryz.func110, Tryz.ntmps110
  repeat' ((fail_if_success (with_reducible refine o_s ?_)); go_step)
  refine wpl_allocB (z := zeroSoa) rfl (by decide +kernel) ?_
  intro w1 x1 s1 h1
  refine gset ?_
  repeat' (first | ((with_reducible refine o_s ?_); (first | (refine o_1 ?_; refine o_2 ?_) | (refine o_g ?_; first | refine o_u ?_ | refine o_k ?_ | refine o_n ?_ | refine o_v ?_ | ((first | refine o_G ?_ ?_ | refine o_N ?_ ?_) <;> intro hc)))) | ((fail_if_success (with_reducible refine o_s ?_)); go_step))
  refine wpl_callV (enters_of Tryz.func151 rfl rfl) rfl rfl (r3_first d _ hl) ?_; intro w2 x2; refine gset ?_
  have h1 := x2.at h1
  have x12 := x1.trans x2
  repeat' (first | ((with_reducible refine o_s ?_); (first | (refine o_1 ?_; refine o_2 ?_) | (refine o_g ?_; first | refine o_u ?_ | refine o_k ?_ | refine o_n ?_ | refine o_v ?_ | ((first | refine o_G ?_ ?_ | refine o_N ?_ ?_) <;> intro hc)))) | ((fail_if_success (with_reducible refine o_s ?_)); go_step))
  · have hz := ‹((firstR d : Nat) : Int) = 0›
    refine wpl_run (v := .agg zeroSoa.toArray) rfl (Runs.build (parts := []) (vals := []) rfl (by kernel_rfl)) ?_
    refine gset ?_
    refine wpl_storeB (v := .agg zeroSoa.toArray) rfl rfl rfl h1 (by decide +kernel) rfl (by decide +kernel) ?_
    intro w7 p7
    have x7 : Ext w w7 := x12.move p7.mv (by rintro k ⟨⟩; omega)
    have h17 : w7.heap[w.heap.size]? = some (.cells zeroSoa.toArray 103 (0, 0)) := p7.this
    repeat' (first | ((with_reducible refine o_s ?_); (first | (refine o_1 ?_; refine o_2 ?_) | (refine o_g ?_; first | refine o_u ?_ | refine o_k ?_ | refine o_n ?_ | refine o_v ?_ | ((first | refine o_G ?_ ?_ | refine o_N ?_ ?_) <;> intro hc)))) | ((fail_if_success (with_reducible refine o_s ?_)); go_step))
    refine bodyPost_ret (results_cellT (cs := zeroSoa) rfl rfl h17 (by decide +kernel)) rfl ⟨?_, x7⟩
    rw [hps, if_pos (by omega)]
    rfl
  · have hz := ‹¬((firstR d : Nat) : Int) = 0›
    rw [if_neg (by omega)] at hps
    refine wpl_callV (enters_of Tryz.func151 rfl rfl) rfl rfl (r3_first (d.drop (firstR d)) _ (by simp; omega)) ?_; intro w3 x3; refine gset ?_
    have h1 := x3.at h1
    have x13 := x12.trans x3
    clear x1 x2 x3 x12
    have hsoa : (soaOf d).cells = [str (d.take (firstR d - 1)), str ((d.drop (firstR d)).take (firstR (d.drop (firstR d)) - 1)), .int .i64 (numP ((d.drop (firstR d)).drop (firstR (d.drop (firstR d)))) 0 4 : Nat), .int .i64 (numP ((d.drop (firstR d)).drop (firstR (d.drop (firstR d)))) 1 4 : Nat), .int .i64 (numP ((d.drop (firstR d)).drop (firstR (d.drop (firstR d)))) 2 4 : Nat), .int .i64 (numP ((d.drop (firstR d)).drop (firstR (d.drop (firstR d)))) 3 4 : Nat), .int .i64 (numP ((d.drop (firstR d)).drop (firstR (d.drop (firstR d)))) 4 4 : Nat)] ∨ firstR (d.drop (firstR d)) = 0 := by
      by_cases hm : firstR (d.drop (firstR d)) = 0
      · exact .inr hm
      · rw [if_neg (by omega)] at hd
        rw [if_neg hm] at he
        left
        simp only [SoaR.cells, soaOf, hd, he]
    repeat' (first | ((with_reducible refine o_s ?_); (first | (refine o_1 ?_; refine o_2 ?_) | (refine o_g ?_; first | refine o_u ?_ | refine o_k ?_ | refine o_n ?_ | refine o_v ?_ | ((first | refine o_G ?_ ?_ | refine o_N ?_ ?_) <;> intro hc)))) | ((fail_if_success (with_reducible refine o_s ?_)); go_step))
    rotate_left
    · have hm := ‹¬((firstR (d.drop (firstR d)) : Nat) : Int) = 0›
      have hlen := ‹(!decide ((d.length : Int) = ((firstR d : Nat) : Int) + ((firstR (d.drop (firstR d)) : Nat) : Int) + 20)) = false›
      have hlen : d.length = firstR d + firstR (d.drop (firstR d)) + 20 := by simp at hlen; omega
      rw [if_neg (by omega)] at hps
      have hsoa := hsoa.resolve_right (by omega)
      generalize hn : firstR d = n at *
      generalize hmm : firstR (d.drop n) = m at *
      have ht : (d.drop ((n : Int) + (m : Int)).toNat) = (d.drop n).drop m := by rw [List.drop_drop]; congr 1
      rw [ht]
      have htl : ((d.drop n).drop m).length = 20 := by simp; omega
      generalize hr : (d.drop n).drop m = r at *
      refine wph_region (S := fun w' => Ext w3 w') (by decide +kernel) ?_
      intro w4 x4 hh4
      refine tk 0 ?_; refine gset ?_; refine tk 1 ?_; refine gset ?_; refine tk 2 ?_; refine gset ?_; refine tk 3 ?_; refine gset ?_; refine tk 4 ?_; refine gset ?_; refine tk 5 ?_; refine gset ?_; refine tk 6 ?_; refine gset ?_; refine tk 7 ?_; refine gset ?_; refine tk 8 ?_; refine gset ?_; refine tk 9 ?_; refine gset ?_; refine tk 10 ?_; refine gset ?_; refine tk 11 ?_; refine gset ?_; refine tk 12 ?_; refine gset ?_; refine tk 14 ?_; refine gset ?_; refine tk 15 ?_; refine gset ?_; refine tk 17 ?_; refine gset ?_; refine tk 18 ?_; refine gset ?_; refine tk 20 ?_; refine gset ?_; refine tk 21 ?_; refine gset ?_; refine tk 23 ?_; refine gset ?_; refine tk 24 ?_; refine gset ?_
      have hx := x4
      have hA : d.take ((n : Int) - 1).toNat = d.take (n - 1) := by congr 1; omega
      rw [hA]
      have hB : (d.take ((n : Int) + (m : Int) - 1).toNat).drop n = (d.drop n).take (m - 1) := by
        rw [List.drop_take]; congr 1; omega
      rw [hB]
      apply meet2 (F := fun (b : Nat) w' => Ext w3 w' ∧ w4.heap.size ≤ b ∧ w'.heap[b]? = some (.cells zeroSoa.toArray 103 (0, 0)))
      · intro hG
        have hx0 := hx
        have hx : Ext w4 w4 := Ext.refl _
        refine wph_two (i := 13) (j := 27) (by decide +kernel) rfl rfl rfl ?_ ?_
        · refine wpl_callV (enters_of Tryz.func152 rfl rfl) rfl rfl (r3_NumAt r 0 _ htl (by omega)) ?_
          intro w_1 x_1
          have hx := hx.trans x_1
          refine gset ?_
          refine wph_nil ⟨hx0.trans hx, ?_⟩
          refine wph_two (i := 16) (j := 27) (by decide +kernel) rfl rfl rfl ?_ ?_
          · refine wpl_callV (enters_of Tryz.func152 rfl rfl) rfl rfl (r3_NumAt r 1 _ htl (by omega)) ?_
            intro w_2 x_2
            have hx := hx.trans x_2
            refine gset ?_
            refine wph_nil ⟨hx0.trans hx, ?_⟩
            refine wph_two (i := 19) (j := 27) (by decide +kernel) rfl rfl rfl ?_ ?_
            · refine wpl_callV (enters_of Tryz.func152 rfl rfl) rfl rfl (r3_NumAt r 2 _ htl (by omega)) ?_
              intro w_3 x_3
              have hx := hx.trans x_3
              refine gset ?_
              refine wph_nil ⟨hx0.trans hx, ?_⟩
              refine wph_two (i := 22) (j := 27) (by decide +kernel) rfl rfl rfl ?_ ?_
              · refine wpl_callV (enters_of Tryz.func152 rfl rfl) rfl rfl (r3_NumAt r 3 _ htl (by omega)) ?_
                intro w_4 x_4
                have hx := hx.trans x_4
                refine gset ?_
                refine wph_nil ⟨hx0.trans hx, ?_⟩
                refine wph_two (i := 25) (j := 27) (by decide +kernel) rfl rfl rfl ?_ ?_
                · refine wpl_callV (enters_of Tryz.func152 rfl rfl) rfl rfl (r3_NumAt r 4 _ htl (by omega)) ?_
                  intro w_5 x_5
                  have hx := hx.trans x_5
                  refine gset ?_
                  refine wph_nil ⟨hx0.trans hx, ?_⟩
                  refine wph_take (i := 26) (v := .agg (soaOf d).cells.toArray) rfl rfl (by decide +kernel) (by decide +kernel) (by decide +kernel) rfl (hx0.trans hx) (fun w' _ => by rw [hsoa]; exact Runs.build rfl (by kernel_rfl)) (fun _ _ _ h => h) ?_; refine gset ?_
                  refine wph_one (i := 27) (by decide +kernel) rfl rfl ?_
                  refine wpl_allocB (z := zeroSoa) rfl (by decide +kernel) ?_
                  intro w_6 x_6 s_6 ha
                  have hb := hx.size
                  have hx := hx.trans x_6
                  generalize w_5.heap.size = b at *
                  refine gset ?_
                  refine wph_nil ⟨hx0.trans hx, ?_⟩
                  exact hG _ _ ⟨hx0.trans hx, hb, ha⟩
                · refine wpl_allocB (z := zeroSoa) rfl (by decide +kernel) ?_
                  intro w_7 x_7 s_7 ha
                  have hb := hx.size
                  have hx := hx.trans x_7
                  generalize w_4.heap.size = b at *
                  refine gset ?_
                  refine wph_nil ⟨hx0.trans hx, ?_⟩
                  refine wph_one (i := 25) (by decide +kernel) rfl rfl ?_
                  refine wpl_callV (enters_of Tryz.func152 rfl rfl) rfl rfl (r3_NumAt r 4 _ htl (by omega)) ?_
                  intro w_8 x_8
                  have hx := hx.trans x_8
                  have ha := x_8.at ha
                  refine gset ?_
                  refine wph_nil ⟨hx0.trans hx, ?_⟩
                  refine wph_take (i := 26) (v := .agg (soaOf d).cells.toArray) rfl rfl (by decide +kernel) (by decide +kernel) (by decide +kernel) rfl (hx0.trans hx) (fun w' _ => by rw [hsoa]; exact Runs.build rfl (by kernel_rfl)) (fun _ _ _ h => h) ?_; refine gset ?_
                  exact hG _ _ ⟨hx0.trans hx, hb, ha⟩
              · refine wpl_allocB (z := zeroSoa) rfl (by decide +kernel) ?_
                intro w_9 x_9 s_9 ha
                have hb := hx.size
                have hx := hx.trans x_9
                generalize w_3.heap.size = b at *
                refine gset ?_
                refine wph_nil ⟨hx0.trans hx, ?_⟩
                refine wph_one (i := 22) (by decide +kernel) rfl rfl ?_
                refine wpl_callV (enters_of Tryz.func152 rfl rfl) rfl rfl (r3_NumAt r 3 _ htl (by omega)) ?_
                intro w_10 x_10
                have hx := hx.trans x_10
                have ha := x_10.at ha
                refine gset ?_
                refine wph_nil ⟨hx0.trans hx, ?_⟩
                refine wph_one (i := 25) (by decide +kernel) rfl rfl ?_
                refine wpl_callV (enters_of Tryz.func152 rfl rfl) rfl rfl (r3_NumAt r 4 _ htl (by omega)) ?_
                intro w_11 x_11
                have hx := hx.trans x_11
                have ha := x_11.at ha
                refine gset ?_
                refine wph_nil ⟨hx0.trans hx, ?_⟩
                refine wph_take (i := 26) (v := .agg (soaOf d).cells.toArray) rfl rfl (by decide +kernel) (by decide +kernel) (by decide +kernel) rfl (hx0.trans hx) (fun w' _ => by rw [hsoa]; exact Runs.build rfl (by kernel_rfl)) (fun _ _ _ h => h) ?_; refine gset ?_
                exact hG _ _ ⟨hx0.trans hx, hb, ha⟩
            · refine wpl_allocB (z := zeroSoa) rfl (by decide +kernel) ?_
              intro w_12 x_12 s_12 ha
              have hb := hx.size
              have hx := hx.trans x_12
              generalize w_2.heap.size = b at *
              refine gset ?_
              refine wph_nil ⟨hx0.trans hx, ?_⟩
              refine wph_one (i := 19) (by decide +kernel) rfl rfl ?_
              refine wpl_callV (enters_of Tryz.func152 rfl rfl) rfl rfl (r3_NumAt r 2 _ htl (by omega)) ?_
              intro w_13 x_13
              have hx := hx.trans x_13
              have ha := x_13.at ha
              refine gset ?_
              refine wph_nil ⟨hx0.trans hx, ?_⟩
              refine wph_one (i := 22) (by decide +kernel) rfl rfl ?_
              refine wpl_callV (enters_of Tryz.func152 rfl rfl) rfl rfl (r3_NumAt r 3 _ htl (by omega)) ?_
              intro w_14 x_14
              have hx := hx.trans x_14
              have ha := x_14.at ha
              refine gset ?_
              refine wph_nil ⟨hx0.trans hx, ?_⟩
              refine wph_one (i := 25) (by decide +kernel) rfl rfl ?_
              refine wpl_callV (enters_of Tryz.func152 rfl rfl) rfl rfl (r3_NumAt r 4 _ htl (by omega)) ?_
              intro w_15 x_15
              have hx := hx.trans x_15
              have ha := x_15.at ha
              refine gset ?_
              refine wph_nil ⟨hx0.trans hx, ?_⟩
              refine wph_take (i := 26) (v := .agg (soaOf d).cells.toArray) rfl rfl (by decide +kernel) (by decide +kernel) (by decide +kernel) rfl (hx0.trans hx) (fun w' _ => by rw [hsoa]; exact Runs.build rfl (by kernel_rfl)) (fun _ _ _ h => h) ?_; refine gset ?_
              exact hG _ _ ⟨hx0.trans hx, hb, ha⟩
          · refine wpl_allocB (z := zeroSoa) rfl (by decide +kernel) ?_
            intro w_16 x_16 s_16 ha
            have hb := hx.size
            have hx := hx.trans x_16
            generalize w_1.heap.size = b at *
            refine gset ?_
            refine wph_nil ⟨hx0.trans hx, ?_⟩
            refine wph_one (i := 16) (by decide +kernel) rfl rfl ?_
            refine wpl_callV (enters_of Tryz.func152 rfl rfl) rfl rfl (r3_NumAt r 1 _ htl (by omega)) ?_
            intro w_17 x_17
            have hx := hx.trans x_17
            have ha := x_17.at ha
            refine gset ?_
            refine wph_nil ⟨hx0.trans hx, ?_⟩
            refine wph_one (i := 19) (by decide +kernel) rfl rfl ?_
            refine wpl_callV (enters_of Tryz.func152 rfl rfl) rfl rfl (r3_NumAt r 2 _ htl (by omega)) ?_
            intro w_18 x_18
            have hx := hx.trans x_18
            have ha := x_18.at ha
            refine gset ?_
            refine wph_nil ⟨hx0.trans hx, ?_⟩
            refine wph_one (i := 22) (by decide +kernel) rfl rfl ?_
            refine wpl_callV (enters_of Tryz.func152 rfl rfl) rfl rfl (r3_NumAt r 3 _ htl (by omega)) ?_
            intro w_19 x_19
            have hx := hx.trans x_19
            have ha := x_19.at ha
            refine gset ?_
            refine wph_nil ⟨hx0.trans hx, ?_⟩
            refine wph_one (i := 25) (by decide +kernel) rfl rfl ?_
            refine wpl_callV (enters_of Tryz.func152 rfl rfl) rfl rfl (r3_NumAt r 4 _ htl (by omega)) ?_
            intro w_20 x_20
            have hx := hx.trans x_20
            have ha := x_20.at ha
            refine gset ?_
            refine wph_nil ⟨hx0.trans hx, ?_⟩
            refine wph_take (i := 26) (v := .agg (soaOf d).cells.toArray) rfl rfl (by decide +kernel) (by decide +kernel) (by decide +kernel) rfl (hx0.trans hx) (fun w' _ => by rw [hsoa]; exact Runs.build rfl (by kernel_rfl)) (fun _ _ _ h => h) ?_; refine gset ?_
            exact hG _ _ ⟨hx0.trans hx, hb, ha⟩
        · refine wpl_allocB (z := zeroSoa) rfl (by decide +kernel) ?_
          intro w_21 x_21 s_21 ha
          have hb := hx.size
          have hx := hx.trans x_21
          generalize w4.heap.size = b at *
          refine gset ?_
          refine wph_nil ⟨hx0.trans hx, ?_⟩
          refine wph_one (i := 13) (by decide +kernel) rfl rfl ?_
          refine wpl_callV (enters_of Tryz.func152 rfl rfl) rfl rfl (r3_NumAt r 0 _ htl (by omega)) ?_
          intro w_22 x_22
          have hx := hx.trans x_22
          have ha := x_22.at ha
          refine gset ?_
          refine wph_nil ⟨hx0.trans hx, ?_⟩
          refine wph_one (i := 16) (by decide +kernel) rfl rfl ?_
          refine wpl_callV (enters_of Tryz.func152 rfl rfl) rfl rfl (r3_NumAt r 1 _ htl (by omega)) ?_
          intro w_23 x_23
          have hx := hx.trans x_23
          have ha := x_23.at ha
          refine gset ?_
          refine wph_nil ⟨hx0.trans hx, ?_⟩
          refine wph_one (i := 19) (by decide +kernel) rfl rfl ?_
          refine wpl_callV (enters_of Tryz.func152 rfl rfl) rfl rfl (r3_NumAt r 2 _ htl (by omega)) ?_
          intro w_24 x_24
          have hx := hx.trans x_24
          have ha := x_24.at ha
          refine gset ?_
          refine wph_nil ⟨hx0.trans hx, ?_⟩
          refine wph_one (i := 22) (by decide +kernel) rfl rfl ?_
          refine wpl_callV (enters_of Tryz.func152 rfl rfl) rfl rfl (r3_NumAt r 3 _ htl (by omega)) ?_
          intro w_25 x_25
          have hx := hx.trans x_25
          have ha := x_25.at ha
          refine gset ?_
          refine wph_nil ⟨hx0.trans hx, ?_⟩
          refine wph_one (i := 25) (by decide +kernel) rfl rfl ?_
          refine wpl_callV (enters_of Tryz.func152 rfl rfl) rfl rfl (r3_NumAt r 4 _ htl (by omega)) ?_
          intro w_26 x_26
          have hx := hx.trans x_26
          have ha := x_26.at ha
          refine gset ?_
          refine wph_nil ⟨hx0.trans hx, ?_⟩
          refine wph_take (i := 26) (v := .agg (soaOf d).cells.toArray) rfl rfl (by decide +kernel) (by decide +kernel) (by decide +kernel) rfl (hx0.trans hx) (fun w' _ => by rw [hsoa]; exact Runs.build rfl (by kernel_rfl)) (fun _ _ _ h => h) ?_; refine gset ?_
          exact hG _ _ ⟨hx0.trans hx, hb, ha⟩
      · intro b w5 hF
        obtain ⟨x5, hbb, h5⟩ := hF
        have hsz := x4.size
        have hs1 : w.heap.size < w3.heap.size := (Array.getElem?_eq_some_iff.1 h1).1
        refine wph_one (i := 28) (by decide +kernel) rfl rfl ?_
        refine wpl_storeB (v := .agg (soaOf d).cells.toArray) rfl rfl rfl h5 (show sizeTy Tryz.prog 103 7 = true by decide +kernel) rfl (by rw [hsoa]; simp [Value.cells, Value.oneCell', str]) ?_
        intro w6 p6
        have h16 := p6.at (x5.at h1) (by omega)
        have x36 : Ext w3 w6 := x5.move p6.mv (by rintro k ⟨⟩; omega)
        have x6 := x13.trans x36
        have hb6 : w6.heap[b]? = some (.cells (soaOf d).cells.toArray 103 (0, 0)) := p6.this
        refine wph_nil ⟨x36, ?_⟩
        refine wph_done (by decide +kernel) ?_
        have hp6 := pts_block hb6
        clear p6 h5 x5 hx x4 h1
        repeat' (first | ((with_reducible refine o_s ?_); (first | (refine o_1 ?_; refine o_2 ?_) | (refine o_g ?_; first | refine o_u ?_ | refine o_k ?_ | refine o_n ?_ | refine o_v ?_ | ((first | refine o_G ?_ ?_ | refine o_N ?_ ?_) <;> intro hc)))) | ((fail_if_success (with_reducible refine o_s ?_)); go_step))
        refine wpl_run (v := .agg (soaOf d).cells.toArray) rfl (Runs.loadN (n := 7) hp6 rfl (by decide +kernel)) ?_
        refine gset ?_
        have hm1 : (soaOf d).main.length ≤ 4611686018427387904 := by
          have := congrArg (fun c : List Value => strLen (c.getD 0 undef)) hsoa
          simp only [SoaR.cells, List.getD_cons_zero, strLen_str] at this
          rw [this]; simp; omega
        have hm2 : (soaOf d).mail.length ≤ 4611686018427387904 := by
          have := congrArg (fun c : List Value => strLen (c.getD 1 undef)) hsoa
          simp only [SoaR.cells, List.getD_cons_zero, List.getD_cons_succ, strLen_str] at this
          rw [this]; simp; omega
        refine wpl_callV (enters_of Tryz.func153 rfl rfl) rfl rfl (r3_Soa (soaOf d) _ hm1 hm2) ?_; intro w7 x7; refine gset ?_
        have h16 := x7.at h16
        have hb6 := x7.at hb6
        have x6 := x6.trans x7
        have hp6 := hp6.ext x7
        cases hok : (soaOf d).ok with
        | false =>
          simp only [hok, Bool.false_eq_true, if_false] at hps ⊢
          repeat' (first | ((with_reducible refine o_s ?_); (first | (refine o_1 ?_; refine o_2 ?_) | (refine o_g ?_; first | refine o_u ?_ | refine o_k ?_ | refine o_n ?_ | refine o_v ?_ | ((first | refine o_G ?_ ?_ | refine o_N ?_ ?_) <;> intro hc)))) | ((fail_if_success (with_reducible refine o_s ?_)); go_step))
          refine wpl_run (v := .agg zeroSoa.toArray) rfl (Runs.build (parts := []) (vals := []) rfl (by kernel_rfl)) ?_
          refine gset ?_
          refine wpl_storeB (v := .agg zeroSoa.toArray) rfl rfl rfl h16 (by decide +kernel) rfl (by decide +kernel) ?_
          intro w8 p8
          have x8 : Ext w w8 := x6.move p8.mv (by rintro k ⟨⟩; omega)
          have h18 : w8.heap[w.heap.size]? = some (.cells zeroSoa.toArray 103 (0, 0)) := p8.this
          repeat' (first | ((with_reducible refine o_s ?_); (first | (refine o_1 ?_; refine o_2 ?_) | (refine o_g ?_; first | refine o_u ?_ | refine o_k ?_ | refine o_n ?_ | refine o_v ?_ | ((first | refine o_G ?_ ?_ | refine o_N ?_ ?_) <;> intro hc)))) | ((fail_if_success (with_reducible refine o_s ?_)); go_step))
          refine bodyPost_ret (results_cellT (cs := zeroSoa) rfl rfl h18 (by decide +kernel)) rfl ⟨?_, x8⟩
          rw [hps]
          rfl
        | true =>
          simp only [hok, if_true] at hps ⊢
          repeat' (first | ((with_reducible refine o_s ?_); (first | (refine o_1 ?_; refine o_2 ?_) | (refine o_g ?_; first | refine o_u ?_ | refine o_k ?_ | refine o_n ?_ | refine o_v ?_ | ((first | refine o_G ?_ ?_ | refine o_N ?_ ?_) <;> intro hc)))) | ((fail_if_success (with_reducible refine o_s ?_)); go_step))
          refine wpl_run (v := .agg (soaOf d).cells.toArray) rfl (Runs.loadN (n := 7) hp6 rfl (by decide +kernel)) ?_
          refine gset ?_
          refine wpl_storeB (v := .agg (soaOf d).cells.toArray) rfl rfl rfl h16 (show sizeTy Tryz.prog 103 7 = true by decide +kernel) rfl (by rw [hsoa]; simp [Value.cells, Value.oneCell', str]) ?_
          intro w8 p8
          have x8 : Ext w w8 := x6.move p8.mv (by rintro k ⟨⟩; omega)
          have h18 : w8.heap[w.heap.size]? = some (.cells (soaOf d).cells.toArray 103 (0, 0)) := p8.this
          repeat' (first | ((with_reducible refine o_s ?_); (first | (refine o_1 ?_; refine o_2 ?_) | (refine o_g ?_; first | refine o_u ?_ | refine o_k ?_ | refine o_n ?_ | refine o_v ?_ | ((first | refine o_G ?_ ?_ | refine o_N ?_ ?_) <;> intro hc)))) | ((fail_if_success (with_reducible refine o_s ?_)); go_step))
          refine bodyPost_ret (results_cellT (cs := (soaOf d).cells) rfl rfl h18 (show aggTy Tryz.prog 103 7 = true by decide +kernel)) rfl ⟨?_, x8⟩
          rw [hps]
          rfl
    all_goals
      refine wpl_run (v := .agg zeroSoa.toArray) rfl (Runs.build (parts := []) (vals := []) rfl (by kernel_rfl)) ?_
      refine gset ?_
      refine wpl_storeB (v := .agg zeroSoa.toArray) rfl rfl rfl h1 (by decide +kernel) rfl (by decide +kernel) ?_
      intro w7 p7
      have x7 : Ext w w7 := x13.move p7.mv (by rintro k ⟨⟩; omega)
      have h17 : w7.heap[w.heap.size]? = some (.cells zeroSoa.toArray 103 (0, 0)) := p7.this
      repeat' (first | ((with_reducible refine o_s ?_); (first | (refine o_1 ?_; refine o_2 ?_) | (refine o_g ?_; first | refine o_u ?_ | refine o_k ?_ | refine o_n ?_ | refine o_v ?_ | ((first | refine o_G ?_ ?_ | refine o_N ?_ ?_) <;> intro hc)))) | ((fail_if_success (with_reducible refine o_s ?_)); go_step))
      refine bodyPost_ret (results_cellT (cs := zeroSoa) rfl rfl h17 (by decide +kernel)) rfl ⟨?_, x7⟩
      have hbad : firstR (d.drop (firstR d)) = 0 ∨ d.length ≠ firstR d + firstR (d.drop (firstR d)) + 20 := by
        first
          | exact .inl (by omega)
          | exact .inr (by have hq := ‹(!decide ((d.length : Int) = ((firstR d : Nat) : Int) + ((firstR (d.drop (firstR d)) : Nat) : Int) + 20)) = true›; simp at hq; omega)
      rw [hps, if_pos hbad]
      rfl

theorem fits_host (k : Int) (d : List UInt8) : decide ((parseHost k d).2 ≠ 2) = (decide (ahead k < 0) || (decide (ahead k ≤ (d.length : Int)) && (hostN (d.drop (ahead k).toNat)).isSome)) := by
  unfold parseHost
  by_cases h1 : ahead k < 0
  · simp [h1]
  · by_cases h2 : (d.length : Int) < ahead k
    · simp [h1, h2]; omega
    · rw [if_neg h1, if_neg h2]
      cases hh : hostN (d.drop (ahead k).toNat) with
      | none => simp [h1]
      | some n => simp [h1]; omega
set_option maxHeartbeats 12000000 in
theorem r3_data (k : Int) (d : List UInt8) (w : World) (hl : d.length ≤ 4611686018427387904) : Calls Tryz.prog 185 #[.int .i64 k, str d] w (RetV w (.bool (decide (d.length ≤ 4000) && fits k d))) := by
  go_enter Tryz.func185, Tryz.ntmps185
  repeat' (first | ((with_reducible refine o_s ?_); (first | (refine o_1 ?_; refine o_2 ?_) | (refine o_g ?_; first | refine o_u ?_ | refine o_k ?_ | refine o_n ?_ | refine o_v ?_ | ((first | refine o_G ?_ ?_ | refine o_N ?_ ?_) <;> intro hc)))) | ((fail_if_success (with_reducible refine o_s ?_)); go_step))
  · have h4 := ‹4000 < (d.length : Int)›
    go_ret
    exact ⟨by rw [decide_eq_false (show ¬ d.length ≤ 4000 by omega)]; rfl, Ext.refl _⟩
  · have h4 := ‹(d.length : Int) ≤ 4000›
    have hk := ‹k = 1›
    go_ret
    refine ⟨?_, Ext.refl _⟩
    rw [decide_eq_true (show d.length ≤ 4000 by omega), fits, if_pos hk]
    simp; omega
  · have h4 := ‹(d.length : Int) ≤ 4000›
    have hk := ‹k = 28›
    subst hk
    go_ret
    refine ⟨?_, Ext.refl _⟩
    rw [decide_eq_true (show d.length ≤ 4000 by omega)]
    simp [fits]; omega
  · have h4 := ‹(d.length : Int) ≤ 4000›
    have hk := ‹k = 6›
    subst hk
    have hf : (decide (d.length ≤ 4000) && fits 6 d) = (parseSoa d).isSome := by
      rw [decide_eq_true (show d.length ≤ 4000 by omega)]; simp [fits]
    refine wpl_callV (enters_of Tryz.func110 rfl rfl) rfl rfl (r3_ParseSoa d _ hl) ?_; intro w1 x1; refine gset ?_
    cases hps : parseSoa d with
    | none =>
      repeat' (first | ((with_reducible refine o_s ?_); (first | (refine o_1 ?_; refine o_2 ?_) | (refine o_g ?_; first | refine o_u ?_ | refine o_k ?_ | refine o_n ?_ | refine o_v ?_ | ((first | refine o_G ?_ ?_ | refine o_N ?_ ?_) <;> intro hc)))) | ((fail_if_success (with_reducible refine o_s ?_)); go_step))
      refine wpl_allocB (z := zeroSoa) rfl (by decide +kernel) ?_
      intro w2 x2 s2 h2
      refine gset ?_
      refine wpl_storeB (v := .agg zeroSoa.toArray) rfl rfl rfl h2 (by decide +kernel) rfl (by decide +kernel) ?_
      intro w3 p3
      have x3 : Ext w w3 := (x1.trans x2).move p3.mv (by rintro k ⟨⟩; exact x1.size)
      repeat' (first | ((with_reducible refine o_s ?_); (first | (refine o_1 ?_; refine o_2 ?_) | (refine o_g ?_; first | refine o_u ?_ | refine o_k ?_ | refine o_n ?_ | refine o_v ?_ | ((first | refine o_G ?_ ?_ | refine o_N ?_ ?_) <;> intro hc)))) | ((fail_if_success (with_reducible refine o_s ?_)); go_step))
      go_ret
      exact ⟨by rw [hf, hps]; simp, x3⟩
    | some s =>
      repeat' (first | ((with_reducible refine o_s ?_); (first | (refine o_1 ?_; refine o_2 ?_) | (refine o_g ?_; first | refine o_u ?_ | refine o_k ?_ | refine o_n ?_ | refine o_v ?_ | ((first | refine o_G ?_ ?_ | refine o_N ?_ ?_) <;> intro hc)))) | ((fail_if_success (with_reducible refine o_s ?_)); go_step))
      refine wpl_allocB (z := zeroSoa) rfl (by decide +kernel) ?_
      intro w2 x2 s2 h2
      refine gset ?_
      refine wpl_storeB (v := .agg s.cells.toArray) rfl rfl rfl h2 (show sizeTy Tryz.prog 103 7 = true by decide +kernel) rfl (by simp [SoaR.cells, Value.cells, Value.oneCell', str]) ?_
      intro w3 p3
      have x3 : Ext w w3 := (x1.trans x2).move p3.mv (by rintro k ⟨⟩; exact x1.size)
      repeat' (first | ((with_reducible refine o_s ?_); (first | (refine o_1 ?_; refine o_2 ?_) | (refine o_g ?_; first | refine o_u ?_ | refine o_k ?_ | refine o_n ?_ | refine o_v ?_ | ((first | refine o_G ?_ ?_ | refine o_N ?_ ?_) <;> intro hc)))) | ((fail_if_success (with_reducible refine o_s ?_)); go_step))
      go_ret
      exact ⟨by rw [hf, hps]; simp, x3⟩
  · have h4 := ‹(d.length : Int) ≤ 4000›
    have hk := ‹k = 16›
    subst hk
    refine wpl_callV (enters_of Tryz.func216 rfl rfl) rfl rfl (r3_texts d _ hl) ?_; intro w1 x1; refine gset ?_
    repeat' (first | ((with_reducible refine o_s ?_); (first | (refine o_1 ?_; refine o_2 ?_) | (refine o_g ?_; first | refine o_u ?_ | refine o_k ?_ | refine o_n ?_ | refine o_v ?_ | ((first | refine o_G ?_ ?_ | refine o_N ?_ ?_) <;> intro hc)))) | ((fail_if_success (with_reducible refine o_s ?_)); go_step))
    go_ret
    refine ⟨?_, x1⟩
    rw [decide_eq_true (show d.length ≤ 4000 by omega)]
    simp [fits]
  · have h4 := ‹(d.length : Int) ≤ 4000›
    have q1 := ‹¬k = 1›
    have q2 := ‹¬k = 28›
    have q3 := ‹¬k = 6›
    have q4 := ‹¬k = 16›
    have hf : (decide (d.length ≤ 4000) && fits k d) = (decide (ahead k < 0) || (decide (ahead k ≤ (d.length : Int)) && (hostN (d.drop (ahead k).toNat)).isSome)) := by
      rw [decide_eq_true (show d.length ≤ 4000 by omega), ← fits_host]
      simp [fits, q1, q2, q3, q4]
    refine wpl_callV (enters_of Tryz.func217 rfl rfl) rfl rfl (r3_ahead k _) ?_; intro w1 x1; refine gset ?_
    generalize ahead k = a at *
    repeat' (first | ((with_reducible refine o_s ?_); (first | (refine o_1 ?_; refine o_2 ?_) | (refine o_g ?_; first | refine o_u ?_ | refine o_k ?_ | refine o_n ?_ | refine o_v ?_ | ((first | refine o_G ?_ ?_ | refine o_N ?_ ?_) <;> intro hc)))) | ((fail_if_success (with_reducible refine o_s ?_)); go_step))
    · have c1 := ‹¬a < 0›
      have c2 := ‹a ≤ (d.length : Int)›
      refine wpl_callV (enters_of Tryz.func182 rfl rfl) rfl rfl (r3_isHost (d.drop a.toNat) _ (by simp; omega)) ?_; intro w2 x2; refine gset ?_
      repeat' (first | ((with_reducible refine o_s ?_); (first | (refine o_1 ?_; refine o_2 ?_) | (refine o_g ?_; first | refine o_u ?_ | refine o_k ?_ | refine o_n ?_ | refine o_v ?_ | ((first | refine o_G ?_ ?_ | refine o_N ?_ ?_) <;> intro hc)))) | ((fail_if_success (with_reducible refine o_s ?_)); go_step))
      go_ret
      exact ⟨by rw [hf, decide_eq_false c1, decide_eq_true c2]; simp, x1.trans x2⟩
    · have c1 := ‹¬a < 0›
      have c2 := ‹¬a ≤ (d.length : Int)›
      go_ret
      exact ⟨by rw [hf, decide_eq_false c1, decide_eq_false c2]; simp, x1⟩
    · have c1 := ‹a < 0›
      go_ret
      exact ⟨by rw [hf, decide_eq_true c1]; simp, x1⟩
set_option maxHeartbeats 24000000 in
theorem r3_Check (r : Rec) (w : World) (hl : r.data.length ≤ 4611686018427387904) : Calls Tryz.prog 154 #[.agg #[str r.name, .int .i64 r.kind, .int .i64 r.ttl, str r.data]] w (RetV w (.int .i64 (checkR r))) := by
  go_enter Tryz.func154, Tryz.ntmps154
  repeat' ((fail_if_success (with_reducible refine o_s ?_)); go_step)
  refine wpl_box (vs := Rec.cells r) rfl rfl ?_
  intro p w1 x1 hp
  refine gset ?_
  have hp : Pts w1 p [str r.name, .int .i64 r.kind, .int .i64 r.ttl, str r.data] := hp
  repeat' (first | ((with_reducible refine o_s ?_); (first | (refine o_1 ?_; refine o_2 ?_) | (refine o_g ?_; first | refine o_u ?_ | refine o_k ?_ | refine o_n ?_ | refine o_v ?_ | ((first | refine o_G ?_ ?_ | refine o_N ?_ ?_) <;> intro hc)))) | ((fail_if_success (with_reducible refine o_s ?_)); go_step))
  refine wpl_callV (enters_of Tryz.func136 rfl rfl) rfl rfl (r1_Check r.name _) ?_; intro w2 x2; refine gset ?_
  have hp := hp.ext x2
  have x2 := x1.trans x2
  cases hlab : (labels r.name).isSome with
  | false =>
    simp only [Bool.false_eq_true, ↓reduceIte]
    repeat' (first | ((with_reducible refine o_s ?_); (first | (refine o_1 ?_; refine o_2 ?_) | (refine o_g ?_; first | refine o_u ?_ | refine o_k ?_ | refine o_n ?_ | refine o_v ?_ | ((first | refine o_G ?_ ?_ | refine o_N ?_ ?_) <;> intro hc)))) | ((fail_if_success (with_reducible refine o_s ?_)); go_step))
    go_ret
    refine ⟨?_, x2⟩
    have : checkR r = 1 := by unfold checkR; simp [hlab]
    rw [this]; rfl
  | true =>
    simp only [↓reduceIte]
    repeat' (first | ((with_reducible refine o_s ?_); (first | (refine o_1 ?_; refine o_2 ?_) | (refine o_g ?_; first | refine o_u ?_ | refine o_k ?_ | refine o_n ?_ | refine o_v ?_ | ((first | refine o_G ?_ ?_ | refine o_N ?_ ?_) <;> intro hc)))) | ((fail_if_success (with_reducible refine o_s ?_)); go_step))
    rotate_left
    · have : checkR r = 1 := by simp [checkR, hc]
      go_ret
      exact ⟨by rw [this]; rfl, x2⟩
    · have : checkR r = 1 := by simp [checkR, hc]
      go_ret
      exact ⟨by rw [this]; rfl, x2⟩
    · have : checkR r = 1 := by simp [checkR, hc]
      go_ret
      exact ⟨by rw [this]; rfl, x2⟩
    · have : checkR r = 1 := by simp [checkR, hc]
      go_ret
      exact ⟨by rw [this]; rfl, x2⟩
    · have : checkR r = 1 := by simp [checkR, hc]
      go_ret
      exact ⟨by rw [this]; rfl, x2⟩
    · have : checkR r = 1 := by simp [checkR, hc]
      go_ret
      exact ⟨by rw [this]; rfl, x2⟩
    · have : checkR r = 1 := by simp [checkR, hc]
      go_ret
      exact ⟨by rw [this]; rfl, x2⟩
    · have : checkR r = 1 := by simp [checkR, hc]
      go_ret
      exact ⟨by rw [this]; rfl, x2⟩
    · have q1 := ‹¬r.kind < 1›
      have q2 := ‹¬65535 < r.kind›
      have q3 := ‹¬r.kind = 41›
      have q4 := ‹¬r.kind = 251›
      have q5 := ‹¬r.kind = 252›
      have q6 := ‹¬r.kind = 255›
      have q7 := ‹¬r.ttl < 0›
      have q8 := ‹¬2147483647 < r.ttl›
      refine wpl_callV (enters_of Tryz.func185 rfl rfl) rfl rfl (r3_data r.kind r.data _ hl) ?_; intro w3 x3; refine gset ?_
      cases hf : (decide (r.data.length ≤ 4000) && fits r.kind r.data) with
      | true =>
        simp only [Bool.and_eq_true, decide_eq_true_eq] at hf
        have : checkR r = 0 := by simp [checkR, q1, q2, q3, q4, q5, q6, q7, q8, hf.2, hlab]; omega
        repeat' (first | ((with_reducible refine o_s ?_); (first | (refine o_1 ?_; refine o_2 ?_) | (refine o_g ?_; first | refine o_u ?_ | refine o_k ?_ | refine o_n ?_ | refine o_v ?_ | ((first | refine o_G ?_ ?_ | refine o_N ?_ ?_) <;> intro hc)))) | ((fail_if_success (with_reducible refine o_s ?_)); go_step))
        go_ret
        exact ⟨by rw [this]; rfl, x2.trans x3⟩
      | false =>
        have : checkR r = 1 := by
          simp only [Bool.and_eq_false_iff, decide_eq_false_iff_not] at hf
          rcases hf with hf | hf
          · simp [checkR, show 4000 < r.data.length by omega]
          · simp [checkR, hf]
        repeat' (first | ((with_reducible refine o_s ?_); (first | (refine o_1 ?_; refine o_2 ?_) | (refine o_g ?_; first | refine o_u ?_ | refine o_k ?_ | refine o_n ?_ | refine o_v ?_ | ((first | refine o_G ?_ ?_ | refine o_N ?_ ?_) <;> intro hc)))) | ((fail_if_success (with_reducible refine o_s ?_)); go_step))
        go_ret
        exact ⟨by rw [this]; rfl, x2.trans x3⟩

theorem run_eqRec {r q : Rec} {w : World} : (Op.equalIn 10000 75 (.agg #[str r.name, .int .i64 r.kind, .int .i64 r.ttl, str r.data]) (.agg #[str q.name, .int .i64 q.kind, .int .i64 q.ttl, str q.data])).run Tryz.prog w = .ok (decide (r = q)) w := by
  have hS : Tryz.prog.underlying 75 = some (.struct (Tryz.prog.fieldsOf 75)) := by kernel_rfl
  rw [show (10000 : Nat) = 9999 + 1 from rfl, run_equalIn_agg w 9999 75 _ _ hS (by kernel_rfl)]
  simp only [Program.fieldsOf, Tryz.underlying75]
  have u3 := Tryz.underlying3
  have u9 := Tryz.underlying9
  have u31 := Tryz.underlying22
  have a3 := Tryz.isAgg3
  have a9 := Tryz.isAgg9
  have a31 := Tryz.isAgg22
  have z3 := Tryz.sizeOf3
  have z9 := Tryz.sizeOf9
  have z31 := Tryz.sizeOf22
  unfold str
  go_simp
  obtain ⟨a1, a2, a3, a4⟩ := r
  obtain ⟨b1, b2, b3, b4⟩ := q
  simp only [Rec.mk.injEq]
  by_cases h1 : a1 = b1 <;> by_cases h2 : a2 = b2 <;> by_cases h3 : a3 = b3 <;> by_cases h4 : a4 = b4 <;> simp [h1, h2, h3, h4]
theorem Runs.neqRec {r q : Rec} {x y : Operand} {a : Act} {w : World} {d : Option Nat} {u ty : TypeId} {ps : String} {af : Array Edge} {g : Option (Nat × Bool)}
    (hx : a.eval x = .agg #[str r.name, .int .i64 r.kind, .int .i64 r.ttl, str r.data]) (hy : a.eval y = .agg #[str q.name, .int .i64 q.kind, .int .i64 q.ttl, str q.data]) :
    Runs Tryz.prog (Oper.mk d (.binOp .neq 75 x y u) ty ps af g) a w (.bool (!decide (r = q))) := by
  constructor
  have hg := run_eqGuard_agg (P := Tryz.prog) w .neq 75 x y #[str r.name, .int .i64 r.kind, .int .i64 r.ttl, str r.data] #[str q.name, .int .i64 q.kind, .int .i64 q.ttl, str q.data] (by kernel_rfl)
  simp only [execOp, hx, hy, Sem.run_bind, hg, Result.andThen_ok, run_neq_struct, run_eqRec, Sem.run_pure]
set_option maxHeartbeats 12000000 in
theorem r3_Same (u v : Value) (a b : List Rec) (w : World) (hu : Sl 4 w u (rcells a)) (hv : Sl 4 w v (rcells b)) : Calls Tryz.prog 42 #[u, v] w (RetV w (.bool (decide (a = b)))) := by
  have la := rcells_length a
  have lb := rcells_length b
  have hla := hu.le
  have hlb := hv.le
  by_cases hl : a.length = b.length
  · go_enter Tryz.func42, Tryz.ntmps42
    repeat' (first | ((with_reducible refine o_s ?_); (first | (refine o_1 ?_; refine o_2 ?_) | (refine o_g ?_; first | refine o_u ?_ | refine o_k ?_ | refine o_n ?_ | refine o_v ?_ | ((first | refine o_G ?_ ?_ | refine o_N ?_ ?_) <;> intro hc)))) | ((fail_if_success (with_reducible refine o_s ?_)); go_step))
    · have hbad := ‹(!decide (((rcells a).length : Int) = ((rcells b).length : Int))) = true›
      exfalso; simp at hbad; omega
    go_loopw [5] (fun i wr => ∃ k : Nat, k ≤ a.length ∧ i = .int .i64 k ∧ Ext w wr ∧ a.take k = b.take k) (fun i _ => a.length - (intOf i).toNat)
    case atStart => exact ⟨0, Nat.zero_le _, rfl, Ext.refl _, rfl⟩
    case round =>
      obtain ⟨k, hk, rfl, hx, hall⟩ := hrel
      by_cases hlt : k < a.length
      · have hlt2 : k < b.length := by omega
        have hpa := (hu.ext hx).elem (rcells_at hlt)
        have hpb := (hv.ext hx).elem (rcells_at hlt2)
        have hua := hu.ext hx
        have hvb := hv.ext hx
        repeat' (first | ((with_reducible refine o_s ?_); (first | (refine o_1 ?_; refine o_2 ?_) | (refine o_g ?_; first | refine o_u ?_ | refine o_k ?_ | refine o_n ?_ | refine o_v ?_ | ((first | refine o_G ?_ ?_ | refine o_N ?_ ?_) <;> intro hc)))) | ((fail_if_success (with_reducible refine o_s ?_)); go_step))
        refine wpq_region (by decide +kernel) (by decide +kernel) ?_
        repeat' (first | ((with_reducible refine q_s ?_); (first | (refine q_1 ?_; refine q_2 ?_) | (refine q_g ?_; first | refine q_u ?_ | refine q_k ?_ | refine q_v ?_))) | (with_reducible refine q_n ?_))
        refine wpq_run (v := .bool (!decide (a[k] = b[k]))) rfl (fun w' _ => Runs.neqRec rfl rfl) ?_
        refine gset ?_
        repeat' (first | ((with_reducible refine q_s ?_); (first | (refine q_1 ?_; refine q_2 ?_) | (refine q_g ?_; first | refine q_u ?_ | refine q_k ?_ | refine q_v ?_))) | (with_reducible refine q_n ?_))
        intro w3 x3
        repeat' (first | ((with_reducible refine o_s ?_); (first | (refine o_1 ?_; refine o_2 ?_) | (refine o_g ?_; first | refine o_u ?_ | refine o_k ?_ | refine o_n ?_ | refine o_v ?_ | ((first | refine o_G ?_ ?_ | refine o_N ?_ ?_) <;> intro hc)))) | ((fail_if_success (with_reducible refine o_s ?_)); go_step))
        · have hne := ‹(!decide (a[k] = b[k])) = true›
          have hab : a ≠ b := ne_of_at hlt hlt2 (by simpa using hne)
          go_ret
          exact ⟨by rw [decide_eq_false hab]; rfl, hx.trans x3⟩
        · have heq := ‹(!decide (a[k] = b[k])) = false›
          exact ⟨⟨k + 1, by omega, by go_num, hx.trans x3, take_succ_eq hall hlt hlt2 (by simpa using heq)⟩, by simp [intOf]; omega⟩
      · have : k = a.length := by omega
        subst this
        have hab : a = b := by rw [List.take_length, hl, List.take_length] at hall; exact hall
        repeat' (first | ((with_reducible refine o_s ?_); (first | (refine o_1 ?_; refine o_2 ?_) | (refine o_g ?_; first | refine o_u ?_ | refine o_k ?_ | refine o_n ?_ | refine o_v ?_ | ((first | refine o_G ?_ ?_ | refine o_N ?_ ?_) <;> intro hc)))) | ((fail_if_success (with_reducible refine o_s ?_)); go_step))
        go_ret
        exact ⟨by rw [decide_eq_true hab]; rfl, hx⟩
  · have hab : a ≠ b := fun h => hl (by rw [h])
    go_enter Tryz.func42, Tryz.ntmps42
    repeat' (first | ((with_reducible refine o_s ?_); (first | (refine o_1 ?_; refine o_2 ?_) | (refine o_g ?_; first | refine o_u ?_ | refine o_k ?_ | refine o_n ?_ | refine o_v ?_ | ((first | refine o_G ?_ ?_ | refine o_N ?_ ?_) <;> intro hc)))) | ((fail_if_success (with_reducible refine o_s ?_)); go_step))
    · go_ret
      exact ⟨by rw [decide_eq_false hab]; rfl, Ext.refl _⟩
    · have hbad := ‹(!decide (((rcells a).length : Int) = ((rcells b).length : Int))) = false›
      exfalso; simp at hbad; omega
def labN (n : List UInt8) : Nat := ((labels n).getD []).length
def cutStep (o n : List UInt8) (b : List UInt8 × Bool) (s : RSet) : List UInt8 × Bool :=
  if s.kind = 2 ∧ s.name ≠ o ∧ underN n s.name = true ∧ (b.2 = false ∨ labN s.name < labN b.1) then (s.name, true) else b
def cutR (o : List UInt8) (l : List RSet) (n : List UInt8) : List UInt8 × Bool := l.foldl (cutStep o n) ([], false)
theorem cut_take {o n : List UInt8} {l : List RSet} {k : Nat} (hk : k < l.length) : cutR o (l.take (k + 1)) n = cutStep o n (cutR o (l.take k) n) l[k] := by
  rw [List.take_succ_eq_append_getElem hk, cutR, List.foldl_append]; rfl
set_option maxHeartbeats 3000000 in
theorem r8_cut (o : List UInt8) (v : Value) (l : List RSet) (n : List UInt8) (w : World) (hv : SetsAt w v l) : Calls Tryz.prog 175 #[.agg #[str o, v], str n] w (RetV w (.tuple #[str (cutR o l n).1, .bool (cutR o l n).2])) := by
  obtain ⟨cv, hv1, hvl⟩ := hv.sl
  have hle := hv1.le
  go_enter Tryz.func175, Tryz.ntmps175
  repeat' ((fail_if_success (with_reducible refine o_s ?_)); go_step)
  refine wpl_box (vs := [str o, v]) rfl rfl ?_
  intro p w1 x1 hp
  refine gset ?_
  repeat' (first | ((with_reducible refine o_s ?_); (first | (refine o_1 ?_; refine o_2 ?_) | (refine o_g ?_; first | refine o_u ?_ | refine o_k ?_ | refine o_n ?_ | refine o_v ?_ | ((first | refine o_G ?_ ?_ | refine o_N ?_ ?_) <;> intro hc)))) | ((fail_if_success (with_reducible refine o_s ?_)); go_step))
  go_loopw [6, 7, 8, 9] (fun b f i _ wr => ∃ k : Nat, k ≤ l.length ∧ i = .int .i64 k ∧ b = str (cutR o (l.take k) n).1 ∧ f = .bool (cutR o (l.take k) n).2 ∧ Ext w1 wr) (fun _ _ i _ _ => l.length - (intOf i).toNat)
  case atStart => exact ⟨0, Nat.zero_le _, rfl, rfl, rfl, Ext.refl _⟩
  case round =>
    obtain ⟨k, hk, rfl, rfl, rfl, hx⟩ := hrel
    have hxw : Ext w wr := x1.trans hx
    have hv2 := hv1.ext hxw
    have hp2 := hp.ext hx
    by_cases hlt : k < l.length
    · obtain ⟨x, h4, h4d⟩ := (hv.ext hxw).elem (List.getElem?_eq_getElem hlt)
      repeat' (first | ((with_reducible refine o_s ?_); (first | (refine o_1 ?_; refine o_2 ?_) | (refine o_g ?_; first | refine o_u ?_ | refine o_k ?_ | refine o_n ?_ | refine o_v ?_ | ((first | refine o_G ?_ ?_ | refine o_N ?_ ?_) <;> intro hc)))) | ((fail_if_success (with_reducible refine o_s ?_)); go_step))
      refine wpl_allocB (z := zset) rfl (by decide +kernel) ?_
      intro w2 x2 s2 h2
      refine gset ?_
      refine wpl_storeB (v := .agg #[str l[k].name, .int .i64 l[k].kind, .int .i64 l[k].ttl, x]) rfl rfl rfl h2 (show sizeTy Tryz.prog 55 4 = true by decide +kernel) rfl (all4 rfl rfl rfl (h4d.ext x2).one) ?_
      intro w3 p3
      have x3 : Ext wr w3 := x2.move p3.mv (by rintro k ⟨⟩; have := hxw.size; omega)
      have h3 : Pts w3 (.pointer (some ⟨wr.heap.size, 0, none⟩)) [str l[k].name, .int .i64 l[k].kind, .int .i64 l[k].ttl, x] := pts_block p3.this
      have hp3 := hp2.ext x3
      have hstep := cut_take (o := o) (n := n) hlt
      generalize hg : cutR o (l.take k) n = g at *
      obtain ⟨best, found⟩ := g
      have hsame : ¬ (l[k].kind = 2 ∧ l[k].name ≠ o ∧ underN n l[k].name = true ∧ (found = false ∨ labN l[k].name < labN best)) → cutR o (l.take (k + 1)) n = (best, found) := fun h => by
        rw [hstep, cutStep, if_neg h]
      have hnew : (l[k].kind = 2 ∧ l[k].name ≠ o ∧ underN n l[k].name = true ∧ (found = false ∨ labN l[k].name < labN best)) → cutR o (l.take (k + 1)) n = (l[k].name, true) := fun h => by
        rw [hstep, cutStep, if_pos h]
      repeat' (first | ((with_reducible refine o_s ?_); (first | (refine o_1 ?_; refine o_2 ?_) | (refine o_g ?_; first | refine o_u ?_ | refine o_k ?_ | refine o_n ?_ | refine o_v ?_ | ((first | refine o_G ?_ ?_ | refine o_N ?_ ?_) <;> intro hc)))) | ((fail_if_success (with_reducible refine o_s ?_)); go_step))
      · have hne : l[k].name ≠ o := by simpa using hc
        have hk2 : l[k].kind = 2 := by assumption
        refine wpl_callV (enters_of Tryz.func50 rfl rfl) rfl rfl (r1_Under _ _ _) ?_; intro w4 x4; refine gset ?_
        have hx4 := hx.trans (x3.trans x4)
        have h5 := h3.ext x4
        cases hu : underN n l[k].name with
        | false =>
          repeat' (first | ((with_reducible refine o_s ?_); (first | (refine o_1 ?_; refine o_2 ?_) | (refine o_g ?_; first | refine o_u ?_ | refine o_k ?_ | refine o_n ?_ | refine o_v ?_ | ((first | refine o_G ?_ ?_ | refine o_N ?_ ?_) <;> intro hc)))) | ((fail_if_success (with_reducible refine o_s ?_)); go_step))
          have h := hsame (fun h => absurd h.2.2.1 (by rw [hu]; decide))
          exact ⟨⟨k + 1, by omega, by go_num, by rw [h], by rw [h], hx4⟩, by simp [intOf]; omega⟩
        | true =>
          cases found with
          | false =>
            repeat' (first | ((with_reducible refine o_s ?_); (first | (refine o_1 ?_; refine o_2 ?_) | (refine o_g ?_; first | refine o_u ?_ | refine o_k ?_ | refine o_n ?_ | refine o_v ?_ | ((first | refine o_G ?_ ?_ | refine o_N ?_ ?_) <;> intro hc)))) | ((fail_if_success (with_reducible refine o_s ?_)); go_step))
            have h := hnew ⟨hk2, hne, hu, .inl rfl⟩
            exact ⟨⟨k + 1, by omega, by go_num, by rw [h], by rw [h], hx4⟩, by simp [intOf]; omega⟩
          | true =>
            repeat' (first | ((with_reducible refine o_s ?_); (first | (refine o_1 ?_; refine o_2 ?_) | (refine o_g ?_; first | refine o_u ?_ | refine o_k ?_ | refine o_n ?_ | refine o_v ?_ | ((first | refine o_G ?_ ?_ | refine o_N ?_ ?_) <;> intro hc)))) | ((fail_if_success (with_reducible refine o_s ?_)); go_step))
            refine wpl_callR (enters_of Tryz.func195 rfl rfl) rfl rfl (r1_Labels l[k].name _) ?_
            intro v5 w5 x5 o5
            have hl5 := tcells_length ((labels l[k].name).getD [])
            have hs5 := o5.sl
            have h6 := h5.ext x5
            refine gset ?_
            repeat' (first | ((with_reducible refine o_s ?_); (first | (refine o_1 ?_; refine o_2 ?_) | (refine o_g ?_; first | refine o_u ?_ | refine o_k ?_ | refine o_n ?_ | refine o_v ?_ | ((first | refine o_G ?_ ?_ | refine o_N ?_ ?_) <;> intro hc)))) | ((fail_if_success (with_reducible refine o_s ?_)); go_step))
            refine wpl_callR (enters_of Tryz.func195 rfl rfl) rfl rfl (r1_Labels best _) ?_
            intro v6 w6 x6 o6
            have hl6 := tcells_length ((labels best).getD [])
            have hs6 := o6.sl
            have h7 := h6.ext x6
            have hx7 := hx4.trans (x5.trans x6)
            refine gset ?_
            repeat' (first | ((with_reducible refine o_s ?_); (first | (refine o_1 ?_; refine o_2 ?_) | (refine o_g ?_; first | refine o_u ?_ | refine o_k ?_ | refine o_n ?_ | refine o_v ?_ | ((first | refine o_G ?_ ?_ | refine o_N ?_ ?_) <;> intro hc)))) | ((fail_if_success (with_reducible refine o_s ?_)); go_step))
            · rename_i hh
              have h := hnew ⟨hk2, hne, hu, .inr (by simp only [labN]; omega)⟩
              exact ⟨⟨k + 1, by omega, by go_num, by rw [h], by rw [h], hx7⟩, by simp [intOf]; omega⟩
            · rename_i hh
              have h := hsame (fun h => by have h8 := h.2.2.2; simp only [labN] at h8; rcases h8 with h8 | h8; cases h8; omega)
              exact ⟨⟨k + 1, by omega, by go_num, by rw [h], by rw [h], hx7⟩, by simp [intOf]; omega⟩
      · have h := hsame (fun h => by first | exact absurd h.1 hc | exact h.2.1 (by simpa using hc))
        exact ⟨⟨k + 1, by omega, by go_num, by rw [h], by rw [h], hx.trans x3⟩, by simp [intOf]; omega⟩
      · have h := hsame (fun h => by first | exact absurd h.1 hc | exact h.2.1 (by simpa using hc))
        exact ⟨⟨k + 1, by omega, by go_num, by rw [h], by rw [h], hx.trans x3⟩, by simp [intOf]; omega⟩
    · have : k = l.length := by omega
      subst this
      rw [List.take_length]
      repeat' (first | ((with_reducible refine o_s ?_); (first | (refine o_1 ?_; refine o_2 ?_) | (refine o_g ?_; first | refine o_u ?_ | refine o_k ?_ | refine o_n ?_ | refine o_v ?_ | ((first | refine o_G ?_ ?_ | refine o_N ?_ ?_) <;> intro hc)))) | ((fail_if_success (with_reducible refine o_s ?_)); go_step))
      go_ret2
      exact ⟨rfl, hxw⟩
def lastR (o : List UInt8) (l : List RSet) (s : RSet) : Bool :=
  !(cutR o l s.name).2 || decide (s.kind = 1) || decide (s.kind = 28) || (decide (s.kind = 2) && decide (s.name = (cutR o l s.name).1))
def clash (s t : RSet) : Bool := decide (t.name = s.name) && decide (t.kind ≠ 5)
def rightR (o : List UInt8) (l : List RSet) (s : RSet) : Bool :=
  underN s.name o && !(decide (s.kind = 6) && (decide (s.name ≠ o) || decide (s.data.length ≠ 1))) && !(decide (s.kind = 5) && (decide (s.data.length ≠ 1) || l.any (clash s))) && lastR o l s
set_option maxHeartbeats 3000000 in
theorem r8_right (o : List UInt8) (v : Value) (l : List RSet) (s : RSet) (u : Value) (w : World) (hv : SetsAt w v l) (hu : Sl 1 w u (tcells s.data)) : Calls Tryz.prog 139 #[.agg #[str o, v], .agg #[str s.name, .int .i64 s.kind, .int .i64 s.ttl, u]] w (RetV w (.bool (rightR o l s))) := by
  obtain ⟨cv, hv1, hvl⟩ := hv.sl
  have hle := hv1.le
  have hlen := tcells_length s.data
  go_enter Tryz.func139, Tryz.ntmps139
  repeat' ((fail_if_success (with_reducible refine o_s ?_)); go_step)
  refine wpl_box (vs := [str o, v]) rfl rfl ?_
  intro p w1 x1 hp
  refine gset ?_
  repeat' ((fail_if_success (with_reducible refine o_s ?_)); go_step)
  refine wpl_box (vs := [str s.name, .int .i64 s.kind, .int .i64 s.ttl, u]) rfl rfl ?_
  intro q w2 x2 hq
  refine gset ?_
  have hp2 := hp.ext x2
  have hx2 := x1.trans x2
  repeat' (first | ((with_reducible refine o_s ?_); (first | (refine o_1 ?_; refine o_2 ?_) | (refine o_g ?_; first | refine o_u ?_ | refine o_k ?_ | refine o_n ?_ | refine o_v ?_ | ((first | refine o_G ?_ ?_ | refine o_N ?_ ?_) <;> intro hc)))) | ((fail_if_success (with_reducible refine o_s ?_)); go_step))
  refine wpl_callV (enters_of Tryz.func50 rfl rfl) rfl rfl (r1_Under _ _ _) ?_; intro w3 x3; refine gset ?_
  have hp3 := hp2.ext x3
  have hq3 := hq.ext x3
  have hx3 := hx2.trans x3
  have hu3 := hu.ext hx3
  have hv3 := hv1.ext hx3
  have hs3 := hv.ext hx3
  cases hn : underN s.name o with
  | false =>
    repeat' (first | ((with_reducible refine o_s ?_); (first | (refine o_1 ?_; refine o_2 ?_) | (refine o_g ?_; first | refine o_u ?_ | refine o_k ?_ | refine o_n ?_ | refine o_v ?_ | ((first | refine o_G ?_ ?_ | refine o_N ?_ ?_) <;> intro hc)))) | ((fail_if_success (with_reducible refine o_s ?_)); go_step))
    go_ret
    exact ⟨by simp [rightR, hn], hx3⟩
  | true =>
    repeat' (first | ((with_reducible refine o_s ?_); (first | (refine o_1 ?_; refine o_2 ?_) | (refine o_g ?_; first | refine o_u ?_ | refine o_k ?_ | refine o_n ?_ | refine o_v ?_ | ((first | refine o_G ?_ ?_ | refine o_N ?_ ?_) <;> intro hc)))) | ((fail_if_success (with_reducible refine o_s ?_)); go_step))
    all_goals try (go_ret; exact ⟨by first | (simp_all [rightR]; done) | (simp_all [rightR]; intro h; omega), hx3⟩)
    · have hR : rightR o l s = lastR o l s := by
        have : decide (s.data.length ≠ 1) = false := by simp_all; omega
        simp_all [rightR]
      refine wpl_callV (enters_of Tryz.func175 rfl rfl) rfl rfl (r8_cut o v l s.name _ (hs3)) ?_; intro w4 x4; refine gset ?_
      generalize hcut : cutR o l s.name = g at *
      obtain ⟨c, is⟩ := g
      cases is with
      | false =>
        repeat' (first | ((with_reducible refine o_s ?_); (first | (refine o_1 ?_; refine o_2 ?_) | (refine o_g ?_; first | refine o_u ?_ | refine o_k ?_ | refine o_n ?_ | refine o_v ?_ | ((first | refine o_G ?_ ?_ | refine o_N ?_ ?_) <;> intro hc)))) | ((fail_if_success (with_reducible refine o_s ?_)); go_step))
        go_ret
        exact ⟨by rw [hR]; simp [lastR, hcut], (hx3).trans x4⟩
      | true =>
        have hq4 := (hq3).ext x4
        repeat' (first | ((with_reducible refine o_s ?_); (first | (refine o_1 ?_; refine o_2 ?_) | (refine o_g ?_; first | refine o_u ?_ | refine o_k ?_ | refine o_n ?_ | refine o_v ?_ | ((first | refine o_G ?_ ?_ | refine o_N ?_ ?_) <;> intro hc)))) | ((fail_if_success (with_reducible refine o_s ?_)); go_step))
        all_goals (go_ret; exact ⟨by rw [hR]; simp_all [lastR], hx3.trans x4⟩)
    · have h5 : s.kind = 5 := by assumption
      have hd1 : decide (s.data.length ≠ 1) = false := by simp_all; omega
      go_loopw [5] (fun i wr => ∃ k : Nat, k ≤ l.length ∧ i = .int .i64 k ∧ Ext w3 wr ∧ (l.take k).any (clash s) = false) (fun i _ => l.length - (intOf i).toNat)
      case atStart => exact ⟨0, Nat.zero_le _, rfl, Ext.refl _, rfl⟩
      case round =>
        obtain ⟨k, hk, rfl, hx, hall⟩ := hrel
        have hxw : Ext w wr := hx3.trans hx
        have hv4 := hv1.ext hxw
        have hp4 := hp3.ext hx
        have hq4 := hq3.ext hx
        by_cases hlt : k < l.length
        · obtain ⟨x, h4, h4d⟩ := (hv.ext hxw).elem (List.getElem?_eq_getElem hlt)
          repeat' (first | ((with_reducible refine o_s ?_); (first | (refine o_1 ?_; refine o_2 ?_) | (refine o_g ?_; first | refine o_u ?_ | refine o_k ?_ | refine o_n ?_ | refine o_v ?_ | ((first | refine o_G ?_ ?_ | refine o_N ?_ ?_) <;> intro hc)))) | ((fail_if_success (with_reducible refine o_s ?_)); go_step))
          refine wpq_region (by decide +kernel) (by decide +kernel) ?_
          repeat' (first | ((with_reducible refine q_s ?_); (first | (refine q_1 ?_; refine q_2 ?_) | (refine q_g ?_; first | refine q_u ?_ | refine q_k ?_ | refine q_v ?_))) | (with_reducible refine q_n ?_))
          by_cases q1 : l[k].name = s.name
          · rw [decide_eq_true q1]
            repeat' (first | ((with_reducible refine q_s ?_); (first | (refine q_1 ?_; refine q_2 ?_) | (refine q_g ?_; first | refine q_u ?_ | refine q_k ?_ | refine q_v ?_))) | (with_reducible refine q_n ?_))
            by_cases q2 : l[k].kind = 5
            · rw [decide_eq_true q2]
              repeat' (first | ((with_reducible refine q_s ?_); (first | (refine q_1 ?_; refine q_2 ?_) | (refine q_g ?_; first | refine q_u ?_ | refine q_k ?_ | refine q_v ?_))) | (with_reducible refine q_n ?_))
              intro w5 x5
              repeat' (first | ((with_reducible refine o_s ?_); (first | (refine o_1 ?_; refine o_2 ?_) | (refine o_g ?_; first | refine o_u ?_ | refine o_k ?_ | refine o_n ?_ | refine o_v ?_ | ((first | refine o_G ?_ ?_ | refine o_N ?_ ?_) <;> intro hc)))) | ((fail_if_success (with_reducible refine o_s ?_)); go_step))
              exact ⟨⟨k + 1, by omega, by go_num, hx.trans x5, any_take hlt hall (by simp [clash, q2])⟩, by simp [intOf]; omega⟩
            · rw [decide_eq_false q2]
              repeat' (first | ((with_reducible refine q_s ?_); (first | (refine q_1 ?_; refine q_2 ?_) | (refine q_g ?_; first | refine q_u ?_ | refine q_k ?_ | refine q_v ?_))) | (with_reducible refine q_n ?_))
              intro w5 x5
              repeat' (first | ((with_reducible refine o_s ?_); (first | (refine o_1 ?_; refine o_2 ?_) | (refine o_g ?_; first | refine o_u ?_ | refine o_k ?_ | refine o_n ?_ | refine o_v ?_ | ((first | refine o_G ?_ ?_ | refine o_N ?_ ?_) <;> intro hc)))) | ((fail_if_success (with_reducible refine o_s ?_)); go_step))
              have hcl : l.any (clash s) = true := any_at hlt (by simp [clash, q1, q2])
              go_ret
              exact ⟨by rw [show rightR o l s = false by simp [rightR, hcl, h5]]; rfl, hxw.trans x5⟩
          · rw [decide_eq_false q1]
            repeat' (first | ((with_reducible refine q_s ?_); (first | (refine q_1 ?_; refine q_2 ?_) | (refine q_g ?_; first | refine q_u ?_ | refine q_k ?_ | refine q_v ?_))) | (with_reducible refine q_n ?_))
            intro w5 x5
            repeat' (first | ((with_reducible refine o_s ?_); (first | (refine o_1 ?_; refine o_2 ?_) | (refine o_g ?_; first | refine o_u ?_ | refine o_k ?_ | refine o_n ?_ | refine o_v ?_ | ((first | refine o_G ?_ ?_ | refine o_N ?_ ?_) <;> intro hc)))) | ((fail_if_success (with_reducible refine o_s ?_)); go_step))
            exact ⟨⟨k + 1, by omega, by go_num, hx.trans x5, any_take hlt hall (by simp [clash, q1])⟩, by simp [intOf]; omega⟩
        · have : k = l.length := by omega
          subst this
          rw [List.take_length] at hall
          have hR : rightR o l s = lastR o l s := by simp_all [rightR]
          repeat' (first | ((with_reducible refine o_s ?_); (first | (refine o_1 ?_; refine o_2 ?_) | (refine o_g ?_; first | refine o_u ?_ | refine o_k ?_ | refine o_n ?_ | refine o_v ?_ | ((first | refine o_G ?_ ?_ | refine o_N ?_ ?_) <;> intro hc)))) | ((fail_if_success (with_reducible refine o_s ?_)); go_step))
          refine wpl_callV (enters_of Tryz.func175 rfl rfl) rfl rfl (r8_cut o v l s.name _ (hs3.ext hx)) ?_; intro w5 x5; refine gset ?_
          generalize hcut : cutR o l s.name = g at *
          obtain ⟨c, is⟩ := g
          cases is with
          | false =>
            repeat' (first | ((with_reducible refine o_s ?_); (first | (refine o_1 ?_; refine o_2 ?_) | (refine o_g ?_; first | refine o_u ?_ | refine o_k ?_ | refine o_n ?_ | refine o_v ?_ | ((first | refine o_G ?_ ?_ | refine o_N ?_ ?_) <;> intro hc)))) | ((fail_if_success (with_reducible refine o_s ?_)); go_step))
            go_ret
            exact ⟨by rw [hR]; simp [lastR, hcut], hxw.trans x5⟩
          | true =>
            have hq5 := hq4.ext x5
            repeat' (first | ((with_reducible refine o_s ?_); (first | (refine o_1 ?_; refine o_2 ?_) | (refine o_g ?_; first | refine o_u ?_ | refine o_k ?_ | refine o_n ?_ | refine o_v ?_ | ((first | refine o_G ?_ ?_ | refine o_N ?_ ?_) <;> intro hc)))) | ((fail_if_success (with_reducible refine o_s ?_)); go_step))
            all_goals (go_ret; exact ⟨by rw [hR]; simp_all [lastR], hxw.trans x5⟩)
    · have hR : rightR o l s = lastR o l s := by simp_all [rightR]
      refine wpl_callV (enters_of Tryz.func175 rfl rfl) rfl rfl (r8_cut o v l s.name _ (hs3)) ?_; intro w4 x4; refine gset ?_
      generalize hcut : cutR o l s.name = g at *
      obtain ⟨c, is⟩ := g
      cases is with
      | false =>
        repeat' (first | ((with_reducible refine o_s ?_); (first | (refine o_1 ?_; refine o_2 ?_) | (refine o_g ?_; first | refine o_u ?_ | refine o_k ?_ | refine o_n ?_ | refine o_v ?_ | ((first | refine o_G ?_ ?_ | refine o_N ?_ ?_) <;> intro hc)))) | ((fail_if_success (with_reducible refine o_s ?_)); go_step))
        go_ret
        exact ⟨by rw [hR]; simp [lastR, hcut], (hx3).trans x4⟩
      | true =>
        have hq4 := (hq3).ext x4
        repeat' (first | ((with_reducible refine o_s ?_); (first | (refine o_1 ?_; refine o_2 ?_) | (refine o_g ?_; first | refine o_u ?_ | refine o_k ?_ | refine o_n ?_ | refine o_v ?_ | ((first | refine o_G ?_ ?_ | refine o_N ?_ ?_) <;> intro hc)))) | ((fail_if_success (with_reducible refine o_s ?_)); go_step))
        all_goals (go_ret; exact ⟨by rw [hR]; simp_all [lastR], hx3.trans x4⟩)
def aheadS (a b : RSet) : Bool := decide (cmpN a.name b.name < 0) || (decide (cmpN a.name b.name = 0) && decide (a.kind < b.kind))
set_option maxHeartbeats 6000000 in
theorem r7_ahead (a b : RSet) (u v : Value) (w : World) : Calls Tryz.prog 174 #[.agg #[str a.name, .int .i64 a.kind, .int .i64 a.ttl, u], .agg #[str b.name, .int .i64 b.kind, .int .i64 b.ttl, v]] w (RetV w (.bool (aheadS a b))) := by
  go_enter Tryz.func174, Tryz.ntmps174
  repeat' ((fail_if_success (with_reducible refine o_s ?_)); go_step)
  refine wpl_box (vs := [str a.name, .int .i64 a.kind, .int .i64 a.ttl, u]) rfl rfl ?_
  intro p w1 x1 hp
  refine gset ?_
  refine wpl_box (vs := [str b.name, .int .i64 b.kind, .int .i64 b.ttl, v]) rfl rfl ?_
  intro q w2 x2 hq
  refine gset ?_
  have hp := hp.ext x2
  repeat' (first | ((with_reducible refine o_s ?_); (first | (refine o_1 ?_; refine o_2 ?_) | (refine o_g ?_; first | refine o_u ?_ | refine o_k ?_ | refine o_n ?_ | refine o_v ?_ | ((first | refine o_G ?_ ?_ | refine o_N ?_ ?_) <;> intro hc)))) | ((fail_if_success (with_reducible refine o_s ?_)); go_step))
  refine wpl_callV (enters_of Tryz.func194 rfl rfl) rfl rfl (r1_Compare a.name b.name _) ?_; intro w3 x3; refine gset ?_
  have hp := hp.ext x3
  have hq := hq.ext x3
  have x := (x1.trans x2).trans x3
  repeat' (first | ((with_reducible refine o_s ?_); (first | (refine o_1 ?_; refine o_2 ?_) | (refine o_g ?_; first | refine o_u ?_ | refine o_k ?_ | refine o_n ?_ | refine o_v ?_ | ((first | refine o_G ?_ ?_ | refine o_N ?_ ?_) <;> intro hc)))) | ((fail_if_success (with_reducible refine o_s ?_)); go_step))
  · have c1 := ‹¬cmpN a.name b.name < 0›
    have c2 := ‹cmpN a.name b.name = 0›
    go_ret
    exact ⟨by simp [aheadS, c2], x⟩
  · have c1 := ‹¬cmpN a.name b.name < 0›
    have c2 := ‹¬cmpN a.name b.name = 0›
    go_ret
    exact ⟨by rw [aheadS, decide_eq_false c1, decide_eq_false c2]; rfl, x⟩
  · have c1 := ‹cmpN a.name b.name < 0›
    go_ret
    exact ⟨by rw [aheadS, decide_eq_true c1]; rfl, x⟩
set_option maxHeartbeats 6000000 in
theorem r7_May (s : RSet) (v : Value) (w : World) (hv : Sl 1 w v (tcells s.data)) (hd : ∀ d ∈ s.data, d.length ≤ 4611686018427387904) : Calls Tryz.prog 173 #[.agg #[str s.name, .int .i64 s.kind, .int .i64 s.ttl, v]] w (RetV w (.bool (mayS s))) := by
  have hlen := tcells_length s.data
  have hle := hv.le
  go_enter Tryz.func173, Tryz.ntmps173
  repeat' ((fail_if_success (with_reducible refine o_s ?_)); go_step)
  refine wpl_box (vs := [str s.name, .int .i64 s.kind, .int .i64 s.ttl, v]) rfl rfl ?_
  intro p w1 x1 hp
  refine gset ?_
  have hv1 := hv.ext x1
  repeat' (first | ((with_reducible refine o_s ?_); (first | (refine o_1 ?_; refine o_2 ?_) | (refine o_g ?_; first | refine o_u ?_ | refine o_k ?_ | refine o_n ?_ | refine o_v ?_ | ((first | refine o_G ?_ ?_ | refine o_N ?_ ?_) <;> intro hc)))) | ((fail_if_success (with_reducible refine o_s ?_)); go_step))
  cases hb : decide (fold s.name = s.name) with
  | false =>
    have hno : mayS s = false := by simp [mayS, hb]
    refine wpq_region (by decide +kernel) (by decide +kernel) ?_
    repeat' (first | ((with_reducible refine q_s ?_); (first | (refine q_1 ?_; refine q_2 ?_) | (refine q_g ?_; first | refine q_u ?_ | refine q_k ?_ | refine q_v ?_))) | (with_reducible refine q_n ?_))
    refine wpq_call (enters_of Tryz.func44 rfl rfl) rfl rfl (fun w' _ => r1_Fold s.name w') ?_
    refine gset ?_
    repeat' (first | ((with_reducible refine q_s ?_); (first | (refine q_1 ?_; refine q_2 ?_) | (refine q_g ?_; first | refine q_u ?_ | refine q_k ?_ | refine q_v ?_))) | (with_reducible refine q_n ?_))
    simp only [hb, Bool.not_true, Bool.not_false]
    repeat' (first | ((with_reducible refine q_s ?_); (first | (refine q_1 ?_; refine q_2 ?_) | (refine q_g ?_; first | refine q_u ?_ | refine q_k ?_ | refine q_v ?_))) | (with_reducible refine q_n ?_))
    intro w2 x2
    repeat' (first | ((with_reducible refine o_s ?_); (first | (refine o_1 ?_; refine o_2 ?_) | (refine o_g ?_; first | refine o_u ?_ | refine o_k ?_ | refine o_n ?_ | refine o_v ?_ | ((first | refine o_G ?_ ?_ | refine o_N ?_ ?_) <;> intro hc)))) | ((fail_if_success (with_reducible refine o_s ?_)); go_step))
    go_ret
    exact ⟨by rw [hno]; rfl, x1.trans x2⟩
  | true =>
    have hfo : fold s.name = s.name := by simpa using hb
    refine wpq_region (by decide +kernel) (by decide +kernel) ?_
    repeat' (first | ((with_reducible refine q_s ?_); (first | (refine q_1 ?_; refine q_2 ?_) | (refine q_g ?_; first | refine q_u ?_ | refine q_k ?_ | refine q_v ?_))) | (with_reducible refine q_n ?_))
    refine wpq_call (enters_of Tryz.func44 rfl rfl) rfl rfl (fun w' _ => r1_Fold s.name w') ?_
    refine gset ?_
    repeat' (first | ((with_reducible refine q_s ?_); (first | (refine q_1 ?_; refine q_2 ?_) | (refine q_g ?_; first | refine q_u ?_ | refine q_k ?_ | refine q_v ?_))) | (with_reducible refine q_n ?_))
    simp only [hb, Bool.not_true, Bool.not_false]
    repeat' (first | ((with_reducible refine q_s ?_); (first | (refine q_1 ?_; refine q_2 ?_) | (refine q_g ?_; first | refine q_u ?_ | refine q_k ?_ | refine q_v ?_))) | (with_reducible refine q_n ?_))
    cases hb1 : decide (((tcells s.data).length : Int) < 1) with
    | true =>
      have hno : mayS s = false := by simp at hb1; simp [mayS]; intro _ h; omega
      repeat' (first | ((with_reducible refine q_s ?_); (first | (refine q_1 ?_; refine q_2 ?_) | (refine q_g ?_; first | refine q_u ?_ | refine q_k ?_ | refine q_v ?_))) | (with_reducible refine q_n ?_))
      intro w2 x2
      repeat' (first | ((with_reducible refine o_s ?_); (first | (refine o_1 ?_; refine o_2 ?_) | (refine o_g ?_; first | refine o_u ?_ | refine o_k ?_ | refine o_n ?_ | refine o_v ?_ | ((first | refine o_G ?_ ?_ | refine o_N ?_ ?_) <;> intro hc)))) | ((fail_if_success (with_reducible refine o_s ?_)); go_step))
      go_ret
      exact ⟨by rw [hno]; rfl, x1.trans x2⟩
    | false =>
      repeat' (first | ((with_reducible refine q_s ?_); (first | (refine q_1 ?_; refine q_2 ?_) | (refine q_g ?_; first | refine q_u ?_ | refine q_k ?_ | refine q_v ?_))) | (with_reducible refine q_n ?_))
      cases hb2 : decide ((20 : Int) < ((tcells s.data).length : Int)) with
      | true =>
        have hno : mayS s = false := by simp at hb2; simp [mayS]; intro _ _ h; omega
        repeat' (first | ((with_reducible refine q_s ?_); (first | (refine q_1 ?_; refine q_2 ?_) | (refine q_g ?_; first | refine q_u ?_ | refine q_k ?_ | refine q_v ?_))) | (with_reducible refine q_n ?_))
        intro w2 x2
        repeat' (first | ((with_reducible refine o_s ?_); (first | (refine o_1 ?_; refine o_2 ?_) | (refine o_g ?_; first | refine o_u ?_ | refine o_k ?_ | refine o_n ?_ | refine o_v ?_ | ((first | refine o_G ?_ ?_ | refine o_N ?_ ?_) <;> intro hc)))) | ((fail_if_success (with_reducible refine o_s ?_)); go_step))
        go_ret
        exact ⟨by rw [hno]; rfl, x1.trans x2⟩
      | false =>
        repeat' (first | ((with_reducible refine q_s ?_); (first | (refine q_1 ?_; refine q_2 ?_) | (refine q_g ?_; first | refine q_u ?_ | refine q_k ?_ | refine q_v ?_))) | (with_reducible refine q_n ?_))
        intro w2 x2
        have hl1 : 1 ≤ s.data.length := by simp at hb1; omega
        have hl2 : s.data.length ≤ 20 := by simp at hb2; omega
        have hp := hp.ext x2
        have hv2 := hv1.ext x2
        have x12 := x1.trans x2
        clear x1 x2 hv1
        repeat' (first | ((with_reducible refine o_s ?_); (first | (refine o_1 ?_; refine o_2 ?_) | (refine o_g ?_; first | refine o_u ?_ | refine o_k ?_ | refine o_n ?_ | refine o_v ?_ | ((first | refine o_G ?_ ?_ | refine o_N ?_ ?_) <;> intro hc)))) | ((fail_if_success (with_reducible refine o_s ?_)); go_step))
        go_loopw [3] (fun i wr => ∃ k : Nat, k ≤ s.data.length ∧ i = .int .i64 k ∧ Ext w2 wr ∧ ∀ j, j < k → badAt s j = false) (fun i _ => s.data.length - (intOf i).toNat)
        case atStart => exact ⟨0, Nat.zero_le _, rfl, Ext.refl _, by omega⟩
        case round =>
          obtain ⟨k, hk, rfl, hx, hall⟩ := hrel
          have hp := hp.ext hx
          have hv3 := hv2.ext hx
          by_cases hlt : k < s.data.length
          · have hq := hv3.elem (tcells_at hlt)
            have hdk := hd _ (List.getElem_mem hlt)
            have hbad : badAt s k = (decide (checkR ⟨s.name, s.kind, s.ttl, s.data[k]⟩ ≠ 0) || (decide (0 < k) && !Op.bytesLess (s.data.getD (k - 1) []) s.data[k])) := by
              rw [badAt, show s.data.getD k [] = s.data[k] by simp [hlt]]
            have hck : ∀ w', Calls Tryz.prog 154 #[.agg #[str s.name, .int .i64 s.kind, .int .i64 s.ttl, str s.data[k]]] w' (RetV w' (.int .i64 (checkR ⟨s.name, s.kind, s.ttl, s.data[k]⟩))) := fun w' => r3_Check ⟨s.name, s.kind, s.ttl, s.data[k]⟩ w' hdk
            repeat' (first | ((with_reducible refine o_s ?_); (first | (refine o_1 ?_; refine o_2 ?_) | (refine o_g ?_; first | refine o_u ?_ | refine o_k ?_ | refine o_n ?_ | refine o_v ?_ | ((first | refine o_G ?_ ?_ | refine o_N ?_ ?_) <;> intro hc)))) | ((fail_if_success (with_reducible refine o_s ?_)); go_step))
            refine wpq_region (by decide +kernel) (by decide +kernel) ?_
            repeat' (first | ((with_reducible refine q_s ?_); (first | (refine q_1 ?_; refine q_2 ?_) | (refine q_g ?_; first | refine q_u ?_ | refine q_k ?_ | refine q_v ?_))) | (with_reducible refine q_n ?_))
            refine wpq_run (v := .agg #[str s.name, .int .i64 s.kind, .int .i64 s.ttl, str s.data[k]]) rfl (fun w' _ => Runs.build rfl (by kernel_rfl)) ?_
            refine gset ?_
            repeat' (first | ((with_reducible refine q_s ?_); (first | (refine q_1 ?_; refine q_2 ?_) | (refine q_g ?_; first | refine q_u ?_ | refine q_k ?_ | refine q_v ?_))) | (with_reducible refine q_n ?_))
            refine wpq_call (enters_of Tryz.func154 rfl rfl) rfl rfl (fun w' _ => hck w') ?_
            refine gset ?_
            repeat' (first | ((with_reducible refine q_s ?_); (first | (refine q_1 ?_; refine q_2 ?_) | (refine q_g ?_; first | refine q_u ?_ | refine q_k ?_ | refine q_v ?_))) | (with_reducible refine q_n ?_))
            cases hc : decide (checkR ⟨s.name, s.kind, s.ttl, s.data[k]⟩ = 0) with
            | false =>
              have hno : mayS s = false := mayS_bad hlt (by rw [hbad]; simp at hc; simp [hc])
              simp only [Bool.not_false]
              repeat' (first | ((with_reducible refine q_s ?_); (first | (refine q_1 ?_; refine q_2 ?_) | (refine q_g ?_; first | refine q_u ?_ | refine q_k ?_ | refine q_v ?_))) | (with_reducible refine q_n ?_))
              intro w3 x3
              repeat' (first | ((with_reducible refine o_s ?_); (first | (refine o_1 ?_; refine o_2 ?_) | (refine o_g ?_; first | refine o_u ?_ | refine o_k ?_ | refine o_n ?_ | refine o_v ?_ | ((first | refine o_G ?_ ?_ | refine o_N ?_ ?_) <;> intro hc)))) | ((fail_if_success (with_reducible refine o_s ?_)); go_step))
              go_ret
              exact ⟨by rw [hno]; rfl, x12.trans (hx.trans x3)⟩
            | true =>
              have hc0 : checkR ⟨s.name, s.kind, s.ttl, s.data[k]⟩ = 0 := by simpa using hc
              simp only [Bool.not_true]
              repeat' (first | ((with_reducible refine q_s ?_); (first | (refine q_1 ?_; refine q_2 ?_) | (refine q_g ?_; first | refine q_u ?_ | refine q_k ?_ | refine q_v ?_))) | (with_reducible refine q_n ?_))
              by_cases hk0 : k = 0
              · have hb0 : badAt s k = false := by rw [hbad, hc0]; simp [hk0]
                rw [show decide ((0 : Int) < (k : Int)) = false by simp [hk0]]
                repeat' (first | ((with_reducible refine q_s ?_); (first | (refine q_1 ?_; refine q_2 ?_) | (refine q_g ?_; first | refine q_u ?_ | refine q_k ?_ | refine q_v ?_))) | (with_reducible refine q_n ?_))
                intro w3 x3
                repeat' (first | ((with_reducible refine o_s ?_); (first | (refine o_1 ?_; refine o_2 ?_) | (refine o_g ?_; first | refine o_u ?_ | refine o_k ?_ | refine o_n ?_ | refine o_v ?_ | ((first | refine o_G ?_ ?_ | refine o_N ?_ ?_) <;> intro hc)))) | ((fail_if_success (with_reducible refine o_s ?_)); go_step))
                exact ⟨⟨k + 1, by omega, by go_num, hx.trans x3, fun j hj => by
                  rcases Nat.lt_succ_iff_lt_or_eq.1 hj with h | rfl
                  · exact hall j h
                  · exact hb0⟩, by simp [intOf]; omega⟩
              · rw [show decide ((0 : Int) < (k : Int)) = true by simp; omega]
                have hq2 : Pts wr (elemPtr v (((k : Int) - 1).toNat * 1)) [str (s.data.getD (k - 1) [])] := by
                  have := hv3.elem (i := k - 1) (e := [str (s.data.getD (k - 1) [])]) (by rw [tcells_at (show k - 1 < s.data.length by omega)]; simp [show k - 1 < s.data.length by omega])
                  rwa [show ((k : Int) - 1).toNat = k - 1 by omega]
                repeat' (first | ((with_reducible refine q_s ?_); (first | (refine q_1 ?_; refine q_2 ?_) | (refine q_g ?_; first | refine q_u ?_ | refine q_k ?_ | refine q_v ?_))) | (with_reducible refine q_n ?_))
                have hb0 : badAt s k = !Op.bytesLess (s.data.getD (k - 1) []) s.data[k] := by rw [hbad, hc0]; simp; omega
                intro w3 x3
                cases hbl : Op.bytesLess (s.data.getD (k - 1) []) s.data[k] with
                | false =>
                  have hno : mayS s = false := mayS_bad hlt (by rw [hb0, hbl]; rfl)
                  repeat' (first | ((with_reducible refine o_s ?_); (first | (refine o_1 ?_; refine o_2 ?_) | (refine o_g ?_; first | refine o_u ?_ | refine o_k ?_ | refine o_n ?_ | refine o_v ?_ | ((first | refine o_G ?_ ?_ | refine o_N ?_ ?_) <;> intro hc)))) | ((fail_if_success (with_reducible refine o_s ?_)); go_step))
                  go_ret
                  exact ⟨by rw [hno]; rfl, x12.trans (hx.trans x3)⟩
                | true =>
                  have hb1 : badAt s k = false := by rw [hb0, hbl]; rfl
                  repeat' (first | ((with_reducible refine o_s ?_); (first | (refine o_1 ?_; refine o_2 ?_) | (refine o_g ?_; first | refine o_u ?_ | refine o_k ?_ | refine o_n ?_ | refine o_v ?_ | ((first | refine o_G ?_ ?_ | refine o_N ?_ ?_) <;> intro hc)))) | ((fail_if_success (with_reducible refine o_s ?_)); go_step))
                  exact ⟨⟨k + 1, by omega, rfl, hx.trans x3, fun j hj => by
                    rcases Nat.lt_succ_iff_lt_or_eq.1 hj with h | rfl
                    · exact hall j h
                    · exact hb1⟩, by simp [intOf]; omega⟩
          · have : k = s.data.length := by omega
            subst this
            have hyes : mayS s = true := by
              simp only [mayS, hb, decide_eq_true hl1, decide_eq_true hl2, Bool.true_and, List.all_eq_true, List.mem_range, Bool.not_eq_true']
              exact hall
            repeat' (first | ((with_reducible refine o_s ?_); (first | (refine o_1 ?_; refine o_2 ?_) | (refine o_g ?_; first | refine o_u ?_ | refine o_k ?_ | refine o_n ?_ | refine o_v ?_ | ((first | refine o_G ?_ ?_ | refine o_N ?_ ?_) <;> intro hc)))) | ((fail_if_success (with_reducible refine o_s ?_)); go_step))
            go_ret
            exact ⟨by rw [hyes]; rfl, x12.trans hx⟩
end Go.Proofs.X
