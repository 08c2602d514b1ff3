/- Laws and walks that the proof of the statement is made of (part 5). -/
import Derived.Test.YtoajkilickakiaaGreatProg
import Derived.Lib.Hide
import Derived.OwnWalk
import Derived.Shelf.RegionOpenPlain
import Derived.Lib.Strings
import Derived.Lib.Slices
import Derived.Lib.Walk
import Derived.Lib.Builder
import Derived.Lib.AppendStr
import Derived.Lib.UnsafeStr
import Derived.Lib.MakeNoZero
import Derived.WalkKit
import Derived.Laws.Externs
import Derived.Laws.IdiomCopy
import Derived.Laws.BitsLemmas
import GoSem.Claims
import Derived.Test.YtoajkilickakiaaGreatShelf
import Derived.Shelf.SlSortCmp.NoneTotal
import Derived.Test.YtoajkilickakiaaGreatP1
import Derived.Test.YtoajkilickakiaaGreatP2
import Derived.Test.YtoajkilickakiaaGreatP3
import Derived.Test.YtoajkilickakiaaGreatP4
set_option linter.unusedSimpArgs false
set_option linter.unusedVariables false
namespace Go.Proofs.X
open Go.RowKit
set_option maxRecDepth 100000
def zeroSoa : List Value := [str [], str [], .int .i64 0, .int .i64 0, .int .i64 0, .int .i64 0, .int .i64 0]
theorem firstN_len (s : List UInt8) : (firstN s).1.length ≤ s.length ∧ (firstN s).2.1.length ≤ s.length := by
  unfold firstN
  split
  · simp
  · refine ⟨?_, by simp⟩
    unfold hostN
    split
    · simp only [Option.getD_some]
      have : (Lib.trimSuffix (s.take (walkN s + 1)) [0]).length ≤ (s.take (walkN s + 1)).length := Lib.trimSuffix_le _ _
      simp at this ⊢
      omega
    · simp
set_option maxHeartbeats 1000000 in
theorem t38 (d : List UInt8) (w : World) (hl : d.length ≤ 4611686018427387904) : Calls Tryz.prog 106 #[str d] w (RetV w (match parseSoa d with | some s => .tuple #[.agg s.cells.toArray, .int .i64 0] | none => .tuple #[.agg zeroSoa.toArray, .int .i64 2])) := by
  have hl1 := firstN_len d
  have hl2 := firstN_len (firstN d).2.1
  go_enter Tryz.func106, Tryz.ntmps106
  repeat' ((fail_if_success (with_reducible refine o_s ?_)); go_step)
  refine wpl_allocB (z := zeroSoa) rfl (by decide +kernel) ?_
  intro w1 x1 s1 h1
  refine gset ?_
  repeat' (first | ((with_reducible refine o_s ?_); (first | (refine o_1 ?_; refine o_2 ?_) | (refine o_g ?_; first | refine o_u ?_ | refine o_k ?_ | refine o_n ?_ | refine o_v ?_ | ((first | refine o_G ?_ ?_ | refine o_N ?_ ?_) <;> intro hc)))) | ((fail_if_success (with_reducible refine o_s ?_)); go_step))
  refine wpl_callV (enters_of Tryz.func143 rfl rfl) rfl rfl (t68 d _ hl) ?_
  intro w2 x2
  refine gset ?_
  have h12 := x2.at h1
  repeat' (first | ((with_reducible refine o_s ?_); (first | (refine o_1 ?_; refine o_2 ?_) | (refine o_g ?_; first | refine o_u ?_ | refine o_k ?_ | refine o_n ?_ | refine o_v ?_ | ((first | refine o_G ?_ ?_ | refine o_N ?_ ?_) <;> intro hc)))) | ((fail_if_success (with_reducible refine o_s ?_)); go_step))
  refine wpl_allocB (z := [str []]) rfl (by decide +kernel) ?_
  intro w3 x3 s3 h3
  refine gset ?_
  have h13 := x3.at h12
  repeat' (first | ((with_reducible refine o_s ?_); (first | (refine o_1 ?_; refine o_2 ?_) | (refine o_g ?_; first | refine o_u ?_ | refine o_k ?_ | refine o_n ?_ | refine o_v ?_ | ((first | refine o_G ?_ ?_ | refine o_N ?_ ?_) <;> intro hc)))) | ((fail_if_success (with_reducible refine o_s ?_)); go_step))
  refine wpl_store1 (v := str (firstN d).2.1) rfl rfl rfl h3 (by decide +kernel) rfl ?_
  intro w4 p4
  have s2 : w.heap.size < w2.heap.size := by have := x2.size; omega
  have h14 := p4.at h13 (by omega)
  have h54 := p4.this
  have x4 : Ext w w4 := ((x1.trans x2).trans x3).move p4.mv (by rintro k ⟨⟩; omega)
  have hp5 := pts_block (cs := [str (firstN d).2.1]) h54
  generalize hb5 : w2.heap.size = b5 at *
  clear h1 h12 h13 h3 p4 x1 x2 x3 s3
  repeat' (first | ((with_reducible refine o_s ?_); (first | (refine o_1 ?_; refine o_2 ?_) | (refine o_g ?_; first | refine o_u ?_ | refine o_k ?_ | refine o_n ?_ | refine o_v ?_ | ((first | refine o_G ?_ ?_ | refine o_N ?_ ?_) <;> intro hc)))) | ((fail_if_success (with_reducible refine o_s ?_)); go_step))
  refine wpl_callV (enters_of Tryz.func143 rfl rfl) rfl rfl (t68 _ _ (by omega)) ?_
  intro w5 x5
  refine gset ?_
  have h15 := x5.at h14
  have h55 := x5.at h54
  have hp5 := hp5.ext x5
  have x5 := x4.trans x5
  repeat' (first | ((with_reducible refine o_s ?_); (first | (refine o_1 ?_; refine o_2 ?_) | (refine o_g ?_; first | refine o_u ?_ | refine o_k ?_ | refine o_n ?_ | refine o_v ?_ | ((first | refine o_G ?_ ?_ | refine o_N ?_ ?_) <;> intro hc)))) | ((fail_if_success (with_reducible refine o_s ?_)); go_step))
  refine wpl_store1 (v := str (firstN (firstN d).2.1).2.1) rfl rfl rfl h55 (by decide +kernel) rfl ?_
  intro w6 p6
  have h16 := p6.at h15 (by omega)
  have h56 := p6.this
  have x6 : Ext w w6 := x5.move p6.mv (by rintro k ⟨⟩; omega)
  clear hp5 h54 h14 h15 h55 p6 x4 x5
  have hp5 := pts_block (cs := [str (firstN (firstN d).2.1).2.1]) h56
  repeat' (first | ((with_reducible refine o_s ?_); (first | (refine o_1 ?_; refine o_2 ?_) | (refine o_g ?_; first | refine o_u ?_ | refine o_k ?_ | refine o_n ?_ | refine o_v ?_ | ((first | refine o_G ?_ ?_ | refine o_N ?_ ?_) <;> intro hc)))) | ((fail_if_success (with_reducible refine o_s ?_)); go_step))
  · refine wpl_run (v := .agg zeroSoa.toArray) rfl (Runs.build (parts := []) (vals := []) rfl (by kernel_rfl)) ?_
    refine gset ?_
    refine wpl_storeB (v := .agg zeroSoa.toArray) rfl rfl rfl h16 (by decide +kernel) rfl (by decide +kernel) ?_
    intro w7 p7
    have x7 : Ext w w7 := x6.move p7.mv (by rintro k ⟨⟩; omega)
    have h17 : w7.heap[w.heap.size]? = some (.cells zeroSoa.toArray 103 (0, 0)) := p7.this
    repeat' (first | ((with_reducible refine o_s ?_); (first | (refine o_1 ?_; refine o_2 ?_) | (refine o_g ?_; first | refine o_u ?_ | refine o_k ?_ | refine o_n ?_ | refine o_v ?_ | ((first | refine o_G ?_ ?_ | refine o_N ?_ ?_) <;> intro hc)))) | ((fail_if_success (with_reducible refine o_s ?_)); go_step))
    refine bodyPost_ret (results_cellT (cs := zeroSoa) rfl rfl h17 (by decide +kernel)) rfl ⟨?_, x7⟩
    have hno : parseSoa d = none := by
      unfold parseSoa
      rw [if_neg]
      rintro ⟨q1, q2, q3, q4⟩
      have := ‹(!decide (((firstN (firstN d).2.1).2.1.length : Int) = 20)) = true›
      simp [q3] at this
    rw [hno]
    rfl
  · have hc1 := ‹(!(firstN d).2.2) = false›
    have hc2 := ‹(!(firstN (firstN d).2.1).2.2) = false›
    have hc3 := ‹(!decide (((firstN (firstN d).2.1).2.1.length : Int) = 20)) = false›
    have hr : (firstN (firstN d).2.1).2.1.length = 20 := by simp at hc3; omega
    have q1 : (firstN d).2.2 = true := by simpa using hc1
    have q2 : (firstN (firstN d).2.1).2.2 = true := by simpa using hc2
    have hps : parseSoa d = if (soaOf d).ok = true then some (soaOf d) else none := by
      unfold parseSoa
      simp only [q1, q2, hr, true_and]
    generalize hrr : (firstN (firstN d).2.1).2.1 = r at *
    refine wpl_callT (f := 144) (caps := #[.pointer (some ⟨b5, 0, none⟩)]) (enters_of Tryz.func144 rfl rfl) rfl rfl rfl (t69 r 0 _ _ hp5 hr (by omega)) ?_
    rintro e w10 ⟨rfl, y⟩
    refine ⟨_, rfl, ?_⟩
    refine gset ?_
    have hp5 := hp5.ext y
    have h16 := y.at h16
    have x6 := x6.trans y
    clear y
    repeat' (first | ((with_reducible refine o_s ?_); (first | (refine o_1 ?_; refine o_2 ?_) | (refine o_g ?_; first | refine o_u ?_ | refine o_k ?_ | refine o_n ?_ | refine o_v ?_ | ((first | refine o_G ?_ ?_ | refine o_N ?_ ?_) <;> intro hc)))) | ((fail_if_success (with_reducible refine o_s ?_)); go_step))
    refine wpl_callT (f := 144) (caps := #[.pointer (some ⟨b5, 0, none⟩)]) (enters_of Tryz.func144 rfl rfl) rfl rfl rfl (t69 r 1 _ _ hp5 hr (by omega)) ?_
    rintro e w11 ⟨rfl, y⟩
    refine ⟨_, rfl, ?_⟩
    refine gset ?_
    have hp5 := hp5.ext y
    have h16 := y.at h16
    have x6 := x6.trans y
    clear y
    repeat' (first | ((with_reducible refine o_s ?_); (first | (refine o_1 ?_; refine o_2 ?_) | (refine o_g ?_; first | refine o_u ?_ | refine o_k ?_ | refine o_n ?_ | refine o_v ?_ | ((first | refine o_G ?_ ?_ | refine o_N ?_ ?_) <;> intro hc)))) | ((fail_if_success (with_reducible refine o_s ?_)); go_step))
    refine wpl_callT (f := 144) (caps := #[.pointer (some ⟨b5, 0, none⟩)]) (enters_of Tryz.func144 rfl rfl) rfl rfl rfl (t69 r 2 _ _ hp5 hr (by omega)) ?_
    rintro e w12 ⟨rfl, y⟩
    refine ⟨_, rfl, ?_⟩
    refine gset ?_
    have hp5 := hp5.ext y
    have h16 := y.at h16
    have x6 := x6.trans y
    clear y
    repeat' (first | ((with_reducible refine o_s ?_); (first | (refine o_1 ?_; refine o_2 ?_) | (refine o_g ?_; first | refine o_u ?_ | refine o_k ?_ | refine o_n ?_ | refine o_v ?_ | ((first | refine o_G ?_ ?_ | refine o_N ?_ ?_) <;> intro hc)))) | ((fail_if_success (with_reducible refine o_s ?_)); go_step))
    refine wpl_callT (f := 144) (caps := #[.pointer (some ⟨b5, 0, none⟩)]) (enters_of Tryz.func144 rfl rfl) rfl rfl rfl (t69 r 3 _ _ hp5 hr (by omega)) ?_
    rintro e w13 ⟨rfl, y⟩
    refine ⟨_, rfl, ?_⟩
    refine gset ?_
    have hp5 := hp5.ext y
    have h16 := y.at h16
    have x6 := x6.trans y
    clear y
    repeat' (first | ((with_reducible refine o_s ?_); (first | (refine o_1 ?_; refine o_2 ?_) | (refine o_g ?_; first | refine o_u ?_ | refine o_k ?_ | refine o_n ?_ | refine o_v ?_ | ((first | refine o_G ?_ ?_ | refine o_N ?_ ?_) <;> intro hc)))) | ((fail_if_success (with_reducible refine o_s ?_)); go_step))
    refine wpl_callT (f := 144) (caps := #[.pointer (some ⟨b5, 0, none⟩)]) (enters_of Tryz.func144 rfl rfl) rfl rfl rfl (t69 r 4 _ _ hp5 hr (by omega)) ?_
    rintro e w14 ⟨rfl, y⟩
    refine ⟨_, rfl, ?_⟩
    refine gset ?_
    have hp5 := hp5.ext y
    have h16 := y.at h16
    have x6 := x6.trans y
    clear y
    repeat' (first | ((with_reducible refine o_s ?_); (first | (refine o_1 ?_; refine o_2 ?_) | (refine o_g ?_; first | refine o_u ?_ | refine o_k ?_ | refine o_n ?_ | refine o_v ?_ | ((first | refine o_G ?_ ?_ | refine o_N ?_ ?_) <;> intro hc)))) | ((fail_if_success (with_reducible refine o_s ?_)); go_step))
    have hsc : (soaOf d).cells = [str (firstN d).1, str (firstN (firstN d).2.1).1, .int .i64 (numP r 0 4 : Nat), .int .i64 (numP r 1 4 : Nat), .int .i64 (numP r 2 4 : Nat), .int .i64 (numP r 3 4 : Nat), .int .i64 (numP r 4 4 : Nat)] := by
      simp only [SoaR.cells, soaOf, hrr]
    refine wpl_run (v := .agg (soaOf d).cells.toArray) rfl (by rw [hsc]; exact Runs.build rfl (by kernel_rfl)) ?_
    refine gset ?_
    refine wpl_allocB (z := zeroSoa) rfl (by decide +kernel) ?_
    intro w15 x15 s15 h15
    refine gset ?_
    have h16 := x15.at h16
    have x6 := x6.trans x15
    have hlt16 : w.heap.size < w14.heap.size := (Array.getElem?_eq_some_iff.1 ‹w14.heap[w.heap.size]? = _›).1
    refine wpl_storeB (v := .agg (soaOf d).cells.toArray) rfl rfl rfl h15 (show sizeTy Tryz.prog 103 7 = true by decide +kernel) rfl (by rw [hsc]; simp [Value.cells, Value.oneCell', str]) ?_
    intro w16 p16
    have h16 := p16.at h16 (by omega)
    have x6 := x6.move p16.mv (by rintro k ⟨⟩; omega)
    have hb10 : w16.heap[w14.heap.size]? = some (.cells (soaOf d).cells.toArray 103 (0, 0)) := p16.this
    have hp10 := pts_block hb10
    repeat' (first | ((with_reducible refine o_s ?_); (first | (refine o_1 ?_; refine o_2 ?_) | (refine o_g ?_; first | refine o_u ?_ | refine o_k ?_ | refine o_n ?_ | refine o_v ?_ | ((first | refine o_G ?_ ?_ | refine o_N ?_ ?_) <;> intro hc)))) | ((fail_if_success (with_reducible refine o_s ?_)); go_step))
    refine wpl_run (v := .agg (soaOf d).cells.toArray) rfl (Runs.loadN (n := 7) hp10 rfl (by decide +kernel)) ?_
    refine gset ?_
    have hm1 : (soaOf d).main.length ≤ 4611686018427387904 := by simp only [soaOf]; omega
    have hm2 : (soaOf d).mail.length ≤ 4611686018427387904 := by simp only [soaOf]; omega
    refine wpl_callV (enters_of Tryz.func108 rfl rfl) rfl rfl (t70 (soaOf d) _ hm1 hm2) ?_
    intro w17 x17
    refine gset ?_
    have h16 := x17.at h16
    have hb10 := x17.at hb10
    have x6 := x6.trans x17
    have hp10 := hp10.ext x17
    cases hok : (soaOf d).ok with
    | false =>
      simp only [hok, Bool.false_eq_true, if_false] at hps ⊢
      repeat' (first | ((with_reducible refine o_s ?_); (first | (refine o_1 ?_; refine o_2 ?_) | (refine o_g ?_; first | refine o_u ?_ | refine o_k ?_ | refine o_n ?_ | refine o_v ?_ | ((first | refine o_G ?_ ?_ | refine o_N ?_ ?_) <;> intro hc)))) | ((fail_if_success (with_reducible refine o_s ?_)); go_step))
      refine wpl_run (v := .agg zeroSoa.toArray) rfl (Runs.build (parts := []) (vals := []) rfl (by kernel_rfl)) ?_
      refine gset ?_
      refine wpl_storeB (v := .agg zeroSoa.toArray) rfl rfl rfl h16 (by decide +kernel) rfl (by decide +kernel) ?_
      intro w7 p7
      have x7 : Ext w w7 := x6.move p7.mv (by rintro k ⟨⟩; omega)
      have h17 : w7.heap[w.heap.size]? = some (.cells zeroSoa.toArray 103 (0, 0)) := p7.this
      repeat' (first | ((with_reducible refine o_s ?_); (first | (refine o_1 ?_; refine o_2 ?_) | (refine o_g ?_; first | refine o_u ?_ | refine o_k ?_ | refine o_n ?_ | refine o_v ?_ | ((first | refine o_G ?_ ?_ | refine o_N ?_ ?_) <;> intro hc)))) | ((fail_if_success (with_reducible refine o_s ?_)); go_step))
      refine bodyPost_ret (results_cellT (cs := zeroSoa) rfl rfl h17 (by decide +kernel)) rfl ⟨?_, x7⟩
      rw [hps]
      rfl
    | true =>
      simp only [hok, if_true] at hps ⊢
      repeat' (first | ((with_reducible refine o_s ?_); (first | (refine o_1 ?_; refine o_2 ?_) | (refine o_g ?_; first | refine o_u ?_ | refine o_k ?_ | refine o_n ?_ | refine o_v ?_ | ((first | refine o_G ?_ ?_ | refine o_N ?_ ?_) <;> intro hc)))) | ((fail_if_success (with_reducible refine o_s ?_)); go_step))
      refine wpl_run (v := .agg (soaOf d).cells.toArray) rfl (Runs.loadN (n := 7) hp10 rfl (by decide +kernel)) ?_
      refine gset ?_
      refine wpl_storeB (v := .agg (soaOf d).cells.toArray) rfl rfl rfl h16 (show sizeTy Tryz.prog 103 7 = true by decide +kernel) rfl (by rw [hsc]; simp [Value.cells, Value.oneCell', str]) ?_
      intro w7 p7
      have x7 : Ext w w7 := x6.move p7.mv (by rintro k ⟨⟩; omega)
      have h17 : w7.heap[w.heap.size]? = some (.cells (soaOf d).cells.toArray 103 (0, 0)) := p7.this
      repeat' (first | ((with_reducible refine o_s ?_); (first | (refine o_1 ?_; refine o_2 ?_) | (refine o_g ?_; first | refine o_u ?_ | refine o_k ?_ | refine o_n ?_ | refine o_v ?_ | ((first | refine o_G ?_ ?_ | refine o_N ?_ ?_) <;> intro hc)))) | ((fail_if_success (with_reducible refine o_s ?_)); go_step))
      refine bodyPost_ret (results_cellT (cs := (soaOf d).cells) rfl rfl h17 (show aggTy Tryz.prog 103 7 = true by decide +kernel)) rfl ⟨?_, x7⟩
      rw [hps]
      rfl
  · refine wpl_run (v := .agg zeroSoa.toArray) rfl (Runs.build (parts := []) (vals := []) rfl (by kernel_rfl)) ?_
    refine gset ?_
    refine wpl_storeB (v := .agg zeroSoa.toArray) rfl rfl rfl h16 (by decide +kernel) rfl (by decide +kernel) ?_
    intro w7 p7
    have x7 : Ext w w7 := x6.move p7.mv (by rintro k ⟨⟩; omega)
    have h17 : w7.heap[w.heap.size]? = some (.cells zeroSoa.toArray 103 (0, 0)) := p7.this
    repeat' (first | ((with_reducible refine o_s ?_); (first | (refine o_1 ?_; refine o_2 ?_) | (refine o_g ?_; first | refine o_u ?_ | refine o_k ?_ | refine o_n ?_ | refine o_v ?_ | ((first | refine o_G ?_ ?_ | refine o_N ?_ ?_) <;> intro hc)))) | ((fail_if_success (with_reducible refine o_s ?_)); go_step))
    refine bodyPost_ret (results_cellT (cs := zeroSoa) rfl rfl h17 (by decide +kernel)) rfl ⟨?_, x7⟩
    have hno : parseSoa d = none := by
      unfold parseSoa
      rw [if_neg]
      rintro ⟨q1, q2, q3, q4⟩
      have := ‹(!(firstN (firstN d).2.1).2.2) = true›
      simp [q2] at this
    rw [hno]
    rfl
  · refine wpl_run (v := .agg zeroSoa.toArray) rfl (Runs.build (parts := []) (vals := []) rfl (by kernel_rfl)) ?_
    refine gset ?_
    refine wpl_storeB (v := .agg zeroSoa.toArray) rfl rfl rfl h16 (by decide +kernel) rfl (by decide +kernel) ?_
    intro w7 p7
    have x7 : Ext w w7 := x6.move p7.mv (by rintro k ⟨⟩; omega)
    have h17 : w7.heap[w.heap.size]? = some (.cells zeroSoa.toArray 103 (0, 0)) := p7.this
    repeat' (first | ((with_reducible refine o_s ?_); (first | (refine o_1 ?_; refine o_2 ?_) | (refine o_g ?_; first | refine o_u ?_ | refine o_k ?_ | refine o_n ?_ | refine o_v ?_ | ((first | refine o_G ?_ ?_ | refine o_N ?_ ?_) <;> intro hc)))) | ((fail_if_success (with_reducible refine o_s ?_)); go_step))
    refine bodyPost_ret (results_cellT (cs := zeroSoa) rfl rfl h17 (by decide +kernel)) rfl ⟨?_, x7⟩
    have hno : parseSoa d = none := by
      unfold parseSoa
      rw [if_neg]
      rintro ⟨q1, q2, q3, q4⟩
      have := ‹(!(firstN d).2.2) = true›
      simp [q1] at this
    rw [hno]
    rfl
set_option maxHeartbeats 1000000 in
theorem t26 (k : Int) (d : List UInt8) (w : World) (hl : d.length ≤ 4000) : Calls Tryz.prog 178 #[.int .i64 k, str d] w (RetV w (.bool (fits k d))) := by
  have h38 := fun w => t38 d w (by omega)
  go_enter Tryz.func178, Tryz.ntmps178
  repeat' (first | ((with_reducible refine o_s ?_); (first | (refine o_1 ?_; refine o_2 ?_) | (refine o_g ?_; first | refine o_u ?_ | refine o_k ?_ | refine o_n ?_ | refine o_v ?_ | ((first | refine o_G ?_ ?_ | refine o_N ?_ ?_) <;> intro hc)))) | ((fail_if_success (with_reducible refine o_s ?_)); go_step))
  · have h1 := ‹k = 1›
    go_ret
    refine ⟨?_, Ext.refl _⟩
    rw [fits, if_pos h1]
    have e : decide ((d.length : Int) = 4) = decide (d.length = 4) := by apply decide_eq_decide.2; omega
    exact congrArg (fun b => Ending.returned (Value.bool b)) e
  · have h1 := ‹¬k = 1›
    have h2 := ‹k = 28›
    go_ret
    refine ⟨?_, Ext.refl _⟩
    rw [fits, if_neg h1, if_pos h2]
    have e : decide ((d.length : Int) = 16) = decide (d.length = 16) := by apply decide_eq_decide.2; omega
    exact congrArg (fun b => Ending.returned (Value.bool b)) e
  · have h1 := ‹¬k = 1›
    have h2 := ‹¬k = 28›
    have h3 := ‹k = 16›
    refine wpl_callV (enters_of Tryz.func196 rfl rfl) rfl rfl (t37 _ _ (by omega)) ?_
    intro w2 x2
    refine gset ?_
    repeat' (first | ((with_reducible refine o_s ?_); (first | (refine o_1 ?_; refine o_2 ?_) | (refine o_g ?_; first | refine o_u ?_ | refine o_k ?_ | refine o_n ?_ | refine o_v ?_ | ((first | refine o_G ?_ ?_ | refine o_N ?_ ?_) <;> intro hc)))) | ((fail_if_success (with_reducible refine o_s ?_)); go_step))
    go_ret
    refine ⟨?_, x2⟩
    rw [fits, if_neg h1, if_neg h2, if_pos h3]
    rfl
  · have h1 := ‹¬k = 1›
    have h2 := ‹¬k = 28›
    have h3 := ‹¬k = 16›
    have h4 := ‹k = 6›
    have hF : fits k d = (parseSoa d).isSome := by rw [fits, if_neg h1, if_neg h2, if_neg h3, if_pos h4]
    refine wpl_callV (enters_of Tryz.func106 rfl rfl) rfl rfl (h38 _) ?_
    intro w2 x2
    refine gset ?_
    cases hp : parseSoa d with
    | none =>
      simp only [hp] at hF
      repeat' (first | ((with_reducible refine o_s ?_); (first | (refine o_1 ?_; refine o_2 ?_) | (refine o_g ?_; first | refine o_u ?_ | refine o_k ?_ | refine o_n ?_ | refine o_v ?_ | ((first | refine o_G ?_ ?_ | refine o_N ?_ ?_) <;> intro hc)))) | ((fail_if_success (with_reducible refine o_s ?_)); go_step))
      refine wpl_allocB (z := zeroSoa) rfl (by decide +kernel) ?_
      intro w3 x3 s3 h3b
      refine gset ?_
      refine wpl_storeB (v := .agg zeroSoa.toArray) rfl rfl rfl h3b (by decide +kernel) rfl (by decide +kernel) ?_
      intro w4 p4
      repeat' (first | ((with_reducible refine o_s ?_); (first | (refine o_1 ?_; refine o_2 ?_) | (refine o_g ?_; first | refine o_u ?_ | refine o_k ?_ | refine o_n ?_ | refine o_v ?_ | ((first | refine o_G ?_ ?_ | refine o_N ?_ ?_) <;> intro hc)))) | ((fail_if_success (with_reducible refine o_s ?_)); go_step))
      go_ret
      refine ⟨?_, (x2.trans x3).move p4.mv (by rintro k ⟨⟩; exact x2.size)⟩
      rw [hF]
      rfl
    | some s =>
      simp only [hp] at hF
      have hsc : ∀ s : SoaR, s.cells = [str s.main, str s.mail, .int .i64 s.serial, .int .i64 s.refresh, .int .i64 s.retry, .int .i64 s.expire, .int .i64 s.minimum] := fun _ => rfl
      repeat' (first | ((with_reducible refine o_s ?_); (first | (refine o_1 ?_; refine o_2 ?_) | (refine o_g ?_; first | refine o_u ?_ | refine o_k ?_ | refine o_n ?_ | refine o_v ?_ | ((first | refine o_G ?_ ?_ | refine o_N ?_ ?_) <;> intro hc)))) | ((fail_if_success (with_reducible refine o_s ?_)); go_step))
      refine wpl_allocB (z := zeroSoa) rfl (by decide +kernel) ?_
      intro w3 x3 s3 h3b
      refine gset ?_
      refine wpl_storeB (v := .agg s.cells.toArray) rfl rfl rfl h3b (show sizeTy Tryz.prog 103 7 = true by decide +kernel) rfl (by rw [hsc]; simp [Value.cells, Value.oneCell', str]) ?_
      intro w4 p4
      repeat' (first | ((with_reducible refine o_s ?_); (first | (refine o_1 ?_; refine o_2 ?_) | (refine o_g ?_; first | refine o_u ?_ | refine o_k ?_ | refine o_n ?_ | refine o_v ?_ | ((first | refine o_G ?_ ?_ | refine o_N ?_ ?_) <;> intro hc)))) | ((fail_if_success (with_reducible refine o_s ?_)); go_step))
      go_ret
      refine ⟨?_, (x2.trans x3).move p4.mv (by rintro k ⟨⟩; exact x2.size)⟩
      rw [hF]
      rfl
  · have h1 := ‹¬k = 1›
    have h2 := ‹¬k = 28›
    have h3 := ‹¬k = 16›
    have h4 := ‹¬k = 6›
    refine wpl_callV (enters_of Tryz.func131 rfl rfl) rfl rfl (t39 k d _ (by omega)) ?_
    intro w2 x2
    refine gset ?_
    repeat' (first | ((with_reducible refine o_s ?_); (first | (refine o_1 ?_; refine o_2 ?_) | (refine o_g ?_; first | refine o_u ?_ | refine o_k ?_ | refine o_n ?_ | refine o_v ?_ | ((first | refine o_G ?_ ?_ | refine o_N ?_ ?_) <;> intro hc)))) | ((fail_if_success (with_reducible refine o_s ?_)); go_step))
    go_ret
    refine ⟨?_, x2⟩
    rw [fits, if_neg h1, if_neg h2, if_neg h3, if_neg h4]
    simp
set_option maxHeartbeats 20000000 in
theorem t16 (r : Rec) (w : World) : Calls Tryz.prog 145 #[.agg #[str r.name, .int .i64 r.kind, .int .i64 r.ttl, str r.data]] w (RetV w (.int .i64 (checkR r))) := by
  have hf : r.data.length ≤ 4000 → ∀ w, Calls Tryz.prog 178 #[.int .i64 r.kind, str r.data] w (RetV w (.bool (fits r.kind r.data))) := fun h w => t26 _ _ w h
  go_enter Tryz.func145, Tryz.ntmps145
  repeat' ((fail_if_success (with_reducible refine o_s ?_)); go_step)
  refine wpl_box (vs := [str r.name, .int .i64 r.kind, .int .i64 r.ttl, str r.data]) rfl rfl ?_
  intro p w1 x1 hp
  refine gset ?_
  repeat' (first | ((with_reducible refine o_s ?_); (first | (refine o_1 ?_; refine o_2 ?_) | (refine o_g ?_; first | refine o_u ?_ | refine o_k ?_ | refine o_n ?_ | refine o_v ?_))) | ((fail_if_success (with_reducible refine o_s ?_)); go_step))
  all_goals try (go_ret; refine ⟨?_, x1⟩; first | (rw [checkR, if_pos (by omega)]; rfl) | (rw [checkR, if_neg (by omega), if_pos (by omega)]; rfl))
  ((with_reducible refine o_s ?_); refine o_g ?_; ((first | refine o_G ?_ ?_ | refine o_N ?_ ?_) <;> intro hc))
  all_goals repeat' (first | ((with_reducible refine o_s ?_); (first | (refine o_1 ?_; refine o_2 ?_) | (refine o_g ?_; first | refine o_u ?_ | refine o_k ?_ | refine o_n ?_ | refine o_v ?_))) | ((fail_if_success (with_reducible refine o_s ?_)); go_step))
  all_goals try (go_ret; refine ⟨?_, x1⟩; first | (rw [checkR, if_pos (by omega)]; rfl) | (rw [checkR, if_neg (by omega), if_pos (by omega)]; rfl))
  ((with_reducible refine o_s ?_); refine o_g ?_; ((first | refine o_G ?_ ?_ | refine o_N ?_ ?_) <;> intro hc))
  all_goals repeat' (first | ((with_reducible refine o_s ?_); (first | (refine o_1 ?_; refine o_2 ?_) | (refine o_g ?_; first | refine o_u ?_ | refine o_k ?_ | refine o_n ?_ | refine o_v ?_))) | ((fail_if_success (with_reducible refine o_s ?_)); go_step))
  all_goals try (go_ret; refine ⟨?_, x1⟩; first | (rw [checkR, if_pos (by omega)]; rfl) | (rw [checkR, if_neg (by omega), if_pos (by omega)]; rfl))
  ((with_reducible refine o_s ?_); refine o_g ?_; ((first | refine o_G ?_ ?_ | refine o_N ?_ ?_) <;> intro hc))
  all_goals repeat' (first | ((with_reducible refine o_s ?_); (first | (refine o_1 ?_; refine o_2 ?_) | (refine o_g ?_; first | refine o_u ?_ | refine o_k ?_ | refine o_n ?_ | refine o_v ?_))) | ((fail_if_success (with_reducible refine o_s ?_)); go_step))
  all_goals try (go_ret; refine ⟨?_, x1⟩; first | (rw [checkR, if_pos (by omega)]; rfl) | (rw [checkR, if_neg (by omega), if_pos (by omega)]; rfl))
  ((with_reducible refine o_s ?_); refine o_g ?_; ((first | refine o_G ?_ ?_ | refine o_N ?_ ?_) <;> intro hc))
  all_goals repeat' (first | ((with_reducible refine o_s ?_); (first | (refine o_1 ?_; refine o_2 ?_) | (refine o_g ?_; first | refine o_u ?_ | refine o_k ?_ | refine o_n ?_ | refine o_v ?_))) | ((fail_if_success (with_reducible refine o_s ?_)); go_step))
  all_goals try (go_ret; refine ⟨?_, x1⟩; first | (rw [checkR, if_pos (by omega)]; rfl) | (rw [checkR, if_neg (by omega), if_pos (by omega)]; rfl))
  (apply wpl_guard; (rfl)) <;> intro hc
  · have hlen : r.data.length ≤ 4000 := by simp at hc; omega
    rw [hc]
    repeat' (first | ((with_reducible refine o_s ?_); (first | (refine o_1 ?_; refine o_2 ?_) | (refine o_g ?_; first | refine o_u ?_ | refine o_k ?_ | refine o_n ?_ | refine o_v ?_))) | ((fail_if_success (with_reducible refine o_s ?_)); go_step))
    refine wpl_callV (enters_of Tryz.func178 rfl rfl) rfl rfl (hf hlen _) ?_
    intro w2 x2
    refine gset ?_
    have hp := hp.ext x2
    cases hfit : fits r.kind r.data with
    | true =>
      repeat' (first | ((with_reducible refine o_s ?_); (first | (refine o_1 ?_; refine o_2 ?_) | (refine o_g ?_; first | refine o_u ?_ | refine o_k ?_ | refine o_n ?_ | refine o_v ?_))) | ((fail_if_success (with_reducible refine o_s ?_)); go_step))
      refine wpl_callV (enters_of Tryz.func83 rfl rfl) rfl rfl (t27 _ _) ?_
      intro w3 x3
      refine gset ?_
      repeat' (first | ((with_reducible refine o_s ?_); (first | (refine o_1 ?_; refine o_2 ?_) | (refine o_g ?_; first | refine o_u ?_ | refine o_k ?_ | refine o_n ?_ | refine o_v ?_))) | ((fail_if_success (with_reducible refine o_s ?_)); go_step))
      go_ret
      refine ⟨?_, (x1.trans x2).trans x3⟩
      have e : checkR r = if (labels r.name).isSome = true then 0 else 1 := by
        rw [checkR, if_neg (by omega), if_neg (by rw [hfit]; simp; omega)]
      rw [e]
      rfl
    | false =>
      repeat' (first | ((with_reducible refine o_s ?_); (first | (refine o_1 ?_; refine o_2 ?_) | (refine o_g ?_; first | refine o_u ?_ | refine o_k ?_ | refine o_n ?_ | refine o_v ?_))) | ((fail_if_success (with_reducible refine o_s ?_)); go_step))
      go_ret
      refine ⟨?_, x1.trans x2⟩
      rw [checkR, if_neg (by omega), if_pos (by rw [hfit]; simp)]
      rfl
  · have hc4 : 4000 < r.data.length := by simp at hc; omega
    rw [hc]
    simp only [Act.put, List.setIfInBounds_toArray, List.set_cons_succ, List.set_cons_zero, Bool.not_true, Bool.not_false]
    repeat' (first | ((with_reducible refine o_s ?_); (first | (refine o_1 ?_; refine o_2 ?_) | (refine o_g ?_; first | refine o_u ?_ | refine o_k ?_ | refine o_n ?_ | refine o_v ?_))) | ((fail_if_success (with_reducible refine o_s ?_)); go_step))
    go_ret
    refine ⟨?_, x1⟩
    rw [checkR, if_neg (by omega), if_pos (by omega)]
    rfl
def badAt (s : RSet) (i : Nat) : Bool := decide (checkR ⟨s.name, s.kind, s.ttl, s.data.getD i []⟩ ≠ 0) || (decide (0 < i) && !Op.bytesLess (s.data.getD (i - 1) []) (s.data.getD i []))
def mayS (s : RSet) : Bool := decide (fold s.name = s.name) && decide (1 ≤ s.data.length) && decide (s.data.length ≤ 20) && (List.range s.data.length).all fun i => !badAt s i
theorem mayS_bad {s : RSet} {i : Nat} (hi : i < s.data.length) (h : badAt s i = true) : mayS s = false := by
  have : (List.range s.data.length).all (fun i => !badAt s i) = false := by
    rw [List.all_eq_false]
    exact ⟨i, by simpa using hi, by simp [h]⟩
  simp [mayS, this]
set_option maxHeartbeats 2400000 in
theorem t23 (s : RSet) (v : Value) (w : World) (hv : Sl 1 w v (tcells s.data)) : Calls Tryz.prog 117 #[.agg #[str s.name, .int .i64 s.kind, .int .i64 s.ttl, v]] w (RetV w (.bool (mayS s))) := by
  have hlen := tcells_length s.data
  go_enter Tryz.func117, Tryz.ntmps117
  repeat' ((fail_if_success (with_reducible refine o_s ?_)); go_step)
  refine wpl_box (vs := [str s.name, .int .i64 s.kind, .int .i64 s.ttl, v]) rfl rfl ?_
  intro p w1 x1 hp
  refine gset ?_
  repeat' (first | ((with_reducible refine o_s ?_); (first | (refine o_1 ?_; refine o_2 ?_) | (refine o_g ?_; first | refine o_u ?_ | refine o_k ?_ | refine o_n ?_ | refine o_v ?_ | ((first | refine o_G ?_ ?_ | refine o_N ?_ ?_) <;> intro hc)))) | ((fail_if_success (with_reducible refine o_s ?_)); go_step))
  refine wph_region (S := Ext w1) (by decide +kernel) ?_
  intro w2 x2 _
  refine tk 0 ?_; refine gset ?_; refine tk 1 ?_; refine gset ?_; refine tk 3 ?_; refine gset ?_; refine tk 4 ?_; refine gset ?_
  refine wph_one (i := 2) (by decide +kernel) rfl rfl ?_
  refine wpl_callV (enters_of Tryz.func84 rfl rfl) rfl rfl (t17 _ _) ?_; intro w3 x3; refine gset ?_
  refine wph_nil ⟨by exact extc, ?_⟩
  refine tk 5 ?_; refine gset ?_
  by_cases hf : fold s.name = s.name
  · have e1 : (decide (fold s.name = s.name)) = true := by simpa using hf
    simp only [e1, Bool.not_true]
    refine tk 6 ?_; refine gset ?_; refine tk 7 ?_; refine gset ?_; refine tk 8 ?_; refine gset ?_; refine tk 9 ?_; refine gset ?_; refine tk 10 ?_; refine gset ?_
    by_cases h1 : s.data.length < 1
    · have e2 : decide (((tcells s.data).length : Int) < 1) = true := decide_eq_true (by omega)
      simp only [e2]
      refine tk 11 ?_; refine gset ?_; refine tk 12 ?_; refine gset ?_
      refine tsk 13 ?_; refine gset ?_
      refine tsk 14 ?_; refine gset ?_
      refine tsk 15 ?_; refine gset ?_
      refine tsk 16 ?_; refine gset ?_
      refine tk 17 ?_; refine gset ?_
      refine wph_done (by decide +kernel) ?_
      repeat' (first | ((with_reducible refine o_s ?_); (first | (refine o_1 ?_; refine o_2 ?_) | (refine o_g ?_; first | refine o_u ?_ | refine o_k ?_ | refine o_n ?_ | refine o_v ?_ | ((first | refine o_G ?_ ?_ | refine o_N ?_ ?_) <;> intro hc)))) | ((fail_if_success (with_reducible refine o_s ?_)); go_step))
      go_ret
      refine ⟨?_, by exact extc⟩
      have : decide (1 ≤ s.data.length) = false := decide_eq_false (by omega)
      simp [mayS, this]
    · have e2 : decide (((tcells s.data).length : Int) < 1) = false := decide_eq_false (by omega)
      simp only [e2]
      refine tk 11 ?_; refine gset ?_; refine tk 12 ?_; refine gset ?_; refine tk 13 ?_; refine gset ?_; refine tk 14 ?_; refine gset ?_; refine tk 15 ?_; refine gset ?_; refine tk 16 ?_; refine gset ?_; refine tk 17 ?_; refine gset ?_
      refine wph_done (by decide +kernel) ?_
      by_cases h2 : 20 < s.data.length
      · have e3 : decide ((20 : Int) < ((tcells s.data).length : Int)) = true := decide_eq_true (by omega)
        simp only [e3]
        repeat' (first | ((with_reducible refine o_s ?_); (first | (refine o_1 ?_; refine o_2 ?_) | (refine o_g ?_; first | refine o_u ?_ | refine o_k ?_ | refine o_n ?_ | refine o_v ?_ | ((first | refine o_G ?_ ?_ | refine o_N ?_ ?_) <;> intro hc)))) | ((fail_if_success (with_reducible refine o_s ?_)); go_step))
        go_ret
        refine ⟨?_, by exact extc⟩
        have : decide (s.data.length ≤ 20) = false := decide_eq_false (by omega)
        simp [mayS, this]
      · have e3 : decide ((20 : Int) < ((tcells s.data).length : Int)) = false := decide_eq_false (by omega)
        simp only [e3]
        repeat' (first | ((with_reducible refine o_s ?_); (first | (refine o_1 ?_; refine o_2 ?_) | (refine o_g ?_; first | refine o_u ?_ | refine o_k ?_ | refine o_n ?_ | refine o_v ?_ | ((first | refine o_G ?_ ?_ | refine o_N ?_ ?_) <;> intro hc)))) | ((fail_if_success (with_reducible refine o_s ?_)); go_step))
        have hxx : Ext w w3 := by exact extc
        go_loopw [3, 4, 26] (fun _ _ i wr => ∃ k : Nat, k ≤ s.data.length ∧ i = .int .i64 k ∧ Ext w3 wr ∧ ∀ j, j < k → badAt s j = false) (fun _ _ i _ => s.data.length - (intOf i).toNat)
        case atStart => exact ⟨0, Nat.zero_le _, rfl, Ext.refl _, by omega⟩
        case round =>
          obtain ⟨k, hk, rfl, hx, hall⟩ := hrel
          by_cases hlt : k < s.data.length
          · have hvr : Sl 1 wr v (tcells s.data) := hv.ext (hxx.trans hx)
            have he : (tcells s.data)[k]? = some [str s.data[k]] := by simp [tcells, hlt]
            have hpe := hvr.elem he
            have hpr : Pts wr p _ := hp.ext ((x2.trans x3).trans hx)
            have hbad : badAt s k = (decide (checkR ⟨s.name, s.kind, s.ttl, s.data[k]⟩ ≠ 0) || (decide (0 < k) && !Op.bytesLess (s.data.getD (k - 1) []) s.data[k])) := by
              have : s.data.getD k [] = s.data[k] := by simp [hlt]
              rw [badAt, this]
            repeat' (first | ((with_reducible refine o_s ?_); (first | (refine o_1 ?_; refine o_2 ?_) | (refine o_g ?_; first | refine o_u ?_ | refine o_k ?_ | refine o_n ?_ | refine o_v ?_ | ((first | refine o_G ?_ ?_ | refine o_N ?_ ?_) <;> intro hc)))) | ((fail_if_success (with_reducible refine o_s ?_)); go_step))
            refine wpl_callV (enters_of Tryz.func93 rfl rfl) rfl rfl (t22 _ _ _ _) ?_; intro w7 x7; refine gset ?_
            repeat' (first | ((with_reducible refine o_s ?_); (first | (refine o_1 ?_; refine o_2 ?_) | (refine o_g ?_; first | refine o_u ?_ | refine o_k ?_ | refine o_n ?_ | refine o_v ?_ | ((first | refine o_G ?_ ?_ | refine o_N ?_ ?_) <;> intro hc)))) | ((fail_if_success (with_reducible refine o_s ?_)); go_step))
            refine wpl_callV (enters_of Tryz.func145 rfl rfl) rfl rfl (t16 ⟨s.name, s.kind, s.ttl, s.data[k]⟩ _) ?_; intro w8 x8; refine gset ?_
            by_cases hc : checkR ⟨s.name, s.kind, s.ttl, s.data[k]⟩ = 0
            · have e4 : decide (checkR ⟨s.name, s.kind, s.ttl, s.data[k]⟩ = 0) = true := decide_eq_true hc
              generalize checkR ⟨s.name, s.kind, s.ttl, s.data[k]⟩ = cr at hc e4 hbad ⊢
              ((with_reducible refine o_s ?_); (first | (refine o_1 ?_; refine o_2 ?_) | (refine o_g ?_; refine o_u ?_; (with_reducible refine o_s ?_); refine o_1 ?_; refine o_2 ?_)))
              simp only [e4, Bool.not_true]
              repeat' (first | ((with_reducible refine o_s ?_); (first | (refine o_1 ?_; refine o_2 ?_) | (refine o_g ?_; first | refine o_u ?_ | refine o_k ?_ | refine o_n ?_ | refine o_v ?_ | ((first | refine o_G ?_ ?_ | refine o_N ?_ ?_) <;> intro hc)))) | ((fail_if_success (with_reducible refine o_s ?_)); go_step))
              · have hpp : Pts wr (elemPtr v (((k : Int) - 1).toNat * 1)) [str (s.data.getD (k - 1) [])] := by
                  have e : ((k : Int) - 1).toNat = k - 1 := by omega
                  rw [e]
                  refine hvr.elem ?_
                  have : k - 1 < s.data.length := by omega
                  simp [tcells, this]
                repeat' (first | ((with_reducible refine o_s ?_); (first | (refine o_1 ?_; refine o_2 ?_) | (refine o_g ?_; first | refine o_u ?_ | refine o_k ?_ | refine o_n ?_ | refine o_v ?_ | ((first | refine o_G ?_ ?_ | refine o_N ?_ ?_) <;> intro hc)))) | ((fail_if_success (with_reducible refine o_s ?_)); go_step))
                · have hl := ‹(!Op.bytesLess (s.data.getD (k - 1) []) s.data[k]) = true›
                  go_ret
                  refine ⟨?_, by exact extc⟩
                  rw [mayS_bad hlt (by rw [hbad, hl]; have : 0 < k := by omega
                                       simp [this])]
                  rfl
                · have hl := ‹(!Op.bytesLess (s.data.getD (k - 1) []) s.data[k]) = false›
                  exact ⟨⟨k + 1, by omega, rfl, by exact extc, fun j hj => by
                    rcases Nat.lt_or_ge j k with h | h
                    · exact hall j h
                    · have : j = k := by omega
                      subst this
                      rw [hbad, hl]; simp [‹cr = 0›]⟩, by simp [intOf]; omega⟩
              · exact ⟨⟨k + 1, by omega, rfl, by exact extc, fun j hj => by
                  rcases Nat.lt_or_ge j k with h | h
                  · exact hall j h
                  · have : j = k := by omega
                    subst this
                    have : ¬ (0 < j) := by omega
                    rw [hbad]; simp [‹cr = 0›, this]⟩, by simp [intOf]; omega⟩
            · have e4 : decide (checkR ⟨s.name, s.kind, s.ttl, s.data[k]⟩ = 0) = false := decide_eq_false hc
              generalize checkR ⟨s.name, s.kind, s.ttl, s.data[k]⟩ = cr at hc e4 hbad ⊢
              ((with_reducible refine o_s ?_); (first | (refine o_1 ?_; refine o_2 ?_) | (refine o_g ?_; refine o_u ?_; (with_reducible refine o_s ?_); refine o_1 ?_; refine o_2 ?_)))
              simp only [e4, Bool.not_false]
              repeat' (first | ((with_reducible refine o_s ?_); (first | (refine o_1 ?_; refine o_2 ?_) | (refine o_g ?_; first | refine o_u ?_ | refine o_k ?_ | refine o_n ?_ | refine o_v ?_ | ((first | refine o_G ?_ ?_ | refine o_N ?_ ?_) <;> intro hc)))) | ((fail_if_success (with_reducible refine o_s ?_)); go_step))
              go_ret
              refine ⟨?_, by exact extc⟩
              rw [mayS_bad hlt (by rw [hbad]; simp [hc])]
              rfl
          · have : k = s.data.length := by omega
            subst this
            repeat' (first | ((with_reducible refine o_s ?_); (first | (refine o_1 ?_; refine o_2 ?_) | (refine o_g ?_; first | refine o_u ?_ | refine o_k ?_ | refine o_n ?_ | refine o_v ?_ | ((first | refine o_G ?_ ?_ | refine o_N ?_ ?_) <;> intro hc)))) | ((fail_if_success (with_reducible refine o_s ?_)); go_step))
            go_ret
            refine ⟨?_, by exact extc⟩
            have h20 : decide (s.data.length ≤ 20) = true := decide_eq_true (by omega)
            have h10 : decide (1 ≤ s.data.length) = true := decide_eq_true (by omega)
            have hal : (List.range s.data.length).all (fun i => !badAt s i) = true := by
              rw [List.all_eq_true]
              intro i hi
              simp [hall i (by simpa using hi)]
            have : mayS s = true := by rw [mayS, hal, h20, h10, e1]; rfl
            rw [this]
            rfl
  · have e1 : (decide (fold s.name = s.name)) = false := by simpa using hf
    simp only [e1, Bool.not_false]
    refine tk 6 ?_; refine gset ?_
    refine tsk 7 ?_; refine gset ?_
    refine tsk 8 ?_; refine gset ?_
    refine tsk 9 ?_; refine gset ?_
    refine tsk 10 ?_; refine gset ?_
    refine tk 11 ?_; refine gset ?_; refine tk 12 ?_; refine gset ?_
    refine tsk 13 ?_; refine gset ?_
    refine tsk 14 ?_; refine gset ?_
    refine tsk 15 ?_; refine gset ?_
    refine tsk 16 ?_; refine gset ?_
    refine tk 17 ?_; refine gset ?_
    refine wph_done (by decide +kernel) ?_
    repeat' (first | ((with_reducible refine o_s ?_); (first | (refine o_1 ?_; refine o_2 ?_) | (refine o_g ?_; first | refine o_u ?_ | refine o_k ?_ | refine o_n ?_ | refine o_v ?_ | ((first | refine o_G ?_ ?_ | refine o_N ?_ ?_) <;> intro hc)))) | ((fail_if_success (with_reducible refine o_s ?_)); go_step))
    go_ret
    refine ⟨?_, by exact extc⟩
    simp [mayS, hf]
set_option maxHeartbeats 6000000 in
theorem t24 (v : Value) (l : List (List UInt8)) (w : World) (hv : Sl 1 w v (tcells l)) (hl : l.length ≤ 8796093022208) : Calls Tryz.prog 90 #[v] w (Ret w fun v' w' => Own w.heap.size 1 9 w' v' (tcells l)) := by
  have hlen := tcells_length l
  go_enter Tryz.func90, Tryz.ntmps90
  repeat' (first | ((with_reducible refine o_s ?_); (first | (refine o_1 ?_; refine o_2 ?_) | (refine o_g ?_; first | refine o_u ?_ | refine o_k ?_ | refine o_n ?_ | refine o_v ?_ | ((first | refine o_G ?_ ?_ | refine o_N ?_ ?_) <;> intro hc)))) | ((fail_if_success (with_reducible refine o_s ?_)); go_step))
  · have hn := ‹isNil v = true›
    go_ret
    have : tcells l = [] := hv.isNil hn
    refine ⟨_, rfl, Ext.refl _, ?_⟩
    rw [this]
    exact Own.nil _ _ _ _
  · refine wpl_slice0 (t := 53) (e := 9) (k := 1) (bytes := 16) (by decide +kernel) rfl ?_
    intro v2 w2 x2 s2 o2
    refine gset ?_
    repeat' (first | ((with_reducible refine o_s ?_); (first | (refine o_1 ?_; refine o_2 ?_) | (refine o_g ?_; first | refine o_u ?_ | refine o_k ?_ | refine o_n ?_ | refine o_v ?_ | ((first | refine o_G ?_ ?_ | refine o_N ?_ ?_) <;> intro hc)))) | ((fail_if_success (with_reducible refine o_s ?_)); go_step))
    refine wpl_append (B := w.heap.size) (e := 9) (k := 1) (bytes := 16) (es := []) (fs := tcells l) rfl o2 rfl (hv.ext x2) (by decide +kernel) (by simp [tcells, str, Value.oneCell']) (by omega) (by simp; omega) (by simp; omega) ?_
    intro v3 w3 o3 m3
    have x3 := o2.mvx m3 x2 (Nat.le_refl _)
    repeat' (first | ((with_reducible refine o_s ?_); (first | (refine o_1 ?_; refine o_2 ?_) | (refine o_g ?_; first | refine o_u ?_ | refine o_k ?_ | refine o_n ?_ | refine o_v ?_ | ((first | refine o_G ?_ ?_ | refine o_N ?_ ?_) <;> intro hc)))) | ((fail_if_success (with_reducible refine o_s ?_)); go_step))
    go_ret
    exact ⟨_, rfl, x3, o3⟩
def badSet (l : List RSet) (i : Nat) : Bool := match l[i]? with
  | none => false
  | some s => !mayS s || (decide (0 < i) && decide (0 ≤ cmpSet (l.getD (i - 1) default).name s.name (l.getD (i - 1) default).kind s.kind))
def checkS (l : List RSet) : Int := if 200 < l.length then 1 else if (List.range l.length).all (fun i => !badSet l i) = true then 0 else 1
theorem checkS_bad {l : List RSet} {i : Nat} (hi : i < l.length) (h : badSet l i = true) : checkS l = 1 := by
  have : (List.range l.length).all (fun i => !badSet l i) = false := by
    rw [List.all_eq_false]
    exact ⟨i, by simpa using hi, by simp [h]⟩
  rw [checkS, this]
  split <;> rfl
set_option maxHeartbeats 12000000 in
theorem t12 (v : Value) (l : List RSet) (w : World) (hv : SetsAt w v l) : Calls Tryz.prog 85 #[v] w (RetV w (.int .i64 (checkS l))) := by
  obtain ⟨cv, hv1, hvl⟩ := hv.sl
  have hle := hv1.le
  go_enter Tryz.func85, Tryz.ntmps85
  repeat' (first | ((with_reducible refine o_s ?_); (first | (refine o_1 ?_; refine o_2 ?_) | (refine o_g ?_; first | refine o_u ?_ | refine o_k ?_ | refine o_n ?_ | refine o_v ?_ | ((first | refine o_G ?_ ?_ | refine o_N ?_ ?_) <;> intro hc)))) | ((fail_if_success (with_reducible refine o_s ?_)); go_step))
  · go_ret
    refine ⟨?_, Ext.refl _⟩
    rw [checkS, if_pos (by omega)]
    rfl
  · go_loopw [3, 4, 10] (fun _ _ i wr => ∃ k : Nat, k ≤ l.length ∧ i = .int .i64 k ∧ Ext w wr ∧ ∀ j, j < k → badSet l j = false) (fun _ _ i _ => l.length - (intOf i).toNat)
    case atStart => exact ⟨0, Nat.zero_le _, rfl, Ext.refl _, by omega⟩
    case round =>
      obtain ⟨k, hk, rfl, hx, hall⟩ := hrel
      have hv2 := hv1.ext hx
      by_cases hlt : k < l.length
      · obtain ⟨x, h1, h1d⟩ := (hv.ext hx).elem (List.getElem?_eq_getElem hlt)
        have hbad : badSet l k = (!mayS l[k] || (decide (0 < k) && decide (0 ≤ cmpSet (l.getD (k - 1) default).name l[k].name (l.getD (k - 1) default).kind l[k].kind))) := by
          rw [badSet, List.getElem?_eq_getElem hlt]
        repeat' (first | ((with_reducible refine o_s ?_); (first | (refine o_1 ?_; refine o_2 ?_) | (refine o_g ?_; first | refine o_u ?_ | refine o_k ?_ | refine o_n ?_ | refine o_v ?_ | ((first | refine o_G ?_ ?_ | refine o_N ?_ ?_) <;> intro hc)))) | ((fail_if_success (with_reducible refine o_s ?_)); go_step))
        refine wpl_allocB (z := [str [], .int .i64 0, .int .i64 0, .slice none 0 0]) rfl (by decide +kernel) ?_
        intro w2 x2 s2 h2
        repeat' (first | ((with_reducible refine o_s ?_); (first | (refine o_1 ?_; refine o_2 ?_) | (refine o_g ?_; first | refine o_u ?_ | refine o_k ?_ | refine o_n ?_ | refine o_v ?_ | ((first | refine o_G ?_ ?_ | refine o_N ?_ ?_) <;> intro hc)))) | ((fail_if_success (with_reducible refine o_s ?_)); go_step))
        refine wpl_storeB (v := .agg #[str l[k].name, .int .i64 l[k].kind, .int .i64 l[k].ttl, x]) rfl rfl rfl h2 (show sizeTy Tryz.prog 55 4 = true by decide +kernel) rfl ?_ ?_
        · exact all4 rfl rfl rfl h1d.one
        intro w3 p3
        have x3 : Ext wr w3 := x2.move p3.mv (by rintro k ⟨⟩; exact Nat.le_refl _)
        have hp4 := pts_block (cs := [str l[k].name, .int .i64 l[k].kind, .int .i64 l[k].ttl, x]) p3.this
        clear p3 h2 x2
        repeat' (first | ((with_reducible refine o_s ?_); (first | (refine o_1 ?_; refine o_2 ?_) | (refine o_g ?_; first | refine o_u ?_ | refine o_k ?_ | refine o_n ?_ | refine o_v ?_ | ((first | refine o_G ?_ ?_ | refine o_N ?_ ?_) <;> intro hc)))) | ((fail_if_success (with_reducible refine o_s ?_)); go_step))
        refine wph_region (S := Ext w3) (by decide +kernel) ?_
        intro w4 x4 _
        refine tk 0 ?_; refine gset ?_
        refine wph_one (i := 1) (by decide +kernel) rfl rfl ?_
        refine wpl_callV (enters_of Tryz.func117 rfl rfl) rfl rfl (t23 l[k] _ _ (h1d.ext (x3.trans x4))) ?_; intro w5 x5; refine gset ?_
        refine wph_nil ⟨by exact extc, ?_⟩
        cases hm : mayS l[k] with
        | false =>
          rw [hm] at hbad
          refine tk 2 ?_; refine gset ?_
          try simp only [Bool.not_false]
          refine tk 3 ?_; refine gset ?_
          refine tsk 4 ?_; refine gset ?_; refine tsk 5 ?_; refine gset ?_; refine tsk 6 ?_; refine gset ?_; refine tsk 7 ?_; refine gset ?_; refine tsk 8 ?_; refine gset ?_; refine tsk 9 ?_; refine gset ?_; refine tsk 10 ?_; refine gset ?_; refine tsk 11 ?_; refine gset ?_; refine tsk 12 ?_; refine gset ?_; refine tsk 13 ?_; refine gset ?_; refine tsk 14 ?_; refine gset ?_; refine tsk 15 ?_; refine gset ?_
          refine tk 16 ?_; refine gset ?_
          refine wph_done (by decide +kernel) ?_
          repeat' (first | ((with_reducible refine o_s ?_); (first | (refine o_1 ?_; refine o_2 ?_) | (refine o_g ?_; first | refine o_u ?_ | refine o_k ?_ | refine o_n ?_ | refine o_v ?_ | ((first | refine o_G ?_ ?_ | refine o_N ?_ ?_) <;> intro hc)))) | ((fail_if_success (with_reducible refine o_s ?_)); go_step))
          go_ret
          refine ⟨?_, by exact extc⟩
          rw [checkS_bad hlt (by rw [hbad]; rfl)]
          rfl
        | true =>
          rw [hm] at hbad
          refine tk 2 ?_; refine gset ?_
          try simp only [Bool.not_true]
          refine tk 3 ?_; refine gset ?_; refine tk 4 ?_; refine gset ?_; refine tk 5 ?_; refine gset ?_
          by_cases hk0 : 0 < k
          · have e5 : decide ((0 : Int) < (k : Int)) = true := decide_eq_true (by omega)
            have e6 : decide (0 < k) = true := decide_eq_true hk0
            simp only [e5]
            rw [e6] at hbad
            have hkl : k - 1 < l.length := by omega
            have hgd : l.getD (k - 1) default = l[k - 1] := by simp [hkl]
            obtain ⟨y, h9', h9d⟩ := (hv.ext hx).elem (List.getElem?_eq_getElem hkl)
            have e9 : ((k : Int) - 1).toNat = k - 1 := by omega
            have h9 : Pts wr (elemPtr v (((k : Int) - 1).toNat * 4)) [str l[k - 1].name, .int .i64 l[k - 1].kind, .int .i64 l[k - 1].ttl, y] := by rw [e9]; exact h9'
            rw [hgd] at hbad
            refine tk 6 ?_; refine gset ?_; refine tk 7 ?_; refine gset ?_; refine tk 8 ?_; refine gset ?_; refine tk 9 ?_; refine gset ?_; refine tk 10 ?_; refine gset ?_; refine tk 11 ?_; refine gset ?_; refine tk 12 ?_; refine gset ?_
            refine wph_one (i := 13) (by decide +kernel) rfl rfl ?_
            refine wpl_callV (enters_of Tryz.func118 rfl rfl) rfl rfl (t21 _ _ _ _ _ _ _ _ _) ?_; intro w6 x6; refine gset ?_
            refine wph_nil ⟨by exact extc, ?_⟩
            refine tk 14 ?_; refine gset ?_; refine tk 15 ?_; refine gset ?_; refine tk 16 ?_; refine gset ?_
            refine wph_done (by decide +kernel) ?_
            by_cases hc : 0 ≤ cmpSet l[k - 1].name l[k].name l[k - 1].kind l[k].kind
            · have e7 : decide (0 ≤ cmpSet l[k - 1].name l[k].name l[k - 1].kind l[k].kind) = true := decide_eq_true hc
              simp only [e7]
              repeat' (first | ((with_reducible refine o_s ?_); (first | (refine o_1 ?_; refine o_2 ?_) | (refine o_g ?_; first | refine o_u ?_ | refine o_k ?_ | refine o_n ?_ | refine o_v ?_ | ((first | refine o_G ?_ ?_ | refine o_N ?_ ?_) <;> intro hc)))) | ((fail_if_success (with_reducible refine o_s ?_)); go_step))
              go_ret
              refine ⟨?_, by exact extc⟩
              rw [checkS_bad hlt (by rw [hbad, e7]; rfl)]
              rfl
            · have e7 : decide (0 ≤ cmpSet l[k - 1].name l[k].name l[k - 1].kind l[k].kind) = false := decide_eq_false hc
              simp only [e7]
              repeat' (first | ((with_reducible refine o_s ?_); (first | (refine o_1 ?_; refine o_2 ?_) | (refine o_g ?_; first | refine o_u ?_ | refine o_k ?_ | refine o_n ?_ | refine o_v ?_ | ((first | refine o_G ?_ ?_ | refine o_N ?_ ?_) <;> intro hc)))) | ((fail_if_success (with_reducible refine o_s ?_)); go_step))
              exact ⟨⟨k + 1, by omega, rfl, by exact extc, fun j hj => by
                rcases Nat.lt_or_ge j k with h | h
                · exact hall j h
                · have : j = k := by omega
                  subst this
                  rw [hbad, e7]; rfl⟩, by simp [intOf]; omega⟩
          · have e5 : decide ((0 : Int) < (k : Int)) = false := decide_eq_false (by omega)
            have e6 : decide (0 < k) = false := decide_eq_false hk0
            simp only [e5]
            rw [e6] at hbad
            refine tk 6 ?_; refine gset ?_
            refine tsk 7 ?_; refine gset ?_; refine tsk 8 ?_; refine gset ?_; refine tsk 9 ?_; refine gset ?_; refine tsk 10 ?_; refine gset ?_; refine tsk 11 ?_; refine gset ?_; refine tsk 12 ?_; refine gset ?_; refine tsk 13 ?_; refine gset ?_; refine tsk 14 ?_; refine gset ?_
            refine tk 15 ?_; refine gset ?_; refine tk 16 ?_; refine gset ?_
            refine wph_done (by decide +kernel) ?_
            repeat' (first | ((with_reducible refine o_s ?_); (first | (refine o_1 ?_; refine o_2 ?_) | (refine o_g ?_; first | refine o_u ?_ | refine o_k ?_ | refine o_n ?_ | refine o_v ?_ | ((first | refine o_G ?_ ?_ | refine o_N ?_ ?_) <;> intro hc)))) | ((fail_if_success (with_reducible refine o_s ?_)); go_step))
            exact ⟨⟨k + 1, by omega, rfl, by exact extc, fun j hj => by
              rcases Nat.lt_or_ge j k with h | h
              · exact hall j h
              · have : j = k := by omega
                subst this
                rw [hbad]; rfl⟩, by simp [intOf]; omega⟩
      · have hk2 : k = l.length := by omega
        subst hk2
        repeat' (first | ((with_reducible refine o_s ?_); (first | (refine o_1 ?_; refine o_2 ?_) | (refine o_g ?_; first | refine o_u ?_ | refine o_k ?_ | refine o_n ?_ | refine o_v ?_ | ((first | refine o_G ?_ ?_ | refine o_N ?_ ?_) <;> intro hc)))) | ((fail_if_success (with_reducible refine o_s ?_)); go_step))
        go_ret
        refine ⟨?_, by exact extc⟩
        have : (List.range l.length).all (fun i => !badSet l i) = true := by
          rw [List.all_eq_true]
          intro i hi
          simp [hall i (by simpa using hi)]
        rw [checkS, this, if_neg (by omega)]
        rfl
def hit (n : List UInt8) (k : Int) (s : RSet) : Bool := decide (s.name = n) && decide (s.kind = k)
def findS (l : List RSet) (n : List UInt8) (k : Int) : Option RSet := l.find? (hit (fold n) k)
def zset : List Value := [str [], .int .i64 0, .int .i64 0, .slice none 0 0]
theorem find_take {α : Type} {p : α → Bool} {l : List α} {k : Nat} (h : k < l.length) (ha : (l.take k).find? p = none) (hp : p l[k] = false) : (l.take (k + 1)).find? p = none := by
  rw [List.take_add_one, List.getElem?_eq_getElem h, List.find?_append, ha]
  simp [hp]
theorem find_at {α : Type} {p : α → Bool} {l : List α} {k : Nat} (h : k < l.length) (ha : (l.take k).find? p = none) (hp : p l[k] = true) : l.find? p = some l[k] := by
  have e : l = l.take k ++ (l[k] :: l.drop (k + 1)) := by rw [← List.drop_eq_getElem_cons h, List.take_append_drop]
  have : l.find? p = (l.take k ++ (l[k] :: l.drop (k + 1))).find? p := congrArg _ e
  rw [this, List.find?_append, ha, List.find?_cons, hp]
  rfl
set_option maxHeartbeats 12000000 in
theorem t13 (v : Value) (l : List RSet) (n : List UInt8) (kd : Int) (w : World) (hv : SetsAt w v l) (hb : ∀ s ∈ l, s.data.length ≤ 8796093022208) : Calls Tryz.prog 40 #[v, str n, .int .i64 kd] w (Ret w fun r w' => match findS l n kd with
    | some s => ∃ x, r = .tuple #[.agg #[str s.name, .int .i64 s.kind, .int .i64 s.ttl, x], .bool true] ∧ Own w.heap.size 1 9 w' x (tcells s.data)
    | none => r = .tuple #[.agg zset.toArray, .bool false]) := by
  obtain ⟨cv, hv1, hvl⟩ := hv.sl
  have hle := hv1.le
  go_enter Tryz.func40, Tryz.ntmps40
  repeat' ((fail_if_success (with_reducible refine o_s ?_)); go_step)
  refine wpl_allocB (z := zset) rfl (by decide +kernel) ?_
  intro w1 x1 s1 h1
  repeat' (first | ((with_reducible refine o_s ?_); (first | (refine o_1 ?_; refine o_2 ?_) | (refine o_g ?_; first | refine o_u ?_ | refine o_k ?_ | refine o_n ?_ | refine o_v ?_ | ((first | refine o_G ?_ ?_ | refine o_N ?_ ?_) <;> intro hc)))) | ((fail_if_success (with_reducible refine o_s ?_)); go_step))
  refine wpl_callV (enters_of Tryz.func84 rfl rfl) rfl rfl (t17 _ _) ?_; intro w2 x2; refine gset ?_
  have h2 := x2.at h1
  have x12 : Ext w w2 := x1.trans x2
  repeat' (first | ((with_reducible refine o_s ?_); (first | (refine o_1 ?_; refine o_2 ?_) | (refine o_g ?_; first | refine o_u ?_ | refine o_k ?_ | refine o_n ?_ | refine o_v ?_ | ((first | refine o_G ?_ ?_ | refine o_N ?_ ?_) <;> intro hc)))) | ((fail_if_success (with_reducible refine o_s ?_)); go_step))
  have hv2 := hv1.ext x12
  repeat' (first | ((with_reducible refine o_s ?_); (first | (refine o_1 ?_; refine o_2 ?_) | (refine o_g ?_; first | refine o_u ?_ | refine o_k ?_ | refine o_n ?_ | refine o_v ?_ | ((first | refine o_G ?_ ?_ | refine o_N ?_ ?_) <;> intro hc)))) | ((fail_if_success (with_reducible refine o_s ?_)); go_step))
  go_loopw [9, 14] (fun _ i wr => ∃ k : Nat, k ≤ l.length ∧ i = .int .i64 k ∧ Ext w2 wr ∧ (l.take k).find? (hit (fold n) kd) = none) (fun _ i _ => l.length - (intOf i).toNat)
  case atStart => exact ⟨0, Nat.zero_le _, rfl, Ext.refl _, rfl⟩
  case round =>
    obtain ⟨k, hk, rfl, hx, hall⟩ := hrel
    have hxw : Ext w wr := x12.trans hx
    have hv2 := hv1.ext hxw
    have h3 := hx.at h2
    by_cases hlt : k < l.length
    · obtain ⟨x, h4, h4d⟩ := (hv.ext hxw).elem (List.getElem?_eq_getElem hlt)
      have hbk := hb _ (List.getElem_mem hlt)
      repeat' (first | ((with_reducible refine o_s ?_); (first | (refine o_1 ?_; refine o_2 ?_) | (refine o_g ?_; first | refine o_u ?_ | refine o_k ?_ | refine o_n ?_ | refine o_v ?_ | ((first | refine o_G ?_ ?_ | refine o_N ?_ ?_) <;> intro hc)))) | ((fail_if_success (with_reducible refine o_s ?_)); go_step))
      refine wpl_allocB (z := zset) rfl (by decide +kernel) ?_
      intro w5 x5 s5 h5
      repeat' (first | ((with_reducible refine o_s ?_); (first | (refine o_1 ?_; refine o_2 ?_) | (refine o_g ?_; first | refine o_u ?_ | refine o_k ?_ | refine o_n ?_ | refine o_v ?_ | ((first | refine o_G ?_ ?_ | refine o_N ?_ ?_) <;> intro hc)))) | ((fail_if_success (with_reducible refine o_s ?_)); go_step))
      refine wpl_storeB (v := .agg #[str l[k].name, .int .i64 l[k].kind, .int .i64 l[k].ttl, x]) rfl rfl rfl h5 (show sizeTy Tryz.prog 55 4 = true by decide +kernel) rfl (all4 rfl rfl rfl h4d.one) ?_
      intro w6 p6
      have x6 : Ext wr w6 := x5.move p6.mv (by rintro k ⟨⟩; exact Nat.le_refl _)
      have b6 := p6.this
      have hp6 := pts_block (cs := [str l[k].name, .int .i64 l[k].kind, .int .i64 l[k].ttl, x]) b6
      have z6 : w6.heap.size = wr.heap.size + 1 := p6.size.trans s5
      clear p6 h5 x5
      repeat' (first | ((with_reducible refine o_s ?_); (first | (refine o_1 ?_; refine o_2 ?_) | (refine o_g ?_; first | refine o_u ?_ | refine o_k ?_ | refine o_n ?_ | refine o_v ?_ | ((first | refine o_G ?_ ?_ | refine o_N ?_ ?_) <;> intro hc)))) | ((fail_if_success (with_reducible refine o_s ?_)); go_step))
      · have hh : findS l n kd = some l[k] := find_at hlt hall (by have h1 := ‹l[k].name = fold n›; have h2 := ‹l[k].kind = kd›; simp [hit, h1, h2])
        refine wpl_callR (enters_of Tryz.func90 rfl rfl) rfl rfl (t24 x l[k].data _ (h4d.ext x6) hbk) ?_
        intro y w7 x7 o7
        refine gset ?_
        repeat' (first | ((with_reducible refine o_s ?_); (first | (refine o_1 ?_; refine o_2 ?_) | (refine o_g ?_; first | refine o_u ?_ | refine o_k ?_ | refine o_n ?_ | refine o_v ?_ | ((first | refine o_G ?_ ?_ | refine o_N ?_ ?_) <;> intro hc)))) | ((fail_if_success (with_reducible refine o_s ?_)); go_step))
        have b7 := x7.at b6
        refine wpl_storeF (cs := [str l[k].name, .int .i64 l[k].kind, .int .i64 l[k].ttl, x]) b7 rfl rfl rfl (by simp) (by decide +kernel) o7.one ?_
        intro w8 p8
        have x68 : Ext wr w8 := (x6.trans x7).move p8.mv (by rintro k ⟨⟩; exact Nat.le_refl _)
        have hp8 := pts_block (cs := [str l[k].name, .int .i64 l[k].kind, .int .i64 l[k].ttl, y]) p8.this
        have h8 := x68.at h3
        have o8 : Own (w.heap.size + 1) 1 9 w8 y (tcells l[k].data) := (o7.put p8 (by omega)).weaken (by have := hx.size; have := x2.size; omega)
        clear hp6 b6 b7 p8
        repeat' (first | ((with_reducible refine o_s ?_); (first | (refine o_1 ?_; refine o_2 ?_) | (refine o_g ?_; first | refine o_u ?_ | refine o_k ?_ | refine o_n ?_ | refine o_v ?_ | ((first | refine o_G ?_ ?_ | refine o_N ?_ ?_) <;> intro hc)))) | ((fail_if_success (with_reducible refine o_s ?_)); go_step))
        refine wpl_storeB (v := .agg #[str l[k].name, .int .i64 l[k].kind, .int .i64 l[k].ttl, y]) rfl rfl rfl h8 (show sizeTy Tryz.prog 55 4 = true by decide +kernel) rfl (all4 rfl rfl rfl o7.one) ?_
        intro w9 p9
        have x9 : Ext w w9 := (hxw.trans x68).move p9.mv (by rintro k ⟨⟩; exact Nat.le_refl _)
        have o9 : Own (w.heap.size + 1) 1 9 w9 y (tcells l[k].data) := o8.put p9 (by omega)
        repeat' (first | ((with_reducible refine o_s ?_); (first | (refine o_1 ?_; refine o_2 ?_) | (refine o_g ?_; first | refine o_u ?_ | refine o_k ?_ | refine o_n ?_ | refine o_v ?_ | ((first | refine o_G ?_ ?_ | refine o_N ?_ ?_) <;> intro hc)))) | ((fail_if_success (with_reducible refine o_s ?_)); go_step))
        refine bodyPost_ret (results_cellT (cs := [str l[k].name, .int .i64 l[k].kind, .int .i64 l[k].ttl, y]) rfl rfl p9.this (show aggTy Tryz.prog 55 4 = true by decide +kernel)) rfl ⟨_, rfl, x9, ?_⟩
        rw [hh]
        exact ⟨y, rfl, o9.weaken (by omega)⟩
      · exact ⟨⟨k + 1, by omega, rfl, by exact extc, find_take hlt hall (by have h2 := ‹¬l[k].kind = kd›; simp [hit, h2])⟩, by simp [intOf]; omega⟩
      · exact ⟨⟨k + 1, by omega, rfl, by exact extc, find_take hlt hall (by have h2 := ‹¬l[k].name = fold n›; simp [hit, h2])⟩, by simp [intOf]; omega⟩
    · have hk2 : k = l.length := by omega
      subst hk2
      rw [List.take_length] at hall
      repeat' (first | ((with_reducible refine o_s ?_); (first | (refine o_1 ?_; refine o_2 ?_) | (refine o_g ?_; first | refine o_u ?_ | refine o_k ?_ | refine o_n ?_ | refine o_v ?_ | ((first | refine o_G ?_ ?_ | refine o_N ?_ ?_) <;> intro hc)))) | ((fail_if_success (with_reducible refine o_s ?_)); go_step))
      refine wpl_run rfl (Runs.build0 (cells := zset.toArray) (by kernel_rfl)) ?_
      refine gset ?_
      refine wpl_storeB (v := .agg zset.toArray) rfl rfl rfl h3 (show sizeTy Tryz.prog 55 4 = true by decide +kernel) rfl (all4 rfl rfl rfl rfl) ?_
      intro w4 p4
      have x4 : Ext w w4 := hxw.move p4.mv (by rintro k ⟨⟩; exact Nat.le_refl _)
      repeat' (first | ((with_reducible refine o_s ?_); (first | (refine o_1 ?_; refine o_2 ?_) | (refine o_g ?_; first | refine o_u ?_ | refine o_k ?_ | refine o_n ?_ | refine o_v ?_ | ((first | refine o_G ?_ ?_ | refine o_N ?_ ?_) <;> intro hc)))) | ((fail_if_success (with_reducible refine o_s ?_)); go_step))
      refine bodyPost_ret (results_cellT (cs := zset) rfl rfl p4.this (by decide +kernel)) rfl ⟨_, rfl, x4, ?_⟩
      have hh : findS l n kd = none := hall
      rw [hh]
      rfl
def recOf (s : RSet) (d : List UInt8) : Rec := ⟨s.name, s.kind, s.ttl, d⟩
def recsOf (s : RSet) : List Rec := s.data.map (recOf s)
def recordsS (l : List RSet) : List Rec := (l.map recsOf).flatten
theorem map_take_succ {α β : Type} {f : α → β} {l : List α} {k : Nat} (h : k < l.length) : (l.take (k + 1)).map f = (l.take k).map f ++ [f l[k]] := by
  rw [List.take_add_one, List.getElem?_eq_getElem h, List.map_append]
  simp
theorem flat_take_le {α : Type} (L : List (List α)) (k : Nat) : (L.take k).flatten.length ≤ L.flatten.length := by
  conv => rhs; rw [← List.take_append_drop k L, List.flatten_append]
  simp
def recsP (l : List RSet) (k : Nat) : List Rec := ((l.take k).map recsOf).flatten
theorem recsP_succ {l : List RSet} {k : Nat} (h : k < l.length) : recsP l (k + 1) = recsP l k ++ recsOf l[k] := by
  rw [recsP, map_take_succ h, List.flatten_append]
  simp [recsP]
theorem recsP_le (l : List RSet) (k : Nat) : (recsP l k).length ≤ (recordsS l).length := by
  rw [recsP, recordsS, List.map_take]
  exact flat_take_le _ _
theorem recsP_all (l : List RSet) : recsP l l.length = recordsS l := by rw [recsP, List.take_length, recordsS]
set_option maxHeartbeats 12000000 in
theorem t10 (v : Value) (l : List RSet) (w : World) (hv : SetsAt w v l) (hb : (recordsS l).length ≤ 1000000) : Calls Tryz.prog 43 #[v] w (Ret w fun r w' => Own w.heap.size 4 75 w' r (rcells (recordsS l))) := by
  obtain ⟨cv, hv1, hvl⟩ := hv.sl
  have hle := hv1.le
  go_enter Tryz.func43, Tryz.ntmps43
  repeat' (first | ((with_reducible refine o_s ?_); (first | (refine o_1 ?_; refine o_2 ?_) | (refine o_g ?_; first | refine o_u ?_ | refine o_k ?_ | refine o_n ?_ | refine o_v ?_ | ((first | refine o_G ?_ ?_ | refine o_N ?_ ?_) <;> intro hc)))) | ((fail_if_success (with_reducible refine o_s ?_)); go_step))
  go_loopw [3, 5, 7, 10, 17] (fun o _ _ i _ wr => ∃ k : Nat, k ≤ l.length ∧ i = .int .i64 k ∧ Ext w wr ∧ Own w.heap.size 4 75 wr o (rcells (recsP l k))) (fun _ _ _ i _ _ => l.length - (intOf i).toNat)
  case atStart => exact ⟨0, Nat.zero_le _, rfl, Ext.refl _, Own.nil _ _ _ _⟩
  case round =>
    obtain ⟨k, hk, rfl, hx, ho⟩ := hrel
    have hv2 := hv1.ext hx
    by_cases hlt : k < l.length
    · obtain ⟨x, h4, h4d⟩ := hv.elem (List.getElem?_eq_getElem hlt)
      have hdl := tcells_length l[k].data
      have hdle := h4d.le
      have hlo := hx.size
      repeat' (first | ((with_reducible refine o_s ?_); (first | (refine o_1 ?_; refine o_2 ?_) | (refine o_g ?_; first | refine o_u ?_ | refine o_k ?_ | refine o_n ?_ | refine o_v ?_ | ((first | refine o_G ?_ ?_ | refine o_N ?_ ?_) <;> intro hc)))) | ((fail_if_success (with_reducible refine o_s ?_)); go_step))
      refine wpl_allocB (z := zset) rfl (by decide +kernel) ?_
      intro w5 x5 s5 h5
      repeat' (first | ((with_reducible refine o_s ?_); (first | (refine o_1 ?_; refine o_2 ?_) | (refine o_g ?_; first | refine o_u ?_ | refine o_k ?_ | refine o_n ?_ | refine o_v ?_ | ((first | refine o_G ?_ ?_ | refine o_N ?_ ?_) <;> intro hc)))) | ((fail_if_success (with_reducible refine o_s ?_)); go_step))
      refine wpl_storeB (v := .agg #[str l[k].name, .int .i64 l[k].kind, .int .i64 l[k].ttl, x]) rfl rfl rfl h5 (show sizeTy Tryz.prog 55 4 = true by decide +kernel) rfl (all4 rfl rfl rfl h4d.one) ?_
      intro w6 p6
      have x6 : Ext wr w6 := x5.move p6.mv (by rintro k ⟨⟩; exact Nat.le_refl _)
      have b6 : w6.heap[wr.heap.size]? = some (.cells [str l[k].name, .int .i64 l[k].kind, .int .i64 l[k].ttl, x].toArray 55 (0, 0)) := p6.this
      have z6 : wr.heap.size < w6.heap.size := by have := p6.size; omega
      have o6 := ho.ext x6
      have xw6 := hx.trans x6
      have hne6 : u3.ownBlock ≠ some wr.heap.size := fun e => by have := ho.block _ e; omega
      clear p6 h5 x5 s5
      have hp6 := pts_block b6
      repeat' (first | ((with_reducible refine o_s ?_); (first | (refine o_1 ?_; refine o_2 ?_) | (refine o_g ?_; first | refine o_u ?_ | refine o_k ?_ | refine o_n ?_ | refine o_v ?_ | ((first | refine o_G ?_ ?_ | refine o_N ?_ ?_) <;> intro hc)))) | ((fail_if_success (with_reducible refine o_s ?_)); go_step))
      clear hp6
      generalize wr.heap.size = b at b6 z6 hne6 hlo ⊢
      go_loopw [3, 7, 17] (fun o _ i wq => ∃ j : Nat, j ≤ l[k].data.length ∧ i = .int .i64 j ∧ Ext w wq ∧ b < wq.heap.size ∧ wq.heap[b]? = some (.cells [str l[k].name, .int .i64 l[k].kind, .int .i64 l[k].ttl, x].toArray 55 (0, 0)) ∧ o.ownBlock ≠ some b ∧ Own w.heap.size 4 75 wq o (rcells (recsP l k ++ (l[k].data.take j).map (recOf l[k])))) (fun _ _ i _ => l[k].data.length - (intOf i).toNat)
      case atStart => exact ⟨0, Nat.zero_le _, rfl, xw6, z6, b6, hne6, by simpa using o6⟩
      case round =>
        obtain ⟨j, hj, rfl, hxq, hz, hbq, hne, hoq⟩ := hrel
        have hpq := pts_block hbq
        by_cases hlt2 : j < l[k].data.length
        · have h3 := h4d.elem (tcells_at hlt2)
          have hle1 := recsP_le l (k + 1)
          rw [recsP_succ hlt, List.length_append] at hle1
          have hle2 : (recsOf l[k]).length = l[k].data.length := by simp [recsOf]
          have hcl : (rcells (recsP l k ++ (l[k].data.take j).map (recOf l[k]))).length = (recsP l k).length + j := by simp [rcells]; omega
          repeat' (first | ((with_reducible refine o_s ?_); (first | (refine o_1 ?_; refine o_2 ?_) | (refine o_g ?_; first | refine o_u ?_ | refine o_k ?_ | refine o_n ?_ | refine o_v ?_ | ((first | refine o_G ?_ ?_ | refine o_N ?_ ?_) <;> intro hc)))) | ((fail_if_success (with_reducible refine o_s ?_)); go_step))
          refine wpl_callV (enters_of Tryz.func93 rfl rfl) rfl rfl (t22 l[k] x l[k].data[j] _) ?_; intro w7 x7; refine gset ?_
          repeat' (first | ((with_reducible refine o_s ?_); (first | (refine o_1 ?_; refine o_2 ?_) | (refine o_g ?_; first | refine o_u ?_ | refine o_k ?_ | refine o_n ?_ | refine o_v ?_ | ((first | refine o_G ?_ ?_ | refine o_N ?_ ?_) <;> intro hc)))) | ((fail_if_success (with_reducible refine o_s ?_)); go_step))
          refine wpl_slice (e := 75) (k := 4) (bytes := 48) (xs := [.agg #[str l[k].name, .int .i64 l[k].kind, .int .i64 l[k].ttl, str l[k].data[j]]]) rfl rfl rfl (by simp [Value.cells]) (by decide +kernel) (by simp) ?_
          intro v8 w8 x8 s8 sl8 _
          refine gset ?_
          repeat' (first | ((with_reducible refine o_s ?_); (first | (refine o_1 ?_; refine o_2 ?_) | (refine o_g ?_; first | refine o_u ?_ | refine o_k ?_ | refine o_n ?_ | refine o_v ?_ | ((first | refine o_G ?_ ?_ | refine o_N ?_ ?_) <;> intro hc)))) | ((fail_if_success (with_reducible refine o_s ?_)); go_step))
          refine wpl_appendK (B := w.heap.size) (e := 75) (k := 4) (bytes := 48) rfl (hoq.ext (x7.trans x8)) rfl sl8 (by decide +kernel) (by simp [Value.cells, str, Value.oneCell']) (by have := hxq.size; have := x7.size; omega) (by rw [hcl]; simp; omega) (by rw [hcl]; simp; omega) ?_
          intro v9 w9 o9 m9 k9
          have hb8 := (x7.trans x8).at hbq
          have hb9 := m9.at hb8 (fun e => hne e.symm)
          have x9 : Ext w w9 := (hoq.ext (x7.trans x8)).mvx m9 (hxq.trans (x7.trans x8)) (Nat.le_refl _)
          repeat' (first | ((with_reducible refine o_s ?_); (first | (refine o_1 ?_; refine o_2 ?_) | (refine o_g ?_; first | refine o_u ?_ | refine o_k ?_ | refine o_n ?_ | refine o_v ?_ | ((first | refine o_G ?_ ?_ | refine o_N ?_ ?_) <;> intro hc)))) | ((fail_if_success (with_reducible refine o_s ?_)); go_step))
          refine ⟨⟨j + 1, by omega, rfl, x9, ?_, hb9, ?_, ?_⟩, by simp [intOf]; omega⟩
          · have := x7.size; have := x8.size; have := m9.size; omega
          · rcases k9 with h | h
            · rw [h]; exact hne
            · rw [h]; intro e; have := Option.some.inj e; have := x7.size; omega
          · rw [map_take_succ hlt2, ← List.append_assoc]
            simpa [rcells, recOf, Rec.cells, Value.cells] using o9
        · have hj2 : j = l[k].data.length := by omega
          subst hj2
          repeat' (first | ((with_reducible refine o_s ?_); (first | (refine o_1 ?_; refine o_2 ?_) | (refine o_g ?_; first | refine o_u ?_ | refine o_k ?_ | refine o_n ?_ | refine o_v ?_ | ((first | refine o_G ?_ ?_ | refine o_N ?_ ?_) <;> intro hc)))) | ((fail_if_success (with_reducible refine o_s ?_)); go_step))
          exact ⟨⟨k + 1, by omega, rfl, hxq, by rw [recsP_succ hlt]; rw [List.take_length] at hoq; exact hoq⟩, by simp [intOf]; omega⟩
    · have hk2 : k = l.length := by omega
      subst hk2
      repeat' (first | ((with_reducible refine o_s ?_); (first | (refine o_1 ?_; refine o_2 ?_) | (refine o_g ?_; first | refine o_u ?_ | refine o_k ?_ | refine o_n ?_ | refine o_v ?_ | ((first | refine o_G ?_ ?_ | refine o_N ?_ ?_) <;> intro hc)))) | ((fail_if_success (with_reducible refine o_s ?_)); go_step))
      go_ret
      refine ⟨_, rfl, hx, ?_⟩
      rw [recsP_all] at ho
      exact ho
theorem pw_set {α : Type} {R : α → α → Prop} {l : List α} {i : Nat} {c : α} (h : l.Pairwise R) (hi : i < l.length) (h1 : ∀ j (hj : j < i), R l[j] c) (h2 : ∀ j (hj : i < j) (hl : j < l.length), R c l[j]) : (l.set i c).Pairwise R := by
  rw [List.pairwise_iff_getElem] at *
  intro p q hp hq hpq
  simp only [List.length_set] at hp hq
  simp only [List.getElem_set]
  by_cases e1 : i = p
  · subst e1
    rw [if_pos rfl, if_neg (by omega)]
    exact h2 q hpq hq
  · by_cases e2 : i = q
    · subst e2
      rw [if_neg e1, if_pos rfl]
      exact h1 p hpq
    · rw [if_neg e1, if_neg e2]
      exact h p q hp hq hpq
theorem GS.split {w : World} {B : Nat} {gcs : List GC} (h : GS w B gcs) {i j : Nat} {c c' : GC} (hi : gcs[i]? = some c) (hj : gcs[j]? = some c') (hij : i ≠ j) : c.b ≠ c'.b ∧ (c.v.ownBlock = none ∨ c'.v.ownBlock = none ∨ c.v.ownBlock ≠ c'.v.ownBlock) := by
  have := List.pairwise_iff_getElem.1 h.apart
  obtain ⟨hi2, e1⟩ := List.getElem?_eq_some_iff.1 hi
  obtain ⟨hj2, e2⟩ := List.getElem?_eq_some_iff.1 hj
  subst e1 e2
  rcases Nat.lt_or_ge i j with h1 | h1
  · exact this i j hi2 hj2 h1
  · obtain ⟨a, b⟩ := this j i hj2 hi2 (by omega)
    exact ⟨fun e => a e.symm, by rcases b with b | b | b; exact .inr (.inl b); exact .inl b; exact .inr (.inr fun e => b e.symm)⟩
theorem mem_set_at {α : Type} {l : List α} {i : Nat} {c x : α} (h : x ∈ l.set i c) : x = c ∨ ∃ j, j ≠ i ∧ l[j]? = some x := by
  obtain ⟨j, hj⟩ := List.mem_iff_getElem?.1 h
  by_cases e : j = i
  · subst e
    have hl : j < l.length := by simpa using (List.getElem?_eq_some_iff.1 hj).1
    rw [List.getElem?_set_self hl] at hj
    exact .inl (Option.some.inj hj).symm
  · rw [List.getElem?_set_ne (Ne.symm e)] at hj
    exact .inr ⟨j, e, hj⟩
theorem GS.turn {w w1 w2 : World} {B : Nat} {gcs : List GC} {i : Nat} {c c' : GC} (h : GS w B gcs) (hi : gcs[i]? = some c) (hb : c'.b = c.b) (m : Mv c.v.ownBlock w w1) (o : Own B 1 9 w1 c'.v (tcells c'.s.data))
    (kin : c'.v.ownBlock = c.v.ownBlock ∨ c'.v.ownBlock = some w.heap.size) (hp : Put w1 w2 c.b (.cells c'.cells.toArray 55 (0, 0))) : GS w2 B (gcs.set i c') := by
  have hc := h.each c (List.mem_of_getElem? hi)
  have hil := (List.getElem?_eq_some_iff.1 hi).1
  have hcb : c.v.ownBlock ≠ some c.b := hc.own.neBlock hc.blk (by omega)
  have ho : Own B 1 9 w2 c'.v (tcells c'.s.data) := o.mv hp.mv (.inr (o.neBlock (cs := c.cells.toArray) (fz := (0, 0)) (m.at hc.blk (fun e => hcb e.symm)) (by omega)))
  have hother : ∀ j x, j ≠ i → gcs[j]? = some x → GOK w2 B x ∧ x.b ≠ c.b ∧ (x.v.ownBlock = none ∨ x.v.ownBlock ≠ c'.v.ownBlock) := by
    intro j x hj hx
    have hxo := h.each x (List.mem_of_getElem? hx)
    obtain ⟨s1, s2⟩ := h.split hx hi hj
    have n1 : some x.b ≠ c.v.ownBlock := fun e => (hc.own.neBlock hxo.blk (by omega)) e.symm
    have n2 : x.v.ownBlock = none ∨ x.v.ownBlock ≠ c.v.ownBlock := by
      rcases s2 with s2 | s2 | s2
      · exact .inl s2
      · cases hv : x.v.ownBlock with
        | none => exact .inl rfl
        | some r => rw [s2]; exact .inr (by simp)
      · exact .inr s2
    have g1 := hxo.mv m n1 n2
    refine ⟨g1.mv hp.mv (fun e => s1 (Option.some.inj e)) (.inr (hxo.own.neBlock hc.blk (by omega))), s1, ?_⟩
    rcases kin with k | k
    · rw [k]; exact n2
    · rw [k]
      cases hv : x.v.ownBlock with
      | none => exact .inl rfl
      | some r => exact .inr fun e => by have := (hxo.own.block r hv).2; have := Option.some.inj e; omega
  refine ⟨fun x hx => ?_, pw_set h.apart hil (fun j hj => ?_) (fun j hj hl => ?_)⟩
  · rcases mem_set_at hx with rfl | ⟨j, hj, hx⟩
    · exact ⟨by rw [hb]; exact hp.this, by rw [hb]; exact hc.ge, ho⟩
    · exact (hother j x hj hx).1
  · obtain ⟨_, a, b⟩ := hother j gcs[j] (by omega) (List.getElem?_eq_getElem (by omega))
    exact ⟨by rw [hb]; exact a, by rcases b with b | b; exact .inl b; exact .inr (.inr b)⟩
  · obtain ⟨_, a, b⟩ := hother j gcs[j] (by omega) (List.getElem?_eq_getElem hl)
    exact ⟨by rw [hb]; exact fun e => a e.symm, by rcases b with b | b; exact .inr (.inl b); exact .inr (.inr fun e => b e.symm)⟩
theorem GS.push {w : World} {B : Nat} {gcs : List GC} {c : GC} (h : GS w B gcs) (hc : GOK w B c) (hn : ∀ x ∈ gcs, x.b ≠ c.b) (hv : c.v.ownBlock = none) : GS w B (gcs ++ [c]) := by
  refine ⟨fun x hx => ?_, ?_⟩
  · rcases List.mem_append.1 hx with hx | hx
    · exact h.each x hx
    · rw [List.mem_singleton.1 hx]; exact hc
  · rw [List.pairwise_append]
    refine ⟨h.apart, by simp, fun x hx y hy => ?_⟩
    rw [List.mem_singleton.1 hy]
    exact ⟨hn x hx, .inr (.inl hv)⟩
theorem GS.mv {w w' : World} {B : Nat} {gcs : List GC} {row : Option Nat} (h : GS w B gcs) (hm : Mv row w w') (h1 : ∀ c ∈ gcs, some c.b ≠ row ∧ (c.v.ownBlock = none ∨ c.v.ownBlock ≠ row)) : GS w' B gcs :=
  ⟨fun c hc => (h.each c hc).mv hm (h1 c hc).1 (h1 c hc).2, h.apart⟩
theorem kt48 : Tryz.prog.keyTypeAt 2 179 = true := by kernel_rfl
theorem ktiled48 : Tryz.prog.tiled 2 179 = true := by kernel_rfl
theorem law48 : WideMaps.KeyLaw Tryz.prog 179 := deep_law (m := 2) (by omega) kt48 ktiled48 (by kernel_rfl)
theorem keyOf48 (n : List UInt8) (k : Int) (hn : n.length ≤ 1000000) (hk : 0 ≤ k ∧ k ≤ 65535) : ∃ l, keyOf Tryz.prog 179 (.agg #[str n, .int .i64 k]) = some l := by
  unfold keyOf
  rw [Tryz.underlying179]
  have kt2 : Tryz.prog.keyType 179 = true := by kernel_rfl
  simp only [kt2]
  rw [show Tryz.prog.types.size = 269 from by kernel_rfl]
  have c48 : Tryz.prog.cellsOf 179 = 2 := by kernel_rfl
  have c30 : Tryz.prog.cellsOf 22 = 1 := by kernel_rfl
  have c3 : Tryz.prog.cellsOf 3 = 1 := by kernel_rfl
  have f : Value.formed Tryz.prog 179 (Value.agg #[str n, Value.int IntKind.i64 k]) = true := by simp [Value.formed, Tryz.underlying179, c48]
  have hs : (ByteArray.mk n.toArray).size ≤ maxLen := by rw [size_mk]; unfold maxLen; omega
  have hw : (Lit.int .i64 k).wf = true := by simp [Lit.wf, IntKind.min, IntKind.max, IntKind.bits, IntKind.signed]; omega
  have l30 : Tryz.prog.keyLits 269 22 [str n] = some [.string n] := by simp [Program.keyLits, Tryz.underlying22, str, -ByteArray.size_data, hs]
  have l3 : Tryz.prog.keyLits 269 3 [Value.int .i64 k] = some [.int .i64 k] := by simp [Program.keyLits, Tryz.underlying3, hw]
  rw [f]
  simp only [Bool.and_self, if_true]
  unfold Program.keyLits
  simp [Tryz.underlying179, c48, c30, c3, Value.cells, l30, l3]
structure L1 (w0 w : World) (kv : Value) (gcs : List GC) : Prop where
  ext : Ext w0 w
  map : MapAt Tryz.prog 179 w w0.heap.size (gcs.map GC.key)
  keys : Own (w0.heap.size + 1) 2 179 w kv (gcs.map GC.kcells)
  sets : GS w (w0.heap.size + 1) gcs
theorem L1.grow {w0 w w' : World} {kv : Value} {gcs : List GC} (h : L1 w0 w kv gcs) (hx : Ext w w') : L1 w0 w' kv gcs :=
  ⟨h.ext.trans hx, h.map.at (fun o ho => hx.at ho), h.keys.ext hx, h.sets.ext hx⟩
theorem Sl.slf {k : Nat} {w : World} {v : Value} {es : List (List Value)} (h : Sl k w v es) : ∃ a n c, v = .slice a n c := by
  obtain ⟨a, c, h1, _⟩ := h
  exact ⟨a, _, c, h1⟩
structure SetsC (w : World) (css : List (List Value)) (l : List RSet) : Prop where
  len : css.length = l.length
  at' : ∀ (i : Nat) (s : RSet), l[i]? = some s → ∃ x, css[i]? = some [str s.name, .int .i64 s.kind, .int .i64 s.ttl, x] ∧ Sl 1 w x (tcells s.data)
theorem SetsAt.rows {w : World} {v : Value} {l : List RSet} (h : SetsAt w v l) : ∃ css, Sl 4 w v css ∧ SetsC w css l := by
  obtain ⟨css, h1, h2, h3⟩ := h.out
  exact ⟨css, h1, h2, h3⟩
theorem SetsC.sets {w : World} {v : Value} {l : List RSet} {css : List (List Value)} (h : SetsC w css l) (hv : Sl 4 w v css) : SetsAt w v l := ⟨css, hv, h.len, h.at'⟩
theorem SetsC.ext {w w' : World} {l : List RSet} {css : List (List Value)} (h : SetsC w css l) (hx : Ext w w') : SetsC w' css l :=
  ⟨h.len, fun i s hi => let ⟨x, a, b⟩ := h.at' i s hi; ⟨x, a, b.ext hx⟩⟩
theorem SetsC.append {w : World} {l m : List RSet} {c d : List (List Value)} (h : SetsC w c l) (k : SetsC w d m) : SetsC w (c ++ d) (l ++ m) := by
  refine ⟨by rw [List.length_append, List.length_append, h.len, k.len], fun i s hi => ?_⟩
  rw [List.getElem?_append] at hi ⊢
  rw [h.len]
  split at hi
  · rw [if_pos ‹_›]; exact h.at' i s hi
  · rw [if_neg ‹_›]; exact k.at' _ s hi
theorem SetsC.take {w : World} {l : List RSet} {c : List (List Value)} (h : SetsC w c l) (n : Nat) : SetsC w (c.take n) (l.take n) := by
  refine ⟨by simp [h.len], fun i s hi => ?_⟩
  rw [List.getElem?_take] at hi ⊢
  split at hi
  · rw [if_pos ‹_›]; exact h.at' i s hi
  · cases hi
theorem SetsC.drop {w : World} {l : List RSet} {c : List (List Value)} (h : SetsC w c l) (n : Nat) : SetsC w (c.drop n) (l.drop n) := by
  refine ⟨by simp [h.len], fun i s hi => ?_⟩
  rw [List.getElem?_drop] at hi ⊢
  exact h.at' _ s hi
theorem SetsC.one {w : World} {s : RSet} {x : Value} (h : Sl 1 w x (tcells s.data)) : SetsC w [[str s.name, .int .i64 s.kind, .int .i64 s.ttl, x]] [s] :=
  ⟨rfl, fun i t hi => by
    match i, hi with
    | 0, hi => cases hi; exact ⟨x, rfl, h⟩⟩
theorem SetsC.cell {w : World} {l : List RSet} {c : List (List Value)} (h : SetsC w c l) : ∀ f ∈ c, ∀ u ∈ f, u.oneCell' = true := by
  intro f hf u hu
  obtain ⟨i, hi, rfl⟩ := List.mem_iff_getElem.1 hf
  obtain ⟨x, h1, h2⟩ := h.at' i _ (List.getElem?_eq_getElem (by rw [← h.len]; exact hi))
  rw [List.getElem?_eq_getElem hi] at h1
  rw [Option.some.inj h1] at hu
  simp only [List.mem_cons, List.not_mem_nil, or_false] at hu
  rcases hu with rfl | rfl | rfl | rfl
  · rfl
  · rfl
  · rfl
  · exact h2.one
def From (B : Nat) (v : Value) : Prop := ∀ b o s n c, v = .slice (some ⟨b, o, s⟩) n c → B ≤ b
theorem From.weaken {B C : Nat} {v : Value} (h : From B v) (hc : C ≤ B) : From C v := fun b o s n c e => Nat.le_trans hc (h b o s n c e)
theorem Own.from' {B C k e : Nat} {w : World} {v : Value} {es : List (List Value)} (h : Own B k e w v es) (hc : C ≤ B) : From C v := by
  intro b o s n c hv
  rcases h.form with ⟨rfl, _⟩ | ⟨g, cap, rfl, _, hg, _⟩
  · cases hv
  · simp only [Value.slice.injEq, Option.some.injEq, Addr.mk.injEq] at hv
    obtain ⟨⟨rfl, _⟩, _⟩ := hv
    exact Nat.le_trans hc hg
def FromC (B : Nat) (css : List (List Value)) : Prop := ∀ f ∈ css, ∀ u ∈ f, From B u
theorem FromC.append {B : Nat} {c d : List (List Value)} (h : FromC B c) (k : FromC B d) : FromC B (c ++ d) := fun f hf => by
  rcases List.mem_append.1 hf with hf | hf
  · exact h f hf
  · exact k f hf
theorem FromC.take {B : Nat} {c : List (List Value)} (h : FromC B c) (n : Nat) : FromC B (c.take n) := fun f hf => h f (List.mem_of_mem_take hf)
theorem FromC.drop {B : Nat} {c : List (List Value)} (h : FromC B c) (n : Nat) : FromC B (c.drop n) := fun f hf => h f (List.mem_of_mem_drop hf)
theorem FromC.one {B : Nat} {n : List UInt8} {k t : Int} {x : Value} (h : From B x) : FromC B [[str n, .int .i64 k, .int .i64 t, x]] := by
  intro f hf u hu
  simp only [List.mem_cons, List.not_mem_nil, or_false] at hf
  subst hf
  simp only [List.mem_cons, List.not_mem_nil, or_false] at hu
  rcases hu with rfl | rfl | rfl | rfl
  · intro b o s n c e; cases e
  · intro b o s n c e; cases e
  · intro b o s n c e; cases e
  · exact h
structure SetsO (B : Nat) (w : World) (v : Value) (l : List RSet) : Prop where
  out : ∃ css, Sl 4 w v css ∧ From B v ∧ SetsC w css l ∧ FromC B css
theorem SetsO.sets {B : Nat} {w : World} {v : Value} {l : List RSet} (h : SetsO B w v l) : SetsAt w v l := by
  obtain ⟨css, h1, _, h2, _⟩ := h
  exact h2.sets h1
theorem SetsO.ext {B : Nat} {w w' : World} {v : Value} {l : List RSet} (h : SetsO B w v l) (hx : Ext w w') : SetsO B w' v l := by
  obtain ⟨css, h1, h2, h3, h4⟩ := h
  exact ⟨css, h1.ext hx, h2, h3.ext hx, h4⟩
theorem SetsO.weaken {B C : Nat} {w : World} {v : Value} {l : List RSet} (h : SetsO B w v l) (hc : C ≤ B) : SetsO C w v l := by
  obtain ⟨css, h1, h2, h3, h4⟩ := h
  exact ⟨css, h1, h2.weaken hc, h3, fun f hf u hu => (h4 f hf u hu).weaken hc⟩
theorem Sl.put {B k b : Nat} {w w' : World} {v : Value} {es : List (List Value)} {o : Obj} (h : Sl k w v es) (hf : From B v) (hp : Put w w' b o) (hb : b < B) : Sl k w' v es := by
  obtain ⟨a, cap, h1, h2, h3, h4, h5, h6⟩ := h
  refine ⟨a, cap, h1, h2, h3, h4, h5, fun hn => ?_⟩
  obtain ⟨g, o, e, hc⟩ := h6 hn
  have hg : B ≤ g := hf g o none _ _ (by rw [h1, e])
  exact ⟨g, o, e, fun i e j x h1 h2 => (World.cell?_of_block (hp.other g (by omega))).trans (hc i e j x h1 h2)⟩
theorem SetsO.put {B b : Nat} {w w' : World} {v : Value} {l : List RSet} {o : Obj} (h : SetsO B w v l) (hp : Put w w' b o) (hb : b < B) : SetsO B w' v l := by
  obtain ⟨css, h1, h2, h3, h4⟩ := h
  refine ⟨css, h1.put h2 hp hb, h2, ⟨h3.len, fun i s hi => ?_⟩, h4⟩
  obtain ⟨x, e, hx⟩ := h3.at' i s hi
  exact ⟨x, e, hx.put (h4 _ (List.mem_of_getElem? e) x (by simp)) hp hb⟩
theorem SetsO.nil (B : Nat) (w : World) : SetsO B w (.slice none 0 0) [] := ⟨[], Sl.nil _ _, (by intro b o s n c e; cases e), ⟨rfl, by simp⟩, by intro f hf; cases hf⟩
end Go.Proofs.X
