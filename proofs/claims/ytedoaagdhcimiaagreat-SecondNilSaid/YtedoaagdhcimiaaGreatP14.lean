/- Laws and walks that the proof of the statement is made of (part 14). -/
import Derived.Test.YtedoaagdhcimiaaGreatProg
import Derived.Laws.Pointers
import Derived.OwnWalk
import Derived.Test.YtedoaagdhcimiaaGreatShelf
import Derived.Lib.Hide
import Derived.Shelf.SlSortCmp.NoneTotal
import Derived.WalkMore
import Derived.ScopeJumps
import Derived.Shelf.RegionOpenPlain
import Derived.Lib.Strings
import Derived.Lib.Slices
import Derived.Lib.Walk
import Derived.Lib.Builder
import Derived.Lib.AppendStr
import Derived.Lib.UnsafeStr
import Derived.Lib.MakeNoZero
import Derived.WalkKit
import Derived.Laws.Externs
import Derived.Laws.IdiomCopy
import Derived.Laws.BitsLemmas
import GoSem.Claims
import Derived.OrdersIn
import Derived.LoopIn
import Derived.Test.YtedoaagdhcimiaaGreatP1
import Derived.Test.YtedoaagdhcimiaaGreatP2
import Derived.Test.YtedoaagdhcimiaaGreatP4
import Derived.Test.YtedoaagdhcimiaaGreatP7
import Derived.Test.YtedoaagdhcimiaaGreatP8
import Derived.Test.YtedoaagdhcimiaaGreatP9
import Derived.Test.YtedoaagdhcimiaaGreatP11
import Derived.Test.YtedoaagdhcimiaaGreatP13
set_option linter.unusedSimpArgs false
set_option linter.unusedVariables false
namespace Go.Proofs.X
open Go.RowKit
set_option maxRecDepth 100000
theorem n_Notify (n now : Int) (w : World) : Calls Tryz.prog 20 #[.pointer none, .int .i64 n, .int .i64 now] w (RetV w (.tuple #[])) := by
  go_enter Tryz.func20, Tryz.ntmps20
  (repeat' first | ((with_reducible refine nx0 ?_); go_step) | ((with_reducible refine o_s ?_); first | refine wk1 ?_ | (refine wg0 ?_ ?_ <;> intro hc)) | fail)
  go_end0
  exact ⟨rfl, Ext.refl _⟩
theorem n_Heard (n now : Int) (w : World) : Calls Tryz.prog 18 #[.pointer none, .int .i64 n, .int .i64 now] w (RetV w (.tuple #[])) := by
  go_enter Tryz.func18, Tryz.ntmps18
  (repeat' first | ((with_reducible refine nx0 ?_); go_step) | ((with_reducible refine o_s ?_); first | refine wk1 ?_ | (refine wg0 ?_ ?_ <;> intro hc)) | fail)
  go_end0
  exact ⟨rfl, Ext.refl _⟩
theorem n_Failed (now : Int) (w : World) : Calls Tryz.prog 19 #[.pointer none, .int .i64 now] w (RetV w (.tuple #[])) := by
  go_enter Tryz.func19, Tryz.ntmps19
  (repeat' first | ((with_reducible refine nx0 ?_); go_step) | ((with_reducible refine o_s ?_); first | refine wk1 ?_ | (refine wg0 ?_ ?_ <;> intro hc)) | fail)
  go_end0
  exact ⟨rfl, Ext.refl _⟩
theorem n_Crash (w : World) : Calls Tryz.prog 79 #[.pointer none] w (RetV w (.tuple #[])) := by
  go_enter Tryz.func79, Tryz.ntmps79
  (repeat' first | ((with_reducible refine nx0 ?_); go_step) | ((with_reducible refine o_s ?_); first | refine wk1 ?_ | (refine wg0 ?_ ?_ <;> intro hc)) | fail)
  go_end0
  exact ⟨rfl, Ext.refl _⟩
theorem n_Got (lv : Value) (now : Int) (w : World) : Calls Tryz.prog 24 #[.pointer none, lv, .int .i64 now] w (RetV w (.int .i64 1)) := by
  go_enter Tryz.func24, Tryz.ntmps24
  (repeat' first | ((with_reducible refine nx0 ?_); go_step) | ((with_reducible refine o_s ?_); first | refine wk1 ?_ | (refine wg0 ?_ ?_ <;> intro hc)) | fail)
  go_ret
  exact ⟨rfl, Ext.refl _⟩
theorem n_Wants (now : Int) (w : World) : Calls Tryz.prog 17 #[.pointer none, .int .i64 now] w (RetV w (.int .i64 0)) := by
  go_enter Tryz.func17, Tryz.ntmps17
  (repeat' first | ((with_reducible refine nx0 ?_); go_step) | ((with_reducible refine o_s ?_); first | refine wk1 ?_ | (refine wg0 ?_ ?_ <;> intro hc)) | fail)
  go_ret
  exact ⟨rfl, Ext.refl _⟩
theorem n_Up (now : Int) (w : World) : Calls Tryz.prog 36 #[.pointer none, .int .i64 now] w (RetV w (.bool false)) := by
  go_enter Tryz.func36, Tryz.ntmps36
  (repeat' first | ((with_reducible refine nx0 ?_); go_step) | ((with_reducible refine o_s ?_); first | refine wk1 ?_ | (refine wg0 ?_ ?_ <;> intro hc)) | fail)
  go_ret
  exact ⟨rfl, Ext.refl _⟩
theorem n_Zone (w : World) : Calls Tryz.prog 34 #[.pointer none] w (RetV w (.tuple #[.agg zzone.toArray, .bool false])) := by
  go_enter Tryz.func34, Tryz.ntmps34
  repeat' (first | ((with_reducible refine nx0 ?_); go_step) | fail)
  refine wpl_allocB (z := zzone) rfl (by decide +kernel) ?_
  intro w1 x1 s1 h1
  refine gset ?_
  (repeat' first | ((with_reducible refine nx0 ?_); go_step) | ((with_reducible refine o_s ?_); first | refine wk1 ?_ | (refine wg0 ?_ ?_ <;> intro hc)) | fail)
  refine wpl_run (v := .agg zzone.toArray) rfl (Runs.build0 (by kernel_rfl)) ?_
  refine gset ?_
  refine wpl_storeB (v := .agg zzone.toArray) rfl rfl rfl h1 (show sizeTy Tryz.prog 34 2 = true by decide +kernel) rfl (by decide +kernel) ?_
  intro w2 p2
  (repeat' first | ((with_reducible refine nx0 ?_); go_step) | ((with_reducible refine o_s ?_); first | refine wk1 ?_ | (refine wg0 ?_ ?_ <;> intro hc)) | fail)
  refine bodyPost_ret (results_cellT (cs := zzone) rfl rfl p2.this (by decide +kernel)) rfl ⟨rfl, Ext.move x1 p2.mv (by rintro k ⟨⟩; omega)⟩
set_option maxHeartbeats 4000000 in
theorem n_does (p : OpR) (lv : Value) (w : World) (hl : Sl 4 w lv (rcells p.l)) : Calls Tryz.prog 33 #[.pointer none, opv p lv] w (RetV w (.int .i64 (if p.op = 3 then 1 else 0))) := by
  unfold opv
  obtain ⟨op, n, now, l⟩ := p
  simp only at hl ⊢
  go_enter Tryz.func33, Tryz.ntmps33
  have hl1 := hl.one
  (repeat' first | ((with_reducible refine nx0 ?_); go_step) | ((with_reducible refine o_s ?_); first | refine wk1 ?_ | (refine wg0 ?_ ?_ <;> intro hc)) | fail)
  refine wpl_boxB (vs := [.int .i64 op, .int .i64 n, .int .i64 now, lv]) rfl rfl ?_
  intro w1 x1 s1 h1
  refine gset ?_
  have hp := pts_block (cs := [.int .i64 op, .int .i64 n, .int .i64 now, lv]) h1
  by_cases c0 : op = 0
  · subst c0
    (repeat' first | ((with_reducible refine nx0 ?_); go_step) | ((with_reducible refine o_s ?_); first | refine wk1 ?_ | (refine wg0 ?_ ?_ <;> intro hc)) | fail)
    refine wpl_callV (enters_of Tryz.func20 rfl rfl) rfl rfl (n_Notify n now _) ?_; intro w2 x2; refine gset ?_
    (repeat' first | ((with_reducible refine nx0 ?_); go_step) | ((with_reducible refine o_s ?_); first | refine wk1 ?_ | (refine wg0 ?_ ?_ <;> intro hc)) | fail)
    go_ret
    exact ⟨rfl, x1.trans x2⟩
  by_cases c1 : op = 1
  · subst c1
    (repeat' first | ((with_reducible refine nx0 ?_); go_step) | ((with_reducible refine o_s ?_); first | refine wk1 ?_ | (refine wg0 ?_ ?_ <;> intro hc)) | fail)
    refine wpl_callV (enters_of Tryz.func18 rfl rfl) rfl rfl (n_Heard n now _) ?_; intro w2 x2; refine gset ?_
    (repeat' first | ((with_reducible refine nx0 ?_); go_step) | ((with_reducible refine o_s ?_); first | refine wk1 ?_ | (refine wg0 ?_ ?_ <;> intro hc)) | fail)
    go_ret
    exact ⟨rfl, x1.trans x2⟩
  by_cases c2 : op = 2
  · subst c2
    (repeat' first | ((with_reducible refine nx0 ?_); go_step) | ((with_reducible refine o_s ?_); first | refine wk1 ?_ | (refine wg0 ?_ ?_ <;> intro hc)) | fail)
    refine wpl_callV (enters_of Tryz.func19 rfl rfl) rfl rfl (n_Failed now _) ?_; intro w2 x2; refine gset ?_
    (repeat' first | ((with_reducible refine nx0 ?_); go_step) | ((with_reducible refine o_s ?_); first | refine wk1 ?_ | (refine wg0 ?_ ?_ <;> intro hc)) | fail)
    go_ret
    exact ⟨rfl, x1.trans x2⟩
  by_cases c3 : op = 3
  · subst c3
    (repeat' first | ((with_reducible refine nx0 ?_); go_step) | ((with_reducible refine o_s ?_); first | refine wk1 ?_ | (refine wg0 ?_ ?_ <;> intro hc)) | fail)
    refine wpl_callV (enters_of Tryz.func24 rfl rfl) rfl rfl (n_Got lv now _) ?_; intro w2 x2; refine gset ?_
    (repeat' first | ((with_reducible refine nx0 ?_); go_step) | ((with_reducible refine o_s ?_); first | refine wk1 ?_ | (refine wg0 ?_ ?_ <;> intro hc)) | fail)
    go_ret
    exact ⟨rfl, x1.trans x2⟩
  by_cases c4 : op = 4
  · subst c4
    (repeat' first | ((with_reducible refine nx0 ?_); go_step) | ((with_reducible refine o_s ?_); first | refine wk1 ?_ | (refine wg0 ?_ ?_ <;> intro hc)) | fail)
    refine wpl_callV (enters_of Tryz.func79 rfl rfl) rfl rfl (n_Crash _) ?_; intro w2 x2; refine gset ?_
    (repeat' first | ((with_reducible refine nx0 ?_); go_step) | ((with_reducible refine o_s ?_); first | refine wk1 ?_ | (refine wg0 ?_ ?_ <;> intro hc)) | fail)
    go_ret
    exact ⟨rfl, x1.trans x2⟩
  (repeat' first | ((with_reducible refine nx0 ?_); go_step) | ((with_reducible refine o_s ?_); first | refine wk1 ?_ | (refine wg0 ?_ ?_ <;> intro hc)) | fail)
  all_goals first
    | (exfalso; omega)
    | (go_ret
       exact ⟨by rw [if_neg c3]; rfl, x1⟩)
set_option maxHeartbeats 4000000 in
theorem l17_Nil (p : OpR) (lv : Value) (w : World) (hl : Sl 4 w lv (rcells p.l)) : Calls Tryz.prog 6 #[opv p lv] w (Yes w) := by
  obtain ⟨op, n, now, l⟩ := p
  simp only at hl
  unfold opv
  go_enter Tryz.func6, Tryz.ntmps6
  have hl1 := hl.one
  (repeat' first | ((with_reducible refine nx0 ?_); go_step) | ((with_reducible refine o_s ?_); first | refine wk1 ?_ | (refine wg0 ?_ ?_ <;> intro hc)) | fail)
  refine wpl_boxB (vs := [.int .i64 op, .int .i64 n, .int .i64 now, lv]) rfl rfl ?_
  intro w1 x1 s1 h1
  refine gset ?_
  have hp := pts_block (cs := [.int .i64 op, .int .i64 n, .int .i64 now, lv]) h1
  have hl2 := hl.ext x1
  (repeat' first | ((with_reducible refine nx0 ?_); go_step) | ((with_reducible refine o_s ?_); first | refine wk1 ?_ | (refine wg0 ?_ ?_ <;> intro hc)) | fail)
  refine wpl_callV (enters_of Tryz.func27 rfl rfl) rfl rfl (l17_short lv l _ hl2) ?_; intro w2 x2; refine gset ?_
  have hp2 := hp.ext x2
  have hx2 := x1.trans x2
  cases hsh : shortS l with
  | false =>
    (repeat' first | ((with_reducible refine nx0 ?_); go_step) | ((with_reducible refine o_s ?_); first | refine wk1 ?_ | (refine wg0 ?_ ?_ <;> intro hc)) | fail)
    refine wpl_callV (enters_of Tryz.func15 rfl rfl) rfl rfl (l17_liveV _) ?_; intro w3 x3; refine gset ?_
    (repeat' first | ((with_reducible refine nx0 ?_); go_step) | ((with_reducible refine o_s ?_); first | refine wk1 ?_ | (refine wg0 ?_ ?_ <;> intro hc)) | fail)
    go_ret
    exact ⟨rfl, hx2.trans x3⟩
  | true =>
    (repeat' first | ((with_reducible refine nx0 ?_); go_step) | ((with_reducible refine o_s ?_); first | refine wk1 ?_ | (refine wg0 ?_ ?_ <;> intro hc)) | fail)
    refine wpl_callR (enters_of Tryz.func16 rfl rfl) rfl rfl (p_SecNew [0] 5 _) ?_
    rintro _ w7 x7 ⟨p7, rfl, hp7⟩
    unfold secPE at hp7
    rw [show secE [0] 5 = 1 by decide +kernel, if_neg (by decide)] at hp7
    subst hp7
    rw [show secE [0] 5 = 1 by decide +kernel]
    have hx7 := hx2.trans x7
    have hp7 := hp2.ext x7
    have hl7 := hl.ext hx7
    refine gset ?_
    (repeat' first | ((with_reducible refine nx0 ?_); go_step) | ((with_reducible refine o_s ?_); first | refine wk1 ?_ | (refine wg0 ?_ ?_ <;> intro hc)) | fail)
    refine wpl_callV (enters_of Tryz.func33 rfl rfl) rfl rfl ((show Calls Tryz.prog 33 #[.pointer none, .agg #[.int .i64 op, .int .i64 n, .int .i64 now, lv]] w7 (RetV w7 (.int .i64 (if op = 3 then 1 else 0))) from n_does ⟨op, n, now, l⟩ lv _ hl7)) ?_; intro w8 x8; refine gset ?_
    have hp8 := hp7.ext x8
    have hx8 := hx7.trans x8
    (repeat' first | ((with_reducible refine nx0 ?_); go_step) | ((with_reducible refine o_s ?_); first | refine wk1 ?_ | (refine wg0 ?_ ?_ <;> intro hc)) | fail)
    refine wpl_callV (enters_of Tryz.func34 rfl rfl) rfl rfl (n_Zone _) ?_; intro w9 x9; refine gset ?_
    have hp9 := hp8.ext x9
    have hx9 := hx8.trans x9
    (repeat' first | ((with_reducible refine nx0 ?_); go_step) | ((with_reducible refine o_s ?_); first | refine wk1 ?_ | (refine wg0 ?_ ?_ <;> intro hc)) | fail)
    refine wpl_allocB (z := zzone) rfl (by decide +kernel) ?_
    intro w13 x13 s13 h13
    refine gset ?_
    refine wpl_storeB (v := .agg zzone.toArray) rfl rfl rfl h13 (show sizeTy Tryz.prog 34 2 = true by decide +kernel) rfl (by decide +kernel) ?_
    intro w14 p14
    have x14 : Ext w9 w14 := x13.move p14.mv (by rintro k ⟨⟩; exact Nat.le_refl _)
    have hx14 := hx9.trans x14
    have hp14 := hp9.ext x14
    by_cases c3 : op = 3
    · subst c3
      (repeat' first | ((with_reducible refine nx0 ?_); go_step) | ((with_reducible refine o_s ?_); first | refine wk1 ?_ | (refine wg0 ?_ ?_ <;> intro hc)) | fail)
      refine wpl_callV (enters_of Tryz.func17 rfl rfl) rfl rfl (n_Wants now _) ?_; intro w15 x15; refine gset ?_
      have hp15 := hp14.ext x15
      (repeat' first | ((with_reducible refine nx0 ?_); go_step) | ((with_reducible refine o_s ?_); first | refine wk1 ?_ | (refine wg0 ?_ ?_ <;> intro hc)) | fail)
      refine wpl_callV (enters_of Tryz.func36 rfl rfl) rfl rfl (n_Up now _) ?_; intro w16 x16; refine gset ?_
      (repeat' first | ((with_reducible refine nx0 ?_); go_step) | ((with_reducible refine o_s ?_); first | refine wk1 ?_ | (refine wg0 ?_ ?_ <;> intro hc)) | fail)
      refine wpl_callV (enters_of Tryz.func15 rfl rfl) rfl rfl (l17_liveV _) ?_; intro w17 x17; refine gset ?_
      (repeat' first | ((with_reducible refine nx0 ?_); go_step) | ((with_reducible refine o_s ?_); first | refine wk1 ?_ | (refine wg0 ?_ ?_ <;> intro hc)) | fail)
      go_ret
      exact ⟨rfl, ((hx14.trans x15).trans x16).trans x17⟩
    · (repeat' first | ((with_reducible refine nx0 ?_); go_step) | ((with_reducible refine o_s ?_); first | refine wk1 ?_ | (refine wg0 ?_ ?_ <;> intro hc)) | fail)
      all_goals first
        | (exfalso; omega)
        | (exfalso; have hh := ‹(!decide (op = 3)) = false›; simp [c3] at hh; done)
        | skip
      refine wpl_callV (enters_of Tryz.func17 rfl rfl) rfl rfl (n_Wants now _) ?_; intro w15 x15; refine gset ?_
      have hp15 := hp14.ext x15
      (repeat' first | ((with_reducible refine nx0 ?_); go_step) | ((with_reducible refine o_s ?_); first | refine wk1 ?_ | (refine wg0 ?_ ?_ <;> intro hc)) | fail)
      refine wpl_callV (enters_of Tryz.func36 rfl rfl) rfl rfl (n_Up now _) ?_; intro w16 x16; refine gset ?_
      (repeat' first | ((with_reducible refine nx0 ?_); go_step) | ((with_reducible refine o_s ?_); first | refine wk1 ?_ | (refine wg0 ?_ ?_ <;> intro hc)) | fail)
      refine wpl_callV (enters_of Tryz.func15 rfl rfl) rfl rfl (l17_liveV _) ?_; intro w17 x17; refine gset ?_
      (repeat' first | ((with_reducible refine nx0 ?_); go_step) | ((with_reducible refine o_s ?_); first | refine wk1 ?_ | (refine wg0 ?_ ?_ <;> intro hc)) | fail)
      go_ret
      exact ⟨rfl, ((hx14.trans x15).trans x16).trans x17⟩
end Go.Proofs.X
