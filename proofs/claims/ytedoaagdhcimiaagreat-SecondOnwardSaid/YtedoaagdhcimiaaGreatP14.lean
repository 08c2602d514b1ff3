/- Laws and walks that the proof of the statement is made of (part 14). -/
import Derived.Test.YtedoaagdhcimiaaGreatProg
import Derived.Laws.Pointers
import Derived.OwnWalk
import Derived.Test.YtedoaagdhcimiaaGreatShelf
import Derived.Lib.Hide
import Derived.Shelf.SlSortCmp.NoneTotal
import Derived.WalkMore
import Derived.ScopeJumps
import Derived.Shelf.RegionOpenPlain
import Derived.Lib.Strings
import Derived.Lib.Slices
import Derived.Lib.Walk
import Derived.Lib.Builder
import Derived.Lib.AppendStr
import Derived.Lib.UnsafeStr
import Derived.Lib.MakeNoZero
import Derived.WalkKit
import Derived.Laws.Externs
import Derived.Laws.IdiomCopy
import Derived.Laws.BitsLemmas
import GoSem.Claims
import Derived.OrdersIn
import Derived.LoopIn
import Derived.Test.YtedoaagdhcimiaaGreatP1
import Derived.Test.YtedoaagdhcimiaaGreatP2
import Derived.Test.YtedoaagdhcimiaaGreatP4
import Derived.Test.YtedoaagdhcimiaaGreatP7
import Derived.Test.YtedoaagdhcimiaaGreatP8
import Derived.Test.YtedoaagdhcimiaaGreatP9
import Derived.Test.YtedoaagdhcimiaaGreatP11
import Derived.Test.YtedoaagdhcimiaaGreatP13
set_option linter.unusedSimpArgs false
set_option linter.unusedVariables false
namespace Go.Proofs.X
open Go.RowKit
set_option maxRecDepth 100000
theorem n_Notify (n now : Int) (w : World) : Calls Tryz.prog 20 #[.pointer none, .int .i64 n, .int .i64 now] w (RetV w (.tuple #[])) := by
  go_enter Tryz.func20, Tryz.ntmps20
  (repeat' first | ((with_reducible refine nx0 ?_); go_step) | ((with_reducible refine o_s ?_); first | refine wk1 ?_ | (refine wg0 ?_ ?_ <;> intro hc)) | fail)
  go_end0
  exact ⟨rfl, Ext.refl _⟩
theorem n_Heard (n now : Int) (w : World) : Calls Tryz.prog 18 #[.pointer none, .int .i64 n, .int .i64 now] w (RetV w (.tuple #[])) := by
  go_enter Tryz.func18, Tryz.ntmps18
  (repeat' first | ((with_reducible refine nx0 ?_); go_step) | ((with_reducible refine o_s ?_); first | refine wk1 ?_ | (refine wg0 ?_ ?_ <;> intro hc)) | fail)
  go_end0
  exact ⟨rfl, Ext.refl _⟩
theorem n_Failed (now : Int) (w : World) : Calls Tryz.prog 19 #[.pointer none, .int .i64 now] w (RetV w (.tuple #[])) := by
  go_enter Tryz.func19, Tryz.ntmps19
  (repeat' first | ((with_reducible refine nx0 ?_); go_step) | ((with_reducible refine o_s ?_); first | refine wk1 ?_ | (refine wg0 ?_ ?_ <;> intro hc)) | fail)
  go_end0
  exact ⟨rfl, Ext.refl _⟩
theorem n_Crash (w : World) : Calls Tryz.prog 79 #[.pointer none] w (RetV w (.tuple #[])) := by
  go_enter Tryz.func79, Tryz.ntmps79
  (repeat' first | ((with_reducible refine nx0 ?_); go_step) | ((with_reducible refine o_s ?_); first | refine wk1 ?_ | (refine wg0 ?_ ?_ <;> intro hc)) | fail)
  go_end0
  exact ⟨rfl, Ext.refl _⟩
theorem n_Got (lv : Value) (now : Int) (w : World) : Calls Tryz.prog 24 #[.pointer none, lv, .int .i64 now] w (RetV w (.int .i64 1)) := by
  go_enter Tryz.func24, Tryz.ntmps24
  (repeat' first | ((with_reducible refine nx0 ?_); go_step) | ((with_reducible refine o_s ?_); first | refine wk1 ?_ | (refine wg0 ?_ ?_ <;> intro hc)) | fail)
  go_ret
  exact ⟨rfl, Ext.refl _⟩
theorem n_Wants (now : Int) (w : World) : Calls Tryz.prog 17 #[.pointer none, .int .i64 now] w (RetV w (.int .i64 0)) := by
  go_enter Tryz.func17, Tryz.ntmps17
  (repeat' first | ((with_reducible refine nx0 ?_); go_step) | ((with_reducible refine o_s ?_); first | refine wk1 ?_ | (refine wg0 ?_ ?_ <;> intro hc)) | fail)
  go_ret
  exact ⟨rfl, Ext.refl _⟩
theorem n_Up (now : Int) (w : World) : Calls Tryz.prog 36 #[.pointer none, .int .i64 now] w (RetV w (.bool false)) := by
  go_enter Tryz.func36, Tryz.ntmps36
  (repeat' first | ((with_reducible refine nx0 ?_); go_step) | ((with_reducible refine o_s ?_); first | refine wk1 ?_ | (refine wg0 ?_ ?_ <;> intro hc)) | fail)
  go_ret
  exact ⟨rfl, Ext.refl _⟩
theorem n_Zone (w : World) : Calls Tryz.prog 34 #[.pointer none] w (RetV w (.tuple #[.agg zzone.toArray, .bool false])) := by
  go_enter Tryz.func34, Tryz.ntmps34
  repeat' (first | ((with_reducible refine nx0 ?_); go_step) | fail)
  refine wpl_allocB (z := zzone) rfl (by decide +kernel) ?_
  intro w1 x1 s1 h1
  refine gset ?_
  (repeat' first | ((with_reducible refine nx0 ?_); go_step) | ((with_reducible refine o_s ?_); first | refine wk1 ?_ | (refine wg0 ?_ ?_ <;> intro hc)) | fail)
  refine wpl_run (v := .agg zzone.toArray) rfl (Runs.build0 (by kernel_rfl)) ?_
  refine gset ?_
  refine wpl_storeB (v := .agg zzone.toArray) rfl rfl rfl h1 (show sizeTy Tryz.prog 34 2 = true by decide +kernel) rfl (by decide +kernel) ?_
  intro w2 p2
  (repeat' first | ((with_reducible refine nx0 ?_); go_step) | ((with_reducible refine o_s ?_); first | refine wk1 ?_ | (refine wg0 ?_ ?_ <;> intro hc)) | fail)
  refine bodyPost_ret (results_cellT (cs := zzone) rfl rfl p2.this (by decide +kernel)) rfl ⟨rfl, Ext.move x1 p2.mv (by rintro k ⟨⟩; omega)⟩
set_option maxHeartbeats 4000000 in
theorem n_does (p : OpR) (lv : Value) (w : World) (hl : Sl 4 w lv (rcells p.l)) : Calls Tryz.prog 33 #[.pointer none, opv p lv] w (RetV w (.int .i64 (if p.op = 3 then 1 else 0))) := by
  unfold opv
  obtain ⟨op, n, now, l⟩ := p
  simp only at hl ⊢
  go_enter Tryz.func33, Tryz.ntmps33
  have hl1 := hl.one
  (repeat' first | ((with_reducible refine nx0 ?_); go_step) | ((with_reducible refine o_s ?_); first | refine wk1 ?_ | (refine wg0 ?_ ?_ <;> intro hc)) | fail)
  refine wpl_boxB (vs := [.int .i64 op, .int .i64 n, .int .i64 now, lv]) rfl rfl ?_
  intro w1 x1 s1 h1
  refine gset ?_
  have hp := pts_block (cs := [.int .i64 op, .int .i64 n, .int .i64 now, lv]) h1
  by_cases c0 : op = 0
  · subst c0
    (repeat' first | ((with_reducible refine nx0 ?_); go_step) | ((with_reducible refine o_s ?_); first | refine wk1 ?_ | (refine wg0 ?_ ?_ <;> intro hc)) | fail)
    refine wpl_callV (enters_of Tryz.func20 rfl rfl) rfl rfl (n_Notify n now _) ?_; intro w2 x2; refine gset ?_
    (repeat' first | ((with_reducible refine nx0 ?_); go_step) | ((with_reducible refine o_s ?_); first | refine wk1 ?_ | (refine wg0 ?_ ?_ <;> intro hc)) | fail)
    go_ret
    exact ⟨rfl, x1.trans x2⟩
  by_cases c1 : op = 1
  · subst c1
    (repeat' first | ((with_reducible refine nx0 ?_); go_step) | ((with_reducible refine o_s ?_); first | refine wk1 ?_ | (refine wg0 ?_ ?_ <;> intro hc)) | fail)
    refine wpl_callV (enters_of Tryz.func18 rfl rfl) rfl rfl (n_Heard n now _) ?_; intro w2 x2; refine gset ?_
    (repeat' first | ((with_reducible refine nx0 ?_); go_step) | ((with_reducible refine o_s ?_); first | refine wk1 ?_ | (refine wg0 ?_ ?_ <;> intro hc)) | fail)
    go_ret
    exact ⟨rfl, x1.trans x2⟩
  by_cases c2 : op = 2
  · subst c2
    (repeat' first | ((with_reducible refine nx0 ?_); go_step) | ((with_reducible refine o_s ?_); first | refine wk1 ?_ | (refine wg0 ?_ ?_ <;> intro hc)) | fail)
    refine wpl_callV (enters_of Tryz.func19 rfl rfl) rfl rfl (n_Failed now _) ?_; intro w2 x2; refine gset ?_
    (repeat' first | ((with_reducible refine nx0 ?_); go_step) | ((with_reducible refine o_s ?_); first | refine wk1 ?_ | (refine wg0 ?_ ?_ <;> intro hc)) | fail)
    go_ret
    exact ⟨rfl, x1.trans x2⟩
  by_cases c3 : op = 3
  · subst c3
    (repeat' first | ((with_reducible refine nx0 ?_); go_step) | ((with_reducible refine o_s ?_); first | refine wk1 ?_ | (refine wg0 ?_ ?_ <;> intro hc)) | fail)
    refine wpl_callV (enters_of Tryz.func24 rfl rfl) rfl rfl (n_Got lv now _) ?_; intro w2 x2; refine gset ?_
    (repeat' first | ((with_reducible refine nx0 ?_); go_step) | ((with_reducible refine o_s ?_); first | refine wk1 ?_ | (refine wg0 ?_ ?_ <;> intro hc)) | fail)
    go_ret
    exact ⟨rfl, x1.trans x2⟩
  by_cases c4 : op = 4
  · subst c4
    (repeat' first | ((with_reducible refine nx0 ?_); go_step) | ((with_reducible refine o_s ?_); first | refine wk1 ?_ | (refine wg0 ?_ ?_ <;> intro hc)) | fail)
    refine wpl_callV (enters_of Tryz.func79 rfl rfl) rfl rfl (n_Crash _) ?_; intro w2 x2; refine gset ?_
    (repeat' first | ((with_reducible refine nx0 ?_); go_step) | ((with_reducible refine o_s ?_); first | refine wk1 ?_ | (refine wg0 ?_ ?_ <;> intro hc)) | fail)
    go_ret
    exact ⟨rfl, x1.trans x2⟩
  (repeat' first | ((with_reducible refine nx0 ?_); go_step) | ((with_reducible refine o_s ?_); first | refine wk1 ?_ | (refine wg0 ?_ ?_ <;> intro hc)) | fail)
  all_goals first
    | (exfalso; omega)
    | (go_ret
       exact ⟨by rw [if_neg c3]; rfl, x1⟩)
set_option maxHeartbeats 4000000 in
theorem l17_Nil (p : OpR) (lv : Value) (w : World) (hl : Sl 4 w lv (rcells p.l)) : Calls Tryz.prog 6 #[opv p lv] w (Yes w) := by
  obtain ⟨op, n, now, l⟩ := p
  simp only at hl
  unfold opv
  go_enter Tryz.func6, Tryz.ntmps6
  have hl1 := hl.one
  (repeat' first | ((with_reducible refine nx0 ?_); go_step) | ((with_reducible refine o_s ?_); first | refine wk1 ?_ | (refine wg0 ?_ ?_ <;> intro hc)) | fail)
  refine wpl_boxB (vs := [.int .i64 op, .int .i64 n, .int .i64 now, lv]) rfl rfl ?_
  intro w1 x1 s1 h1
  refine gset ?_
  have hp := pts_block (cs := [.int .i64 op, .int .i64 n, .int .i64 now, lv]) h1
  have hl2 := hl.ext x1
  (repeat' first | ((with_reducible refine nx0 ?_); go_step) | ((with_reducible refine o_s ?_); first | refine wk1 ?_ | (refine wg0 ?_ ?_ <;> intro hc)) | fail)
  refine wpl_callV (enters_of Tryz.func27 rfl rfl) rfl rfl (l17_short lv l _ hl2) ?_; intro w2 x2; refine gset ?_
  have hp2 := hp.ext x2
  have hx2 := x1.trans x2
  cases hsh : shortS l with
  | false =>
    (repeat' first | ((with_reducible refine nx0 ?_); go_step) | ((with_reducible refine o_s ?_); first | refine wk1 ?_ | (refine wg0 ?_ ?_ <;> intro hc)) | fail)
    refine wpl_callV (enters_of Tryz.func15 rfl rfl) rfl rfl (l17_liveV _) ?_; intro w3 x3; refine gset ?_
    (repeat' first | ((with_reducible refine nx0 ?_); go_step) | ((with_reducible refine o_s ?_); first | refine wk1 ?_ | (refine wg0 ?_ ?_ <;> intro hc)) | fail)
    go_ret
    exact ⟨rfl, hx2.trans x3⟩
  | true =>
    (repeat' first | ((with_reducible refine nx0 ?_); go_step) | ((with_reducible refine o_s ?_); first | refine wk1 ?_ | (refine wg0 ?_ ?_ <;> intro hc)) | fail)
    refine wpl_callR (enters_of Tryz.func16 rfl rfl) rfl rfl (p_SecNew [0] 5 _) ?_
    rintro _ w7 x7 ⟨p7, rfl, hp7⟩
    unfold secPE at hp7
    rw [show secE [0] 5 = 1 by decide +kernel, if_neg (by decide)] at hp7
    subst hp7
    rw [show secE [0] 5 = 1 by decide +kernel]
    have hx7 := hx2.trans x7
    have hp7 := hp2.ext x7
    have hl7 := hl.ext hx7
    refine gset ?_
    (repeat' first | ((with_reducible refine nx0 ?_); go_step) | ((with_reducible refine o_s ?_); first | refine wk1 ?_ | (refine wg0 ?_ ?_ <;> intro hc)) | fail)
    refine wpl_callV (enters_of Tryz.func33 rfl rfl) rfl rfl ((show Calls Tryz.prog 33 #[.pointer none, .agg #[.int .i64 op, .int .i64 n, .int .i64 now, lv]] w7 (RetV w7 (.int .i64 (if op = 3 then 1 else 0))) from n_does ⟨op, n, now, l⟩ lv _ hl7)) ?_; intro w8 x8; refine gset ?_
    have hp8 := hp7.ext x8
    have hx8 := hx7.trans x8
    (repeat' first | ((with_reducible refine nx0 ?_); go_step) | ((with_reducible refine o_s ?_); first | refine wk1 ?_ | (refine wg0 ?_ ?_ <;> intro hc)) | fail)
    refine wpl_callV (enters_of Tryz.func34 rfl rfl) rfl rfl (n_Zone _) ?_; intro w9 x9; refine gset ?_
    have hp9 := hp8.ext x9
    have hx9 := hx8.trans x9
    (repeat' first | ((with_reducible refine nx0 ?_); go_step) | ((with_reducible refine o_s ?_); first | refine wk1 ?_ | (refine wg0 ?_ ?_ <;> intro hc)) | fail)
    refine wpl_allocB (z := zzone) rfl (by decide +kernel) ?_
    intro w13 x13 s13 h13
    refine gset ?_
    refine wpl_storeB (v := .agg zzone.toArray) rfl rfl rfl h13 (show sizeTy Tryz.prog 34 2 = true by decide +kernel) rfl (by decide +kernel) ?_
    intro w14 p14
    have x14 : Ext w9 w14 := x13.move p14.mv (by rintro k ⟨⟩; exact Nat.le_refl _)
    have hx14 := hx9.trans x14
    have hp14 := hp9.ext x14
    by_cases c3 : op = 3
    · subst c3
      (repeat' first | ((with_reducible refine nx0 ?_); go_step) | ((with_reducible refine o_s ?_); first | refine wk1 ?_ | (refine wg0 ?_ ?_ <;> intro hc)) | fail)
      refine wpl_callV (enters_of Tryz.func17 rfl rfl) rfl rfl (n_Wants now _) ?_; intro w15 x15; refine gset ?_
      have hp15 := hp14.ext x15
      (repeat' first | ((with_reducible refine nx0 ?_); go_step) | ((with_reducible refine o_s ?_); first | refine wk1 ?_ | (refine wg0 ?_ ?_ <;> intro hc)) | fail)
      refine wpl_callV (enters_of Tryz.func36 rfl rfl) rfl rfl (n_Up now _) ?_; intro w16 x16; refine gset ?_
      (repeat' first | ((with_reducible refine nx0 ?_); go_step) | ((with_reducible refine o_s ?_); first | refine wk1 ?_ | (refine wg0 ?_ ?_ <;> intro hc)) | fail)
      refine wpl_callV (enters_of Tryz.func15 rfl rfl) rfl rfl (l17_liveV _) ?_; intro w17 x17; refine gset ?_
      (repeat' first | ((with_reducible refine nx0 ?_); go_step) | ((with_reducible refine o_s ?_); first | refine wk1 ?_ | (refine wg0 ?_ ?_ <;> intro hc)) | fail)
      go_ret
      exact ⟨rfl, ((hx14.trans x15).trans x16).trans x17⟩
    · (repeat' first | ((with_reducible refine nx0 ?_); go_step) | ((with_reducible refine o_s ?_); first | refine wk1 ?_ | (refine wg0 ?_ ?_ <;> intro hc)) | fail)
      all_goals first
        | (exfalso; omega)
        | (exfalso; have hh := ‹(!decide (op = 3)) = false›; simp [c3] at hh; done)
        | skip
      refine wpl_callV (enters_of Tryz.func17 rfl rfl) rfl rfl (n_Wants now _) ?_; intro w15 x15; refine gset ?_
      have hp15 := hp14.ext x15
      (repeat' first | ((with_reducible refine nx0 ?_); go_step) | ((with_reducible refine o_s ?_); first | refine wk1 ?_ | (refine wg0 ?_ ?_ <;> intro hc)) | fail)
      refine wpl_callV (enters_of Tryz.func36 rfl rfl) rfl rfl (n_Up now _) ?_; intro w16 x16; refine gset ?_
      (repeat' first | ((with_reducible refine nx0 ?_); go_step) | ((with_reducible refine o_s ?_); first | refine wk1 ?_ | (refine wg0 ?_ ?_ <;> intro hc)) | fail)
      refine wpl_callV (enters_of Tryz.func15 rfl rfl) rfl rfl (l17_liveV _) ?_; intro w17 x17; refine gset ?_
      (repeat' first | ((with_reducible refine nx0 ?_); go_step) | ((with_reducible refine o_s ?_); first | refine wk1 ?_ | (refine wg0 ?_ ?_ <;> intro hc)) | fail)
      go_ret
      exact ⟨rfl, ((hx14.trans x15).trans x16).trans x17⟩
theorem so_isSome {s : SecR} (hs : SecOk s) (p : OpR) (h : s.z.isSome = true) : (s.does p).z.isSome = true := by
  rcases (does_z hs p).2 with e | ⟨_, o, l, e, _⟩
  · rw [e]; exact h
  · rw [e]; rfl
theorem so_zone {s : SecR} (hs : SecOk s) (hog : s.og = [1, 97]) (h : s.z.isSome = true) : s.o = [1, 97] ∧ ZoneOk s.o s.l := by
  obtain ⟨z, hz⟩ := Option.isSome_iff_exists.1 h
  obtain ⟨a, b⟩ := hs.zone z.1 z.2 hz
  have eo : s.o = z.1 := by simp [SecR.o, hz]
  have el : s.l = z.2 := by simp [SecR.l, hz]
  rw [eo, el]
  refine ⟨?_, a⟩
  rw [b, hog]
  decide +kernel
theorem so_later {s : SecR} (hs : SecOk s) (p : OpR) (h : s.z.isSome = true) (hne : ¬ ((s.does p).o = s.o ∧ (s.does p).l = s.l)) : p.op = 3 ∧ laterB (soaZ (s.does p).o (s.does p).l).serial (soaZ s.o s.l).serial = true := by
  rcases (does_z hs p).2 with e | ⟨h3, o, l, e, hl⟩
  · exfalso; apply hne; unfold SecR.o SecR.l; rw [e]; exact ⟨rfl, rfl⟩
  · obtain ⟨z, hz⟩ := Option.isSome_iff_exists.1 h
    have eo : s.o = z.1 := by simp [SecR.o, hz]
    have el : s.l = z.2 := by simp [SecR.l, hz]
    have eo' : (s.does p).o = o := by simp [SecR.o, e]
    have el' : (s.does p).l = l := by simp [SecR.l, e]
    rw [eo, el, eo', el']
    exact ⟨h3, hl z.1 z.2 hz⟩
set_option maxHeartbeats 1600000 in
theorem l17_Onward (v : Value) (ps : List OpR) (w : World) (hv : OpsAt w v ps) : Calls Tryz.prog 7 #[v] w (Yes w) := by
  obtain ⟨cs0, sl0, cl0, at0⟩ := hv.out
  go_enter Tryz.func7, Tryz.ntmps7
  (repeat' first | ((with_reducible refine nx0 ?_); go_step) | ((with_reducible refine o_s ?_); first | refine wk1 ?_ | (refine wg0 ?_ ?_ <;> intro hc)) | fail)
  refine wpl_callR (enters_of Tryz.func16 rfl rfl) rfl rfl (p_SecNew [1, 97] 5 _) ?_
  rintro _ w6 x6 ⟨p, rfl, hp⟩
  unfold secPE at hp
  rw [if_pos sl_n5] at hp
  obtain ⟨b, rfl, hb, hB, hA⟩ := hp
  rw [sl_n5]
  obtain ⟨B, hBe⟩ : ∃ B, B = w6.heap.size := ⟨_, rfl⟩
  rw [← hBe] at hA
  refine gset ?_
  (repeat' first | ((with_reducible refine nx0 ?_); go_step) | ((with_reducible refine o_s ?_); first | refine wk1 ?_ | (refine wg0 ?_ ?_ <;> intro hc)) | fail)
  refine wpl_run (v := .agg zzone.toArray) rfl (Runs.build0 (by kernel_rfl)) ?_
  refine gset ?_
  refine wpl_allocB (z := zzone) rfl (by decide +kernel) ?_
  intro w7 x7 s7 h7
  refine gset ?_
  refine wpl_storeB (v := .agg zzone.toArray) rfl rfl rfl h7 (show sizeTy Tryz.prog 34 2 = true by decide +kernel) rfl (by decide +kernel) ?_
  intro w8 p8
  have x8 : Ext w6 w8 := x7.move p8.mv (by rintro k ⟨⟩; exact Nat.le_refl _)
  have hk8 : w8.heap[w6.heap.size]? = some (.cells [str [], .slice none 0 0].toArray 34 (0, 0)) := p8.this
  have hA8 := hA.grow x8
  have hs8 : w8.heap.size = w6.heap.size + 1 := by have := p8.mv.size; have := p8.size; omega
  clear p8 h7 x7
  have hx8 := x6.trans x8
  have hw6 : w.heap.size ≤ w6.heap.size := x6.size
  obtain ⟨B2, hB2⟩ : ∃ B2, B2 = w8.heap.size := ⟨_, rfl⟩
  have hA8 : SAt B2 w8 b (secNew [1, 97] 5) := by
    obtain ⟨_, pz, h2, h3, h4⟩ := hA8
    exact ⟨by omega, pz, h2, h3, fun o l e => by cases e⟩
  generalize w6.heap.size = cw at *
  (repeat' first | ((with_reducible refine nx0 ?_); go_step) | ((with_reducible refine o_s ?_); first | refine wk1 ?_ | (refine wg0 ?_ ?_ <;> intro hc)) | fail)
  go_loopw [6, 7] (fun had i wr => ∃ (k : Nat) (s : SecR) (y : Value), k ≤ ps.length ∧ i = .int .i64 k ∧ had = .bool s.z.isSome ∧ Ext w wr ∧ SAt B2 wr b s ∧ SecOk s ∧ s.og = [1, 97] ∧ wr.heap[cw]? = some (.cells [str s.o, y].toArray 34 (0, 0)) ∧ SetsO B2 wr y s.l ∧ B2 ≤ wr.heap.size) (fun _ i _ => ps.length - (intOf i).toNat)
  case atStart => exact ⟨0, secNew [1, 97] 5, .slice none 0 0, Nat.zero_le _, rfl, rfl, hx8, hA8, sl_ok5, rfl, hk8, SetsO.nil _ _, by omega⟩
  case round =>
    obtain ⟨k, s, y, hk, rfl, rfl, hx, hS, hsk, hog, hcw, hy, hBr⟩ := hrel
    have hbB : b < B2 := hS.lt
    by_cases hlt : k < ps.length
    · obtain ⟨u, hcs, hu⟩ := at0 k _ (List.getElem?_eq_getElem hlt)
      have hpe := (sl0.ext hx).elem hcs
      have hkc : k < cs0.length := by omega
      have hur := hu.ext hx
      generalize ps[k] = p at *
      by_cases h25 : (k : Int) < 25
      · have hSd : ∀ w', Ext wr w' → shortS p.l = true → Calls Tryz.prog 33 #[.pointer (some ⟨b, 0, none⟩), .agg #[.int .i64 p.op, .int .i64 p.n, .int .i64 p.now, u]] w' fun e w'' => e = .returned (.int .i64 (s.doesE p)) ∧ SAt B2 w'' b (s.does p) ∧ Mv (some b) w' w'' := fun w' x' hsh => l17_does (hS.grow x') hsk (by have := x'.size; omega) p u (hur.ext x') (fun _ => hsh)
        have f0 := hsk.does p
        have f1 : (s.does p).og = [1, 97] := by rw [(does_z hsk p).1, hog]
        have f2 := so_isSome hsk p
        have f3 := so_zone f0 f1
        have f4 := so_later hsk p
        have hz0 := so_zone hsk hog
        (repeat' first | ((with_reducible refine nx0 ?_); go_step) | ((with_reducible refine o_s ?_); first | refine wk1 ?_ | (refine wg0 ?_ ?_ <;> intro hc)) | fail)
        all_goals first
          | (exfalso; omega)
          | skip
        refine wpl_callV (enters_of Tryz.func27 rfl rfl) rfl rfl (l17_short u p.l _ hur) ?_; intro w9 x9; refine gset ?_
        have hpe9 := hpe.ext x9
        cases hsh : shortS p.l with
        | false =>
          (repeat' first | ((with_reducible refine nx0 ?_); go_step) | ((with_reducible refine o_s ?_); first | refine wk1 ?_ | (refine wg0 ?_ ?_ <;> intro hc)) | fail)
          refine wpl_callV (enters_of Tryz.func15 rfl rfl) rfl rfl (l17_liveV _) ?_; intro w10 x10; refine gset ?_
          (repeat' first | ((with_reducible refine nx0 ?_); go_step) | ((with_reducible refine o_s ?_); first | refine wk1 ?_ | (refine wg0 ?_ ?_ <;> intro hc)) | fail)
          go_ret
          exact ⟨rfl, (hx.trans x9).trans x10⟩
        | true =>
          have hd9 := hSd _ x9 hsh
          clear hSd
          (repeat' first | ((with_reducible refine nx0 ?_); go_step) | ((with_reducible refine o_s ?_); first | refine wk1 ?_ | (refine wg0 ?_ ?_ <;> intro hc)) | fail)
          refine wpl_callG (enters_of Tryz.func33 rfl rfl) rfl rfl hd9 ?_
          rintro _ w10 ⟨rfl, o10, m10⟩
          refine ⟨_, rfl, ?_⟩
          have hx10 := (hx.trans x9).move m10 (by rintro k ⟨⟩; exact hB)
          have hB10 : B2 ≤ w10.heap.size := by have := m10.size; have := x9.size; omega
          have hy10 := (hy.ext x9).mvb m10 (show b < B2 by omega)
          have hcw10 := m10.at (x9.at hcw) (by intro e; have := Option.some.inj e; omega)
          generalize s.does p = t at *
          clear hd9
          refine gset ?_
          (repeat' first | ((with_reducible refine nx0 ?_); go_step) | ((with_reducible refine o_s ?_); first | refine wk1 ?_ | (refine wg0 ?_ ?_ <;> intro hc)) | fail)
          refine wpl_callR (enters_of Tryz.func34 rfl rfl) rfl rfl (p_SecZone o10 f0) ?_
          rintro _ w11 x11 ⟨y2, rfl, hy2⟩
          have hy2 := hy2.toO hB10
          have hy21 : y2.oneCell' = true := by obtain ⟨css, h, _⟩ := hy2.sets; exact h.one
          refine gset ?_
          (repeat' first | ((with_reducible refine nx0 ?_); go_step) | ((with_reducible refine o_s ?_); first | refine wk1 ?_ | (refine wg0 ?_ ?_ <;> intro hc)) | fail)
          refine wpl_allocB (z := zzone) rfl (by decide +kernel) ?_
          intro w12 x12 s12 h12
          refine gset ?_
          refine wpl_storeB (v := .agg #[str t.o, y2]) rfl rfl rfl h12 (show sizeTy Tryz.prog 34 2 = true by decide +kernel) rfl (zone_one hy21) ?_
          intro w13 p13
          have x13 : Ext w11 w13 := x12.move p13.mv (by rintro k ⟨⟩; exact Nat.le_refl _)
          have hk13 := p13.this
          have hy13 := hy2.ext x13
          have x1013 := x11.trans x13
          have hx13 := hx10.trans x1013
          have hS13 := o10.grow x1013
          have hyw := hy10.ext x1013
          have hcw13 := x1013.at hcw10
          have hB13 := x1013.size
          have hzk : B2 ≤ w11.heap.size := by have := x11.size; omega
          clear p13 h12 x12 hcw10 hy10 hy2
          generalize w11.heap.size = zk at *
          have hpz := pts_block (cs := [str t.o, y2]) hk13
          have hpw := pts_block (cs := [str s.o, y]) hcw13
          have hsz13 : B2 ≤ w13.heap.size := by omega
          clear x11 x13 x1013 hx10 m10 x9 hpe9 hpe hur hx hS hy hcw
          cases hhad : s.z.isSome with
          | false =>
            cases his : t.z.isSome with
            | false =>
              (repeat' first | ((with_reducible refine nx0 ?_); go_step) | ((with_reducible refine o_s ?_); first | refine wk1 ?_ | (refine wg0 ?_ ?_ <;> intro hc)) | fail)
              refine wpl_storeB (v := .agg #[str t.o, y2]) rfl rfl rfl ((Ext.refl w13).at hcw13) (show sizeTy Tryz.prog 34 2 = true by decide +kernel) rfl (zone_one hy21) ?_
              intro w20 p20
              have hx20 := (hx13.trans (Ext.refl w13)).move p20.mv (by rintro k ⟨⟩; omega)
              have hS20 := (hS13.grow (Ext.refl w13)).other p20.mv (by omega) (by omega)
              have hy20 := (hy13.ext (Ext.refl w13)).mvb p20.mv (show cw < B2 by omega)
              have hsz20 := ((Ext.refl w13).size)
              have hsz21 := p20.size
              (repeat' first | ((with_reducible refine nx0 ?_); go_step) | ((with_reducible refine o_s ?_); first | refine wk1 ?_ | (refine wg0 ?_ ?_ <;> intro hc)) | fail)
              exact ⟨⟨k + 1, t, y2, by omega, rfl, by rw [his]; rfl, hx20, hS20, f0, f1, p20.this, hy20, by omega⟩, by simp [intOf]; omega⟩
            | true =>
              obtain ⟨g1, g2⟩ := f3 his
              obtain ⟨_, zb, zd, _⟩ := zoneJ g2
              (repeat' first | ((with_reducible refine nx0 ?_); go_step) | ((with_reducible refine o_s ?_); first | refine wk1 ?_ | (refine wg0 ?_ ?_ <;> intro hc)) | fail)
              refine wpl_callV (enters_of Tryz.func39 rfl rfl) rfl rfl ((show Calls Tryz.prog 39 #[.agg #[str t.o, y2]] w13 (RetV w13 (.int .i64 0)) from zone_ok' g2 ▸ p_Check t.o y2 t.l _ hy13.sets (fun s hs => by have := zb s hs; omega))) ?_; intro w14 x14; refine gset ?_
              have hpz14 := hpz.ext x14
              rw [g1] at hpz14 ⊢
              (repeat' first | ((with_reducible refine nx0 ?_); go_step) | ((with_reducible refine o_s ?_); first | refine wk1 ?_ | (refine wg0 ?_ ?_ <;> intro hc)) | fail)
              refine wpl_storeB (v := .agg #[str [1, 97], y2]) rfl rfl rfl (x14.at hcw13) (show sizeTy Tryz.prog 34 2 = true by decide +kernel) rfl (zone_one hy21) ?_
              intro w20 p20
              have hx20 := (hx13.trans x14).move p20.mv (by rintro k ⟨⟩; omega)
              have hS20 := (hS13.grow x14).other p20.mv (by omega) (by omega)
              have hy20 := (hy13.ext x14).mvb p20.mv (show cw < B2 by omega)
              have hsz20 := (x14.size)
              have hsz21 := p20.size
              (repeat' first | ((with_reducible refine nx0 ?_); go_step) | ((with_reducible refine o_s ?_); first | refine wk1 ?_ | (refine wg0 ?_ ?_ <;> intro hc)) | fail)
              exact ⟨⟨k + 1, t, y2, by omega, rfl, by rw [his]; rfl, hx20, hS20, f0, f1, by rw [g1]; exact p20.this, hy20, by omega⟩, by simp [intOf]; omega⟩
          | true =>
            have his := f2 hhad
            obtain ⟨g1, g2⟩ := f3 his
            obtain ⟨_, zb, zd, _⟩ := zoneJ g2
            rw [his]
            (repeat' first | ((with_reducible refine nx0 ?_); go_step) | ((with_reducible refine o_s ?_); first | refine wk1 ?_ | (refine wg0 ?_ ?_ <;> intro hc)) | fail)
            refine wpl_callV (enters_of Tryz.func39 rfl rfl) rfl rfl ((show Calls Tryz.prog 39 #[.agg #[str t.o, y2]] w13 (RetV w13 (.int .i64 0)) from zone_ok' g2 ▸ p_Check t.o y2 t.l _ hy13.sets (fun s hs => by have := zb s hs; omega))) ?_; intro w14 x14; refine gset ?_
            have hpz14 := hpz.ext x14
            have hpw14 := hpw.ext x14
            rw [g1] at hpz14 ⊢
            have hso := (hz0 hhad).1
            obtain ⟨_, sb, sd, _⟩ := zoneJ (hz0 hhad).2
            (repeat' first | ((with_reducible refine nx0 ?_); go_step) | ((with_reducible refine o_s ?_); first | refine wk1 ?_ | (refine wg0 ?_ ?_ <;> intro hc)) | fail)
            refine wpl_callV (enters_of Tryz.func38 rfl rfl) rfl rfl (r8_Same [1, 97] s.o y2 y t.l s.l _ (hy13.ext x14).sets (hyw.ext x14).sets) ?_; intro w15 x15; refine gset ?_
            have x1315 := x14.trans x15
            have hpz15 := hpz14.ext x15
            have hpw15 := hpw14.ext x15
            have hpe15 := (sl0.ext (hx13.trans x1315)).elem hcs
            have hy15 := hy13.ext x1315
            have hyw15 := hyw.ext x1315
            rw [hso]
            by_cases hsame : t.l = s.l
            · rw [decide_eq_true hsame]
              (repeat' first | ((with_reducible refine nx0 ?_); go_step) | ((with_reducible refine o_s ?_); first | refine wk1 ?_ | (refine wg0 ?_ ?_ <;> intro hc)) | fail)
              refine wpl_storeB (v := .agg #[str [1, 97], y2]) rfl rfl rfl (x1315.at hcw13) (show sizeTy Tryz.prog 34 2 = true by decide +kernel) rfl (zone_one hy21) ?_
              intro w20 p20
              have hx20 := (hx13.trans x1315).move p20.mv (by rintro k ⟨⟩; omega)
              have hS20 := (hS13.grow x1315).other p20.mv (by omega) (by omega)
              have hy20 := (hy13.ext x1315).mvb p20.mv (show cw < B2 by omega)
              have hsz20 := (x1315.size)
              have hsz21 := p20.size
              (repeat' first | ((with_reducible refine nx0 ?_); go_step) | ((with_reducible refine o_s ?_); first | refine wk1 ?_ | (refine wg0 ?_ ?_ <;> intro hc)) | fail)
              exact ⟨⟨k + 1, t, y2, by omega, rfl, by rw [his]; rfl, hx20, hS20, f0, f1, by rw [g1]; exact p20.this, hy20, by omega⟩, by simp [intOf]; omega⟩
            · rw [decide_eq_false hsame]
              obtain ⟨q1, q2⟩ := f4 hhad (fun e => hsame e.2)
              (repeat' first | ((with_reducible refine nx0 ?_); go_step) | ((with_reducible refine o_s ?_); first | refine wk1 ?_ | (refine wg0 ?_ ?_ <;> intro hc)) | fail)
              refine wpl_callV (enters_of Tryz.func40 rfl rfl) rfl rfl (p_Soa s.o y s.l _ hyw15.sets (fun s hs => by have := sb s hs; omega) (fun s hs d hd => by have := sd s hs d hd; omega)) ?_; intro w16 x16; refine gset ?_
              (repeat' first | ((with_reducible refine nx0 ?_); go_step) | ((with_reducible refine o_s ?_); first | refine wk1 ?_ | (refine wg0 ?_ ?_ <;> intro hc)) | fail)
              refine wpl_allocB (z := zeroSoa) rfl (by decide +kernel) ?_
              intro w17 x17 s17 h17
              refine gset ?_
              refine wpl_storeB (v := .agg (soaZ s.o s.l).cells.toArray) rfl rfl rfl h17 (show sizeTy Tryz.prog 61 7 = true by decide +kernel) rfl (soaR_one _) ?_
              intro w18 p18
              have x1618 : Ext w16 w18 := x17.move p18.mv (by rintro k ⟨⟩; exact Nat.le_refl _)
              have b18 : w18.heap[w16.heap.size]? = some (.cells (soaZ s.o s.l).cells.toArray 61 (0, 0)) := p18.this
              have x1518 := x16.trans x1618
              have hpz18 := hpz15.ext x1518
              have hpe18 := hpe15.ext x1518
              have hy18 := hy15.ext x1518
              have x1318 := x1315.trans x1518
              generalize w16.heap.size = sa at *
              clear p18 h17 x17
              (repeat' first | ((with_reducible refine nx0 ?_); go_step) | ((with_reducible refine o_s ?_); first | refine wk1 ?_ | (refine wg0 ?_ ?_ <;> intro hc)) | fail)
              refine wpl_callV (enters_of Tryz.func40 rfl rfl) rfl rfl (p_Soa [1, 97] y2 t.l _ hy18.sets (fun s hs => by have := zb s hs; omega) (fun s hs d hd => by have := zd s hs d hd; omega)) ?_; intro w19 x19; refine gset ?_
              (repeat' first | ((with_reducible refine nx0 ?_); go_step) | ((with_reducible refine o_s ?_); first | refine wk1 ?_ | (refine wg0 ?_ ?_ <;> intro hc)) | fail)
              refine wpl_allocB (z := zeroSoa) rfl (by decide +kernel) ?_
              intro w20 x20 s20 h20
              refine gset ?_
              refine wpl_storeB (v := .agg (soaZ [1, 97] t.l).cells.toArray) rfl rfl rfl h20 (show sizeTy Tryz.prog 61 7 = true by decide +kernel) rfl (soaR_one _) ?_
              intro w21 p21
              have x1921 : Ext w19 w21 := x20.move p21.mv (by rintro k ⟨⟩; exact Nat.le_refl _)
              have b21 : w21.heap[w19.heap.size]? = some (.cells (soaZ [1, 97] t.l).cells.toArray 61 (0, 0)) := p21.this
              have x1821 := x19.trans x1921
              have hpz21 := hpz18.ext x1821
              have hpe21 := hpe18.ext x1821
              have b18' := x1821.at b18
              have x1321 := x1318.trans x1821
              generalize w19.heap.size = sb' at *
              clear p21 h20 x20
              have hs1 := pts_block (cs := (soaZ s.o s.l).cells) b18'
              have hs2 := pts_block (cs := (soaZ [1, 97] t.l).cells) b21
              have hs1' : Pts w21 (partPtr (.pointer (some ⟨sa, 0, none⟩)) 2) [.int .i64 (soaZ s.o s.l).serial, .int .i64 (soaZ s.o s.l).refresh, .int .i64 (soaZ s.o s.l).retry, .int .i64 (soaZ s.o s.l).expire, .int .i64 (soaZ s.o s.l).minimum] := hs1.part 2
              have hs2' : Pts w21 (partPtr (.pointer (some ⟨sb', 0, none⟩)) 2) [.int .i64 (soaZ [1, 97] t.l).serial, .int .i64 (soaZ [1, 97] t.l).refresh, .int .i64 (soaZ [1, 97] t.l).retry, .int .i64 (soaZ [1, 97] t.l).expire, .int .i64 (soaZ [1, 97] t.l).minimum] := hs2.part 2
              rw [g1] at q2
              (repeat' first | ((with_reducible refine nx0 ?_); go_step) | ((with_reducible refine o_s ?_); first | refine wk1 ?_ | (refine wg0 ?_ ?_ <;> intro hc)) | fail)
              all_goals first
                | (exfalso; have hh := ‹(!decide (p.op = 3)) = true›; rw [q1] at hh; cases hh; done)
                | skip
              refine wpl_callV (enters_of Tryz.func25 rfl rfl) rfl rfl ((show Calls Tryz.prog 25 #[.int .i64 (soaZ [1, 97] t.l).serial, .int .i64 (soaZ s.o s.l).serial] w21 (RetV w21 (.bool true)) from q2 ▸ p_Later _ _ _)) ?_; intro w22 x22; refine gset ?_
              have hpz22 := hpz21.ext x22
              have x1322 := x1321.trans x22
              (repeat' first | ((with_reducible refine nx0 ?_); go_step) | ((with_reducible refine o_s ?_); first | refine wk1 ?_ | (refine wg0 ?_ ?_ <;> intro hc)) | fail)
              refine wpl_storeB (v := .agg #[str [1, 97], y2]) rfl rfl rfl (x1322.at hcw13) (show sizeTy Tryz.prog 34 2 = true by decide +kernel) rfl (zone_one hy21) ?_
              intro w30 p30
              have hx30 := (hx13.trans x1322).move p30.mv (by rintro k ⟨⟩; omega)
              have hS30 := (hS13.grow x1322).other p30.mv (by omega) (by omega)
              have hy30 := (hy13.ext x1322).mvb p30.mv (show cw < B2 by omega)
              have hsz30 := (x1322.size)
              have hsz31 := p30.size
              (repeat' first | ((with_reducible refine nx0 ?_); go_step) | ((with_reducible refine o_s ?_); first | refine wk1 ?_ | (refine wg0 ?_ ?_ <;> intro hc)) | fail)
              exact ⟨⟨k + 1, t, y2, by omega, rfl, by rw [his]; rfl, hx30, hS30, f0, f1, by rw [g1]; exact p30.this, hy30, by omega⟩, by simp [intOf]; omega⟩
      · (repeat' first | ((with_reducible refine nx0 ?_); go_step) | ((with_reducible refine o_s ?_); first | refine wk1 ?_ | (refine wg0 ?_ ?_ <;> intro hc)) | fail)
        all_goals first
          | (exfalso; omega)
          | skip
        refine wpl_callV (enters_of Tryz.func15 rfl rfl) rfl rfl (l17_liveV _) ?_; intro w10 x10; refine gset ?_
        (repeat' first | ((with_reducible refine nx0 ?_); go_step) | ((with_reducible refine o_s ?_); first | refine wk1 ?_ | (refine wg0 ?_ ?_ <;> intro hc)) | fail)
        go_ret
        exact ⟨rfl, hx.trans x10⟩
    · have hk2 : k = ps.length := by omega
      subst hk2
      (repeat' first | ((with_reducible refine nx0 ?_); go_step) | ((with_reducible refine o_s ?_); first | refine wk1 ?_ | (refine wg0 ?_ ?_ <;> intro hc)) | fail)
      refine wpl_callV (enters_of Tryz.func15 rfl rfl) rfl rfl (l17_liveV _) ?_; intro w10 x10; refine gset ?_
      (repeat' first | ((with_reducible refine nx0 ?_); go_step) | ((with_reducible refine o_s ?_); first | refine wk1 ?_ | (refine wg0 ?_ ?_ <;> intro hc)) | fail)
      go_ret
      exact ⟨rfl, hx.trans x10⟩
end Go.Proofs.X
