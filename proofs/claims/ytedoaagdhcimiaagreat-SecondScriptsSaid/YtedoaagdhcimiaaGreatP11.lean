/- Laws and walks that the proof of the statement is made of (part 11). -/
import Derived.Test.YtedoaagdhcimiaaGreatProg
import Derived.Test.YtedoaagdhcimiaaGreatShelf
import Derived.Lib.Hide
import Derived.Shelf.SlSortCmp.NoneTotal
import Derived.OwnWalk
import Derived.Shelf.RegionOpenPlain
import Derived.Lib.Strings
import Derived.Lib.Slices
import Derived.Lib.Walk
import Derived.Lib.Builder
import Derived.Lib.AppendStr
import Derived.Lib.UnsafeStr
import Derived.Lib.MakeNoZero
import Derived.WalkKit
import Derived.Laws.Externs
import Derived.Laws.IdiomCopy
import Derived.Laws.BitsLemmas
import GoSem.Claims
import Derived.Laws.Pointers
import Derived.OrdersIn
import Derived.LoopIn
import Derived.Test.YtedoaagdhcimiaaGreatP1
import Derived.Test.YtedoaagdhcimiaaGreatP2
import Derived.Test.YtedoaagdhcimiaaGreatP3
import Derived.Test.YtedoaagdhcimiaaGreatP4
import Derived.Test.YtedoaagdhcimiaaGreatP5
import Derived.Test.YtedoaagdhcimiaaGreatP7
import Derived.Test.YtedoaagdhcimiaaGreatP8
import Derived.Test.YtedoaagdhcimiaaGreatP9
import Derived.Test.YtedoaagdhcimiaaGreatP10
set_option linter.unusedSimpArgs false
set_option linter.unusedVariables false
namespace Go.Proofs.X
open Go.RowKit
set_option maxRecDepth 100000
def zrec : List Value := [str [], .int .i64 0, .int .i64 0, str []]
theorem Runs.eqlRec {r q : Rec} {x y : Operand} {a : Act} {w : World} {d : Option Nat} {u ty : TypeId} {ps : String} {af : Array Edge} {g : Option (Nat × Bool)}
 (hx : a.eval x = .agg #[str r.name, .int .i64 r.kind, .int .i64 r.ttl, str r.data]) (hy : a.eval y = .agg #[str q.name, .int .i64 q.kind, .int .i64 q.ttl, str q.data]) :
 Runs Tryz.prog (Oper.mk d (.binOp .eql 81 x y u) ty ps af g) a w (.bool (decide (r = q))) := by
 constructor
 have hg := run_eqGuard_agg (P := Tryz.prog) w .eql 81 x y #[str r.name, .int .i64 r.kind, .int .i64 r.ttl, str r.data] #[str q.name, .int .i64 q.kind, .int .i64 q.ttl, str q.data] (by kernel_rfl)
 simp only [execOp, hx, hy, Sem.run_bind, hg, Result.andThen_ok, run_eql_struct, run_eqRec, Sem.run_pure]
theorem any_mem {l : List Rec} {r : Rec} : l.any (fun q => decide (r = q)) = decide (r ∈ l) := by
 rw [Bool.eq_iff_iff, List.any_eq_true, decide_eq_true_eq]
 constructor
 ·rintro ⟨q, hq, h⟩; rw [decide_eq_true_eq] at h; exact h ▸ hq
 ·intro h; exact ⟨r, h, by simp⟩
set_option maxHeartbeats 3000000 in
theorem p_Index (v : Value) (l : List Rec) (r : Rec) (w : World) (hv : Sl 4 w v (rcells l)) : Calls Tryz.prog 253 #[v, .agg #[str r.name, .int .i64 r.kind, .int .i64 r.ttl, str r.data]] w (RetV w (.int .i64 (idxI (fun q => decide (r = q)) l))) := by
 have hlen := rcells_length l
 have hle := hv.le
 go_enter Tryz.func253, Tryz.ntmps253
 repeat' (first | ((with_reducible refine nx0 ?_); go_step) | fail)
 refine wpl_box (vs := [str r.name, .int .i64 r.kind, .int .i64 r.ttl, str r.data]) rfl rfl ?_
 intro p w1 x1 hp
 refine gset ?_
 have hv1 := hv.ext x1
 (repeat' first | ((with_reducible refine nx0 ?_); go_step) | ((with_reducible refine o_s ?_); first | refine wk0 ?_ | (refine wg0 ?_ ?_ <;> intro hc)) | fail)
 go_loopw [5, 8] (fun _ i wr => ∃ k : Nat, k ≤ l.length ∧ i = .int .i64 k ∧ Ext w1 wr ∧ (l.take k).any (fun q => decide (r = q)) = false) (fun _ i _ => l.length - (intOf i).toNat)
 case atStart => exact ⟨0, Nat.zero_le _, rfl, Ext.refl _, rfl⟩
 case round =>
  obtain ⟨k, hk, rfl, hx, hall⟩ := hrel
  have hv2 := hv1.ext hx
  have hp2 := hp.ext hx
  by_cases hlt : k < l.length
  ·have hpe := hv2.elem (rcells_at hlt)
   (repeat' first | ((with_reducible refine nx0 ?_); go_step) | ((with_reducible refine o_s ?_); first | refine wk0 ?_ | (refine wg0 ?_ ?_ <;> intro hc)) | fail)
   refine wpq_region (by decide +kernel) (by decide +kernel) ?_
   (try ((with_reducible refine qh0 ?_); refine qk0 ?_))
   refine wpq_run0 (fun w' _ => Runs.eqlRec (r := r) (q := l[k]) rfl rfl) ?_
   refine gset ?_
   (try ((with_reducible refine qh0 ?_); refine qk0 ?_))
   intro w2 x2
   cases he : decide (r = l[k]) with
   | true =>
    (repeat' first | ((with_reducible refine nx0 ?_); go_step) | ((with_reducible refine o_s ?_); first | refine wk0 ?_ | (refine wg0 ?_ ?_ <;> intro hc)) | fail)
    go_ret
    exact ⟨by rw [idx_at hlt hall he]; rfl, (x1.trans hx).trans x2⟩
   | false =>
    (repeat' first | ((with_reducible refine nx0 ?_); go_step) | ((with_reducible refine o_s ?_); first | refine wk0 ?_ | (refine wg0 ?_ ?_ <;> intro hc)) | fail)
    exact ⟨⟨k + 1, by omega, by go_num, hx.trans x2, any_take hlt hall he⟩, by simp [intOf]; omega⟩
  ·have : k = l.length := by omega
   subst this
   rw [List.take_length] at hall
   (repeat' first | ((with_reducible refine nx0 ?_); go_step) | ((with_reducible refine o_s ?_); first | refine wk0 ?_ | (refine wg0 ?_ ?_ <;> intro hc)) | fail)
   go_ret
   exact ⟨by rw [idx_no hall]; rfl, x1.trans hx⟩
theorem p_Contains (v : Value) (l : List Rec) (r : Rec) (w : World) (hv : Sl 4 w v (rcells l)) : Calls Tryz.prog 206 #[v, .agg #[str r.name, .int .i64 r.kind, .int .i64 r.ttl, str r.data]] w (RetV w (.bool (decide (r ∈ l)))) := by
 go_enter Tryz.func206, Tryz.ntmps206
 repeat' (first | ((with_reducible refine nx0 ?_); go_step) | fail)
 refine wpl_box (vs := [str r.name, .int .i64 r.kind, .int .i64 r.ttl, str r.data]) rfl rfl ?_
 intro p w1 x1 hp
 refine gset ?_
 (repeat' first | ((with_reducible refine nx0 ?_); go_step) | ((with_reducible refine o_s ?_); first | refine wk0 ?_ | (refine wg0 ?_ ?_ <;> intro hc)) | fail)
 refine wpl_callV (enters_of Tryz.func253 rfl rfl) rfl rfl (p_Index v l r _ (hv.ext x1)) ?_; intro w2 x2; refine gset ?_
 (repeat' first | ((with_reducible refine nx0 ?_); go_step) | ((with_reducible refine o_s ?_); first | refine wk0 ?_ | (refine wg0 ?_ ?_ <;> intro hc)) | fail)
 go_ret
 exact ⟨by rw [← any_mem, ← idx_any]; rfl, x1.trans x2⟩
set_option maxHeartbeats 3000000 in
theorem r10_Has (v : Value) (l : List Rec) (r : Rec) (w : World) (hv : Sl 4 w v (rcells l)) : Calls Tryz.prog 210 #[v, .agg #[str r.name, .int .i64 r.kind, .int .i64 r.ttl, str r.data]] w (RetV w (.bool (decide (r ∈ l)))) := by
 have hlen := rcells_length l
 have hle := hv.le
 go_enter Tryz.func210, Tryz.ntmps210
 repeat' (first | ((with_reducible refine nx0 ?_); go_step) | fail)
 refine wpl_box (vs := [str r.name, .int .i64 r.kind, .int .i64 r.ttl, str r.data]) rfl rfl ?_
 intro p w1 x1 hp
 refine gset ?_
 have hv1 := hv.ext x1
 (repeat' first | ((with_reducible refine nx0 ?_); go_step) | ((with_reducible refine o_s ?_); first | refine wk0 ?_ | (refine wg0 ?_ ?_ <;> intro hc)) | fail)
 go_loopw [5] (fun i wr => ∃ k : Nat, k ≤ l.length ∧ i = .int .i64 k ∧ Ext w1 wr ∧ (l.take k).any (fun q => decide (r = q)) = false) (fun i _ => l.length - (intOf i).toNat)
 case atStart => exact ⟨0, Nat.zero_le _, rfl, Ext.refl _, rfl⟩
 case round =>
  obtain ⟨k, hk, rfl, hx, hall⟩ := hrel
  have hv2 := hv1.ext hx
  have hp2 := hp.ext hx
  by_cases hlt : k < l.length
  ·have hpe := hv2.elem (rcells_at hlt)
   (repeat' first | ((with_reducible refine nx0 ?_); go_step) | ((with_reducible refine o_s ?_); first | refine wk0 ?_ | (refine wg0 ?_ ?_ <;> intro hc)) | fail)
   refine wpq_region (by decide +kernel) (by decide +kernel) ?_
   (try ((with_reducible refine qh0 ?_); refine qk0 ?_))
   refine wpq_run0 (fun w' _ => Runs.eqlRec (r := l[k]) (q := r) rfl rfl) ?_
   refine gset ?_
   (try ((with_reducible refine qh0 ?_); refine qk0 ?_))
   intro w2 x2
   have hsw : decide (l[k] = r) = decide (r = l[k]) := by rw [Bool.eq_iff_iff]; simp [eq_comm]
   rw [hsw]
   cases he : decide (r = l[k]) with
   | true =>
    (repeat' first | ((with_reducible refine nx0 ?_); go_step) | ((with_reducible refine o_s ?_); first | refine wk0 ?_ | (refine wg0 ?_ ?_ <;> intro hc)) | fail)
    go_ret
    exact ⟨by rw [← any_mem, any_at hlt he]; rfl, (x1.trans hx).trans x2⟩
   | false =>
    (repeat' first | ((with_reducible refine nx0 ?_); go_step) | ((with_reducible refine o_s ?_); first | refine wk0 ?_ | (refine wg0 ?_ ?_ <;> intro hc)) | fail)
    exact ⟨⟨k + 1, by omega, by go_num, hx.trans x2, any_take hlt hall he⟩, by simp [intOf]; omega⟩
  ·have : k = l.length := by omega
   subst this
   rw [List.take_length] at hall
   (repeat' first | ((with_reducible refine nx0 ?_); go_step) | ((with_reducible refine o_s ?_); first | refine wk0 ?_ | (refine wg0 ?_ ?_ <;> intro hc)) | fail)
   go_ret
   exact ⟨by rw [← any_mem, hall]; rfl, x1.trans hx⟩
theorem less_take {a b : List Rec} {k : Nat} (h : k < a.length) : lessR (a.take (k + 1)) b = lessR (a.take k) b ++ (if a[k] ∈ b then [] else [a[k]]) := by
 unfold lessR
 rw [List.take_succ_eq_append_getElem h, List.filter_append]
 congr 1
 by_cases hm : a[k] ∈ b <;> simp [hm]
theorem less_len (a b : List Rec) : (lessR a b).length ≤ a.length := List.length_filter_le _ _
theorem rec_elem {ts : List Value} {df : List Deferred} {x : Operand} {r : Rec} (h : (Act.mk ts.toArray df).eval x = .agg #[str r.name, .int .i64 r.kind, .int .i64 r.ttl, str r.data]) : ElemIs (Act.mk ts.toArray df) x 4 [str r.name, .int .i64 r.kind, .int .i64 r.ttl, str r.data] :=
 ⟨h, rfl, rfl, by intro u hu; simp only [List.mem_cons, List.not_mem_nil, or_false] at hu; rcases hu with rfl | rfl | rfl | rfl <;> rfl⟩
set_option maxHeartbeats 3000000 in
theorem p_less (u v : Value) (a b : List Rec) (w : World) (hu : Sl 4 w u (rcells a)) (hv : Sl 4 w v (rcells b)) (hl : a.length ≤ 100000) : Calls Tryz.prog 156 #[u, v] w (Ret w fun r w' => Own w.heap.size 4 81 w' r (rcells (lessR a b))) := by
 have hlen := rcells_length a
 go_enter Tryz.func156, Tryz.ntmps156
 (repeat' first | ((with_reducible refine nx0 ?_); go_step) | ((with_reducible refine o_s ?_); first | refine wk0 ?_ | (refine wg0 ?_ ?_ <;> intro hc)) | fail)
 go_loopw [5, 7, 10] (fun o _ i wr => ∃ k : Nat, k ≤ a.length ∧ i = .int .i64 k ∧ Ext w wr ∧ Own w.heap.size 4 81 wr o (rcells (lessR (a.take k) b))) (fun _ _ i _ => a.length - (intOf i).toNat)
 case atStart => exact ⟨0, Nat.zero_le _, rfl, Ext.refl _, by simpa [lessR, rcells] using Own.nil _ _ _ _⟩
 case round =>
  obtain ⟨k, hk, rfl, hx, ho⟩ := hrel
  have hu2 := hu.ext hx
  by_cases hlt : k < a.length
  ·have hpe := hu2.elem (rcells_at hlt)
   have hst := less_take (b := b) hlt
   have hll := less_len (a.take k) b
   rw [List.length_take] at hll
   have hcl := rcells_length (lessR (a.take k) b)
   (repeat' first | ((with_reducible refine nx0 ?_); go_step) | ((with_reducible refine o_s ?_); first | refine wk0 ?_ | (refine wg0 ?_ ?_ <;> intro hc)) | fail)
   refine wpl_allocB (z := zrec) rfl (by decide +kernel) ?_
   intro w2 x2 s2 h2
   refine gset ?_
   refine wpl_storeB (v := .agg #[str a[k].name, .int .i64 a[k].kind, .int .i64 a[k].ttl, str a[k].data]) rfl rfl rfl h2 (show sizeTy Tryz.prog 81 4 = true by decide +kernel) rfl (all4 rfl rfl rfl rfl) ?_
   intro w3 p3
   have x3 : Ext wr w3 := x2.move p3.mv (by rintro k ⟨⟩; exact Nat.le_refl _)
   have hp3 := pts_block (cs := [str a[k].name, .int .i64 a[k].kind, .int .i64 a[k].ttl, str a[k].data]) p3.this
   have hx3 := hx.trans x3
   have ho3 := ho.ext x3
   clear p3 h2 x2
   (repeat' first | ((with_reducible refine nx0 ?_); go_step) | ((with_reducible refine o_s ?_); first | refine wk0 ?_ | (refine wg0 ?_ ?_ <;> intro hc)) | fail)
   refine wpl_callV (enters_of Tryz.func206 rfl rfl) rfl rfl (p_Contains v b a[k] _ (hv.ext hx3)) ?_; intro w4 x4; refine gset ?_
   have hx4 := hx3.trans x4
   have ho4 := ho3.ext x4
   have hp4 := hp3.ext x4
   by_cases hm : a[k] ∈ b
   ·rw [decide_eq_true hm]
    rw [if_pos hm, List.append_nil] at hst
    (repeat' first | ((with_reducible refine nx0 ?_); go_step) | ((with_reducible refine o_s ?_); first | refine wk0 ?_ | (refine wg0 ?_ ?_ <;> intro hc)) | fail)
    exact ⟨⟨k + 1, by omega, by go_num, hx4, by rw [hst]; exact ho4⟩, by simp [intOf]; omega⟩
   ·rw [decide_eq_false hm]
    rw [if_neg hm] at hst
    (repeat' first | ((with_reducible refine nx0 ?_); go_step) | ((with_reducible refine o_s ?_); first | refine wk0 ?_ | (refine wg0 ?_ ?_ <;> intro hc)) | fail)
    refine ap1 [str a[k].name, .int .i64 a[k].kind, .int .i64 a[k].ttl, str a[k].data] hx4 ho4 (by omega) ?_ (rec_elem rfl)
    intro s5 v5 w5 w6 x5 m6 x6 o6
    refine gset ?_
    (repeat' first | ((with_reducible refine nx0 ?_); go_step) | ((with_reducible refine o_s ?_); first | refine wk0 ?_ | (refine wg0 ?_ ?_ <;> intro hc)) | fail)
    refine ⟨⟨k + 1, by omega, by go_num, x6, ?_⟩, by simp [intOf]; omega⟩
    rw [hst]
    simpa [rcells, Rec.cells] using o6
  ·have : k = a.length := by omega
   subst this
   rw [List.take_length] at ho
   (repeat' first | ((with_reducible refine nx0 ?_); go_step) | ((with_reducible refine o_s ?_); first | refine wk0 ?_ | (refine wg0 ?_ ?_ <;> intro hc)) | fail)
   go_ret
   exact ⟨_, rfl, hx, ho⟩
set_option maxHeartbeats 3000000 in
theorem r10_less (u v : Value) (a b : List Rec) (w : World) (hu : Sl 4 w u (rcells a)) (hv : Sl 4 w v (rcells b)) (hl : a.length ≤ 100000) : Calls Tryz.prog 159 #[u, v] w (Ret w fun r w' => Own w.heap.size 4 81 w' r (rcells (lessR a b))) := by
 have hlen := rcells_length a
 go_enter Tryz.func159, Tryz.ntmps159
 (repeat' first | ((with_reducible refine nx0 ?_); go_step) | ((with_reducible refine o_s ?_); first | refine wk0 ?_ | (refine wg0 ?_ ?_ <;> intro hc)) | fail)
 go_loopw [5, 6] (fun o i wr => ∃ k : Nat, k ≤ a.length ∧ i = .int .i64 k ∧ Ext w wr ∧ Own w.heap.size 4 81 wr o (rcells (lessR (a.take k) b))) (fun _ i _ => a.length - (intOf i).toNat)
 case atStart => exact ⟨0, Nat.zero_le _, rfl, Ext.refl _, by simpa [lessR, rcells] using Own.nil _ _ _ _⟩
 case round =>
  obtain ⟨k, hk, rfl, hx, ho⟩ := hrel
  have hu2 := hu.ext hx
  by_cases hlt : k < a.length
  ·have hpe := hu2.elem (rcells_at hlt)
   have hst := less_take (b := b) hlt
   have hll := less_len (a.take k) b
   rw [List.length_take] at hll
   have hcl := rcells_length (lessR (a.take k) b)
   (repeat' first | ((with_reducible refine nx0 ?_); go_step) | ((with_reducible refine o_s ?_); first | refine wk0 ?_ | (refine wg0 ?_ ?_ <;> intro hc)) | fail)
   refine wpl_callV (enters_of Tryz.func210 rfl rfl) rfl rfl (r10_Has v b a[k] _ (hv.ext hx)) ?_; intro w4 x4; refine gset ?_
   have hx4 := hx.trans x4
   have ho4 := ho.ext x4
   have hu4 := hu2.ext x4
   have hpe4 := hpe.ext x4
   by_cases hm : a[k] ∈ b
   ·rw [decide_eq_true hm]
    rw [if_pos hm, List.append_nil] at hst
    (repeat' first | ((with_reducible refine nx0 ?_); go_step) | ((with_reducible refine o_s ?_); first | refine wk0 ?_ | (refine wg0 ?_ ?_ <;> intro hc)) | fail)
    exact ⟨⟨k + 1, by omega, by go_num, hx4, by rw [hst]; exact ho4⟩, by simp [intOf]; omega⟩
   ·rw [decide_eq_false hm]
    rw [if_neg hm] at hst
    (repeat' first | ((with_reducible refine nx0 ?_); go_step) | ((with_reducible refine o_s ?_); first | refine wk0 ?_ | (refine wg0 ?_ ?_ <;> intro hc)) | fail)
    refine ap1 [str a[k].name, .int .i64 a[k].kind, .int .i64 a[k].ttl, str a[k].data] hx4 ho4 (by omega) ?_ (rec_elem rfl)
    intro s5 v5 w5 w6 x5 m6 x6 o6
    refine gset ?_
    (repeat' first | ((with_reducible refine nx0 ?_); go_step) | ((with_reducible refine o_s ?_); first | refine wk0 ?_ | (refine wg0 ?_ ?_ <;> intro hc)) | fail)
    refine ⟨⟨k + 1, by omega, by go_num, x6, ?_⟩, by simp [intOf]; omega⟩
    rw [hst]
    simpa [rcells, Rec.cells] using o6
  ·have : k = a.length := by omega
   subst this
   rw [List.take_length] at ho
   (repeat' first | ((with_reducible refine nx0 ?_); go_step) | ((with_reducible refine o_s ?_); first | refine wk0 ?_ | (refine wg0 ?_ ?_ <;> intro hc)) | fail)
   go_ret
   exact ⟨_, rfl, hx, ho⟩
set_option maxHeartbeats 3000000 in
theorem p_CloneR (v : Value) (l : List Rec) (w : World) (hv : Sl 4 w v (rcells l)) (hl : l.length ≤ 1000000) : Calls Tryz.prog 101 #[v] w (Ret w fun v' w' => Own w.heap.size 4 81 w' v' (rcells l)) := by
 have hlen := rcells_length l
 go_enter Tryz.func101, Tryz.ntmps101
 (repeat' first | ((with_reducible refine nx0 ?_); go_step) | ((with_reducible refine o_s ?_); first | refine wk0 ?_ | (refine wg0 ?_ ?_ <;> intro hc)) | fail)
 ·have hn := ‹isNil v = true›
  go_ret
  have : rcells l = [] := hv.isNil hn
  refine ⟨_, rfl, Ext.refl _, ?_⟩
  rw [this]
  exact Own.nil _ _ _ _
 ·refine wpl_slice0 (t := 37) (e := 81) (k := 4) (bytes := 48) (by decide +kernel) rfl ?_
  intro v2 w2 x2 s2 o2
  refine gset ?_
  (repeat' first | ((with_reducible refine nx0 ?_); go_step) | ((with_reducible refine o_s ?_); first | refine wk0 ?_ | (refine wg0 ?_ ?_ <;> intro hc)) | fail)
  refine wpl_appendO (B := w.heap.size) (e := 81) rfl o2 rfl (hv.ext x2) (by intro f hf u hu; obtain ⟨r, _, rfl⟩ := List.mem_map.1 hf; simp only [Rec.cells, List.mem_cons, List.not_mem_nil, or_false] at hu; rcases hu with rfl | rfl | rfl | rfl <;> rfl) x2.size (by simp; omega) ?_
  intro v3 w3 o3 m3 _
  have x3 := o2.mvx m3 x2 (Nat.le_refl _)
  refine gset ?_
  (repeat' first | ((with_reducible refine nx0 ?_); go_step) | ((with_reducible refine o_s ?_); first | refine wk0 ?_ | (refine wg0 ?_ ?_ <;> intro hc)) | fail)
  go_ret
  exact ⟨_, rfl, x3, by simpa using o3⟩
set_option maxHeartbeats 3000000 in
theorem r10_without (v : Value) (l : List Rec) (r : Rec) (w : World) (hv : Sl 4 w v (rcells l)) (hl : l.length ≤ 100000) : Calls Tryz.prog 220 #[v, .agg #[str r.name, .int .i64 r.kind, .int .i64 r.ttl, str r.data]] w (Ret w fun u w' => Own w.heap.size 4 81 w' u (rcells (l.erase r))) := by
 have hlen := rcells_length l
 go_enter Tryz.func220, Tryz.ntmps220
 repeat' (first | ((with_reducible refine nx0 ?_); go_step) | fail)
 refine wpl_box (vs := [str r.name, .int .i64 r.kind, .int .i64 r.ttl, str r.data]) rfl rfl ?_
 intro p w1 x1 hp
 refine gset ?_
 have hv1 := hv.ext x1
 (repeat' first | ((with_reducible refine nx0 ?_); go_step) | ((with_reducible refine o_s ?_); first | refine wk0 ?_ | (refine wg0 ?_ ?_ <;> intro hc)) | fail)
 go_loopw [5, 6] (fun o i wr => ∃ k : Nat, k ≤ l.length ∧ i = .int .i64 k ∧ Ext w1 wr ∧ r ∉ l.take k ∧ Own w1.heap.size 4 81 wr o (rcells (l.take k))) (fun _ i _ => l.length - (intOf i).toNat)
 case atStart => exact ⟨0, Nat.zero_le _, rfl, Ext.refl _, by simp, by simpa [rcells] using Own.nil _ _ _ _⟩
 case round =>
  obtain ⟨k, hk, rfl, hx, hnot, ho⟩ := hrel
  have hv2 := hv1.ext hx
  have hp2 := hp.ext hx
  by_cases hlt : k < l.length
  ·have hpe := hv2.elem (rcells_at hlt)
   (repeat' first | ((with_reducible refine nx0 ?_); go_step) | ((with_reducible refine o_s ?_); first | refine wk0 ?_ | (refine wg0 ?_ ?_ <;> intro hc)) | fail)
   refine wpq_region (by decide +kernel) (by decide +kernel) ?_
   (try ((with_reducible refine qh0 ?_); refine qk0 ?_))
   refine wpq_run0 (fun w' _ => Runs.eqlRec (r := l[k]) (q := r) rfl rfl) ?_
   refine gset ?_
   (try ((with_reducible refine qh0 ?_); refine qk0 ?_))
   intro w2 x2
   have hx2 := hx.trans x2
   have ho2 := ho.ext x2
   have hv3 := hv2.ext x2
   have hpe3 := hpe.ext x2
   by_cases he : l[k] = r
   ·rw [decide_eq_true he]
    (repeat' first | ((with_reducible refine nx0 ?_); go_step) | ((with_reducible refine o_s ?_); first | refine wk0 ?_ | (refine wg0 ?_ ?_ <;> intro hc)) | fail)
    have hcut := hv3.cut (m := k + 1) (n := (rcells l).length) (by omega) (Nat.le_refl _)
    rw [List.take_length] at hcut
    refine wpl_appendO (B := w1.heap.size) (e := 81) rfl ho2 rfl hcut (by intro f hf u hu; obtain ⟨r, _, rfl⟩ := List.mem_map.1 (List.mem_of_mem_drop hf); simp only [Rec.cells, List.mem_cons, List.not_mem_nil, or_false] at hu; rcases hu with rfl | rfl | rfl | rfl <;> rfl) hx2.size (by simp [rcells_length]; omega) ?_
    intro v4 w4 o4 m4 _
    have x4 := ho2.mvx m4 hx2 (Nat.le_refl _)
    refine gset ?_
    (repeat' first | ((with_reducible refine nx0 ?_); go_step) | ((with_reducible refine o_s ?_); first | refine wk0 ?_ | (refine wg0 ?_ ?_ <;> intro hc)) | fail)
    go_ret
    refine ⟨_, rfl, x1.trans x4, ?_⟩
    have hee : l.erase r = l.take k ++ l.drop (k + 1) := by
     conv => lhs; rw [← List.take_append_drop k l, List.drop_eq_getElem_cons hlt]
     rw [List.erase_append_right _ hnot, he, List.erase_cons_head]
    have e1 : rcells (l.take k) ++ (rcells l).drop (k + 1) = rcells (l.erase r) := by rw [hee]; simp [rcells, List.map_drop]
    rw [← e1]
    exact o4.weaken x1.size
   ·rw [decide_eq_false he]
    (repeat' first | ((with_reducible refine nx0 ?_); go_step) | ((with_reducible refine o_s ?_); first | refine wk0 ?_ | (refine wg0 ?_ ?_ <;> intro hc)) | fail)
    refine ap1 [str l[k].name, .int .i64 l[k].kind, .int .i64 l[k].ttl, str l[k].data] hx2 ho2 (by rw [rcells_length, List.length_take]; omega) ?_ (rec_elem rfl)
    intro s5 v5 w5 w6 x5 m6 x6 o6
    refine gset ?_
    (repeat' first | ((with_reducible refine nx0 ?_); go_step) | ((with_reducible refine o_s ?_); first | refine wk0 ?_ | (refine wg0 ?_ ?_ <;> intro hc)) | fail)
    refine ⟨⟨k + 1, by omega, by go_num, x6, ?_, ?_⟩, by simp [intOf]; omega⟩
    ·rw [List.take_succ_eq_append_getElem hlt, List.mem_append]
     rintro (h | h)
     ·exact hnot h
     ·exact he (List.mem_singleton.1 h).symm
    ·have e1 : rcells (l.take (k + 1)) = rcells (l.take k) ++ [l[k].cells] := by rw [List.take_succ_eq_append_getElem hlt, rcells, List.map_append]; rfl
     rw [e1]
     exact o6
  ·have : k = l.length := by omega
   subst this
   rw [List.take_length] at hnot ho
   (repeat' first | ((with_reducible refine nx0 ?_); go_step) | ((with_reducible refine o_s ?_); first | refine wk0 ?_ | (refine wg0 ?_ ?_ <;> intro hc)) | fail)
   go_ret
   refine ⟨_, rfl, x1.trans hx, ?_⟩
   rw [List.erase_of_not_mem hnot]
   exact ho.weaken x1.size
def zdel : List Value := [.int .i64 0, .int .i64 0, .slice none 0 0, .slice none 0 0]
def DelA (d : DeltaR) (r : Value) (w : World) : Prop := ∃ g n, r = .agg #[.int .i64 d.fr, .int .i64 d.to, g, n] ∧ Sl 4 w g (rcells d.gone) ∧ Sl 4 w n (rcells d.new)
def DelO (B : Nat) (d : DeltaR) (r : Value) (w : World) : Prop := ∃ g n, r = .agg #[.int .i64 d.fr, .int .i64 d.to, g, n] ∧ Own B 4 81 w g (rcells d.gone) ∧ Own B 4 81 w n (rcells d.new)
theorem DelO.a {B : Nat} {d : DeltaR} {r : Value} {w : World} (h : DelO B d r w) : DelA d r w := let ⟨g, n, e, a, b⟩ := h; ⟨g, n, e, a.sl, b.sl⟩
def DelU (B : Nat) (d : DeltaR) (e : Int) (r : Value) (w : World) : Prop := ∃ y, r = .tuple #[y, .int .i64 e] ∧ DelO B d y w
theorem DelU.bad {B : Nat} {d : DeltaR} {e : Int} {w : World} (h : d = zeroD) : DelU B d e (.tuple #[.agg zdel.toArray, .int .i64 e]) w := by
 subst h
 exact ⟨_, rfl, _, _, rfl, Own.nil _ _ _ _, Own.nil _ _ _ _⟩
theorem rcells_one {l : List Rec} : ∀ f ∈ rcells l, ∀ u ∈ f, u.oneCell' = true := by
 intro f hf u hu
 obtain ⟨r, _, rfl⟩ := List.mem_map.1 hf
 simp only [Rec.cells, List.mem_cons, List.not_mem_nil, or_false] at hu
 rcases hu with rfl | rfl | rfl | rfl <;> rfl
set_option maxHeartbeats 4000000 in
theorem p_Delete {B : Nat} {v : Value} {l : List Rec} {w : World} {i : Nat} (h : Own B 4 81 w v (rcells l)) (hi : i < l.length) (hl : l.length ≤ 1000000) : Calls Tryz.prog 257 #[v, .int .i64 i, .int .i64 (i + 1 : Nat)] w fun e w' => ∃ v', e = .returned v' ∧ Own B 4 81 w' v' (rcells (l.eraseIdx i)) ∧ Mv v.ownBlock w w' ∧ v'.ownBlock = v.ownBlock := by
 have hlen := rcells_length l
 have h1c := rcells_one (l := l)
 rcases h.form with ⟨rfl, hn⟩ | ⟨g, cap, rfl, hg, hb, hc, _⟩
 ·exfalso
  rw [hn] at hlen
  simp at hlen; omega
 ·have hs := h.sl
  rw [hlen] at hc
  have hs' := hs
  rw [hlen] at hs'
  go_enter Tryz.func257, Tryz.ntmps257
  (repeat' first | ((with_reducible refine nx0 ?_); go_step) | ((with_reducible refine o_s ?_); first | refine wk0 ?_ | (refine wg0 ?_ ?_ <;> intro hc)) | fail)
  refine wpl_run0 (Runs.cut3 (k := 4) (m := i) (n := i + 1) (p := l.length) (l := (rcells l).length) (c := cap) (ad := some ⟨g, 0, none⟩) rfl rfl rfl (by rw [← hlen]; rfl) (by omega) (by omega) hc (by decide +kernel)) ?_
  refine gset ?_
  (repeat' first | ((with_reducible refine nx0 ?_); go_step) | ((with_reducible refine o_s ?_); first | refine wk0 ?_ | (refine wg0 ?_ ?_ <;> intro hc)) | fail)
  refine wpi_region 6 (fun w' => Sl 4 w' (Value.slice (some ⟨g, 0, none⟩) (rcells l).length cap) (rcells l)) (by decide +kernel) ?_
  intro w1 x1 _
  refine ⟨hs.ext x1, ?_⟩
  refine it0 0 ?_; refine it0 1 ?_; refine it0 2 ?_; refine it0 3 ?_; refine it0 4 ?_; refine it0 5 ?_
  have e22 : cutSl (Value.slice (some ⟨g, 0, none⟩) (rcells l).length cap) 4 0 i = .slice (some ⟨g, 0, none⟩) i cap := by simp [cutSl, add_none]
  obtain ⟨ad, e25⟩ : ∃ ad, cutSl (Value.slice (some ⟨g, 0, none⟩) (rcells l).length cap) 4 (i + 1) (rcells l).length = .slice (some ad) ((rcells l).length - (i + 1)) (cap - (i + 1)) := by
   by_cases hq : cap = i + 1
   ·exact ⟨⟨g, 0, none⟩, by simp [cutSl, hq]⟩
   ·exact ⟨_, by simp only [cutSl, if_neg hq]; rfl⟩
  have hcut := (hs.ext x1).cut (m := i + 1) (n := (rcells l).length) (by omega) (Nat.le_refl _)
  rw [e25, List.take_length] at hcut
  refine wpi_op (i := 6) (by decide +kernel) rfl rfl ?_
  refine wpl_appOver (i := i) (j := i + 1) (h.ext x1) e22 e25 hcut (by omega) (by omega) h1c ?_
  intro w2 o2 m2
  refine gset ?_
  refine wph_nil ⟨till_no rfl, ?_⟩
  refine ip0 7 ?_
  refine wpi_done (by decide +kernel) ?_
  obtain ⟨m, hm⟩ : ∃ m, i + ((rcells l).length - (i + 1)) = m := ⟨_, rfl⟩
  rw [hm] at o2 ⊢
  have ee : (rcells l).take i ++ (rcells l).drop (i + 1) = rcells (l.eraseIdx i) := by
   rw [List.eraseIdx_eq_take_drop_succ]; simp [rcells, List.map_take, List.map_drop]
  rw [ee] at o2
  have hml : (rcells (l.eraseIdx i)).length = m := by rw [rcells_length, List.length_eraseIdx_of_lt hi]; omega
  have h2l : (rcells (l.eraseIdx i) ++ (rcells l).drop m).length = (rcells l).length := by rw [List.length_append, hml, List.length_drop]; omega
  have hsh := o2
  rw [← h2l] at hsh
  have hsh := hsh.short (m := m) (by omega)
  rw [List.take_left' hml] at hsh
  have hs2 := hsh.sl
  (repeat' first | ((with_reducible refine nx0 ?_); go_step) | ((with_reducible refine o_s ?_); first | refine wk0 ?_ | (refine wg0 ?_ ?_ <;> intro hc)) | fail)
  refine wpl_run0 (Runs.cutC (k := 4) (m := m) (n := l.length) (l := m) (c := cap) (ad := some ⟨g, 0, none⟩) rfl (by rw [← hml]; rfl) (by rw [← hlen]; rfl) (by omega) hc (by decide +kernel)) ?_
  refine gset ?_
  have e31 : (if cap = m then some (⟨g, 0, none⟩ : Addr) else Option.map (fun x : Addr => x.add (m * 4)) (some (⟨g, 0, none⟩ : Addr))) = some (⟨g, m * 4, none⟩ : Addr) := by
   rw [if_neg (by omega)]; simp [add_none]
  rw [e31]
  rw [← h2l] at o2
  have h2l' : (rcells (l.eraseIdx i) ++ (rcells l).drop m).length = l.length := by omega
  refine wpl_clearO (m := m) (z := zrec) o2 (by rw [h2l']; rfl) (by omega) ?_
  intro w3 o3 m3
  rw [List.take_left' hml] at o3
  (repeat' first | ((with_reducible refine nx0 ?_); go_step) | ((with_reducible refine o_s ?_); first | refine wk0 ?_ | (refine wg0 ?_ ?_ <;> intro hc)) | fail)
  go_ret
  exact ⟨_, rfl, o3, (x1.mv (some g)).trans (m2.trans m3), rfl⟩
set_option maxHeartbeats 500000 in
theorem r8_Same (o o' : List UInt8) (u v : Value) (a b : List RSet) (w : World) (hu : SetsAt w u a) (hv : SetsAt w v b) : Calls Tryz.prog 38 #[.agg #[str o, u], .agg #[str o', v]] w (RetV w (.bool (decide (o = o') && decide (a = b)))) := by
 go_enter Tryz.func38, Tryz.ntmps38
 repeat' (first | ((with_reducible refine nx0 ?_); go_step) | fail)
 refine wpl_box (vs := [str o, u]) rfl rfl ?_
 intro p w1 x1 hp
 refine gset ?_
 repeat' (first | ((with_reducible refine nx0 ?_); go_step) | fail)
 refine wpl_box (vs := [str o', v]) rfl rfl ?_
 intro q w2 x2 hq
 refine gset ?_
 have hx2 := x1.trans x2
 have hp2 := hp.ext x2
 (repeat' first | ((with_reducible refine nx0 ?_); go_step) | ((with_reducible refine o_s ?_); first | refine wk0 ?_ | (refine wg0 ?_ ?_ <;> intro hc)) | fail)
 ·refine wpl_callV (enters_of Tryz.func82 rfl rfl) rfl rfl (t11 u v a b _ (hu.ext hx2) (hv.ext hx2)) ?_; intro w3 x3; refine gset ?_
  (repeat' first | ((with_reducible refine nx0 ?_); go_step) | ((with_reducible refine o_s ?_); first | refine wk0 ?_ | (refine wg0 ?_ ?_ <;> intro hc)) | fail)
  go_ret
  exact ⟨by rw [decide_eq_true hc]; rfl, hx2.trans x3⟩
 ·go_ret
  exact ⟨by rw [decide_eq_false hc]; rfl, hx2⟩
theorem DelA.ext {d : DeltaR} {r : Value} {w w' : World} (h : DelA d r w) (hx : Ext w w') : DelA d r w' := by
 obtain ⟨g, n, e, a, b⟩ := h
 exact ⟨g, n, e, a.ext hx, b.ext hx⟩
structure OwnOff (B k : Nat) (e : TypeId) (w : World) (v : Value) (es : List (List Value)) : Prop where
 row : (v = .slice none 0 0 ∧ es = []) ∨ ∃ g o cap cur fz, v = .slice (some ⟨g, o * k, none⟩) es.length cap ∧ B ≤ g ∧ w.heap[g]? = some (.cells cur e fz) ∧ (fz.2 ≤ fz.1 ∨ cur.size ≤ fz.1) ∧ es.length ≤ cap ∧ cap ≤ maxLen ∧ (o + cap) * k ≤ cur.size ∧ (cur.toList.drop (o * k)).take (es.length * k) = es.flatten
 each : ∀ x ∈ es, x.length = k
theorem Own.off {B k e : Nat} {w : World} {v : Value} {es : List (List Value)} (h : Own B k e w v es) : OwnOff B k e w v es := by
 refine ⟨?_, h.each⟩
 rcases h.row.2 with ⟨rfl, h0⟩ | ⟨g, cap, cur, fz, rfl, hb, hg, hfz, hnc, hcm, hcs, htake⟩
 ·exact .inl ⟨rfl, List.eq_nil_of_length_eq_zero h0⟩
 ·exact .inr ⟨g, 0, cap, cur, fz, by simp, hb, hg, hfz, hnc, hcm, by rw [Nat.zero_add]; exact Nat.le_of_eq hcs.symm, by simpa using htake⟩
theorem OwnOff.nil (B k : Nat) (e : TypeId) (w : World) : OwnOff B k e w (.slice none 0 0) [] := (Own.nil B k e w).off
theorem OwnOff.type {B k e : Nat} {w : World} {v : Value} {es : List (List Value)} (h : OwnOff B k e w v es) {r : Nat} (hr : v.ownBlock = some r) : B ≤ r ∧ r < w.heap.size ∧ ∃ cur fz, w.heap[r]? = some (.cells cur e fz) := by
 rcases h.row with ⟨rfl, _⟩ | ⟨g, o, cap, cur, fz, rfl, hb, hg, _⟩
 ·simp [Value.ownBlock] at hr
 ·simp [Value.ownBlock] at hr; subst hr; exact ⟨hb, (Array.getElem?_eq_some_iff.1 hg).1, cur, fz, hg⟩
theorem OwnOff.neBlock {B k e t b : Nat} {w : World} {v : Value} {es : List (List Value)} {cs : Array Value} {fz : Nat × Nat} (h : OwnOff B k e w v es) (hb : w.heap[b]? = some (.cells cs t fz)) (ht : t ≠ e) : v.ownBlock ≠ some b := fun e' => by
 obtain ⟨_, _, cur, fz', h'⟩ := h.type e'
 rw [hb] at h'
 simp only [Option.some.injEq, Obj.cells.injEq] at h'
 exact ht h'.2.1
theorem OwnOff.neOwn {B k e B' k' e' : Nat} {w : World} {v v' : Value} {es es' : List (List Value)} (h : OwnOff B k e w v es) (h' : Own B' k' e' w v' es') (he : e ≠ e') : v'.ownBlock = none ∨ v'.ownBlock ≠ v.ownBlock := by
 cases hv : v'.ownBlock with
 | none => exact .inl rfl
 | some r =>
  obtain ⟨cur, fz, h1⟩ := h'.type hv
  exact .inr fun e2 => h.neBlock h1 (fun e3 => he e3.symm) e2.symm
theorem OwnOff.mv {B k e : Nat} {w w' : World} {v : Value} {es : List (List Value)} {row : Option Nat} (h : OwnOff B k e w v es) (hm : Mv row w w') (hne : v.ownBlock = none ∨ v.ownBlock ≠ row) : OwnOff B k e w' v es := by
 refine ⟨h.row.imp id ?_, h.each⟩
 rintro ⟨g, o, cap, cur, fz, rfl, hb, hg, r⟩
 refine ⟨g, o, cap, cur, fz, rfl, hb, hm.at hg ?_, r⟩
 rcases hne with hne | hne
 ·simp [Value.ownBlock] at hne
 ·simpa [Value.ownBlock] using hne
theorem OwnOff.ext {B k e : Nat} {w w' : World} {v : Value} {es : List (List Value)} (h : OwnOff B k e w v es) (hx : Ext w w') : OwnOff B k e w' v es := by
 refine ⟨h.row.imp id ?_, h.each⟩
 rintro ⟨g, o, cap, cur, fz, rfl, hb, hg, r⟩
 exact ⟨g, o, cap, cur, fz, rfl, hb, hx.at hg, r⟩
theorem OwnOff.weaken {B C k e : Nat} {w : World} {v : Value} {es : List (List Value)} (h : OwnOff B k e w v es) (hc : C ≤ B) : OwnOff C k e w v es :=
 ⟨h.row.imp id fun ⟨g, o, cap, cur, fz, a, b, r⟩ => ⟨g, o, cap, cur, fz, a, Nat.le_trans hc b, r⟩, h.each⟩
theorem OwnOff.sl {B k e : Nat} {w : World} {v : Value} {es : List (List Value)} (h : OwnOff B k e w v es) : Sl k w v es := by
 rcases h.row with ⟨rfl, rfl⟩ | ⟨g, o, cap, cur, fz, rfl, hb, hg, hfz, hnc, hcm, hcs, htake⟩
 ·exact Sl.nil _ _
 ·refine ⟨_, cap, rfl, hnc, by unfold maxLen at hcm; omega, h.each, (fun e => by cases e), fun _ => ⟨g, o * k, rfl, ?_⟩⟩
  intro i ce j x hi hj
  have hfl := flatten_at h.each hi hj
  rw [← htake, List.getElem?_take] at hfl
  split at hfl
  ·rw [List.getElem?_drop] at hfl
   have hlt : o * k + (i * k + j) < cur.size := by
    have := (List.getElem?_eq_some_iff.1 hfl).1
    simpa using this
   simp only [World.cell?, hg]
   rw [← Nat.add_assoc] at hfl
   simpa [Array.getElem?_toList] using hfl
  ·cases hfl
theorem OwnOff.drop {B k e : Nat} {w : World} {v : Value} {es : List (List Value)} (h : OwnOff B k e w v es) {m : Nat} (hm : m ≤ es.length) : OwnOff B k e w (cutSl v k m es.length) (es.drop m) := by
 refine ⟨?_, fun x hx => h.each x (List.mem_of_mem_drop hx)⟩
 rcases h.row with ⟨rfl, rfl⟩ | ⟨g, o, cap, cur, fz, rfl, hb, hg, hfz, hnc, hcm, hcs, htake⟩
 ·have : m = 0 := by simpa using hm
  subst this
  exact .inl ⟨by simp [cutSl], rfl⟩
 ·have hfl := length_flatten_of h.each
  by_cases hc : cap = m
  ·have hlm : es.length = m := by omega
   refine .inr ⟨g, o, 0, cur, fz, ?_, hb, hg, hfz, ?_, by unfold maxLen; omega, ?_, ?_⟩
   ·simp [cutSl, hc, hlm]
   ·simp [hlm]
   ·have : (o + 0) * k ≤ (o + cap) * k := Nat.mul_le_mul_right k (by omega)
    omega
   ·have h0 : es.drop m = [] := by rw [← hlm, List.drop_length]
    rw [h0]
    simp
  ·refine .inr ⟨g, o + m, cap - m, cur, fz, ?_, hb, hg, hfz, ?_, by omega, ?_, ?_⟩
   ·simp [cutSl, hc, add_none, Nat.add_mul]
   ·simp; omega
   ·rw [show o + m + (cap - m) = o + cap by omega]; exact hcs
   ·have hd := flatten_drop es m h.each
    rw [hd, ← htake, List.drop_take, List.drop_drop, List.length_drop, Nat.add_mul, ← Nat.sub_mul]
section
variable {P : Program} {ops : Array Oper} {Q : Exit → Act → World → Prop} {w : World} {rest : List Oper} {ts : List Value} {df : List Deferred} {ty : TypeId} {ps : String} {af : Array Edge}
end
theorem Pts.front {w : World} {p : Value} {vs : List Value} (h : Pts w p vs) (n : Nat) : Pts w p (vs.take n) := by
 obtain ⟨b, o, e, hc⟩ := h
 refine ⟨b, o, e, fun j x hx => hc j x ?_⟩
 rw [List.getElem?_take] at hx
 split at hx
 ·exact hx
 ·cases hx
section
variable {P : Program} {w : World} {ts : List Value} {df : List Deferred} {d : Option Nat} {ty : TypeId} {ps : String} {af : Array Edge} {g : Option (Nat × Bool)}
end
section
variable {P : Program} {w : World} {ts : List Value} {df : List Deferred} {d : Option Nat} {ty : TypeId} {ps : String} {af : Array Edge} {g : Option (Nat × Bool)}
def boolTy (P : Program) (t : TypeId) : Bool := match P.underlying t with | some .bool => true | _ => false
theorem Runs.eqlB {t u : TypeId} {x y : Operand} {a b : Bool} (hx : (Act.mk ts.toArray df).eval x = .bool a) (hy : (Act.mk ts.toArray df).eval y = .bool b) (ht : boolTy P t = true) :
 Runs P (Oper.mk d (.binOp .eql t x y u) ty ps af g) (Act.mk ts.toArray df) w (.bool (a == b)) := by
 have hu : P.underlying t = some .bool := by
  unfold boolTy at ht; split at ht
  ·assumption
  ·cases ht
 constructor
 simp [execOp, hx, hy, eqGuard, binOp, run_equal_bool w t a b hu]
end
def fieldPlain (P : Program) (s n off : Nat) : Bool := match P.underlying s with | some (.struct fs) => (match fs[n]? with | some f => f.offset == off && plainTy P f.type | none => false) | _ => false
theorem fieldPlain_spec {P : Program} {s n off : Nat} (h : fieldPlain P s n off = true) : ∃ fs f, P.underlying s = some (.struct fs) ∧ fs[n]? = some f ∧ f.offset = off ∧ plainTy P f.type = true := by
 unfold fieldPlain at h
 split at h
 ·rename_i fs hfs
  split at h
  ·rename_i f hf
   simp only [Bool.and_eq_true, beq_iff_eq] at h
   exact ⟨fs, f, hfs, hf, h.1, h.2⟩
  ·cases h
 ·cases h
section
variable {P : Program} {a : Act} {w : World} {d : Option Nat} {ty : TypeId} {ps : String} {af : Array Edge} {g : Option (Nat × Bool)}
theorem Runs.fieldV {s : TypeId} {x : Operand} {n off : Nat} {cs : Array Value} {v : Value} (hx : a.eval x = .agg cs) (hc : cs[off]? = some v) (hf : fieldPlain P s n off = true) : Runs P (Oper.mk d (.field s x n) ty ps af g) a w v := by
 obtain ⟨fs, f, ht, hf, ho, hp⟩ := fieldPlain_spec hf
 obtain ⟨u, hu, hn⟩ := plainTy_spec hp
 constructor
 simp [execOp, hx, Instr.field, run_underlying ht, hf, ho, asAgg, part, Sem.run_bind, isAgg_no hu hn, hc]
end
section
variable {P : Program} {w : World} {ts : List Value} {df : List Deferred} {d : Option Nat} {ty : TypeId} {ps : String} {af : Array Edge} {g : Option (Nat × Bool)}
theorem Runs.neqB2 {t u : TypeId} {x y : Operand} {a b : Bool} (hx : (Act.mk ts.toArray df).eval x = .bool a) (hy : (Act.mk ts.toArray df).eval y = .bool b) (ht : boolTy P t = true) :
 Runs P (Oper.mk d (.binOp .neq t x y u) ty ps af g) (Act.mk ts.toArray df) w (.bool (a != b)) := by
 have hu : P.underlying t = some .bool := by
  unfold boolTy at ht; split at ht
  ·assumption
  ·cases ht
 constructor
 simp [execOp, hx, hy, eqGuard, binOp, run_equal_bool w t a b hu, bne]
end
structure SetsN (B : Nat) (w : World) (css0 css : List (List Value)) (l : List RSet) (k : Nat) : Prop where
 len : css.length = l.length
 new : ∀ (i : Nat) (s : RSet), l[i]? = some s → i < k → ∃ x, css[i]? = some [str s.name, .int .i64 s.kind, .int .i64 s.ttl, x] ∧ Own B 1 9 w x (tcells s.data)
 old : ∀ i, k ≤ i → css[i]? = css0[i]?
theorem SetsN.ext {B : Nat} {w w' : World} {css0 css : List (List Value)} {l : List RSet} {k : Nat} (h : SetsN B w css0 css l k) (hx : Ext w w') : SetsN B w' css0 css l k :=
 ⟨h.len, fun i s hi hk => let ⟨x, a, b⟩ := h.new i s hi hk; ⟨x, a, b.ext hx⟩, h.old⟩
theorem SetsN.mv {B : Nat} {w w' : World} {css0 css : List (List Value)} {l : List RSet} {k : Nat} {row : Option Nat} (h : SetsN B w css0 css l k) (hm : Mv row w w') (hne : ∀ x es, Own B 1 9 w x es → x.ownBlock = none ∨ x.ownBlock ≠ row) : SetsN B w' css0 css l k :=
 ⟨h.len, fun i s hi hk => let ⟨x, a, b⟩ := h.new i s hi hk; ⟨x, a, b.mv hm (hne x _ b)⟩, h.old⟩
theorem SetsN.step {B : Nat} {w : World} {css0 css : List (List Value)} {l : List RSet} {k : Nat} (h : SetsN B w css0 css l k) (hk : k < l.length) {y : Value} (hy : Own B 1 9 w y (tcells l[k].data)) :
 SetsN B w css0 (css.set k [str l[k].name, .int .i64 l[k].kind, .int .i64 l[k].ttl, y]) l (k + 1) := by
 refine ⟨by rw [List.length_set, h.len], fun i s hi hik => ?_, fun i hi => ?_⟩
 ·by_cases e : k = i
  ·subst e
   rw [List.getElem?_eq_getElem hk] at hi
   cases hi
   exact ⟨y, List.getElem?_set_self (by rw [h.len]; exact hk), hy⟩
  ·obtain ⟨x, a, b⟩ := h.new i s hi (by omega)
   exact ⟨x, by rw [List.getElem?_set_ne e]; exact a, b⟩
 ·rw [List.getElem?_set_ne (by omega)]; exact h.old i (by omega)
theorem SetsN.done {B : Nat} {w : World} {css0 css : List (List Value)} {l : List RSet} (h : SetsN B w css0 css l l.length) : SetsW B w css l :=
 ⟨h.len, fun i s hi => h.new i s hi (List.getElem?_eq_some_iff.1 hi).1⟩
section
variable {P : Program} {a : Act} {w : World} {d : Option Nat} {ty : TypeId} {ps : String} {af : Array Edge} {g : Option (Nat × Bool)}
theorem Runs.isNil {t u : TypeId} {x y : Operand} {p : Option Addr} (hx : a.eval x = .pointer p) (hy : a.eval y = .pointer none) (ht : P.underlying t = some (.pointer (P.pointee t))) :
 Runs P (Oper.mk d (.binOp .eql t x y u) ty ps af g) a w (.bool p.isNone) := by
 constructor
 simp [execOp, hx, hy, eqGuard, run_eql_pointer_nil w t p ht]
end
structure DelsV (B : Nat) (w : World) (v : Value) (ds : List DeltaR) : Prop where
 out : ∃ css, OwnOff B 4 137 w v css ∧ css.length = ds.length ∧ ∀ (i : Nat) (d : DeltaR), ds[i]? = some d → ∃ g n, css[i]? = some [.int .i64 d.fr, .int .i64 d.to, g, n] ∧ Own B 4 81 w g (rcells d.gone) ∧ Own B 4 81 w n (rcells d.new)
theorem DelsV.nil (B : Nat) (w : World) : DelsV B w (.slice none 0 0) [] := ⟨[], OwnOff.nil _ _ _ _, rfl, by simp⟩
theorem DelsV.ext {B : Nat} {w w' : World} {v : Value} {ds : List DeltaR} (h : DelsV B w v ds) (hx : Ext w w') : DelsV B w' v ds := by
 obtain ⟨css, h1, h2, h3⟩ := h
 exact ⟨css, h1.ext hx, h2, fun i d hi => let ⟨g, n, a, b, c⟩ := h3 i d hi; ⟨g, n, a, b.ext hx, c.ext hx⟩⟩
theorem DelsV.put {B b t : Nat} {w w' : World} {v : Value} {ds : List DeltaR} {cs : Array Value} {fz : Nat × Nat} {o : Obj} (h : DelsV B w v ds) (hb : w.heap[b]? = some (.cells cs t fz)) (h1 : t ≠ 137) (h2 : t ≠ 81) (hp : Put w w' b o) : DelsV B w' v ds := by
 obtain ⟨css, a, c, e⟩ := h
 exact ⟨css, a.mv hp.mv (.inr (a.neBlock hb h1)), c, fun i d hi => let ⟨g, n, x, y, z⟩ := e i d hi; ⟨g, n, x, y.mv hp.mv (.inr (y.neBlock hb h2)), z.mv hp.mv (.inr (z.neBlock hb h2))⟩⟩
theorem DelsV.len {B : Nat} {w : World} {v : Value} {ds : List DeltaR} (h : DelsV B w v ds) : ∃ css, Sl 4 w v css ∧ css.length = ds.length := let ⟨css, a, c, _⟩ := h; ⟨css, a.sl, c⟩
def jC (o : List UInt8) (v : Value) (room : Int) (dv : Value) : List Value := [str o, v, .int .i64 room, dv]
structure JAt (w0 w : World) (b : Nat) (o : List UInt8) (l : List RSet) (room : Int) (ds : List DeltaR) : Prop where
 ge : w0.heap.size ≤ b
 ext : Ext w0 w
 out : ∃ v dv, w.heap[b]? = some (.cells (jC o v room dv).toArray 132 (0, 0)) ∧ SetsV w0.heap.size w v l ∧ DelsV w0.heap.size w dv ds
theorem JAt.grow {w0 w w' : World} {b : Nat} {o : List UInt8} {l : List RSet} {room : Int} {ds : List DeltaR} (h : JAt w0 w b o l room ds) (hx : Ext w w') : JAt w0 w' b o l room ds := by
 obtain ⟨h1, h2, v, dv, h3, h4, h5⟩ := h
 exact ⟨h1, h2.trans hx, v, dv, hx.at h3, h4.ext hx, h5.ext hx⟩
theorem SetsV.sets {B : Nat} {w : World} {v : Value} {l : List RSet} (h : SetsV B w v l) : SetsAt w v l := by
 obtain ⟨css, h1, h2⟩ := h
 exact h2.sets.sets h1.sl
section
variable {P : Program} {a : Act} {w : World} {d : Option Nat} {ty : TypeId} {ps : String} {af : Array Edge} {g : Option (Nat × Bool)}
theorem Runs.and32 {t u : TypeId} {x y : Operand} {m : Int} (hx : a.eval x = .int .i64 m) (hy : a.eval y = .int .i64 4294967295) :
 Runs P (Oper.mk d (.binOp .and t x y u) ty ps af g) a w (.int .i64 (m % 4294967296)) := by
 have e : (((BitVec.ofInt 64 m &&& BitVec.ofInt 64 4294967295).toNat : Nat) : Int) = m % 4294967296 := by
  rw [BitVec.toNat_and, BitVec.toNat_ofInt, show (BitVec.ofInt 64 4294967295).toNat = 2 ^ 32 - 1 from rfl, Nat.and_two_pow_sub_one_eq_mod]
  have h0 : 0 ≤ m % ((2 ^ 64 : Nat) : Int) := Int.emod_nonneg _ (by decide)
  have h1 : ((m % ((2 ^ 64 : Nat) : Int)).toNat : Int) = m % ((2 ^ 64 : Nat) : Int) := Int.toNat_of_nonneg h0
  rw [Int.natCast_emod, h1]
  exact Int.emod_emod_of_dvd m (by decide)
 have h2 : 0 ≤ m % 4294967296 ∧ m % 4294967296 < 4294967296 := ⟨Int.emod_nonneg _ (by decide), Int.emod_lt_of_pos _ (by decide)⟩
 have e2 : IntKind.i64.wrap (m % 4294967296) = m % 4294967296 := IntWalk.i64_in _ (by omega)
 constructor
 have hb : (Op.intBits .and .i64 m 4294967295) = Sem.pure (.int .i64 (m % 4294967296)) := by
  show Sem.pure (Value.int .i64 (IntKind.i64.wrap ((BitVec.ofInt 64 m &&& BitVec.ofInt 64 4294967295).toNat : Nat))) = _
  rw [e, e2]
 simp only [execOp, hx, hy, Sem.run_bind]
 simp [eqGuard, binOp, hb]
end
def okSer (n : Int) : Bool := decide (0 ≤ n) && decide (n ≤ 4294967295)
def laterB (a b : Int) : Bool := okSer a && okSer b && decide (2147483648 < (b - a) % 4294967296)
def ncells (l : List Int) : List (List Value) := l.map fun n => [.int .i64 n]
set_option maxHeartbeats 2000000 in
theorem p_may (v : Value) (l : List Int) (w : World) (hv : Sl 1 w v (ncells l)) : Calls Tryz.prog 135 #[v] w (RetV w (.bool (l.all okSer))) := by
 have hl : (ncells l).length = l.length := by simp [ncells]
 have hle := hv.le
 rw [hl] at hle
 go_enter Tryz.func135, Tryz.ntmps135
 (repeat' first | ((with_reducible refine nx0 ?_); go_step) | ((with_reducible refine o_s ?_); first | refine wk0 ?_ | (refine wg0 ?_ ?_ <;> intro hc)) | fail)
 go_loopw [4, 7] (fun _ i wr => ∃ k : Nat, k ≤ l.length ∧ i = .int .i64 k ∧ wr = w ∧ (l.take k).all okSer = true) (fun _ i _ => l.length - (intOf i).toNat)
 case atStart => exact ⟨0, Nat.zero_le _, rfl, rfl, by simp⟩
 case round =>
  obtain ⟨k, hk, rfl, rfl, hall⟩ := hrel
  by_cases hlt : k < l.length
  ·have el := hv.elem (i := k) (e := [.int .i64 l[k]]) (by simp [ncells, hlt])
   (repeat' first | ((with_reducible refine nx0 ?_); go_step) | ((with_reducible refine o_s ?_); first | refine wk0 ?_ | (refine wg0 ?_ ?_ <;> intro hc)) | fail)
   ·have h1 := ‹(4294967295 : Int) < l[k]›
    go_ret
    refine ⟨?_, Ext.refl _⟩
    rw [show l.all okSer = false from List.all_eq_false.2 ⟨_, List.getElem_mem hlt, by simp [okSer]; omega⟩]
    rfl
   ·have h1 := ‹l[k] ≤ (4294967295 : Int)›
    have h0 := ‹¬ l[k] < 0›
    exact ⟨⟨k + 1, by omega, by go_num, trivial, by rw [List.take_succ_eq_append_getElem hlt, List.all_append, hall]; simp [okSer]; omega⟩, by simp [intOf]; omega⟩
   ·have h1 := ‹l[k] < 0›
    go_ret
    refine ⟨?_, Ext.refl _⟩
    rw [show l.all okSer = false from List.all_eq_false.2 ⟨_, List.getElem_mem hlt, by simp [okSer]; omega⟩]
    rfl
  ·have : k = l.length := by omega
   subst this
   rw [List.take_length] at hall
   (repeat' first | ((with_reducible refine nx0 ?_); go_step) | ((with_reducible refine o_s ?_); first | refine wk0 ?_ | (refine wg0 ?_ ?_ <;> intro hc)) | fail)
   go_ret
   exact ⟨by rw [hall]; rfl, Ext.refl _⟩
def serCmp (a b : Int) : Int × Int :=
 if (okSer a && okSer b) = false then (0, 1) else if (b - a) % 4294967296 = 0 then (0, 0) else if (b - a) % 4294967296 < 2147483648 then (-1, 0) else if 2147483648 < (b - a) % 4294967296 then (1, 0) else (0, 5)
set_option maxHeartbeats 2000000 in
theorem p_SerCmp (a b : Int) (w : World) : Calls Tryz.prog 72 #[.int .i64 a, .int .i64 b] w (RetV w (.tuple #[.int .i64 (serCmp a b).1, .int .i64 (serCmp a b).2])) := by
 go_enter Tryz.func72, Tryz.ntmps72
 repeat' (first | ((with_reducible refine nx0 ?_); go_step) | fail)
 (repeat' first | ((with_reducible refine nx0 ?_); go_step) | ((with_reducible refine o_s ?_); first | refine wk0 ?_ | (refine wg0 ?_ ?_ <;> intro hc)) | fail)
 refine wpl_slice (e := 3) (k := 1) (bytes := 8) (xs := [.int .i64 a, .int .i64 b]) rfl rfl rfl (by simp [Value.cells]) (by decide +kernel) (by simp) ?_
 intro v1 w1 x1 _ sl1 _
 refine gset ?_
 (repeat' first | ((with_reducible refine nx0 ?_); go_step) | ((with_reducible refine o_s ?_); first | refine wk0 ?_ | (refine wg0 ?_ ?_ <;> intro hc)) | fail)
 refine wpl_callV (enters_of Tryz.func135 rfl rfl) rfl rfl (p_may v1 [a, b] _ sl1) ?_; intro w2 x2; refine gset ?_
 have hx2 := x1.trans x2
 have hall : [a, b].all okSer = (okSer a && okSer b) := by simp
 rw [hall]
 cases hok : (okSer a && okSer b) with
 | false =>
  (repeat' first | ((with_reducible refine nx0 ?_); go_step) | ((with_reducible refine o_s ?_); first | refine wk0 ?_ | (refine wg0 ?_ ?_ <;> intro hc)) | fail)
  go_ret2
  exact ⟨by rw [serCmp, if_pos hok]; rfl, hx2⟩
 | true =>
  have hb : 0 ≤ a ∧ a ≤ 4294967295 ∧ 0 ≤ b ∧ b ≤ 4294967295 := by
   simp only [okSer, Bool.and_eq_true, decide_eq_true_eq] at hok
   omega
  (repeat' first | ((with_reducible refine nx0 ?_); go_step) | ((with_reducible refine o_s ?_); first | refine wk0 ?_ | (refine wg0 ?_ ?_ <;> intro hc)) | fail)
  refine wpl_run0 (Runs.and32 rfl rfl) ?_
  refine gset ?_
  (repeat' first | ((with_reducible refine nx0 ?_); go_step) | ((with_reducible refine o_s ?_); first | refine wk0 ?_ | (refine wg0 ?_ ?_ <;> intro hc)) | fail)
  all_goals
   go_ret2
   refine ⟨?_, hx2⟩
   rw [serCmp, if_neg (by simp [hok])]
   first
    | (rw [if_pos (by omega)]; rfl)
    | (rw [if_neg (by omega), if_pos (by omega)]; rfl)
    | (rw [if_neg (by omega), if_neg (by omega), if_pos (by omega)]; rfl)
    | (rw [if_neg (by omega), if_neg (by omega), if_neg (by omega)]; rfl)
theorem p_Later (a b : Int) (w : World) : Calls Tryz.prog 25 #[.int .i64 a, .int .i64 b] w (RetV w (.bool (laterB a b))) := by
 have h : serCmp a b = (0, 1) ∧ laterB a b = false ∨ serCmp a b = (0, 0) ∧ laterB a b = false ∨ serCmp a b = (-1, 0) ∧ laterB a b = false ∨ serCmp a b = (1, 0) ∧ laterB a b = true ∨ serCmp a b = (0, 5) ∧ laterB a b = false := by
  unfold serCmp laterB
  cases hok : (okSer a && okSer b) with
  | false => simp
  | true =>
   simp only [Bool.true_eq_false, if_false, Bool.true_and]
   generalize (b - a) % 4294967296 = d
   by_cases h1 : d = 0
   ·simp [h1]
   ·by_cases h2 : d < 2147483648
    ·have : ¬ 2147483648 < d := by omega
     simp [h1, h2, this]
    ·by_cases h3 : 2147483648 < d
     ·simp [h1, h2, h3]
     ·simp [h1, h2, h3]
 go_enter Tryz.func25, Tryz.ntmps25
 (repeat' first | ((with_reducible refine nx0 ?_); go_step) | ((with_reducible refine o_s ?_); first | refine wk0 ?_ | (refine wg0 ?_ ?_ <;> intro hc)) | fail)
 refine wpl_callV (enters_of Tryz.func72 rfl rfl) rfl rfl (p_SerCmp a b _) ?_; intro w1 x1; refine gset ?_
 rcases h with ⟨h1, h2⟩ | ⟨h1, h2⟩ | ⟨h1, h2⟩ | ⟨h1, h2⟩ | ⟨h1, h2⟩
 all_goals
  rw [h1]
  (repeat' first | ((with_reducible refine nx0 ?_); go_step) | ((with_reducible refine o_s ?_); first | refine wk0 ?_ | (refine wg0 ?_ ?_ <;> intro hc)) | fail)
  go_ret
  exact ⟨by rw [h2]; rfl, x1⟩
theorem run_store_seg {P : Program} {w : World} {t ty : TypeId} {b n : Nat} {cs vs : List Value} {v : Value} (hb : w.heap[b]? = some (.cells cs.toArray t (0, 0))) (hv : v.cells = vs.toArray) (hn : n + vs.length ≤ cs.length) (hs : sizeTy P ty vs.length = true) (h1 : ∀ u ∈ vs, u.oneCell' = true) :
 ∃ w', (storeVar ty ⟨b, n, none⟩ v).run P w = .ok () w' ∧ Put w w' b (.cells (cs.take n ++ vs ++ cs.drop (n + vs.length)).toArray t (0, 0)) := by
 obtain ⟨i, hq, hsz⟩ := info_of (sizeTy_spec hs)
 have hr := run_storeCells_G P b n t (0, 0) vs 0 cs.toArray w hb (.inl (Nat.le_refl _)) (by simpa using hn) h1
 simp only [Nat.add_zero] at hr
 refine ⟨w.setRow b (cs.take n ++ vs ++ cs.drop (n + vs.length)).toArray, ?_, rfl, rfl, rfl, by simp, setRow_heap w b _ _ t _ hb, fun k hk => setRow_other w b k _ hk, rfl⟩
 simp [storeVar, sizeOf, typeInfo, hq, hsz, hv, hr]
section
variable {P : Program} {ops : Array Oper} {Q : Exit → Act → World → Prop} {w : World} {rest : List Oper} {ts : List Value} {df : List Deferred} {d : Option Nat} {ty : TypeId} {ps : String} {af : Array Edge} {g : Option (Nat × Bool)}
theorem wpl_storeS {t ty : TypeId} {x y : Operand} {b n : Nat} {cs vs : List Value} {v : Value} {ty2 : TypeId} (hb : w.heap[b]? = some (.cells cs.toArray t (0, 0))) (hw : Region.wanted (Oper.mk none (.store ty x y) ty2 ps af g) (yielded ops ts.toArray) = true)
 (hx : (Act.mk ts.toArray df).eval x = partPtr (.pointer (some ⟨b, 0, none⟩)) n) (hy : (Act.mk ts.toArray df).eval y = v) (hv : v.cells = vs.toArray) (hn : n + vs.length ≤ cs.length) (hs : sizeTy P ty vs.length = true) (h1 : ∀ u ∈ vs, u.oneCell' = true)
 (h : ∀ w', Put w w' b (.cells (cs.take n ++ vs ++ cs.drop (n + vs.length)).toArray t (0, 0)) → wpList P ops Q rest (Act.mk ts.toArray df) w') : wpList P ops Q (Oper.mk none (.store ty x y) ty2 ps af g :: rest) (Act.mk ts.toArray df) w := by
 obtain ⟨w', hr, hp⟩ := run_store_seg (P := P) hb hv hn hs h1
 refine wpl_skipper hw (w' := w') ?_ (h w' hp)
 have e : partPtr (.pointer (some ⟨b, 0, none⟩)) n = .pointer (some ⟨b, n, none⟩) := by simp [partPtr, add_none]
 simp [execOp, hx, hy, e, Instr.storeAt, Instr.sureAddr, hr]
end
theorem zoneJ {o : List UInt8} {l : List RSet} (h : ZoneOk o l) : l.length ≤ 200 ∧ (∀ s ∈ l, s.data.length ≤ 20) ∧ (∀ s ∈ l, ∀ d ∈ s.data, d.length ≤ 4000) ∧ (recordsS l).length ≤ 4000 := by
 have h1 : l.length ≤ 200 := by
  have := h.chk
  unfold checkS at this
  split at this
  ·cases this
  ·omega
 have h2 : ∀ s ∈ l, s.data.length ≤ 20 := fun s hs => by
  have hm := h.may hs
  simp only [mayS, Bool.and_eq_true, decide_eq_true_eq] at hm
  exact hm.1.2
 refine ⟨h1, h2, fun s hs d hd => ?_, ?_⟩
 ·obtain ⟨i, hi, rfl⟩ := List.mem_iff_getElem.1 hd
  exact (checkR_data (may_at (h.may hs) hi)).1
 ·have : ∀ {L : List RSet}, (∀ s ∈ L, s.data.length ≤ 20) → (recordsS L).length ≤ 20 * L.length := by
   intro L
   induction L with
   | nil => intro _; simp [recordsS]
   | cons s L ih =>
    intro hL
    have e : recordsS (s :: L) = recsOf s ++ recordsS L := by simp [recordsS]
    have i1 := ih fun t ht => hL t (by simp [ht])
    have i2 := hL s (by simp)
    rw [e, List.length_append, recsOf, List.length_map, List.length_cons]
    omega
  have := this h2
  omega
def KeptJ (b : Nat) (w w' : World) : Prop := ∀ c o, w.heap[c]? = some o → c ≠ b → (∀ cs fz, o ≠ .cells cs 137 fz) → w'.heap[c]? = some o
theorem meetJ {α β γ : Type} {F : α → β → γ → World → Prop} {G : α → β → γ → World → Prop} {goal : Prop} (h1 : (∀ x y z w', F x y z w' → G x y z w') → goal) (h2 : ∀ x y z w', F x y z w' → G x y z w') : goal := h1 h2
theorem KeptJ.of {b : Nat} {w w' : World} (h : Ext w w') : KeptJ b w w' := fun c o hc _ _ => h.at hc
theorem KeptJ.trans {b : Nat} {w w' w'' : World} (h : KeptJ b w w') (k : KeptJ b w' w'') : KeptJ b w w'' := fun c o hc hn ht => k c o (h c o hc hn ht) hn ht
theorem KeptJ.mv {b B : Nat} {w w' : World} {v : Value} {es : List (List Value)} (ho : OwnOff B 4 137 w v es) (hm : Mv v.ownBlock w w') : KeptJ b w w' := fun c o hc _ ht => by
 refine hm.at hc fun e => ?_
 obtain ⟨_, _, cur, fz, h⟩ := ho.type e.symm
 rw [hc] at h
 exact ht _ _ (Option.some.inj h)
theorem KeptJ.put {b : Nat} {w w' : World} {o : Obj} (hp : Put w w' b o) : KeptJ b w w' := fun c o hc hn _ => hp.mv.at hc (fun e => hn (Option.some.inj e))
theorem DelsV.add {B : Nat} {w w' : World} {v v' g n : Value} {ds : List DeltaR} {D : DeltaR} {css : List (List Value)} (h1 : OwnOff B 4 137 w v css) (h2 : css.length = ds.length)
 (h3 : ∀ (i : Nat) (d : DeltaR), ds[i]? = some d → ∃ g n, css[i]? = some [.int .i64 d.fr, .int .i64 d.to, g, n] ∧ Own B 4 81 w g (rcells d.gone) ∧ Own B 4 81 w n (rcells d.new)) (hm : Mv v.ownBlock w w')
 (o : OwnOff B 4 137 w' v' (css ++ [[.int .i64 D.fr, .int .i64 D.to, g, n]])) (hg : Own B 4 81 w g (rcells D.gone)) (hn : Own B 4 81 w n (rcells D.new)) : DelsV B w' v' (ds ++ [D]) := by
 refine ⟨_, o, by simp [h2], fun i d hi => ?_⟩
 rw [List.getElem?_append] at hi ⊢
 rw [h2]
 split at hi
 ·rw [if_pos ‹_›]
  obtain ⟨x, y, a, b, c⟩ := h3 i d hi
  exact ⟨x, y, a, b.mv hm (h1.neOwn b (by decide)), c.mv hm (h1.neOwn c (by decide))⟩
 ·rw [if_neg ‹_›]
  have hi0 : i - ds.length = 0 := by
   have := (List.getElem?_eq_some_iff.1 hi).1
   simpa using this
  rw [hi0] at hi ⊢
  cases hi
  exact ⟨g, n, rfl, hg.mv hm (h1.neOwn hg (by decide)), hn.mv hm (h1.neOwn hn (by decide))⟩
theorem DelsV.drop {B : Nat} {w : World} {v : Value} {ds : List DeltaR} (h : DelsV B w v ds) {m : Nat} (hm : m ≤ ds.length) : DelsV B w (cutSl v 4 m ds.length) (ds.drop m) := by
 obtain ⟨css, h1, h2, h3⟩ := h
 rw [← h2] at hm ⊢
 refine ⟨_, h1.drop hm, by simp [h2], fun i d hi => ?_⟩
 rw [List.getElem?_drop] at hi ⊢
 exact h3 _ d hi
section
variable {P : Program} {n : Nat} {r : Option Nat} {ops : Array Oper} {Q : Exit → Act → World → Prop} {md : Region.Mode}
end
section
variable {P : Program} {w w' : World} {ts : List Value} {df : List Deferred} {d : Option Nat} {ty : TypeId} {ps : String} {af : Array Edge} {g : Option (Nat × Bool)}
theorem Runs.idxW {t : TypeId} {m : Nat} {i : Operand} {k n : Nat} {es : List (List Value)} (hi : (Act.mk ts.toArray df).eval i = .int .i64 (n : Nat)) (h : Sl k w' (ts.getD m undef) es) (hn : n < es.length) (ht : sliceOf P t k = true) :
 Runs P (Oper.mk d (.indexAddr t (.tmp m) i) ty ps af g) (Act.mk ts.toArray df) w (elemPtr (ts.getD m undef) (n * k)) := by
 have hx : (Act.mk ts.toArray df).eval (.tmp m) = ts.getD m undef := evalT m
 obtain ⟨ad, cap, h1, h2, h3, h4, h5, h6⟩ := h
 obtain ⟨b, o, rfl, hc⟩ := h6 (by rintro rfl; simp at hn)
 obtain ⟨e, ie, ht, hie, hz⟩ := sliceOf_spec ht
 rw [h1] at hx ⊢
 constructor
 simp [execOp, hx, hi, Instr.indexAt, asIntOf, run_underlying ht, sizeOf, typeInfo, hie, hz, elemPtr, hn]
end
theorem DelsV.below {B b : Nat} {w w' : World} {v : Value} {ds : List DeltaR} {o : Obj} (h : DelsV B w v ds) (hp : Put w w' b o) (hb : b < B) : DelsV B w' v ds := by
 obtain ⟨css, a, c, e⟩ := h
 refine ⟨css, a.mv hp.mv ?_, c, fun i d hi => let ⟨g, n, x, y, z⟩ := e i d hi; ⟨g, n, x, y.put hp hb, z.put hp hb⟩⟩
 cases hv : v.ownBlock with
 | none => exact .inl rfl
 | some r => have := (a.type hv).1; exact .inr (fun e => by have := Option.some.inj e; omega)
theorem DelsV.weaken {B C : Nat} {w : World} {v : Value} {ds : List DeltaR} (h : DelsV B w v ds) (hc : C ≤ B) : DelsV C w v ds := by
 obtain ⟨css, a, c, e⟩ := h
 exact ⟨css, a.weaken hc, c, fun i d hi => let ⟨g, n, x, y, z⟩ := e i d hi; ⟨g, n, x, y.weaken hc, z.weaken hc⟩⟩
structure DelN (B : Nat) (w : World) (css0 css : List (List Value)) (ds : List DeltaR) (k : Nat) : Prop where
 len : css.length = ds.length
 new : ∀ (i : Nat) (d : DeltaR), ds[i]? = some d → i < k → ∃ g n, css[i]? = some [.int .i64 d.fr, .int .i64 d.to, g, n] ∧ Own B 4 81 w g (rcells d.gone) ∧ Own B 4 81 w n (rcells d.new)
 old : ∀ i, k ≤ i → css[i]? = css0[i]?
theorem DelN.ext {B : Nat} {w w' : World} {css0 css : List (List Value)} {ds : List DeltaR} {k : Nat} (h : DelN B w css0 css ds k) (hx : Ext w w') : DelN B w' css0 css ds k :=
 ⟨h.len, fun i s hi hk => let ⟨x, y, a, b, c⟩ := h.new i s hi hk; ⟨x, y, a, b.ext hx, c.ext hx⟩, h.old⟩
theorem DelN.mv {B : Nat} {w w' : World} {css0 css : List (List Value)} {ds : List DeltaR} {k : Nat} {row : Option Nat} (h : DelN B w css0 css ds k) (hm : Mv row w w') (hne : ∀ x es, Own B 4 81 w x es → x.ownBlock = none ∨ x.ownBlock ≠ row) : DelN B w' css0 css ds k :=
 ⟨h.len, fun i s hi hk => let ⟨x, y, a, b, c⟩ := h.new i s hi hk; ⟨x, y, a, b.mv hm (hne x _ b), c.mv hm (hne y _ c)⟩, h.old⟩
theorem DelN.step {B : Nat} {w : World} {css0 css : List (List Value)} {ds : List DeltaR} {k : Nat} (h : DelN B w css0 css ds k) (hk : k < ds.length) {x y : Value} (hx : Own B 4 81 w x (rcells ds[k].gone)) (hy : Own B 4 81 w y (rcells ds[k].new)) :
 DelN B w css0 (css.set k [.int .i64 ds[k].fr, .int .i64 ds[k].to, x, y]) ds (k + 1) := by
 refine ⟨by rw [List.length_set, h.len], fun i s hi hik => ?_, fun i hi => ?_⟩
 ·by_cases e : k = i
  ·subst e
   rw [List.getElem?_eq_getElem hk] at hi
   cases hi
   exact ⟨x, y, List.getElem?_set_self (by rw [h.len]; exact hk), hx, hy⟩
  ·obtain ⟨x, y, a, b⟩ := h.new i s hi (by omega)
   exact ⟨x, y, by rw [List.getElem?_set_ne e]; exact a, b⟩
 ·rw [List.getElem?_set_ne (by omega)]; exact h.old i (by omega)
theorem DelN.done {B B' : Nat} {w : World} {v : Value} {css0 css : List (List Value)} {ds : List DeltaR} (h : DelN B w css0 css ds ds.length) (ho : Own B 4 137 w v css) : DelsV B w v ds :=
 ⟨css, ho.off, h.len, fun i s hi => h.new i s hi (List.getElem?_eq_some_iff.1 hi).1⟩
def Keep (T : List TypeId) (w w' : World) : Prop := ∀ (c : Nat) (cs : Array Value) (t : TypeId) (fz : Nat × Nat), w.heap[c]? = some (.cells cs t fz) → t ∉ T → w'.heap[c]? = some (.cells cs t fz)
theorem Keep.trans {T : List TypeId} {a b c : World} (h : Keep T a b) (k : Keep T b c) : Keep T a c := fun i cs t fz hc ht => k i cs t fz (h i cs t fz hc ht) ht
structure DelsK (B : Nat) (w : World) (v : Value) (ds : List DeltaR) : Prop where
 out : ∃ css, OwnOff B 4 140 w v css ∧ css.length = ds.length ∧ ∀ (i : Nat) (d : DeltaR), ds[i]? = some d → ∃ g n, css[i]? = some [.int .i64 d.fr, .int .i64 d.to, g, n] ∧ Own B 4 81 w g (rcells d.gone) ∧ Own B 4 81 w n (rcells d.new)
theorem DelsK.nil (B : Nat) (w : World) : DelsK B w (.slice none 0 0) [] := ⟨[], OwnOff.nil _ _ _ _, rfl, by simp⟩
theorem DelsK.ext {B : Nat} {w w' : World} {v : Value} {ds : List DeltaR} (h : DelsK B w v ds) (hx : Ext w w') : DelsK B w' v ds := by
 obtain ⟨css, h1, h2, h3⟩ := h
 exact ⟨css, h1.ext hx, h2, fun i d hi => let ⟨g, n, a, b, c⟩ := h3 i d hi; ⟨g, n, a, b.ext hx, c.ext hx⟩⟩
theorem DelsK.put {B b t : Nat} {w w' : World} {v : Value} {ds : List DeltaR} {cs : Array Value} {fz : Nat × Nat} {o : Obj} (h : DelsK B w v ds) (hb : w.heap[b]? = some (.cells cs t fz)) (h1 : t ≠ 140) (h2 : t ≠ 81) (hp : Put w w' b o) : DelsK B w' v ds := by
 obtain ⟨css, a, c, e⟩ := h
 exact ⟨css, a.mv hp.mv (.inr (a.neBlock hb h1)), c, fun i d hi => let ⟨g, n, x, y, z⟩ := e i d hi; ⟨g, n, x, y.mv hp.mv (.inr (y.neBlock hb h2)), z.mv hp.mv (.inr (z.neBlock hb h2))⟩⟩
theorem DelsK.len {B : Nat} {w : World} {v : Value} {ds : List DeltaR} (h : DelsK B w v ds) : ∃ css, Sl 4 w v css ∧ css.length = ds.length := let ⟨css, a, c, _⟩ := h; ⟨css, a.sl, c⟩
structure KAt (w0 w : World) (b : Nat) (o : List UInt8) (l : List RSet) (room : Int) (ds : List DeltaR) : Prop where
 ge : w0.heap.size ≤ b
 ext : Ext w0 w
 out : ∃ v dv, w.heap[b]? = some (.cells (jC o v room dv).toArray 135 (0, 0)) ∧ SetsV w0.heap.size w v l ∧ DelsK w0.heap.size w dv ds
theorem KAt.grow {w0 w w' : World} {b : Nat} {o : List UInt8} {l : List RSet} {room : Int} {ds : List DeltaR} (h : KAt w0 w b o l room ds) (hx : Ext w w') : KAt w0 w' b o l room ds := by
 obtain ⟨h1, h2, v, dv, h3, h4, h5⟩ := h
 exact ⟨h1, h2.trans hx, v, dv, hx.at h3, h4.ext hx, h5.ext hx⟩
def KeptK (b : Nat) (w w' : World) : Prop := ∀ c o, w.heap[c]? = some o → c ≠ b → (∀ cs fz, o ≠ .cells cs 140 fz) → w'.heap[c]? = some o
theorem KeptK.of {b : Nat} {w w' : World} (h : Ext w w') : KeptK b w w' := fun c o hc _ _ => h.at hc
theorem KeptK.trans {b : Nat} {w w' w'' : World} (h : KeptK b w w') (k : KeptK b w' w'') : KeptK b w w'' := fun c o hc hn ht => k c o (h c o hc hn ht) hn ht
theorem KeptK.mv {b B : Nat} {w w' : World} {v : Value} {es : List (List Value)} (ho : OwnOff B 4 140 w v es) (hm : Mv v.ownBlock w w') : KeptK b w w' := fun c o hc _ ht => by
 refine hm.at hc fun e => ?_
 obtain ⟨_, _, cur, fz, h⟩ := ho.type e.symm
 rw [hc] at h
 exact ht _ _ (Option.some.inj h)
theorem KeptK.put {b : Nat} {w w' : World} {o : Obj} (hp : Put w w' b o) : KeptK b w w' := fun c o hc hn _ => hp.mv.at hc (fun e => hn (Option.some.inj e))
theorem DelsK.add {B : Nat} {w w' : World} {v v' g n : Value} {ds : List DeltaR} {D : DeltaR} {css : List (List Value)} (h1 : OwnOff B 4 140 w v css) (h2 : css.length = ds.length)
 (h3 : ∀ (i : Nat) (d : DeltaR), ds[i]? = some d → ∃ g n, css[i]? = some [.int .i64 d.fr, .int .i64 d.to, g, n] ∧ Own B 4 81 w g (rcells d.gone) ∧ Own B 4 81 w n (rcells d.new)) (hm : Mv v.ownBlock w w')
 (o : OwnOff B 4 140 w' v' (css ++ [[.int .i64 D.fr, .int .i64 D.to, g, n]])) (hg : Own B 4 81 w g (rcells D.gone)) (hn : Own B 4 81 w n (rcells D.new)) : DelsK B w' v' (ds ++ [D]) := by
 refine ⟨_, o, by simp [h2], fun i d hi => ?_⟩
 rw [List.getElem?_append] at hi ⊢
 rw [h2]
 split at hi
 ·rw [if_pos ‹_›]
  obtain ⟨x, y, a, b, c⟩ := h3 i d hi
  exact ⟨x, y, a, b.mv hm (h1.neOwn b (by decide)), c.mv hm (h1.neOwn c (by decide))⟩
 ·rw [if_neg ‹_›]
  have hi0 : i - ds.length = 0 := by
   have := (List.getElem?_eq_some_iff.1 hi).1
   simpa using this
  rw [hi0] at hi ⊢
  cases hi
  exact ⟨g, n, rfl, hg.mv hm (h1.neOwn hg (by decide)), hn.mv hm (h1.neOwn hn (by decide))⟩
theorem DelsK.drop {B : Nat} {w : World} {v : Value} {ds : List DeltaR} (h : DelsK B w v ds) {m : Nat} (hm : m ≤ ds.length) : DelsK B w (cutSl v 4 m ds.length) (ds.drop m) := by
 obtain ⟨css, h1, h2, h3⟩ := h
 rw [← h2] at hm ⊢
 refine ⟨_, h1.drop hm, by simp [h2], fun i d hi => ?_⟩
 rw [List.getElem?_drop] at hi ⊢
 exact h3 _ d hi
theorem DelsK.below {B b : Nat} {w w' : World} {v : Value} {ds : List DeltaR} {o : Obj} (h : DelsK B w v ds) (hp : Put w w' b o) (hb : b < B) : DelsK B w' v ds := by
 obtain ⟨css, a, c, e⟩ := h
 refine ⟨css, a.mv hp.mv ?_, c, fun i d hi => let ⟨g, n, x, y, z⟩ := e i d hi; ⟨g, n, x, y.put hp hb, z.put hp hb⟩⟩
 cases hv : v.ownBlock with
 | none => exact .inl rfl
 | some r => have := (a.type hv).1; exact .inr (fun e => by have := Option.some.inj e; omega)
theorem DelsK.weaken {B C : Nat} {w : World} {v : Value} {ds : List DeltaR} (h : DelsK B w v ds) (hc : C ≤ B) : DelsK C w v ds := by
 obtain ⟨css, a, c, e⟩ := h
 exact ⟨css, a.weaken hc, c, fun i d hi => let ⟨g, n, x, y, z⟩ := e i d hi; ⟨g, n, x, y.weaken hc, z.weaken hc⟩⟩
end Go.Proofs.X
