/- Laws and walks that the proof of the statement is made of (part 12). -/
import Derived.Test.YtoajkilickakiaaGreatProg
import Derived.Lib.Hide
import Derived.Test.YtoajkilickakiaaGreatShelf
import Derived.Shelf.SlSortCmp.NoneTotal
import Derived.OwnWalk
import Derived.Shelf.RegionOpenPlain
import Derived.Lib.Strings
import Derived.Lib.Slices
import Derived.Lib.Walk
import Derived.Lib.Builder
import Derived.Lib.AppendStr
import Derived.Lib.UnsafeStr
import Derived.Lib.MakeNoZero
import Derived.WalkKit
import Derived.Laws.Externs
import Derived.Laws.IdiomCopy
import Derived.Laws.BitsLemmas
import GoSem.Claims
import Derived.Test.YtoajkilickakiaaGreatP1
import Derived.Test.YtoajkilickakiaaGreatP2
import Derived.Test.YtoajkilickakiaaGreatP3
import Derived.Test.YtoajkilickakiaaGreatP4
import Derived.Test.YtoajkilickakiaaGreatP5
import Derived.Test.YtoajkilickakiaaGreatP6
import Derived.Test.YtoajkilickakiaaGreatP7
import Derived.Test.YtoajkilickakiaaGreatP8
import Derived.Test.YtoajkilickakiaaGreatP9
import Derived.Test.YtoajkilickakiaaGreatP10
import Derived.Test.YtoajkilickakiaaGreatP11
set_option linter.unusedSimpArgs false
set_option linter.unusedVariables false
namespace Go.Proofs.X
open Go.RowKit
set_option maxRecDepth 100000
def zrec : List Value := [str [], .int .i64 0, .int .i64 0, str []]
theorem Runs.eqlRec {r q : Rec} {x y : Operand} {a : Act} {w : World} {d : Option Nat} {u ty : TypeId} {ps : String} {af : Array Edge} {g : Option (Nat × Bool)}
    (hx : a.eval x = .agg #[str r.name, .int .i64 r.kind, .int .i64 r.ttl, str r.data]) (hy : a.eval y = .agg #[str q.name, .int .i64 q.kind, .int .i64 q.ttl, str q.data]) :
    Runs Tryz.prog (Oper.mk d (.binOp .eql 75 x y u) ty ps af g) a w (.bool (decide (r = q))) := by
  constructor
  have hg := run_eqGuard_agg (P := Tryz.prog) w .eql 75 x y #[str r.name, .int .i64 r.kind, .int .i64 r.ttl, str r.data] #[str q.name, .int .i64 q.kind, .int .i64 q.ttl, str q.data] (by kernel_rfl)
  simp only [execOp, hx, hy, Sem.run_bind, hg, Result.andThen_ok, run_eql_struct, run_eqRec, Sem.run_pure]
theorem any_mem {l : List Rec} {r : Rec} : l.any (fun q => decide (r = q)) = decide (r ∈ l) := by
  rw [Bool.eq_iff_iff, List.any_eq_true, decide_eq_true_eq]
  constructor
  · rintro ⟨q, hq, h⟩; rw [decide_eq_true_eq] at h; exact h ▸ hq
  · intro h; exact ⟨r, h, by simp⟩
set_option maxHeartbeats 3000000 in
theorem p_Index (v : Value) (l : List Rec) (r : Rec) (w : World) (hv : Sl 4 w v (rcells l)) : Calls Tryz.prog 74 #[v, .agg #[str r.name, .int .i64 r.kind, .int .i64 r.ttl, str r.data]] w (RetV w (.int .i64 (idxI (fun q => decide (r = q)) l))) := by
  have hlen := rcells_length l
  have hle := hv.le
  go_enter Tryz.func74, Tryz.ntmps74
  repeat' ((fail_if_success (with_reducible refine o_s ?_)); go_step)
  refine wpl_box (vs := [str r.name, .int .i64 r.kind, .int .i64 r.ttl, str r.data]) rfl rfl ?_
  intro p w1 x1 hp
  refine gset ?_
  have hv1 := hv.ext x1
  repeat' (first | ((with_reducible refine o_s ?_); (first | (refine o_1 ?_; refine o_2 ?_) | (refine o_g ?_; first | refine o_u ?_ | refine o_k ?_ | refine o_n ?_ | refine o_v ?_ | ((first | refine o_G ?_ ?_ | refine o_N ?_ ?_) <;> intro hc)))) | ((fail_if_success (with_reducible refine o_s ?_)); go_step))
  go_loopw [5, 8] (fun _ i wr => ∃ k : Nat, k ≤ l.length ∧ i = .int .i64 k ∧ Ext w1 wr ∧ (l.take k).any (fun q => decide (r = q)) = false) (fun _ i _ => l.length - (intOf i).toNat)
  case atStart => exact ⟨0, Nat.zero_le _, rfl, Ext.refl _, rfl⟩
  case round =>
    obtain ⟨k, hk, rfl, hx, hall⟩ := hrel
    have hv2 := hv1.ext hx
    have hp2 := hp.ext hx
    by_cases hlt : k < l.length
    · have hpe := hv2.elem (rcells_at hlt)
      repeat' (first | ((with_reducible refine o_s ?_); (first | (refine o_1 ?_; refine o_2 ?_) | (refine o_g ?_; first | refine o_u ?_ | refine o_k ?_ | refine o_n ?_ | refine o_v ?_ | ((first | refine o_G ?_ ?_ | refine o_N ?_ ?_) <;> intro hc)))) | ((fail_if_success (with_reducible refine o_s ?_)); go_step))
      refine wpq_region (by decide +kernel) (by decide +kernel) ?_
      repeat' (first | ((with_reducible refine q_s ?_); (first | (refine q_1 ?_; refine q_2 ?_) | (refine q_g ?_; first | refine q_u ?_ | refine q_k ?_ | refine q_v ?_))) | (with_reducible refine q_n ?_))
      refine wpq_run0 (fun w' _ => Runs.eqlRec (r := r) (q := l[k]) rfl rfl) ?_
      refine gset ?_
      repeat' (first | ((with_reducible refine q_s ?_); (first | (refine q_1 ?_; refine q_2 ?_) | (refine q_g ?_; first | refine q_u ?_ | refine q_k ?_ | refine q_v ?_))) | (with_reducible refine q_n ?_))
      intro w2 x2
      cases he : decide (r = l[k]) with
      | true =>
        repeat' (first | ((with_reducible refine o_s ?_); (first | (refine o_1 ?_; refine o_2 ?_) | (refine o_g ?_; first | refine o_u ?_ | refine o_k ?_ | refine o_n ?_ | refine o_v ?_ | ((first | refine o_G ?_ ?_ | refine o_N ?_ ?_) <;> intro hc)))) | ((fail_if_success (with_reducible refine o_s ?_)); go_step))
        go_ret
        exact ⟨by rw [idx_at hlt hall he]; rfl, (x1.trans hx).trans x2⟩
      | false =>
        repeat' (first | ((with_reducible refine o_s ?_); (first | (refine o_1 ?_; refine o_2 ?_) | (refine o_g ?_; first | refine o_u ?_ | refine o_k ?_ | refine o_n ?_ | refine o_v ?_ | ((first | refine o_G ?_ ?_ | refine o_N ?_ ?_) <;> intro hc)))) | ((fail_if_success (with_reducible refine o_s ?_)); go_step))
        exact ⟨⟨k + 1, by omega, by go_num, hx.trans x2, any_take hlt hall he⟩, by simp [intOf]; omega⟩
    · have : k = l.length := by omega
      subst this
      rw [List.take_length] at hall
      repeat' (first | ((with_reducible refine o_s ?_); (first | (refine o_1 ?_; refine o_2 ?_) | (refine o_g ?_; first | refine o_u ?_ | refine o_k ?_ | refine o_n ?_ | refine o_v ?_ | ((first | refine o_G ?_ ?_ | refine o_N ?_ ?_) <;> intro hc)))) | ((fail_if_success (with_reducible refine o_s ?_)); go_step))
      go_ret
      exact ⟨by rw [idx_no hall]; rfl, x1.trans hx⟩
theorem p_Contains (v : Value) (l : List Rec) (r : Rec) (w : World) (hv : Sl 4 w v (rcells l)) : Calls Tryz.prog 76 #[v, .agg #[str r.name, .int .i64 r.kind, .int .i64 r.ttl, str r.data]] w (RetV w (.bool (decide (r ∈ l)))) := by
  go_enter Tryz.func76, Tryz.ntmps76
  repeat' ((fail_if_success (with_reducible refine o_s ?_)); go_step)
  refine wpl_box (vs := [str r.name, .int .i64 r.kind, .int .i64 r.ttl, str r.data]) rfl rfl ?_
  intro p w1 x1 hp
  refine gset ?_
  repeat' (first | ((with_reducible refine o_s ?_); (first | (refine o_1 ?_; refine o_2 ?_) | (refine o_g ?_; first | refine o_u ?_ | refine o_k ?_ | refine o_n ?_ | refine o_v ?_ | ((first | refine o_G ?_ ?_ | refine o_N ?_ ?_) <;> intro hc)))) | ((fail_if_success (with_reducible refine o_s ?_)); go_step))
  refine wpl_callV (enters_of Tryz.func74 rfl rfl) rfl rfl (p_Index v l r _ (hv.ext x1)) ?_; intro w2 x2; refine gset ?_
  repeat' (first | ((with_reducible refine o_s ?_); (first | (refine o_1 ?_; refine o_2 ?_) | (refine o_g ?_; first | refine o_u ?_ | refine o_k ?_ | refine o_n ?_ | refine o_v ?_ | ((first | refine o_G ?_ ?_ | refine o_N ?_ ?_) <;> intro hc)))) | ((fail_if_success (with_reducible refine o_s ?_)); go_step))
  go_ret
  exact ⟨by rw [← any_mem, ← idx_any]; rfl, x1.trans x2⟩
set_option maxHeartbeats 3000000 in
theorem r10_Has (v : Value) (l : List Rec) (r : Rec) (w : World) (hv : Sl 4 w v (rcells l)) : Calls Tryz.prog 77 #[v, .agg #[str r.name, .int .i64 r.kind, .int .i64 r.ttl, str r.data]] w (RetV w (.bool (decide (r ∈ l)))) := by
  have hlen := rcells_length l
  have hle := hv.le
  go_enter Tryz.func77, Tryz.ntmps77
  repeat' ((fail_if_success (with_reducible refine o_s ?_)); go_step)
  refine wpl_box (vs := [str r.name, .int .i64 r.kind, .int .i64 r.ttl, str r.data]) rfl rfl ?_
  intro p w1 x1 hp
  refine gset ?_
  have hv1 := hv.ext x1
  repeat' (first | ((with_reducible refine o_s ?_); (first | (refine o_1 ?_; refine o_2 ?_) | (refine o_g ?_; first | refine o_u ?_ | refine o_k ?_ | refine o_n ?_ | refine o_v ?_ | ((first | refine o_G ?_ ?_ | refine o_N ?_ ?_) <;> intro hc)))) | ((fail_if_success (with_reducible refine o_s ?_)); go_step))
  go_loopw [5] (fun i wr => ∃ k : Nat, k ≤ l.length ∧ i = .int .i64 k ∧ Ext w1 wr ∧ (l.take k).any (fun q => decide (r = q)) = false) (fun i _ => l.length - (intOf i).toNat)
  case atStart => exact ⟨0, Nat.zero_le _, rfl, Ext.refl _, rfl⟩
  case round =>
    obtain ⟨k, hk, rfl, hx, hall⟩ := hrel
    have hv2 := hv1.ext hx
    have hp2 := hp.ext hx
    by_cases hlt : k < l.length
    · have hpe := hv2.elem (rcells_at hlt)
      repeat' (first | ((with_reducible refine o_s ?_); (first | (refine o_1 ?_; refine o_2 ?_) | (refine o_g ?_; first | refine o_u ?_ | refine o_k ?_ | refine o_n ?_ | refine o_v ?_ | ((first | refine o_G ?_ ?_ | refine o_N ?_ ?_) <;> intro hc)))) | ((fail_if_success (with_reducible refine o_s ?_)); go_step))
      refine wpq_region (by decide +kernel) (by decide +kernel) ?_
      repeat' (first | ((with_reducible refine q_s ?_); (first | (refine q_1 ?_; refine q_2 ?_) | (refine q_g ?_; first | refine q_u ?_ | refine q_k ?_ | refine q_v ?_))) | (with_reducible refine q_n ?_))
      refine wpq_run0 (fun w' _ => Runs.eqlRec (r := l[k]) (q := r) rfl rfl) ?_
      refine gset ?_
      repeat' (first | ((with_reducible refine q_s ?_); (first | (refine q_1 ?_; refine q_2 ?_) | (refine q_g ?_; first | refine q_u ?_ | refine q_k ?_ | refine q_v ?_))) | (with_reducible refine q_n ?_))
      intro w2 x2
      have hsw : decide (l[k] = r) = decide (r = l[k]) := by rw [Bool.eq_iff_iff]; simp [eq_comm]
      rw [hsw]
      cases he : decide (r = l[k]) with
      | true =>
        repeat' (first | ((with_reducible refine o_s ?_); (first | (refine o_1 ?_; refine o_2 ?_) | (refine o_g ?_; first | refine o_u ?_ | refine o_k ?_ | refine o_n ?_ | refine o_v ?_ | ((first | refine o_G ?_ ?_ | refine o_N ?_ ?_) <;> intro hc)))) | ((fail_if_success (with_reducible refine o_s ?_)); go_step))
        go_ret
        exact ⟨by rw [← any_mem, any_at hlt he]; rfl, (x1.trans hx).trans x2⟩
      | false =>
        repeat' (first | ((with_reducible refine o_s ?_); (first | (refine o_1 ?_; refine o_2 ?_) | (refine o_g ?_; first | refine o_u ?_ | refine o_k ?_ | refine o_n ?_ | refine o_v ?_ | ((first | refine o_G ?_ ?_ | refine o_N ?_ ?_) <;> intro hc)))) | ((fail_if_success (with_reducible refine o_s ?_)); go_step))
        exact ⟨⟨k + 1, by omega, by go_num, hx.trans x2, any_take hlt hall he⟩, by simp [intOf]; omega⟩
    · have : k = l.length := by omega
      subst this
      rw [List.take_length] at hall
      repeat' (first | ((with_reducible refine o_s ?_); (first | (refine o_1 ?_; refine o_2 ?_) | (refine o_g ?_; first | refine o_u ?_ | refine o_k ?_ | refine o_n ?_ | refine o_v ?_ | ((first | refine o_G ?_ ?_ | refine o_N ?_ ?_) <;> intro hc)))) | ((fail_if_success (with_reducible refine o_s ?_)); go_step))
      go_ret
      exact ⟨by rw [← any_mem, hall]; rfl, x1.trans hx⟩
theorem less_take {a b : List Rec} {k : Nat} (h : k < a.length) : lessR (a.take (k + 1)) b = lessR (a.take k) b ++ (if a[k] ∈ b then [] else [a[k]]) := by
  unfold lessR
  rw [List.take_succ_eq_append_getElem h, List.filter_append]
  congr 1
  by_cases hm : a[k] ∈ b <;> simp [hm]
theorem less_len (a b : List Rec) : (lessR a b).length ≤ a.length := List.length_filter_le _ _
theorem rec_elem {ts : List Value} {df : List Deferred} {x : Operand} {r : Rec} (h : (Act.mk ts.toArray df).eval x = .agg #[str r.name, .int .i64 r.kind, .int .i64 r.ttl, str r.data]) : ElemIs (Act.mk ts.toArray df) x 4 [str r.name, .int .i64 r.kind, .int .i64 r.ttl, str r.data] :=
  ⟨h, rfl, rfl, by intro u hu; simp only [List.mem_cons, List.not_mem_nil, or_false] at hu; rcases hu with rfl | rfl | rfl | rfl <;> rfl⟩
set_option maxHeartbeats 3000000 in
theorem p_less (u v : Value) (a b : List Rec) (w : World) (hu : Sl 4 w u (rcells a)) (hv : Sl 4 w v (rcells b)) (hl : a.length ≤ 100000) : Calls Tryz.prog 67 #[u, v] w (Ret w fun r w' => Own w.heap.size 4 75 w' r (rcells (lessR a b))) := by
  have hlen := rcells_length a
  go_enter Tryz.func67, Tryz.ntmps67
  repeat' (first | ((with_reducible refine o_s ?_); (first | (refine o_1 ?_; refine o_2 ?_) | (refine o_g ?_; first | refine o_u ?_ | refine o_k ?_ | refine o_n ?_ | refine o_v ?_ | ((first | refine o_G ?_ ?_ | refine o_N ?_ ?_) <;> intro hc)))) | ((fail_if_success (with_reducible refine o_s ?_)); go_step))
  go_loopw [5, 7, 10] (fun o _ i wr => ∃ k : Nat, k ≤ a.length ∧ i = .int .i64 k ∧ Ext w wr ∧ Own w.heap.size 4 75 wr o (rcells (lessR (a.take k) b))) (fun _ _ i _ => a.length - (intOf i).toNat)
  case atStart => exact ⟨0, Nat.zero_le _, rfl, Ext.refl _, by simpa [lessR, rcells] using Own.nil _ _ _ _⟩
  case round =>
    obtain ⟨k, hk, rfl, hx, ho⟩ := hrel
    have hu2 := hu.ext hx
    by_cases hlt : k < a.length
    · have hpe := hu2.elem (rcells_at hlt)
      have hst := less_take (b := b) hlt
      have hll := less_len (a.take k) b
      rw [List.length_take] at hll
      have hcl := rcells_length (lessR (a.take k) b)
      repeat' (first | ((with_reducible refine o_s ?_); (first | (refine o_1 ?_; refine o_2 ?_) | (refine o_g ?_; first | refine o_u ?_ | refine o_k ?_ | refine o_n ?_ | refine o_v ?_ | ((first | refine o_G ?_ ?_ | refine o_N ?_ ?_) <;> intro hc)))) | ((fail_if_success (with_reducible refine o_s ?_)); go_step))
      refine wpl_allocB (z := zrec) rfl (by decide +kernel) ?_
      intro w2 x2 s2 h2
      refine gset ?_
      refine wpl_storeB (v := .agg #[str a[k].name, .int .i64 a[k].kind, .int .i64 a[k].ttl, str a[k].data]) rfl rfl rfl h2 (show sizeTy Tryz.prog 75 4 = true by decide +kernel) rfl (all4 rfl rfl rfl rfl) ?_
      intro w3 p3
      have x3 : Ext wr w3 := x2.move p3.mv (by rintro k ⟨⟩; exact Nat.le_refl _)
      have hp3 := pts_block (cs := [str a[k].name, .int .i64 a[k].kind, .int .i64 a[k].ttl, str a[k].data]) p3.this
      have hx3 := hx.trans x3
      have ho3 := ho.ext x3
      clear p3 h2 x2
      repeat' (first | ((with_reducible refine o_s ?_); (first | (refine o_1 ?_; refine o_2 ?_) | (refine o_g ?_; first | refine o_u ?_ | refine o_k ?_ | refine o_n ?_ | refine o_v ?_ | ((first | refine o_G ?_ ?_ | refine o_N ?_ ?_) <;> intro hc)))) | ((fail_if_success (with_reducible refine o_s ?_)); go_step))
      refine wpl_callV (enters_of Tryz.func76 rfl rfl) rfl rfl (p_Contains v b a[k] _ (hv.ext hx3)) ?_; intro w4 x4; refine gset ?_
      have hx4 := hx3.trans x4
      have ho4 := ho3.ext x4
      have hp4 := hp3.ext x4
      by_cases hm : a[k] ∈ b
      · rw [decide_eq_true hm]
        rw [if_pos hm, List.append_nil] at hst
        repeat' (first | ((with_reducible refine o_s ?_); (first | (refine o_1 ?_; refine o_2 ?_) | (refine o_g ?_; first | refine o_u ?_ | refine o_k ?_ | refine o_n ?_ | refine o_v ?_ | ((first | refine o_G ?_ ?_ | refine o_N ?_ ?_) <;> intro hc)))) | ((fail_if_success (with_reducible refine o_s ?_)); go_step))
        exact ⟨⟨k + 1, by omega, by go_num, hx4, by rw [hst]; exact ho4⟩, by simp [intOf]; omega⟩
      · rw [decide_eq_false hm]
        rw [if_neg hm] at hst
        repeat' (first | ((with_reducible refine o_s ?_); (first | (refine o_1 ?_; refine o_2 ?_) | (refine o_g ?_; first | refine o_u ?_ | refine o_k ?_ | refine o_n ?_ | refine o_v ?_ | ((first | refine o_G ?_ ?_ | refine o_N ?_ ?_) <;> intro hc)))) | ((fail_if_success (with_reducible refine o_s ?_)); go_step))
        refine ap1 [str a[k].name, .int .i64 a[k].kind, .int .i64 a[k].ttl, str a[k].data] hx4 ho4 (by omega) ?_ (rec_elem rfl)
        intro s5 v5 w5 w6 x5 m6 x6 o6
        refine gset ?_
        repeat' (first | ((with_reducible refine o_s ?_); (first | (refine o_1 ?_; refine o_2 ?_) | (refine o_g ?_; first | refine o_u ?_ | refine o_k ?_ | refine o_n ?_ | refine o_v ?_ | ((first | refine o_G ?_ ?_ | refine o_N ?_ ?_) <;> intro hc)))) | ((fail_if_success (with_reducible refine o_s ?_)); go_step))
        refine ⟨⟨k + 1, by omega, by go_num, x6, ?_⟩, by simp [intOf]; omega⟩
        rw [hst]
        simpa [rcells, Rec.cells] using o6
    · have : k = a.length := by omega
      subst this
      rw [List.take_length] at ho
      repeat' (first | ((with_reducible refine o_s ?_); (first | (refine o_1 ?_; refine o_2 ?_) | (refine o_g ?_; first | refine o_u ?_ | refine o_k ?_ | refine o_n ?_ | refine o_v ?_ | ((first | refine o_G ?_ ?_ | refine o_N ?_ ?_) <;> intro hc)))) | ((fail_if_success (with_reducible refine o_s ?_)); go_step))
      go_ret
      exact ⟨_, rfl, hx, ho⟩
set_option maxHeartbeats 3000000 in
theorem r10_less (u v : Value) (a b : List Rec) (w : World) (hu : Sl 4 w u (rcells a)) (hv : Sl 4 w v (rcells b)) (hl : a.length ≤ 100000) : Calls Tryz.prog 70 #[u, v] w (Ret w fun r w' => Own w.heap.size 4 75 w' r (rcells (lessR a b))) := by
  have hlen := rcells_length a
  go_enter Tryz.func70, Tryz.ntmps70
  repeat' (first | ((with_reducible refine o_s ?_); (first | (refine o_1 ?_; refine o_2 ?_) | (refine o_g ?_; first | refine o_u ?_ | refine o_k ?_ | refine o_n ?_ | refine o_v ?_ | ((first | refine o_G ?_ ?_ | refine o_N ?_ ?_) <;> intro hc)))) | ((fail_if_success (with_reducible refine o_s ?_)); go_step))
  go_loopw [5, 6] (fun o i wr => ∃ k : Nat, k ≤ a.length ∧ i = .int .i64 k ∧ Ext w wr ∧ Own w.heap.size 4 75 wr o (rcells (lessR (a.take k) b))) (fun _ i _ => a.length - (intOf i).toNat)
  case atStart => exact ⟨0, Nat.zero_le _, rfl, Ext.refl _, by simpa [lessR, rcells] using Own.nil _ _ _ _⟩
  case round =>
    obtain ⟨k, hk, rfl, hx, ho⟩ := hrel
    have hu2 := hu.ext hx
    by_cases hlt : k < a.length
    · have hpe := hu2.elem (rcells_at hlt)
      have hst := less_take (b := b) hlt
      have hll := less_len (a.take k) b
      rw [List.length_take] at hll
      have hcl := rcells_length (lessR (a.take k) b)
      repeat' (first | ((with_reducible refine o_s ?_); (first | (refine o_1 ?_; refine o_2 ?_) | (refine o_g ?_; first | refine o_u ?_ | refine o_k ?_ | refine o_n ?_ | refine o_v ?_ | ((first | refine o_G ?_ ?_ | refine o_N ?_ ?_) <;> intro hc)))) | ((fail_if_success (with_reducible refine o_s ?_)); go_step))
      refine wpl_callV (enters_of Tryz.func77 rfl rfl) rfl rfl (r10_Has v b a[k] _ (hv.ext hx)) ?_; intro w4 x4; refine gset ?_
      have hx4 := hx.trans x4
      have ho4 := ho.ext x4
      have hu4 := hu2.ext x4
      have hpe4 := hpe.ext x4
      by_cases hm : a[k] ∈ b
      · rw [decide_eq_true hm]
        rw [if_pos hm, List.append_nil] at hst
        repeat' (first | ((with_reducible refine o_s ?_); (first | (refine o_1 ?_; refine o_2 ?_) | (refine o_g ?_; first | refine o_u ?_ | refine o_k ?_ | refine o_n ?_ | refine o_v ?_ | ((first | refine o_G ?_ ?_ | refine o_N ?_ ?_) <;> intro hc)))) | ((fail_if_success (with_reducible refine o_s ?_)); go_step))
        exact ⟨⟨k + 1, by omega, by go_num, hx4, by rw [hst]; exact ho4⟩, by simp [intOf]; omega⟩
      · rw [decide_eq_false hm]
        rw [if_neg hm] at hst
        repeat' (first | ((with_reducible refine o_s ?_); (first | (refine o_1 ?_; refine o_2 ?_) | (refine o_g ?_; first | refine o_u ?_ | refine o_k ?_ | refine o_n ?_ | refine o_v ?_ | ((first | refine o_G ?_ ?_ | refine o_N ?_ ?_) <;> intro hc)))) | ((fail_if_success (with_reducible refine o_s ?_)); go_step))
        refine ap1 [str a[k].name, .int .i64 a[k].kind, .int .i64 a[k].ttl, str a[k].data] hx4 ho4 (by omega) ?_ (rec_elem rfl)
        intro s5 v5 w5 w6 x5 m6 x6 o6
        refine gset ?_
        repeat' (first | ((with_reducible refine o_s ?_); (first | (refine o_1 ?_; refine o_2 ?_) | (refine o_g ?_; first | refine o_u ?_ | refine o_k ?_ | refine o_n ?_ | refine o_v ?_ | ((first | refine o_G ?_ ?_ | refine o_N ?_ ?_) <;> intro hc)))) | ((fail_if_success (with_reducible refine o_s ?_)); go_step))
        refine ⟨⟨k + 1, by omega, by go_num, x6, ?_⟩, by simp [intOf]; omega⟩
        rw [hst]
        simpa [rcells, Rec.cells] using o6
    · have : k = a.length := by omega
      subst this
      rw [List.take_length] at ho
      repeat' (first | ((with_reducible refine o_s ?_); (first | (refine o_1 ?_; refine o_2 ?_) | (refine o_g ?_; first | refine o_u ?_ | refine o_k ?_ | refine o_n ?_ | refine o_v ?_ | ((first | refine o_G ?_ ?_ | refine o_N ?_ ?_) <;> intro hc)))) | ((fail_if_success (with_reducible refine o_s ?_)); go_step))
      go_ret
      exact ⟨_, rfl, hx, ho⟩
set_option maxHeartbeats 3000000 in
theorem p_CloneR (v : Value) (l : List Rec) (w : World) (hv : Sl 4 w v (rcells l)) (hl : l.length ≤ 1000000) : Calls Tryz.prog 82 #[v] w (Ret w fun v' w' => Own w.heap.size 4 75 w' v' (rcells l)) := by
  have hlen := rcells_length l
  go_enter Tryz.func82, Tryz.ntmps82
  repeat' (first | ((with_reducible refine o_s ?_); (first | (refine o_1 ?_; refine o_2 ?_) | (refine o_g ?_; first | refine o_u ?_ | refine o_k ?_ | refine o_n ?_ | refine o_v ?_ | ((first | refine o_G ?_ ?_ | refine o_N ?_ ?_) <;> intro hc)))) | ((fail_if_success (with_reducible refine o_s ?_)); go_step))
  · have hn := ‹isNil v = true›
    go_ret
    have : rcells l = [] := hv.isNil hn
    refine ⟨_, rfl, Ext.refl _, ?_⟩
    rw [this]
    exact Own.nil _ _ _ _
  · refine wpl_slice0 (t := 28) (e := 75) (k := 4) (bytes := 48) (by decide +kernel) rfl ?_
    intro v2 w2 x2 s2 o2
    refine gset ?_
    repeat' (first | ((with_reducible refine o_s ?_); (first | (refine o_1 ?_; refine o_2 ?_) | (refine o_g ?_; first | refine o_u ?_ | refine o_k ?_ | refine o_n ?_ | refine o_v ?_ | ((first | refine o_G ?_ ?_ | refine o_N ?_ ?_) <;> intro hc)))) | ((fail_if_success (with_reducible refine o_s ?_)); go_step))
    refine wpl_appendO (B := w.heap.size) (e := 75) rfl o2 rfl (hv.ext x2) (by intro f hf u hu; obtain ⟨r, _, rfl⟩ := List.mem_map.1 hf; simp only [Rec.cells, List.mem_cons, List.not_mem_nil, or_false] at hu; rcases hu with rfl | rfl | rfl | rfl <;> rfl) x2.size (by simp; omega) ?_
    intro v3 w3 o3 m3 _
    have x3 := o2.mvx m3 x2 (Nat.le_refl _)
    refine gset ?_
    repeat' (first | ((with_reducible refine o_s ?_); (first | (refine o_1 ?_; refine o_2 ?_) | (refine o_g ?_; first | refine o_u ?_ | refine o_k ?_ | refine o_n ?_ | refine o_v ?_ | ((first | refine o_G ?_ ?_ | refine o_N ?_ ?_) <;> intro hc)))) | ((fail_if_success (with_reducible refine o_s ?_)); go_step))
    go_ret
    exact ⟨_, rfl, x3, by simpa using o3⟩
def zdel : List Value := [.int .i64 0, .int .i64 0, .slice none 0 0, .slice none 0 0]
def DelA (d : DeltaR) (r : Value) (w : World) : Prop := ∃ g n, r = .agg #[.int .i64 d.fr, .int .i64 d.to, g, n] ∧ Sl 4 w g (rcells d.gone) ∧ Sl 4 w n (rcells d.new)
def DelO (B : Nat) (d : DeltaR) (r : Value) (w : World) : Prop := ∃ g n, r = .agg #[.int .i64 d.fr, .int .i64 d.to, g, n] ∧ Own B 4 75 w g (rcells d.gone) ∧ Own B 4 75 w n (rcells d.new)
theorem DelO.a {B : Nat} {d : DeltaR} {r : Value} {w : World} (h : DelO B d r w) : DelA d r w := let ⟨g, n, e, a, b⟩ := h; ⟨g, n, e, a.sl, b.sl⟩
def DelU (B : Nat) (d : DeltaR) (e : Int) (r : Value) (w : World) : Prop := ∃ y, r = .tuple #[y, .int .i64 e] ∧ DelO B d y w
theorem DelU.bad {B : Nat} {d : DeltaR} {e : Int} {w : World} (h : d = zeroD) : DelU B d e (.tuple #[.agg zdel.toArray, .int .i64 e]) w := by
  subst h
  exact ⟨_, rfl, _, _, rfl, Own.nil _ _ _ _, Own.nil _ _ _ _⟩
theorem mkD_bad {oa ob : List UInt8} {la lb : List RSet} (h : mkE oa la ob lb ≠ 0) : mkD oa la ob lb = zeroD := if_neg h
set_option maxHeartbeats 6000000 in
theorem p_Make (oa : List UInt8) (u : Value) (la : List RSet) (ob : List UInt8) (v : Value) (lb : List RSet) (w : World) (hu : SetsAt w u la) (hv : SetsAt w v lb)
    (ba : ∀ s ∈ la, s.data.length ≤ 1000000) (da : ∀ s ∈ la, ∀ d ∈ s.data, d.length ≤ 4611686018427387904) (bb : ∀ s ∈ lb, s.data.length ≤ 1000000) (db : ∀ s ∈ lb, ∀ d ∈ s.data, d.length ≤ 4611686018427387904)
    (h1 : (recordsS la).length ≤ 100000) (h2 : (recordsS lb).length ≤ 100000) : Calls Tryz.prog 21 #[.agg #[str oa, u], .agg #[str ob, v]] w (Ret w (DelU w.heap.size (mkD oa la ob lb) (mkE oa la ob lb))) := by
  go_enter Tryz.func21, Tryz.ntmps21
  repeat' ((fail_if_success (with_reducible refine o_s ?_)); go_step)
  refine wpl_box (vs := [str oa, u]) rfl rfl ?_
  intro p w1 x1 hp
  refine gset ?_
  refine wpl_box (vs := [str ob, v]) rfl rfl ?_
  intro q w2 x2 hq
  refine gset ?_
  refine wpl_allocB (z := zdel) rfl (by decide +kernel) ?_
  intro w3 x3 s3 h3
  refine gset ?_
  have hx3 := (x1.trans x2).trans x3
  have zz := (x1.trans x2).size
  have hp3 := (hp.ext x2).ext x3
  have hq3 := hq.ext x3
  repeat' (first | ((with_reducible refine o_s ?_); (first | (refine o_1 ?_; refine o_2 ?_) | (refine o_g ?_; first | refine o_u ?_ | refine o_k ?_ | refine o_n ?_ | refine o_v ?_ | ((first | refine o_G ?_ ?_ | refine o_N ?_ ?_) <;> intro hc)))) | ((fail_if_success (with_reducible refine o_s ?_)); go_step))
  refine wpl_callV (enters_of Tryz.func63 rfl rfl) rfl rfl (p_Soa oa u la _ (hu.ext hx3) ba da) ?_; intro w4 x4; refine gset ?_
  have hx4 := hx3.trans x4
  repeat' (first | ((with_reducible refine o_s ?_); (first | (refine o_1 ?_; refine o_2 ?_) | (refine o_g ?_; first | refine o_u ?_ | refine o_k ?_ | refine o_n ?_ | refine o_v ?_ | ((first | refine o_G ?_ ?_ | refine o_N ?_ ?_) <;> intro hc)))) | ((fail_if_success (with_reducible refine o_s ?_)); go_step))
  refine wpl_allocB (z := zeroSoa) rfl (by decide +kernel) ?_
  intro w5 x5 s5 h5
  refine gset ?_
  refine wpl_storeB (v := .agg (soaZ oa la).cells.toArray) rfl rfl rfl h5 (show sizeTy Tryz.prog 103 7 = true by decide +kernel) rfl (soaR_one _) ?_
  intro w6 p6
  have x46 : Ext w4 w6 := x5.move p6.mv (by rintro k ⟨⟩; exact Nat.le_refl _)
  have b6 : w6.heap[w4.heap.size]? = some (.cells (soaZ oa la).cells.toArray 103 (0, 0)) := p6.this
  have x36 := x4.trans x46
  have hx6 := hx3.trans x36
  clear p6 h5 x5
  have h6 := x36.at h3
  have hp6 := hp3.ext x36
  have hq6 := hq3.ext x36
  repeat' (first | ((with_reducible refine o_s ?_); (first | (refine o_1 ?_; refine o_2 ?_) | (refine o_g ?_; first | refine o_u ?_ | refine o_k ?_ | refine o_n ?_ | refine o_v ?_ | ((first | refine o_G ?_ ?_ | refine o_N ?_ ?_) <;> intro hc)))) | ((fail_if_success (with_reducible refine o_s ?_)); go_step))
  · have q0 : ¬ zoneR oa la = 0 := by simpa using (by assumption : (!decide (zoneR oa la = 0)) = true)
    refine wpl_run (v := .agg zdel.toArray) rfl (Runs.build0 (by kernel_rfl)) ?_
    refine gset ?_
    repeat' (first | ((with_reducible refine o_s ?_); (first | (refine o_1 ?_; refine o_2 ?_) | (refine o_g ?_; first | refine o_u ?_ | refine o_k ?_ | refine o_n ?_ | refine o_v ?_ | ((first | refine o_G ?_ ?_ | refine o_N ?_ ?_) <;> intro hc)))) | ((fail_if_success (with_reducible refine o_s ?_)); go_step))
    refine wpl_storeB (v := .agg zdel.toArray) rfl rfl rfl h6 (by decide +kernel) rfl (by decide +kernel) ?_
    intro w7 p7
    have x7 : Ext w w7 := hx6.move p7.mv (by rintro k ⟨⟩; exact zz)
    repeat' (first | ((with_reducible refine o_s ?_); (first | (refine o_1 ?_; refine o_2 ?_) | (refine o_g ?_; first | refine o_u ?_ | refine o_k ?_ | refine o_n ?_ | refine o_v ?_ | ((first | refine o_G ?_ ?_ | refine o_N ?_ ?_) <;> intro hc)))) | ((fail_if_success (with_reducible refine o_s ?_)); go_step))
    refine bodyPost_ret (results_cellT (cs := zdel) rfl rfl p7.this (by decide +kernel)) rfl ⟨_, rfl, x7, ?_⟩
    have he : mkE oa la ob lb = zoneR oa la := by rw [mkE, if_neg q0]
    rw [mkD_bad (by rw [he]; exact q0), he]
    exact DelU.bad rfl
  · have q0 : zoneR oa la = 0 := by simpa using (by assumption : (!decide (zoneR oa la = 0)) = false)
    refine wpl_callV (enters_of Tryz.func63 rfl rfl) rfl rfl (p_Soa ob v lb _ (hv.ext hx6) bb db) ?_; intro w7 x7; refine gset ?_
    have hx7 := hx6.trans x7
    repeat' (first | ((with_reducible refine o_s ?_); (first | (refine o_1 ?_; refine o_2 ?_) | (refine o_g ?_; first | refine o_u ?_ | refine o_k ?_ | refine o_n ?_ | refine o_v ?_ | ((first | refine o_G ?_ ?_ | refine o_N ?_ ?_) <;> intro hc)))) | ((fail_if_success (with_reducible refine o_s ?_)); go_step))
    refine wpl_allocB (z := zeroSoa) rfl (by decide +kernel) ?_
    intro w8 x8 s8 h8
    refine gset ?_
    refine wpl_storeB (v := .agg (soaZ ob lb).cells.toArray) rfl rfl rfl h8 (show sizeTy Tryz.prog 103 7 = true by decide +kernel) rfl (soaR_one _) ?_
    intro w9 p9
    have x79 : Ext w7 w9 := x8.move p9.mv (by rintro k ⟨⟩; exact Nat.le_refl _)
    have c9 : w9.heap[w7.heap.size]? = some (.cells (soaZ ob lb).cells.toArray 103 (0, 0)) := p9.this
    have x69 := x7.trans x79
    have hx9 := hx6.trans x69
    clear p9 h8 x8
    have h9 := x69.at h6
    have b9 := x69.at b6
    have hp9 := hp6.ext x69
    have hq9 := hq6.ext x69
    repeat' (first | ((with_reducible refine o_s ?_); (first | (refine o_1 ?_; refine o_2 ?_) | (refine o_g ?_; first | refine o_u ?_ | refine o_k ?_ | refine o_n ?_ | refine o_v ?_ | ((first | refine o_G ?_ ?_ | refine o_N ?_ ?_) <;> intro hc)))) | ((fail_if_success (with_reducible refine o_s ?_)); go_step))
    · have q1 : ¬ zoneR ob lb = 0 := by simpa using (by assumption : (!decide (zoneR ob lb = 0)) = true)
      refine wpl_run (v := .agg zdel.toArray) rfl (Runs.build0 (by kernel_rfl)) ?_
      refine gset ?_
      repeat' (first | ((with_reducible refine o_s ?_); (first | (refine o_1 ?_; refine o_2 ?_) | (refine o_g ?_; first | refine o_u ?_ | refine o_k ?_ | refine o_n ?_ | refine o_v ?_ | ((first | refine o_G ?_ ?_ | refine o_N ?_ ?_) <;> intro hc)))) | ((fail_if_success (with_reducible refine o_s ?_)); go_step))
      refine wpl_storeB (v := .agg zdel.toArray) rfl rfl rfl h9 (by decide +kernel) rfl (by decide +kernel) ?_
      intro wz pz
      have xz : Ext w wz := hx9.move pz.mv (by rintro k ⟨⟩; exact zz)
      repeat' (first | ((with_reducible refine o_s ?_); (first | (refine o_1 ?_; refine o_2 ?_) | (refine o_g ?_; first | refine o_u ?_ | refine o_k ?_ | refine o_n ?_ | refine o_v ?_ | ((first | refine o_G ?_ ?_ | refine o_N ?_ ?_) <;> intro hc)))) | ((fail_if_success (with_reducible refine o_s ?_)); go_step))
      refine bodyPost_ret (results_cellT (cs := zdel) rfl rfl pz.this (by decide +kernel)) rfl ⟨_, rfl, xz, ?_⟩
      have he : mkE oa la ob lb = zoneR ob lb := by rw [mkE, if_pos q0, if_neg q1]
      rw [mkD_bad (by rw [he]; exact q1), he]
      exact DelU.bad rfl
    · have q1 : zoneR ob lb = 0 := by simpa using (by assumption : (!decide (zoneR ob lb = 0)) = false)
      · have q2 : ¬ oa = ob := by simpa using (by assumption : (!decide (oa = ob)) = true)
        refine wpl_run (v := .agg zdel.toArray) rfl (Runs.build0 (by kernel_rfl)) ?_
        refine gset ?_
        repeat' (first | ((with_reducible refine o_s ?_); (first | (refine o_1 ?_; refine o_2 ?_) | (refine o_g ?_; first | refine o_u ?_ | refine o_k ?_ | refine o_n ?_ | refine o_v ?_ | ((first | refine o_G ?_ ?_ | refine o_N ?_ ?_) <;> intro hc)))) | ((fail_if_success (with_reducible refine o_s ?_)); go_step))
        refine wpl_storeB (v := .agg zdel.toArray) rfl rfl rfl h9 (by decide +kernel) rfl (by decide +kernel) ?_
        intro wz pz
        have xz : Ext w wz := hx9.move pz.mv (by rintro k ⟨⟩; exact zz)
        repeat' (first | ((with_reducible refine o_s ?_); (first | (refine o_1 ?_; refine o_2 ?_) | (refine o_g ?_; first | refine o_u ?_ | refine o_k ?_ | refine o_n ?_ | refine o_v ?_ | ((first | refine o_G ?_ ?_ | refine o_N ?_ ?_) <;> intro hc)))) | ((fail_if_success (with_reducible refine o_s ?_)); go_step))
        refine bodyPost_ret (results_cellT (cs := zdel) rfl rfl pz.this (by decide +kernel)) rfl ⟨_, rfl, xz, ?_⟩
        have he : mkE oa la ob lb = 1 := by rw [mkE, if_pos q0, if_pos q1, if_neg q2]
        rw [mkD_bad (by rw [he]; decide), he]
        exact DelU.bad rfl
    · have q1 : zoneR ob lb = 0 := by simpa using (by assumption : (!decide (zoneR ob lb = 0)) = false)
      have q2 : oa = ob := by simpa using (by assumption : (!decide (oa = ob)) = false)
      have he : mkE oa la ob lb = 0 := by rw [mkE, if_pos q0, if_pos q1, if_pos q2]
      refine wph_region (S := fun w' => Ext w9 w') (by decide +kernel) ?_
      intro w10 x10 hh10
      refine tk 0 ?_; refine gset ?_; refine tk 1 ?_; refine gset ?_; refine tk 3 ?_; refine gset ?_; refine tk 4 ?_; refine gset ?_
      refine wph_one (i := 2) (by decide +kernel) rfl rfl ?_
      refine wpl_callR (enters_of Tryz.func43 rfl rfl) rfl rfl (t10 u la _ (hu.ext (hx9.trans x10)) (by omega)) ?_
      intro r1 w11 x11 o11
      refine gset ?_
      have x911 := x10.trans x11
      refine wph_nil ⟨x911, ?_⟩
      refine wph_one (i := 5) (by decide +kernel) rfl rfl ?_
      refine wpl_callR (enters_of Tryz.func43 rfl rfl) rfl rfl (t10 v lb _ (hv.ext (hx9.trans x911)) (by omega)) ?_
      intro r2 w12 x12 o12
      refine gset ?_
      have x912 := x911.trans x12
      refine wph_nil ⟨x912, ?_⟩
      refine tk 6 ?_; refine gset ?_; refine tk 7 ?_; refine gset ?_
      refine wph_done (by decide +kernel) ?_
      have hx12 := hx9.trans x912
      have h12 := x912.at h9
      have sr1 := (o11.ext x12).sl
      have sr2 := o12.sl
      have pb12 := pts_block (x912.at b9)
      have pc12 := pts_block (x912.at c9)
      repeat' (first | ((with_reducible refine o_s ?_); (first | (refine o_1 ?_; refine o_2 ?_) | (refine o_g ?_; first | refine o_u ?_ | refine o_k ?_ | refine o_n ?_ | refine o_v ?_ | ((first | refine o_G ?_ ?_ | refine o_N ?_ ?_) <;> intro hc)))) | ((fail_if_success (with_reducible refine o_s ?_)); go_step))
      refine wpi_region 11 (Ext w12) (by decide +kernel) ?_
      intro w13 x13 _
      refine ⟨x13, ?_⟩
      ((with_reducible apply wpi_take (i := 0)); (rfl); (rfl); (rfl); (decide +kernel); (decide +kernel); (decide +kernel); (decide +kernel); (rfl); (intro _ _; exact rn); (exact fun _ _ _ h => h); (refine gset ?_)); ((with_reducible apply wpi_take (i := 1)); (rfl); (rfl); (rfl); (decide +kernel); (decide +kernel); (decide +kernel); (decide +kernel); (rfl); (intro _ _; exact rn); (exact fun _ _ _ h => h); (refine gset ?_)); ((with_reducible apply wpi_take (i := 2)); (rfl); (rfl); (rfl); (decide +kernel); (decide +kernel); (decide +kernel); (decide +kernel); (rfl); (intro _ _; exact rn); (exact fun _ _ _ h => h); (refine gset ?_)); ((with_reducible apply wpi_take (i := 3)); (rfl); (rfl); (rfl); (decide +kernel); (decide +kernel); (decide +kernel); (decide +kernel); (rfl); (intro _ _; exact rn); (exact fun _ _ _ h => h); (refine gset ?_)); ((with_reducible apply wpi_take (i := 4)); (rfl); (rfl); (rfl); (decide +kernel); (decide +kernel); (decide +kernel); (decide +kernel); (rfl); (intro _ _; exact rn); (exact fun _ _ _ h => h); (refine gset ?_)); ((with_reducible apply wpi_take (i := 5)); (rfl); (rfl); (rfl); (decide +kernel); (decide +kernel); (decide +kernel); (decide +kernel); (rfl); (intro _ _; exact rn); (exact fun _ _ _ h => h); (refine gset ?_)); ((with_reducible apply wpi_take (i := 7)); (rfl); (rfl); (rfl); (decide +kernel); (decide +kernel); (decide +kernel); (decide +kernel); (rfl); (intro _ _; exact rn); (exact fun _ _ _ h => h); (refine gset ?_)); ((with_reducible apply wpi_take (i := 8)); (rfl); (rfl); (rfl); (decide +kernel); (decide +kernel); (decide +kernel); (decide +kernel); (rfl); (intro _ _; exact rn); (exact fun _ _ _ h => h); (refine gset ?_))
      refine wpi_op (i := 6) (by decide +kernel) rfl rfl ?_
      refine wpl_callR (enters_of Tryz.func67 rfl rfl) rfl rfl (p_less r1 r2 _ _ _ (sr1.ext x13) (sr2.ext x13) (by omega)) ?_
      intro g w14 x14 og
      refine gset ?_
      have x1214 := x13.trans x14
      refine wph_nil ⟨till_yes x1214, ?_⟩
      refine wpi_op (i := 9) (by decide +kernel) rfl rfl ?_
      refine wpl_callR (enters_of Tryz.func67 rfl rfl) rfl rfl (p_less r2 r1 _ _ _ (sr2.ext x1214) (sr1.ext x1214) (by omega)) ?_
      intro n w15 x15 on
      refine gset ?_
      have x1215 := x1214.trans x15
      refine wph_nil ⟨till_yes x1215, ?_⟩
      have sg := (og.ext x15).sl
      have sn := on.sl
      refine wpi_take (i := 10) (v := .agg #[.int .i64 (soaZ oa la).serial, .int .i64 (soaZ ob lb).serial, g, n]) rfl rfl rfl (by decide +kernel) (by decide +kernel) (by decide +kernel) (by decide +kernel) rfl (fun w' _ => Runs.build rfl (by obtain ⟨_, _, _, rfl⟩ := sg.slf; obtain ⟨_, _, _, rfl⟩ := sn.slf; kernel_rfl)) (fun _ _ _ h => h) ?_
      refine gset ?_
      refine wpi_op (i := 11) (by decide +kernel) rfl rfl ?_
      have h15 := x1215.at h12
      refine wpl_storeB (v := .agg #[.int .i64 (soaZ oa la).serial, .int .i64 (soaZ ob lb).serial, g, n]) rfl rfl rfl h15 (show sizeTy Tryz.prog 30 4 = true by decide +kernel) rfl (all4 rfl rfl sg.one sn.one) ?_
      intro w16 p16
      refine wph_nil ⟨till_no rfl, ?_⟩
      ((with_reducible apply wpi_pure (i := 12)); (rfl); (rfl); (rfl); (decide +kernel); (decide +kernel); (decide +kernel); (rfl); (intro _; exact rn); (exact fun _ _ _ h => h); (refine gset ?_))
      refine wpi_done (by decide +kernel) ?_
      have x16 : Ext w w16 := (hx12.trans x1215).move p16.mv (by rintro k ⟨⟩; exact zz)
      repeat' (first | ((with_reducible refine o_s ?_); (first | (refine o_1 ?_; refine o_2 ?_) | (refine o_g ?_; first | refine o_u ?_ | refine o_k ?_ | refine o_n ?_ | refine o_v ?_ | ((first | refine o_G ?_ ?_ | refine o_N ?_ ?_) <;> intro hc)))) | ((fail_if_success (with_reducible refine o_s ?_)); go_step))
      refine bodyPost_ret (results_cellT (cs := [.int .i64 (soaZ oa la).serial, .int .i64 (soaZ ob lb).serial, g, n]) rfl rfl p16.this (show aggTy Tryz.prog 30 4 = true by decide +kernel)) rfl ⟨_, rfl, x16, ?_⟩
      have hd : mkD oa la ob lb = ⟨(soaZ oa la).serial, (soaZ ob lb).serial, lessR (recordsS la) (recordsS lb), lessR (recordsS lb) (recordsS la)⟩ := by rw [mkD, if_pos he]
      rw [hd, he]
      exact ⟨_, rfl, g, n, rfl, (og.ext x15).mv p16.mv (.inr ((og.ext x15).neBlock h15 (by decide))) |>.weaken (hx12.trans x13).size, on.mv p16.mv (.inr (on.neBlock h15 (by decide))) |>.weaken (hx12.trans x1214).size⟩
theorem rcells_one {l : List Rec} : ∀ f ∈ rcells l, ∀ u ∈ f, u.oneCell' = true := by
  intro f hf u hu
  obtain ⟨r, _, rfl⟩ := List.mem_map.1 hf
  simp only [Rec.cells, List.mem_cons, List.not_mem_nil, or_false] at hu
  rcases hu with rfl | rfl | rfl | rfl <;> rfl
set_option maxHeartbeats 4000000 in
theorem p_Delete {B : Nat} {v : Value} {l : List Rec} {w : World} {i : Nat} (h : Own B 4 75 w v (rcells l)) (hi : i < l.length) (hl : l.length ≤ 1000000) : Calls Tryz.prog 75 #[v, .int .i64 i, .int .i64 (i + 1 : Nat)] w fun e w' => ∃ v', e = .returned v' ∧ Own B 4 75 w' v' (rcells (l.eraseIdx i)) ∧ Mv v.ownBlock w w' ∧ v'.ownBlock = v.ownBlock := by
  have hlen := rcells_length l
  have h1c := rcells_one (l := l)
  rcases h.form with ⟨rfl, hn⟩ | ⟨g, cap, rfl, hg, hb, hc, _⟩
  · exfalso
    rw [hn] at hlen
    simp at hlen; omega
  · have hs := h.sl
    rw [hlen] at hc
    have hs' := hs
    rw [hlen] at hs'
    go_enter Tryz.func75, Tryz.ntmps75
    repeat' (first | ((with_reducible refine o_s ?_); (first | (refine o_1 ?_; refine o_2 ?_) | (refine o_g ?_; first | refine o_u ?_ | refine o_k ?_ | refine o_n ?_ | refine o_v ?_ | ((first | refine o_G ?_ ?_ | refine o_N ?_ ?_) <;> intro hc)))) | ((fail_if_success (with_reducible refine o_s ?_)); go_step))
    refine wpl_run0 (Runs.cut3 (k := 4) (m := i) (n := i + 1) (p := l.length) (l := (rcells l).length) (c := cap) (ad := some ⟨g, 0, none⟩) rfl rfl rfl (by rw [← hlen]; rfl) (by omega) (by omega) hc (by decide +kernel)) ?_
    refine gset ?_
    repeat' (first | ((with_reducible refine o_s ?_); (first | (refine o_1 ?_; refine o_2 ?_) | (refine o_g ?_; first | refine o_u ?_ | refine o_k ?_ | refine o_n ?_ | refine o_v ?_ | ((first | refine o_G ?_ ?_ | refine o_N ?_ ?_) <;> intro hc)))) | ((fail_if_success (with_reducible refine o_s ?_)); go_step))
    refine wpi_region 6 (fun w' => Sl 4 w' (Value.slice (some ⟨g, 0, none⟩) (rcells l).length cap) (rcells l)) (by decide +kernel) ?_
    intro w1 x1 _
    refine ⟨hs.ext x1, ?_⟩
    ((with_reducible apply wpi_take (i := 0)); (rfl); (rfl); (rfl); (decide +kernel); (decide +kernel); (decide +kernel); (decide +kernel); (rfl); (intro _ _; exact rn); (exact fun _ _ _ h => h); (refine gset ?_)); ((with_reducible apply wpi_take (i := 1)); (rfl); (rfl); (rfl); (decide +kernel); (decide +kernel); (decide +kernel); (decide +kernel); (rfl); (intro _ _; exact rn); (exact fun _ _ _ h => h); (refine gset ?_)); ((with_reducible apply wpi_take (i := 2)); (rfl); (rfl); (rfl); (decide +kernel); (decide +kernel); (decide +kernel); (decide +kernel); (rfl); (intro _ _; exact rn); (exact fun _ _ _ h => h); (refine gset ?_)); ((with_reducible apply wpi_take (i := 3)); (rfl); (rfl); (rfl); (decide +kernel); (decide +kernel); (decide +kernel); (decide +kernel); (rfl); (intro _ _; exact rn); (exact fun _ _ _ h => h); (refine gset ?_)); ((with_reducible apply wpi_take (i := 4)); (rfl); (rfl); (rfl); (decide +kernel); (decide +kernel); (decide +kernel); (decide +kernel); (rfl); (intro _ _; exact rn); (exact fun _ _ _ h => h); (refine gset ?_)); ((with_reducible apply wpi_take (i := 5)); (rfl); (rfl); (rfl); (decide +kernel); (decide +kernel); (decide +kernel); (decide +kernel); (rfl); (intro _ _; exact rn); (exact fun _ _ _ h => h); (refine gset ?_))
    have e22 : cutSl (Value.slice (some ⟨g, 0, none⟩) (rcells l).length cap) 4 0 i = .slice (some ⟨g, 0, none⟩) i cap := by simp [cutSl, add_none]
    obtain ⟨ad, e25⟩ : ∃ ad, cutSl (Value.slice (some ⟨g, 0, none⟩) (rcells l).length cap) 4 (i + 1) (rcells l).length = .slice (some ad) ((rcells l).length - (i + 1)) (cap - (i + 1)) := by
      by_cases hq : cap = i + 1
      · exact ⟨⟨g, 0, none⟩, by simp [cutSl, hq]⟩
      · exact ⟨_, by simp only [cutSl, if_neg hq]; rfl⟩
    have hcut := (hs.ext x1).cut (m := i + 1) (n := (rcells l).length) (by omega) (Nat.le_refl _)
    rw [e25, List.take_length] at hcut
    refine wpi_op (i := 6) (by decide +kernel) rfl rfl ?_
    refine wpl_appOver (i := i) (j := i + 1) (h.ext x1) e22 e25 hcut (by omega) (by omega) h1c ?_
    intro w2 o2 m2
    refine gset ?_
    refine wph_nil ⟨till_no rfl, ?_⟩
    ((with_reducible apply wpi_pure (i := 7)); (rfl); (rfl); (rfl); (decide +kernel); (decide +kernel); (decide +kernel); (rfl); (intro _; exact rn); (exact fun _ _ _ h => h); (refine gset ?_))
    refine wpi_done (by decide +kernel) ?_
    obtain ⟨m, hm⟩ : ∃ m, i + ((rcells l).length - (i + 1)) = m := ⟨_, rfl⟩
    rw [hm] at o2 ⊢
    have ee : (rcells l).take i ++ (rcells l).drop (i + 1) = rcells (l.eraseIdx i) := by
      rw [List.eraseIdx_eq_take_drop_succ]; simp [rcells, List.map_take, List.map_drop]
    rw [ee] at o2
    have hml : (rcells (l.eraseIdx i)).length = m := by rw [rcells_length, List.length_eraseIdx_of_lt hi]; omega
    have h2l : (rcells (l.eraseIdx i) ++ (rcells l).drop m).length = (rcells l).length := by rw [List.length_append, hml, List.length_drop]; omega
    have hsh := o2
    rw [← h2l] at hsh
    have hsh := hsh.short (m := m) (by omega)
    rw [List.take_left' hml] at hsh
    have hs2 := hsh.sl
    repeat' (first | ((with_reducible refine o_s ?_); (first | (refine o_1 ?_; refine o_2 ?_) | (refine o_g ?_; first | refine o_u ?_ | refine o_k ?_ | refine o_n ?_ | refine o_v ?_ | ((first | refine o_G ?_ ?_ | refine o_N ?_ ?_) <;> intro hc)))) | ((fail_if_success (with_reducible refine o_s ?_)); go_step))
    refine wpl_run0 (Runs.cutC (k := 4) (m := m) (n := l.length) (l := m) (c := cap) (ad := some ⟨g, 0, none⟩) rfl (by rw [← hml]; rfl) (by rw [← hlen]; rfl) (by omega) hc (by decide +kernel)) ?_
    refine gset ?_
    have e31 : (if cap = m then some (⟨g, 0, none⟩ : Addr) else Option.map (fun x : Addr => x.add (m * 4)) (some (⟨g, 0, none⟩ : Addr))) = some (⟨g, m * 4, none⟩ : Addr) := by
      rw [if_neg (by omega)]; simp [add_none]
    rw [e31]
    rw [← h2l] at o2
    have h2l' : (rcells (l.eraseIdx i) ++ (rcells l).drop m).length = l.length := by omega
    refine wpl_clearO (m := m) (z := zrec) o2 (by rw [h2l']; rfl) (by omega) ?_
    intro w3 o3 m3
    rw [List.take_left' hml] at o3
    repeat' (first | ((with_reducible refine o_s ?_); (first | (refine o_1 ?_; refine o_2 ?_) | (refine o_g ?_; first | refine o_u ?_ | refine o_k ?_ | refine o_n ?_ | refine o_v ?_ | ((first | refine o_G ?_ ?_ | refine o_N ?_ ?_) <;> intro hc)))) | ((fail_if_success (with_reducible refine o_s ?_)); go_step))
    go_ret
    exact ⟨_, rfl, o3, (x1.mv (some g)).trans (m2.trans m3), rfl⟩
set_option maxHeartbeats 500000 in
theorem r8_Few (o : List UInt8) (v : Value) (l : List RSet) (w : World) (hv : SetsAt w v l) : Calls Tryz.prog 25 #[.agg #[str o, v]] w (RetV w (.bool (decide ((o.length : Int) ≤ 300) && fewS l))) := by
  go_enter Tryz.func25, Tryz.ntmps25
  repeat' ((fail_if_success (with_reducible refine o_s ?_)); go_step)
  refine wpl_box (vs := [str o, v]) rfl rfl ?_
  intro p w1 x1 hp
  refine gset ?_
  have hv1 := hv.ext x1
  repeat' (first | ((with_reducible refine o_s ?_); (first | (refine o_1 ?_; refine o_2 ?_) | (refine o_g ?_; first | refine o_u ?_ | refine o_k ?_ | refine o_n ?_ | refine o_v ?_ | ((first | refine o_G ?_ ?_ | refine o_N ?_ ?_) <;> intro hc)))) | ((fail_if_success (with_reducible refine o_s ?_)); go_step))
  · refine wpl_callV (enters_of Tryz.func71 rfl rfl) rfl rfl (t14 v l _ hv1) ?_; intro w2 x2; refine gset ?_
    repeat' (first | ((with_reducible refine o_s ?_); (first | (refine o_1 ?_; refine o_2 ?_) | (refine o_g ?_; first | refine o_u ?_ | refine o_k ?_ | refine o_n ?_ | refine o_v ?_ | ((first | refine o_G ?_ ?_ | refine o_N ?_ ?_) <;> intro hc)))) | ((fail_if_success (with_reducible refine o_s ?_)); go_step))
    go_ret
    exact ⟨by rw [decide_eq_true hc]; rfl, x1.trans x2⟩
  · go_ret
    exact ⟨by rw [decide_eq_false hc]; rfl, x1⟩
set_option maxHeartbeats 500000 in
theorem r8_Same (o o' : List UInt8) (u v : Value) (a b : List RSet) (w : World) (hu : SetsAt w u a) (hv : SetsAt w v b) : Calls Tryz.prog 31 #[.agg #[str o, u], .agg #[str o', v]] w (RetV w (.bool (decide (o = o') && decide (a = b)))) := by
  go_enter Tryz.func31, Tryz.ntmps31
  repeat' ((fail_if_success (with_reducible refine o_s ?_)); go_step)
  refine wpl_box (vs := [str o, u]) rfl rfl ?_
  intro p w1 x1 hp
  refine gset ?_
  repeat' ((fail_if_success (with_reducible refine o_s ?_)); go_step)
  refine wpl_box (vs := [str o', v]) rfl rfl ?_
  intro q w2 x2 hq
  refine gset ?_
  have hx2 := x1.trans x2
  have hp2 := hp.ext x2
  repeat' (first | ((with_reducible refine o_s ?_); (first | (refine o_1 ?_; refine o_2 ?_) | (refine o_g ?_; first | refine o_u ?_ | refine o_k ?_ | refine o_n ?_ | refine o_v ?_ | ((first | refine o_G ?_ ?_ | refine o_N ?_ ?_) <;> intro hc)))) | ((fail_if_success (with_reducible refine o_s ?_)); go_step))
  · refine wpl_callV (enters_of Tryz.func80 rfl rfl) rfl rfl (t11 u v a b _ (hu.ext hx2) (hv.ext hx2)) ?_; intro w3 x3; refine gset ?_
    repeat' (first | ((with_reducible refine o_s ?_); (first | (refine o_1 ?_; refine o_2 ?_) | (refine o_g ?_; first | refine o_u ?_ | refine o_k ?_ | refine o_n ?_ | refine o_v ?_ | ((first | refine o_G ?_ ?_ | refine o_N ?_ ?_) <;> intro hc)))) | ((fail_if_success (with_reducible refine o_s ?_)); go_step))
    go_ret
    exact ⟨by rw [decide_eq_true hc]; rfl, hx2.trans x3⟩
  · go_ret
    exact ⟨by rw [decide_eq_false hc]; rfl, hx2⟩
theorem DelA.ext {d : DeltaR} {r : Value} {w w' : World} (h : DelA d r w) (hx : Ext w w') : DelA d r w' := by
  obtain ⟨g, n, e, a, b⟩ := h
  exact ⟨g, n, e, a.ext hx, b.ext hx⟩
theorem l10_Told {d : DeltaR} {r : Value} (w : World) (h : DelA d r w) : Calls Tryz.prog 24 #[r] w (RetV w r) := by
  obtain ⟨g, n, rfl, sg, sn⟩ := h
  go_enter Tryz.func24, Tryz.ntmps24
  repeat' ((fail_if_success (with_reducible refine o_s ?_)); go_step)
  refine wpl_box (vs := [.int .i64 d.fr, .int .i64 d.to, g, n]) rfl rfl ?_
  intro p w1 x1 hp
  refine gset ?_
  refine wpl_allocB (z := zdel) rfl (by decide +kernel) ?_
  intro w2 x2 s2 h2
  refine gset ?_
  have hx2 := x1.trans x2
  have zz := x1.size
  have hp2 := hp.ext x2
  repeat' (first | ((with_reducible refine o_s ?_); (first | (refine o_1 ?_; refine o_2 ?_) | (refine o_g ?_; first | refine o_u ?_ | refine o_k ?_ | refine o_n ?_ | refine o_v ?_ | ((first | refine o_G ?_ ?_ | refine o_N ?_ ?_) <;> intro hc)))) | ((fail_if_success (with_reducible refine o_s ?_)); go_step))
  refine wpl_run (v := .agg #[.int .i64 d.fr, .int .i64 d.to, g, n]) rfl (Runs.build rfl (by obtain ⟨_, _, _, rfl⟩ := sg.slf; obtain ⟨_, _, _, rfl⟩ := sn.slf; kernel_rfl)) ?_
  refine gset ?_
  refine wpl_storeB (v := .agg #[.int .i64 d.fr, .int .i64 d.to, g, n]) rfl rfl rfl h2 (show sizeTy Tryz.prog 34 4 = true by decide +kernel) rfl (all4 rfl rfl sg.one sn.one) ?_
  intro w3 p3
  have x3 : Ext w w3 := hx2.move p3.mv (by rintro k ⟨⟩; exact zz)
  repeat' (first | ((with_reducible refine o_s ?_); (first | (refine o_1 ?_; refine o_2 ?_) | (refine o_g ?_; first | refine o_u ?_ | refine o_k ?_ | refine o_n ?_ | refine o_v ?_ | ((first | refine o_G ?_ ?_ | refine o_N ?_ ?_) <;> intro hc)))) | ((fail_if_success (with_reducible refine o_s ?_)); go_step))
  exact bodyPost_ret (results_cell1 (cs := [.int .i64 d.fr, .int .i64 d.to, g, n]) rfl rfl p3.this (show aggTy Tryz.prog 34 4 = true by decide +kernel)) rfl ⟨rfl, x3⟩
theorem same_del {a b : DeltaR} : decide (a = b) = (decide (a.fr = b.fr) && decide (a.to = b.to) && decide (a.gone = b.gone) && decide (a.new = b.new)) := by
  rw [Bool.eq_iff_iff]
  cases a; cases b
  simp [and_assoc]
theorem r10_Same {a b : DeltaR} {r q : Value} (w : World) (h : DelA a r w) (k : DelA b q w) : Calls Tryz.prog 23 #[r, q] w (RetV w (.bool (decide (a = b)))) := by
  obtain ⟨g, n, rfl, sg, sn⟩ := h
  obtain ⟨g', n', rfl, sg', sn'⟩ := k
  rw [same_del]
  go_enter Tryz.func23, Tryz.ntmps23
  repeat' ((fail_if_success (with_reducible refine o_s ?_)); go_step)
  refine wpl_box (vs := [.int .i64 a.fr, .int .i64 a.to, g, n]) rfl rfl ?_
  intro p w1 x1 hp
  refine gset ?_
  refine wpl_box (vs := [.int .i64 b.fr, .int .i64 b.to, g', n']) rfl rfl ?_
  intro p' w2 x2 hq
  refine gset ?_
  have hx2 := x1.trans x2
  have hp2 := hp.ext x2
  repeat' (first | ((with_reducible refine o_s ?_); (first | (refine o_1 ?_; refine o_2 ?_) | (refine o_g ?_; first | refine o_u ?_ | refine o_k ?_ | refine o_n ?_ | refine o_v ?_ | ((first | refine o_G ?_ ?_ | refine o_N ?_ ?_) <;> intro hc)))) | ((fail_if_success (with_reducible refine o_s ?_)); go_step))
  · have c1 : a.fr = b.fr := by assumption
    refine wpl_callV (enters_of Tryz.func42 rfl rfl) rfl rfl (r3_Same g g' a.gone b.gone _ (sg.ext hx2) (sg'.ext hx2)) ?_; intro w3 x3; refine gset ?_
    have hx3 := hx2.trans x3
    have hp3 := hp2.ext x3
    have hq3 := hq.ext x3
    cases hg : decide (a.gone = b.gone) with
    | false =>
      repeat' (first | ((with_reducible refine o_s ?_); (first | (refine o_1 ?_; refine o_2 ?_) | (refine o_g ?_; first | refine o_u ?_ | refine o_k ?_ | refine o_n ?_ | refine o_v ?_ | ((first | refine o_G ?_ ?_ | refine o_N ?_ ?_) <;> intro hc)))) | ((fail_if_success (with_reducible refine o_s ?_)); go_step))
      go_ret
      exact ⟨by rw [decide_eq_true c1, decide_eq_true hc, hg]; rfl, hx3⟩
    | true =>
      repeat' (first | ((with_reducible refine o_s ?_); (first | (refine o_1 ?_; refine o_2 ?_) | (refine o_g ?_; first | refine o_u ?_ | refine o_k ?_ | refine o_n ?_ | refine o_v ?_ | ((first | refine o_G ?_ ?_ | refine o_N ?_ ?_) <;> intro hc)))) | ((fail_if_success (with_reducible refine o_s ?_)); go_step))
      refine wpl_callV (enters_of Tryz.func42 rfl rfl) rfl rfl (r3_Same n n' a.new b.new _ (sn.ext hx3) (sn'.ext hx3)) ?_; intro w4 x4; refine gset ?_
      repeat' (first | ((with_reducible refine o_s ?_); (first | (refine o_1 ?_; refine o_2 ?_) | (refine o_g ?_; first | refine o_u ?_ | refine o_k ?_ | refine o_n ?_ | refine o_v ?_ | ((first | refine o_G ?_ ?_ | refine o_N ?_ ?_) <;> intro hc)))) | ((fail_if_success (with_reducible refine o_s ?_)); go_step))
      go_ret
      exact ⟨by rw [decide_eq_true c1, decide_eq_true hc, hg]; rfl, hx3.trans x4⟩
  · have c1 : a.fr = b.fr := by assumption
    go_ret
    exact ⟨by rw [decide_eq_true c1, decide_eq_false hc]; rfl, hx2⟩
  · go_ret
    exact ⟨by rw [decide_eq_false hc]; rfl, hx2⟩
set_option maxHeartbeats 2000000 in
theorem r10_Copy {d : DeltaR} {r : Value} (w : World) (h : DelA d r w) (b1 : d.gone.length ≤ 100000) (b2 : d.new.length ≤ 100000) : Calls Tryz.prog 32 #[r] w (Ret w (DelO w.heap.size d)) := by
  obtain ⟨g, n, rfl, sg, sn⟩ := h
  have l1 := rcells_length d.gone
  have l2 := rcells_length d.new
  go_enter Tryz.func32, Tryz.ntmps32
  repeat' ((fail_if_success (with_reducible refine o_s ?_)); go_step)
  refine wpl_box (vs := [.int .i64 d.fr, .int .i64 d.to, g, n]) rfl rfl ?_
  intro p w1 x1 hp
  refine gset ?_
  refine wpl_allocB (z := zdel) rfl (by decide +kernel) ?_
  intro w2 x2 s2 h2
  refine gset ?_
  have hx2 := x1.trans x2
  have zz := x1.size
  have hp2 := hp.ext x2
  repeat' (first | ((with_reducible refine o_s ?_); (first | (refine o_1 ?_; refine o_2 ?_) | (refine o_g ?_; first | refine o_u ?_ | refine o_k ?_ | refine o_n ?_ | refine o_v ?_ | ((first | refine o_G ?_ ?_ | refine o_N ?_ ?_) <;> intro hc)))) | ((fail_if_success (with_reducible refine o_s ?_)); go_step))
  refine wpi_region 11 (Ext w2) (by decide +kernel) ?_
  intro w3 x3 _
  refine ⟨x3, ?_⟩
  ((with_reducible apply wpi_take (i := 0)); (rfl); (rfl); (rfl); (decide +kernel); (decide +kernel); (decide +kernel); (decide +kernel); (rfl); (intro _ _; exact rn); (exact fun _ _ _ h => h); (refine gset ?_)); ((with_reducible apply wpi_take (i := 1)); (rfl); (rfl); (rfl); (decide +kernel); (decide +kernel); (decide +kernel); (decide +kernel); (rfl); (intro _ _; exact rn); (exact fun _ _ _ h => h); (refine gset ?_)); ((with_reducible apply wpi_take (i := 2)); (rfl); (rfl); (rfl); (decide +kernel); (decide +kernel); (decide +kernel); (decide +kernel); (rfl); (intro _ _; exact rn); (exact fun _ _ _ h => h); (refine gset ?_)); ((with_reducible apply wpi_take (i := 3)); (rfl); (rfl); (rfl); (decide +kernel); (decide +kernel); (decide +kernel); (decide +kernel); (rfl); (intro _ _; exact rn); (exact fun _ _ _ h => h); (refine gset ?_)); ((with_reducible apply wpi_take (i := 4)); (rfl); (rfl); (rfl); (decide +kernel); (decide +kernel); (decide +kernel); (decide +kernel); (rfl); (intro _ _; exact rn); (exact fun _ _ _ h => h); (refine gset ?_)); ((with_reducible apply wpi_take (i := 5)); (rfl); (rfl); (rfl); (decide +kernel); (decide +kernel); (decide +kernel); (decide +kernel); (rfl); (intro _ _; exact rn); (exact fun _ _ _ h => h); (refine gset ?_)); ((with_reducible apply wpi_take (i := 7)); (rfl); (rfl); (rfl); (decide +kernel); (decide +kernel); (decide +kernel); (decide +kernel); (rfl); (intro _ _; exact rn); (exact fun _ _ _ h => h); (refine gset ?_)); ((with_reducible apply wpi_take (i := 8)); (rfl); (rfl); (rfl); (decide +kernel); (decide +kernel); (decide +kernel); (decide +kernel); (rfl); (intro _ _; exact rn); (exact fun _ _ _ h => h); (refine gset ?_))
  refine wpi_op (i := 6) (by decide +kernel) rfl rfl ?_
  refine wpl_appendO (B := w3.heap.size) (e := 75) (k := 4) rfl (Own.nil _ _ _ _) rfl (sg.ext (hx2.trans x3)) rcells_one (Nat.le_refl _) (by simp [rcells_length]; omega) ?_
  intro g' w4 og m4 _
  refine gset ?_
  have x4 : Ext w3 w4 := (Own.nil w3.heap.size 4 75 w3).mvx m4 (Ext.refl _) (Nat.le_refl _)
  have x24 := x3.trans x4
  refine wph_nil ⟨till_yes x24, ?_⟩
  refine wpi_op (i := 9) (by decide +kernel) rfl rfl ?_
  refine wpl_appendO (B := w4.heap.size) (e := 75) (k := 4) rfl (Own.nil _ _ _ _) rfl (sn.ext (hx2.trans x24)) rcells_one (Nat.le_refl _) (by simp [rcells_length]; omega) ?_
  intro n' w5 on m5 _
  refine gset ?_
  have x5 : Ext w4 w5 := (Own.nil w4.heap.size 4 75 w4).mvx m5 (Ext.refl _) (Nat.le_refl _)
  have x25 := x24.trans x5
  refine wph_nil ⟨till_yes x25, ?_⟩
  rw [List.nil_append] at og on
  have og5 := og.ext x5
  have sg5 := og5.sl
  have sn5 := on.sl
  refine wpi_take (i := 10) (v := .agg #[.int .i64 d.fr, .int .i64 d.to, g', n']) rfl rfl rfl (by decide +kernel) (by decide +kernel) (by decide +kernel) (by decide +kernel) rfl (fun w' _ => Runs.build rfl (by obtain ⟨_, _, _, rfl⟩ := sg5.slf; obtain ⟨_, _, _, rfl⟩ := sn5.slf; kernel_rfl)) (fun _ _ _ h => h) ?_
  refine gset ?_
  refine wpi_op (i := 11) (by decide +kernel) rfl rfl ?_
  have h5 := x25.at h2
  refine wpl_storeB (v := .agg #[.int .i64 d.fr, .int .i64 d.to, g', n']) rfl rfl rfl h5 (show sizeTy Tryz.prog 34 4 = true by decide +kernel) rfl (all4 rfl rfl sg5.one sn5.one) ?_
  intro w6 p6
  refine wph_nil ⟨till_no rfl, ?_⟩
  refine wpi_done (by decide +kernel) ?_
  have x6 : Ext w w6 := (hx2.trans x25).move p6.mv (by rintro k ⟨⟩; exact zz)
  repeat' (first | ((with_reducible refine o_s ?_); (first | (refine o_1 ?_; refine o_2 ?_) | (refine o_g ?_; first | refine o_u ?_ | refine o_k ?_ | refine o_n ?_ | refine o_v ?_ | ((first | refine o_G ?_ ?_ | refine o_N ?_ ?_) <;> intro hc)))) | ((fail_if_success (with_reducible refine o_s ?_)); go_step))
  refine bodyPost_ret (results_cell1 (cs := [.int .i64 d.fr, .int .i64 d.to, g', n']) rfl rfl p6.this (show aggTy Tryz.prog 34 4 = true by decide +kernel)) rfl ⟨_, rfl, x6, ?_⟩
  exact ⟨g', n', rfl, og5.mv p6.mv (.inr (og5.neBlock h5 (by decide))) |>.weaken (hx2.trans x3).size, on.mv p6.mv (.inr (on.neBlock h5 (by decide))) |>.weaken (hx2.trans x24).size⟩
structure OwnOff (B k : Nat) (e : TypeId) (w : World) (v : Value) (es : List (List Value)) : Prop where
  row : (v = .slice none 0 0 ∧ es = []) ∨ ∃ g o cap cur fz, v = .slice (some ⟨g, o * k, none⟩) es.length cap ∧ B ≤ g ∧ w.heap[g]? = some (.cells cur e fz) ∧ (fz.2 ≤ fz.1 ∨ cur.size ≤ fz.1) ∧ es.length ≤ cap ∧ cap ≤ maxLen ∧ (o + cap) * k ≤ cur.size ∧ (cur.toList.drop (o * k)).take (es.length * k) = es.flatten
  each : ∀ x ∈ es, x.length = k
theorem Own.off {B k e : Nat} {w : World} {v : Value} {es : List (List Value)} (h : Own B k e w v es) : OwnOff B k e w v es := by
  refine ⟨?_, h.each⟩
  rcases h.row.2 with ⟨rfl, h0⟩ | ⟨g, cap, cur, fz, rfl, hb, hg, hfz, hnc, hcm, hcs, htake⟩
  · exact .inl ⟨rfl, List.eq_nil_of_length_eq_zero h0⟩
  · exact .inr ⟨g, 0, cap, cur, fz, by simp, hb, hg, hfz, hnc, hcm, by rw [Nat.zero_add]; exact Nat.le_of_eq hcs.symm, by simpa using htake⟩
theorem OwnOff.nil (B k : Nat) (e : TypeId) (w : World) : OwnOff B k e w (.slice none 0 0) [] := (Own.nil B k e w).off
theorem OwnOff.type {B k e : Nat} {w : World} {v : Value} {es : List (List Value)} (h : OwnOff B k e w v es) {r : Nat} (hr : v.ownBlock = some r) : B ≤ r ∧ r < w.heap.size ∧ ∃ cur fz, w.heap[r]? = some (.cells cur e fz) := by
  rcases h.row with ⟨rfl, _⟩ | ⟨g, o, cap, cur, fz, rfl, hb, hg, _⟩
  · simp [Value.ownBlock] at hr
  · simp [Value.ownBlock] at hr; subst hr; exact ⟨hb, (Array.getElem?_eq_some_iff.1 hg).1, cur, fz, hg⟩
theorem OwnOff.neBlock {B k e t b : Nat} {w : World} {v : Value} {es : List (List Value)} {cs : Array Value} {fz : Nat × Nat} (h : OwnOff B k e w v es) (hb : w.heap[b]? = some (.cells cs t fz)) (ht : t ≠ e) : v.ownBlock ≠ some b := fun e' => by
  obtain ⟨_, _, cur, fz', h'⟩ := h.type e'
  rw [hb] at h'
  simp only [Option.some.injEq, Obj.cells.injEq] at h'
  exact ht h'.2.1
theorem OwnOff.neOwn {B k e B' k' e' : Nat} {w : World} {v v' : Value} {es es' : List (List Value)} (h : OwnOff B k e w v es) (h' : Own B' k' e' w v' es') (he : e ≠ e') : v'.ownBlock = none ∨ v'.ownBlock ≠ v.ownBlock := by
  cases hv : v'.ownBlock with
  | none => exact .inl rfl
  | some r =>
    obtain ⟨cur, fz, h1⟩ := h'.type hv
    exact .inr fun e2 => h.neBlock h1 (fun e3 => he e3.symm) e2.symm
theorem OwnOff.mv {B k e : Nat} {w w' : World} {v : Value} {es : List (List Value)} {row : Option Nat} (h : OwnOff B k e w v es) (hm : Mv row w w') (hne : v.ownBlock = none ∨ v.ownBlock ≠ row) : OwnOff B k e w' v es := by
  refine ⟨h.row.imp id ?_, h.each⟩
  rintro ⟨g, o, cap, cur, fz, rfl, hb, hg, r⟩
  refine ⟨g, o, cap, cur, fz, rfl, hb, hm.at hg ?_, r⟩
  rcases hne with hne | hne
  · simp [Value.ownBlock] at hne
  · simpa [Value.ownBlock] using hne
theorem OwnOff.ext {B k e : Nat} {w w' : World} {v : Value} {es : List (List Value)} (h : OwnOff B k e w v es) (hx : Ext w w') : OwnOff B k e w' v es := by
  refine ⟨h.row.imp id ?_, h.each⟩
  rintro ⟨g, o, cap, cur, fz, rfl, hb, hg, r⟩
  exact ⟨g, o, cap, cur, fz, rfl, hb, hx.at hg, r⟩
theorem OwnOff.weaken {B C k e : Nat} {w : World} {v : Value} {es : List (List Value)} (h : OwnOff B k e w v es) (hc : C ≤ B) : OwnOff C k e w v es :=
  ⟨h.row.imp id fun ⟨g, o, cap, cur, fz, a, b, r⟩ => ⟨g, o, cap, cur, fz, a, Nat.le_trans hc b, r⟩, h.each⟩
theorem OwnOff.sl {B k e : Nat} {w : World} {v : Value} {es : List (List Value)} (h : OwnOff B k e w v es) : Sl k w v es := by
  rcases h.row with ⟨rfl, rfl⟩ | ⟨g, o, cap, cur, fz, rfl, hb, hg, hfz, hnc, hcm, hcs, htake⟩
  · exact Sl.nil _ _
  · refine ⟨_, cap, rfl, hnc, by unfold maxLen at hcm; omega, h.each, (fun e => by cases e), fun _ => ⟨g, o * k, rfl, ?_⟩⟩
    intro i ce j x hi hj
    have hfl := flatten_at h.each hi hj
    rw [← htake, List.getElem?_take] at hfl
    split at hfl
    · rw [List.getElem?_drop] at hfl
      have hlt : o * k + (i * k + j) < cur.size := by
        have := (List.getElem?_eq_some_iff.1 hfl).1
        simpa using this
      simp only [World.cell?, hg]
      rw [← Nat.add_assoc] at hfl
      simpa [Array.getElem?_toList] using hfl
    · cases hfl
theorem OwnOff.drop {B k e : Nat} {w : World} {v : Value} {es : List (List Value)} (h : OwnOff B k e w v es) {m : Nat} (hm : m ≤ es.length) : OwnOff B k e w (cutSl v k m es.length) (es.drop m) := by
  refine ⟨?_, fun x hx => h.each x (List.mem_of_mem_drop hx)⟩
  rcases h.row with ⟨rfl, rfl⟩ | ⟨g, o, cap, cur, fz, rfl, hb, hg, hfz, hnc, hcm, hcs, htake⟩
  · have : m = 0 := by simpa using hm
    subst this
    exact .inl ⟨by simp [cutSl], rfl⟩
  · have hfl := length_flatten_of h.each
    by_cases hc : cap = m
    · have hlm : es.length = m := by omega
      refine .inr ⟨g, o, 0, cur, fz, ?_, hb, hg, hfz, ?_, by unfold maxLen; omega, ?_, ?_⟩
      · simp [cutSl, hc, hlm]
      · simp [hlm]
      · have : (o + 0) * k ≤ (o + cap) * k := Nat.mul_le_mul_right k (by omega)
        omega
      · have h0 : es.drop m = [] := by rw [← hlm, List.drop_length]
        rw [h0]
        simp
    · refine .inr ⟨g, o + m, cap - m, cur, fz, ?_, hb, hg, hfz, ?_, by omega, ?_, ?_⟩
      · simp [cutSl, hc, add_none, Nat.add_mul]
      · simp; omega
      · rw [show o + m + (cap - m) = o + cap by omega]; exact hcs
      · have hd := flatten_drop es m h.each
        rw [hd, ← htake, List.drop_take, List.drop_drop, List.length_drop, Nat.add_mul, ← Nat.sub_mul]
theorem run_appendOff {P : Program} {w : World} {t e k bytes B : Nat} {ty : TypeId} {v x : Value} {es fs : List (List Value)} (ht : appTy P t e k bytes = true) (h : OwnOff B k e w v es) (hx : Sl k w x fs) (hne : fs ≠ []) (h1 : ∀ f ∈ fs, ∀ u ∈ f, u.oneCell' = true)
    (hB : B ≤ w.heap.size) (hb : (es.length + fs.length) * bytes ≤ 140737488355328) (hm : es.length + fs.length ≤ 140737488355328) :
    ∃ v' w', (Builtin.append_ #[t, t] ty #[v, x]).run P w = .ok v' w' ∧ OwnOff B k e w' v' (es ++ fs) ∧ Mv v.ownBlock w w' ∧ (v'.ownBlock = v.ownBlock ∨ v'.ownBlock = some w.heap.size) := by
  obtain ⟨hu, i, z, hi, hz, hzc, hs, hby, hk⟩ := appTy_spec ht
  rcases h.row with ⟨rfl, rfl⟩ | ⟨g, o, cap, cur, fz, rfl, hbg, hg, hfz, hnc, hcm, hcs, htake⟩
  · obtain ⟨v', w', hr, ho, hmv, hkin⟩ := run_appendK (ty := ty) ht (Own.nil B k e w) hx h1 hB hb hm
    exact ⟨v', w', hr, ho.off, hmv, hkin⟩
  · have hxs := hx
    obtain ⟨ad, xcap, rfl, h2, h3, h4, h5, h6⟩ := hx
    obtain ⟨b, bo, he, hc⟩ := h6 hne
    subst he
    have hnews := hxs.news hk
    have hlf := length_flatten_of h4
    have hle := length_flatten_of h.each
    have hall : ∀ y ∈ es ++ fs, y.length = k := fun y hy => by
      rcases List.mem_append.1 hy with hy | hy
      · exact h.each y hy
      · exact h4 y hy
    have hokc : (o + cap) * k = o * k + cap * k := Nat.add_mul _ _ _
    have hf1 : ∀ u ∈ fs.flatten, u.oneCell' = true := fun u hu' => by obtain ⟨f, hf, hfu⟩ := List.mem_flatten.1 hu'; exact h1 f hf u hfu
    by_cases hroom : es.length + fs.length ≤ cap
    · have hfit : o * k + es.length * k + fs.flatten.length ≤ cur.size := by
        have : (es.length + fs.length) * k ≤ cap * k := Nat.mul_le_mul_right k hroom
        rw [Nat.add_mul] at this
        omega
      have hf := run_firstCells_some (P := P) w i.size fs.length ⟨b, bo, none⟩ fs.length xcap fs.flatten (by rw [hlf, hs]) hnews
      have hst := run_storeCells_G P g (o * k + es.length * k) e fz fs.flatten 0 cur w hg hfz (by simpa using hfit) hf1
      simp only [Nat.add_zero] at hst
      have hr : (Builtin.append_ #[t, t] ty #[.slice (some ⟨g, o * k, none⟩) es.length cap, .slice (some ⟨b, bo, none⟩) fs.length xcap]).run P w =
          .ok (.slice (some ⟨g, o * k, none⟩) (es.length + fs.length) cap) (w.setRow g (cur.toList.take (o * k + es.length * k) ++ fs.flatten ++ cur.toList.drop (o * k + es.length * k + fs.flatten.length)).toArray) := by
        simp [Builtin.append_, run_underlying hu, sizeOf, typeInfo, hi, Builtin.lenOf, hroom, hf, add_none, hs]
        rw [hs] at hf
        simp [hf, hst]
      refine ⟨_, _, hr, ⟨.inr ⟨g, o, cap, _, fz, by rw [List.length_append], hbg, setRow_heap w g cur _ e _ hg, ?_, by rw [List.length_append]; exact hroom, hcm, ?_, ?_⟩, hall⟩, ⟨rfl, rfl, rfl, by simp, fun k _ hk => setRow_other w g k _ (fun e => hk (by simp [Value.ownBlock, e])), Nat.le_refl _⟩, .inl rfl⟩
      · simp only [List.size_toArray, List.length_append, List.length_take, List.length_drop, Array.length_toList]
        omega
      · simp only [List.size_toArray, List.length_append, List.length_take, List.length_drop, Array.length_toList]
        omega
      · have e1 : cur.toList.take (o * k + es.length * k) = cur.toList.take (o * k) ++ es.flatten := by
          rw [List.take_add, htake]
        have hok : (cur.toList.take (o * k)).length = o * k := by simp; omega
        rw [e1, List.toList_toArray, List.append_assoc, List.append_assoc, List.drop_append, hok, Nat.sub_self, List.drop_zero, List.drop_of_length_le (by omega), List.nil_append, List.flatten_append, ← List.append_assoc]
        have e2 : (es ++ fs).length * k = (es.flatten ++ fs.flatten).length := by rw [List.length_append, List.length_append, Nat.add_mul, hle, hlf]
        rw [e2]
        exact List.take_left
    · have holds : ∀ j u, es.flatten[j]? = some u → w.cell? ((⟨g, o * k, none⟩ : Addr).add j) = some u := by
        intro j u hj
        rw [← htake, List.getElem?_take] at hj
        split at hj
        · rw [List.getElem?_drop] at hj
          rw [add_none]
          simp only [World.cell?, hg]
          simpa [Array.getElem?_toList] using hj
        · cases hj
      have hr := run_append_grow (P := P) (ty := ty) w t e i z hu hi hz ⟨g, o * k, none⟩ es.length cap es.flatten (by rw [hle, hs]) holds ⟨b, bo, none⟩ fs.length xcap fs.flatten (by rw [hlf, hs]) hnews (by omega) (by omega) (growslice_fits (by omega) (by rw [hby]; exact hb))
      have hge := grownCap_ge w (es.length + fs.length) cap e
      have hcm' : grownCap w (es.length + fs.length) cap e ≤ maxLen := grownCap_le_maxLen w (es.length + fs.length) cap e (by unfold maxLen; omega)
      have hlen : (es ++ fs).flatten.length = (es ++ fs).length * k := length_flatten_of hall
      refine ⟨_, _, hr, (show Own B k e _ _ (es ++ fs) from ⟨⟨hlen, .inr ⟨w.heap.size, _, _, (0, 0), by rw [List.length_append], hB, heap_alloc_new w.drew _, .inl (Nat.le_refl _), by rw [List.length_append]; exact hge, hcm', ?_, ?_⟩⟩, hall⟩).off, ⟨rfl, rfl, rfl, by simp, fun k hk _ => (Ext.alloc w.drew _).block k hk, Nat.le_succ _⟩, .inr rfl⟩
      · simp only [Array.size_append, List.size_toArray, size_zeroCells, hzc, hle, hlf, ← Nat.add_mul]
        congr 1
        omega
      · simp only [Array.toList_append, List.append_assoc]
        rw [← List.append_assoc, ← List.flatten_append, ← hlen]
        exact List.take_left
section
variable {P : Program} {ops : Array Oper} {Q : Exit → Act → World → Prop} {w : World} {rest : List Oper} {ts : List Value} {df : List Deferred} {ty : TypeId} {ps : String} {af : Array Edge}
theorem wpl_appendOff {t e k B d : Nat} {x0 y : Operand} {v0 x : Value} {es fs : List (List Value)} (h0 : (Act.mk ts.toArray df).eval x0 = v0)
    (h : OwnOff B k e w v0 es) (hy : (Act.mk ts.toArray df).eval y = x) (hx : Sl k w x fs) (hne : fs ≠ []) (h1 : ∀ f ∈ fs, ∀ u ∈ f, u.oneCell' = true)
    (hB : B ≤ w.heap.size) (hm : es.length + fs.length ≤ 1000000)
    (hk : ∀ v' w', OwnOff B k e w' v' (es ++ fs) → Mv v0.ownBlock w w' → (v'.ownBlock = v0.ownBlock ∨ v'.ownBlock = some w.heap.size) → wpList P ops Q rest (Act.mk (ts.set d v').toArray df) w')
    (ht : appTy P t e k (bytesOf P e) = true := by decide +kernel) (hby : bytesOf P e ≤ 1000000 := by decide +kernel) :
    wpList P ops Q (Oper.mk (some d) (.call ⟨.builtin .append, #[x0, y], #[t, t]⟩) ty ps af none :: rest) (Act.mk ts.toArray df) w := by
  have hb : (es.length + fs.length) * bytesOf P e ≤ 140737488355328 :=
    calc (es.length + fs.length) * bytesOf P e ≤ 1000000 * 1000000 := Nat.mul_le_mul hm hby
      _ ≤ _ := by decide
  obtain ⟨v', w', hr, ho, hmv, hkin⟩ := run_appendOff (ty := ty) ht h hx hne h1 hB hb (by omega)
  refine wpl_val rfl ?_ (hk v' w' ho hmv hkin)
  simp [execOp, resolve, invoke, builtin, h0, hy, hr]
end
theorem Pts.front {w : World} {p : Value} {vs : List Value} (h : Pts w p vs) (n : Nat) : Pts w p (vs.take n) := by
  obtain ⟨b, o, e, hc⟩ := h
  refine ⟨b, o, e, fun j x hx => hc j x ?_⟩
  rw [List.getElem?_take] at hx
  split at hx
  · exact hx
  · cases hx
section
variable {P : Program} {w : World} {ts : List Value} {df : List Deferred} {d : Option Nat} {ty : TypeId} {ps : String} {af : Array Edge} {g : Option (Nat × Bool)}
theorem Runs.fieldJ {s : TypeId} {m n off : Nat} {ad : Addr} (hx : ts.getD m undef = .pointer (some ad)) (hf : fieldIs P s n off = true) :
    Runs P (Oper.mk d (.fieldAddr s (.tmp m) n) ty ps af g) (Act.mk ts.toArray df) w (partPtr (.pointer (some ad)) off) := by
  obtain ⟨fs, f, i, ht, hf, ho, hie, hz⟩ := fieldIs_spec hf
  have hx' : (Act.mk ts.toArray df).eval (.tmp m) = .pointer (some ad) := by rw [evalT]; exact hx
  constructor
  simp [execOp, hx', Instr.fieldAt, Instr.sureAddr, run_underlying ht, hf, fieldPlace, sizeOf, typeInfo, hie, hz, partPtr, ho]
end
section
variable {P : Program} {w : World} {ts : List Value} {df : List Deferred} {d : Option Nat} {ty : TypeId} {ps : String} {af : Array Edge} {g : Option (Nat × Bool)}
def boolTy (P : Program) (t : TypeId) : Bool := match P.underlying t with | some .bool => true | _ => false
end
theorem few_bounds {l : List RSet} (h : fewS l = true) : l.length ≤ 25 ∧ (∀ s ∈ l, s.data.length ≤ 12) ∧ (∀ s ∈ l, s.name.length ≤ 300) ∧ ∀ s ∈ l, ∀ d ∈ s.data, d.length ≤ 300 := by
  simp only [fewS, Bool.and_eq_true, decide_eq_true_eq, List.all_eq_true, fewAt] at h
  exact ⟨h.1, fun s hs => (h.2 s hs).1.1, fun s hs => (h.2 s hs).1.2, fun s hs d hd => (h.2 s hs).2 d hd⟩
def fieldPlain (P : Program) (s n off : Nat) : Bool := match P.underlying s with | some (.struct fs) => (match fs[n]? with | some f => f.offset == off && plainTy P f.type | none => false) | _ => false
theorem fieldPlain_spec {P : Program} {s n off : Nat} (h : fieldPlain P s n off = true) : ∃ fs f, P.underlying s = some (.struct fs) ∧ fs[n]? = some f ∧ f.offset = off ∧ plainTy P f.type = true := by
  unfold fieldPlain at h
  split at h
  · rename_i fs hfs
    split at h
    · rename_i f hf
      simp only [Bool.and_eq_true, beq_iff_eq] at h
      exact ⟨fs, f, hfs, hf, h.1, h.2⟩
    · cases h
  · cases h
section
variable {P : Program} {a : Act} {w : World} {d : Option Nat} {ty : TypeId} {ps : String} {af : Array Edge} {g : Option (Nat × Bool)}
theorem Runs.fieldV {s : TypeId} {x : Operand} {n off : Nat} {cs : Array Value} {v : Value} (hx : a.eval x = .agg cs) (hc : cs[off]? = some v) (hf : fieldPlain P s n off = true) : Runs P (Oper.mk d (.field s x n) ty ps af g) a w v := by
  obtain ⟨fs, f, ht, hf, ho, hp⟩ := fieldPlain_spec hf
  obtain ⟨u, hu, hn⟩ := plainTy_spec hp
  constructor
  simp [execOp, hx, Instr.field, run_underlying ht, hf, ho, asAgg, part, Sem.run_bind, isAgg_no hu hn, hc]
end
section
variable {P : Program} {w : World} {ts : List Value} {df : List Deferred} {d : Option Nat} {ty : TypeId} {ps : String} {af : Array Edge} {g : Option (Nat × Bool)}
theorem Runs.neqB2 {t u : TypeId} {x y : Operand} {a b : Bool} (hx : (Act.mk ts.toArray df).eval x = .bool a) (hy : (Act.mk ts.toArray df).eval y = .bool b) (ht : boolTy P t = true) :
    Runs P (Oper.mk d (.binOp .neq t x y u) ty ps af g) (Act.mk ts.toArray df) w (.bool (a != b)) := by
  have hu : P.underlying t = some .bool := by
    unfold boolTy at ht; split at ht
    · assumption
    · cases ht
  constructor
  simp [execOp, hx, hy, eqGuard, binOp, run_equal_bool w t a b hu, bne]
end
end Go.Proofs.X
