/- Laws and walks that the proof of the statement is made of (part 9). -/
import Derived.Test.YtfgkdjkegifpgaaGreatProg
import Derived.Test.YtfgkdjkegifpgaaGreatP6
import Derived.Test.YtfgkdjkegifpgaaGreatP8
set_option linter.unusedSimpArgs false
set_option linter.unusedVariables false
namespace Go.Proofs.X
open Go.RowKit
set_option maxRecDepth 100000
set_option maxHeartbeats 2000000 in
/-- lodestarref07.Find -/
theorem r7_Find (v : Value) (l : List RSet) (n : List UInt8) (kd : Int) (w : World) (hv : SetsAt w v l) (hb : ∀ s ∈ l, s.data.length ≤ 1000000) : Calls Tryz.prog 20 #[v, str n, .int .i64 kd] w (Ret w fun r w' => match findS l n kd with
    | some s => ∃ x, r = .tuple #[.agg #[str s.name, .int .i64 s.kind, .int .i64 s.ttl, x], .bool true] ∧ Own w.heap.size 1 9 w' x (tcells s.data)
    | none => r = .tuple #[.agg zset.toArray, .bool false]) := by
  obtain ⟨cv, hv1, hvl⟩ := hv.sl
  have hle := hv1.le
  go_enter Tryz.func20, Tryz.ntmps20
  repeat' ((fail_if_success (with_reducible refine o_s ?_)); go_step)
  refine wpl_allocB (z := zset) rfl (by decide +kernel) ?_
  intro w2 x2 s2 h2
  refine gset ?_
  repeat' (first | ((with_reducible refine o_s ?_); (first | (refine o_1 ?_; refine o_2 ?_) | (refine o_g ?_; first | refine o_u ?_ | refine o_k ?_ | refine o_n ?_ | refine o_v ?_ | ((first | refine o_G ?_ ?_ | refine o_N ?_ ?_) <;> intro hc)))) | ((fail_if_success (with_reducible refine o_s ?_)); go_step))
  go_loopw [8] (fun i wr => ∃ k : Nat, k ≤ l.length ∧ i = .int .i64 k ∧ Ext w2 wr ∧ (l.take k).find? (hit (fold n) kd) = none) (fun i _ => l.length - (intOf i).toNat)
  case atStart => exact ⟨0, Nat.zero_le _, rfl, Ext.refl _, rfl⟩
  case round =>
    obtain ⟨k, hk, rfl, hx, hall⟩ := hrel
    have hxw : Ext w wr := x2.trans hx
    have hv2 := hv1.ext hxw
    have h3 := hx.at h2
    by_cases hlt : k < l.length
    · obtain ⟨x, h4, h4d⟩ := (hv.ext hxw).elem (List.getElem?_eq_getElem hlt)
      have hbk := hb _ (List.getElem_mem hlt)
      repeat' (first | ((with_reducible refine o_s ?_); (first | (refine o_1 ?_; refine o_2 ?_) | (refine o_g ?_; first | refine o_u ?_ | refine o_k ?_ | refine o_n ?_ | refine o_v ?_ | ((first | refine o_G ?_ ?_ | refine o_N ?_ ?_) <;> intro hc)))) | ((fail_if_success (with_reducible refine o_s ?_)); go_step))
      refine wpq_region (by decide +kernel) (by decide +kernel) ?_
      repeat' (first | ((with_reducible refine q_s ?_); (first | (refine q_1 ?_; refine q_2 ?_) | (refine q_g ?_; first | refine q_u ?_ | refine q_k ?_ | refine q_v ?_))) | (with_reducible refine q_n ?_))
      refine wpq_call (enters_of Tryz.func54 rfl rfl) rfl rfl (fun w' _ => r1_Fold n w') ?_
      refine gset ?_
      repeat' (first | ((with_reducible refine q_s ?_); (first | (refine q_1 ?_; refine q_2 ?_) | (refine q_g ?_; first | refine q_u ?_ | refine q_k ?_ | refine q_v ?_))) | (with_reducible refine q_n ?_))
      by_cases q1 : l[k].name = fold n
      · rw [decide_eq_true q1]
        repeat' (first | ((with_reducible refine q_s ?_); (first | (refine q_1 ?_; refine q_2 ?_) | (refine q_g ?_; first | refine q_u ?_ | refine q_k ?_ | refine q_v ?_))) | (with_reducible refine q_n ?_))
        intro w5 x5
        have h5 := x5.at h3
        have hv5 := hv2.ext x5
        have hp5 := h4.ext x5
        by_cases q2 : l[k].kind = kd
        · have hh : findS l n kd = some l[k] := find_at hlt hall (by simp [hit, q1, q2])
          rw [decide_eq_true q2]
          repeat' (first | ((with_reducible refine o_s ?_); (first | (refine o_1 ?_; refine o_2 ?_) | (refine o_g ?_; first | refine o_u ?_ | refine o_k ?_ | refine o_n ?_ | refine o_v ?_ | ((first | refine o_G ?_ ?_ | refine o_N ?_ ?_) <;> intro hc)))) | ((fail_if_success (with_reducible refine o_s ?_)); go_step))
          refine wpl_callR (enters_of Tryz.func55 rfl rfl) rfl rfl (r7_Copy l[k] x _ (h4d.ext x5) hbk) ?_
          intro r w6 x6 hr
          obtain ⟨y, rfl, oy⟩ := hr
          refine gset ?_
          have h6 := x6.at h5
          have hs5 := hx.size
          have hs6 := x5.size
          refine wpl_storeB (v := .agg #[str l[k].name, .int .i64 l[k].kind, .int .i64 l[k].ttl, y]) rfl rfl rfl h6 (show sizeTy Tryz.prog 35 4 = true by decide +kernel) rfl (all4 rfl rfl rfl oy.sl.one) ?_
          intro w7 p7
          have x7 : Ext w w7 := ((hxw.trans x5).trans x6).move p7.mv (by rintro k ⟨⟩; exact Nat.le_refl _)
          have o7 := oy.put p7 (by omega)
          repeat' (first | ((with_reducible refine o_s ?_); (first | (refine o_1 ?_; refine o_2 ?_) | (refine o_g ?_; first | refine o_u ?_ | refine o_k ?_ | refine o_n ?_ | refine o_v ?_ | ((first | refine o_G ?_ ?_ | refine o_N ?_ ?_) <;> intro hc)))) | ((fail_if_success (with_reducible refine o_s ?_)); go_step))
          refine bodyPost_ret (results_cellT (cs := [str l[k].name, .int .i64 l[k].kind, .int .i64 l[k].ttl, y]) rfl rfl p7.this (show aggTy Tryz.prog 35 4 = true by decide +kernel)) rfl ⟨_, rfl, x7, ?_⟩
          rw [hh]
          exact ⟨y, rfl, o7.weaken (by omega)⟩
        · rw [decide_eq_false q2]
          repeat' (first | ((with_reducible refine o_s ?_); (first | (refine o_1 ?_; refine o_2 ?_) | (refine o_g ?_; first | refine o_u ?_ | refine o_k ?_ | refine o_n ?_ | refine o_v ?_ | ((first | refine o_G ?_ ?_ | refine o_N ?_ ?_) <;> intro hc)))) | ((fail_if_success (with_reducible refine o_s ?_)); go_step))
          exact ⟨⟨k + 1, by omega, by go_num, hx.trans x5, find_take hlt hall (by simp [hit, q2])⟩, by simp [intOf]; omega⟩
      · rw [decide_eq_false q1]
        repeat' (first | ((with_reducible refine q_s ?_); (first | (refine q_1 ?_; refine q_2 ?_) | (refine q_g ?_; first | refine q_u ?_ | refine q_k ?_ | refine q_v ?_))) | (with_reducible refine q_n ?_))
        intro w5 x5
        repeat' (first | ((with_reducible refine o_s ?_); (first | (refine o_1 ?_; refine o_2 ?_) | (refine o_g ?_; first | refine o_u ?_ | refine o_k ?_ | refine o_n ?_ | refine o_v ?_ | ((first | refine o_G ?_ ?_ | refine o_N ?_ ?_) <;> intro hc)))) | ((fail_if_success (with_reducible refine o_s ?_)); go_step))
        exact ⟨⟨k + 1, by omega, by go_num, hx.trans x5, find_take hlt hall (by simp [hit, q1])⟩, by simp [intOf]; omega⟩
    · have : k = l.length := by omega
      subst this
      have hno : findS l n kd = none := by rw [List.take_length] at hall; exact hall
      repeat' (first | ((with_reducible refine o_s ?_); (first | (refine o_1 ?_; refine o_2 ?_) | (refine o_g ?_; first | refine o_u ?_ | refine o_k ?_ | refine o_n ?_ | refine o_v ?_ | ((first | refine o_G ?_ ?_ | refine o_N ?_ ?_) <;> intro hc)))) | ((fail_if_success (with_reducible refine o_s ?_)); go_step))
      refine wpl_run (v := .agg zset.toArray) rfl (Runs.build0 (by kernel_rfl)) ?_
      refine gset ?_
      refine wpl_storeB (v := .agg zset.toArray) rfl rfl rfl h3 (by decide +kernel) rfl (by decide +kernel) ?_
      intro w7 p7
      have x7 : Ext w w7 := hxw.move p7.mv (by rintro k ⟨⟩; exact Nat.le_refl _)
      repeat' (first | ((with_reducible refine o_s ?_); (first | (refine o_1 ?_; refine o_2 ?_) | (refine o_g ?_; first | refine o_u ?_ | refine o_k ?_ | refine o_n ?_ | refine o_v ?_ | ((first | refine o_G ?_ ?_ | refine o_N ?_ ?_) <;> intro hc)))) | ((fail_if_success (with_reducible refine o_s ?_)); go_step))
      refine bodyPost_ret (results_cellT (cs := zset) rfl rfl p7.this (by decide +kernel)) rfl ⟨_, rfl, x7, ?_⟩
      rw [hno]
      rfl

end Go.Proofs.X
set_option linter.unusedSimpArgs false
set_option linter.unusedVariables false
namespace Go.Proofs.X
open Go.RowKit
set_option maxRecDepth 100000
set_option maxHeartbeats 2000000 in
/-- lodestarref07.Records -/
theorem r7_Records (v : Value) (l : List RSet) (w : World) (hv : SetsAt w v l) (hb : (recordsS l).length ≤ 100000) : Calls Tryz.prog 23 #[v] w (Ret w fun r w' => Own w.heap.size 4 66 w' r (rcells (recordsS l))) := by
  obtain ⟨cv, hv1, hvl⟩ := hv.sl
  have hle := hv1.le
  go_enter Tryz.func23, Tryz.ntmps23
  repeat' (first | ((with_reducible refine o_s ?_); (first | (refine o_1 ?_; refine o_2 ?_) | (refine o_g ?_; first | refine o_u ?_ | refine o_k ?_ | refine o_n ?_ | refine o_v ?_ | ((first | refine o_G ?_ ?_ | refine o_N ?_ ?_) <;> intro hc)))) | ((fail_if_success (with_reducible refine o_s ?_)); go_step))
  go_loopw [3, 4, 5] (fun o i _ wr => ∃ k : Nat, k ≤ l.length ∧ i = .int .i64 k ∧ Ext w wr ∧ Own w.heap.size 4 66 wr o (rcells (recsP l k))) (fun _ i _ _ => l.length - (intOf i).toNat)
  case atStart => exact ⟨0, Nat.zero_le _, rfl, Ext.refl _, Own.nil _ _ _ _⟩
  case round =>
    obtain ⟨k, hk, rfl, hx, ho⟩ := hrel
    have hv2 := hv1.ext hx
    by_cases hlt : k < l.length
    · obtain ⟨x, h4, h4d⟩ := hv.elem (List.getElem?_eq_getElem hlt)
      have hdl := tcells_length l[k].data
      have hdle := h4d.le
      repeat' (first | ((with_reducible refine o_s ?_); (first | (refine o_1 ?_; refine o_2 ?_) | (refine o_g ?_; first | refine o_u ?_ | refine o_k ?_ | refine o_n ?_ | refine o_v ?_ | ((first | refine o_G ?_ ?_ | refine o_N ?_ ?_) <;> intro hc)))) | ((fail_if_success (with_reducible refine o_s ?_)); go_step))
      go_loopw [3, 5] (fun o i wq => ∃ j : Nat, j ≤ l[k].data.length ∧ i = .int .i64 j ∧ Ext w wq ∧ Own w.heap.size 4 66 wq o (rcells (recsP l k ++ (l[k].data.take j).map (recOf l[k])))) (fun _ i _ => l[k].data.length - (intOf i).toNat)
      case atStart => exact ⟨0, Nat.zero_le _, rfl, hx, by simpa using ho⟩
      case round =>
        obtain ⟨j, hj, rfl, hxq, hoq⟩ := hrel
        have hv3 := hv1.ext hxq
        have h4q := h4.ext hxq
        have h4dq := h4d.ext hxq
        by_cases hlt2 : j < l[k].data.length
        · have h3 := h4d.elem (tcells_at hlt2)
          have hle1 := recsP_le l (k + 1)
          rw [recsP_succ hlt, List.length_append] at hle1
          have hle2 : (recsOf l[k]).length = l[k].data.length := by simp [recsOf]
          have hcl : (rcells (recsP l k ++ (l[k].data.take j).map (recOf l[k]))).length = (recsP l k).length + j := by simp [rcells]; omega
          repeat' (first | ((with_reducible refine o_s ?_); (first | (refine o_1 ?_; refine o_2 ?_) | (refine o_g ?_; first | refine o_u ?_ | refine o_k ?_ | refine o_n ?_ | refine o_v ?_ | ((first | refine o_G ?_ ?_ | refine o_N ?_ ?_) <;> intro hc)))) | ((fail_if_success (with_reducible refine o_s ?_)); go_step))
          clear hv2 hv3 h4q h4dq
          refine wph_region (S := fun w' => Ext w w') (by decide +kernel) ?_
          intro w5 x5 hh5
          refine tk 0 ?_; refine gset ?_; refine tk 1 ?_; refine gset ?_; refine tk 2 ?_; refine gset ?_; refine tk 3 ?_; refine gset ?_; refine tk 4 ?_; refine gset ?_; refine tk 5 ?_; refine gset ?_; refine tk 6 ?_; refine gset ?_; refine tk 7 ?_; refine gset ?_; refine tk 8 ?_; refine gset ?_; refine tk 9 ?_; refine gset ?_; refine tk 10 ?_; refine gset ?_; refine tk 11 ?_; refine gset ?_; refine tk 12 ?_; refine gset ?_; refine tk 13 ?_; refine gset ?_; refine tk 14 ?_; refine gset ?_; refine tk 15 ?_; refine gset ?_; refine tk 16 ?_; refine gset ?_; refine tk 17 ?_; refine gset ?_; refine tk 18 ?_; refine gset ?_; refine tk 19 ?_; refine gset ?_; refine tk 20 ?_; refine gset ?_; refine tk 21 ?_; refine gset ?_; refine tk 22 ?_; refine gset ?_; refine tk 23 ?_; refine gset ?_
          refine wph_take (i := 24) (v := .agg #[str l[k].name, .int .i64 l[k].kind, .int .i64 l[k].ttl, str l[k].data[j]]) rfl rfl (by decide +kernel) (by decide +kernel) (by decide +kernel) rfl (hxq.trans x5) (fun w' _ => Runs.build rfl (by kernel_rfl)) (fun _ _ _ h => h) ?_
          refine gset ?_
          refine wph_one (i := 25) (by decide +kernel) rfl rfl ?_
          refine wpl_slice (e := 66) (k := 4) (bytes := 48) (xs := [.agg #[str l[k].name, .int .i64 l[k].kind, .int .i64 l[k].ttl, str l[k].data[j]]]) rfl rfl rfl (by simp [Value.cells]) (by decide +kernel) (by simp) ?_
          intro v8 w8 x8 s8 sl8 _
          refine gset ?_
          have hx8 := (hxq.trans x5).trans x8
          refine wph_nil ⟨hx8, ?_⟩
          refine wph_one (i := 26) (by decide +kernel) rfl rfl ?_
          have ho8 := (hoq.ext x5).ext x8
          refine wpl_appendO (B := w.heap.size) (e := 66) (k := 4) rfl ho8 rfl sl8 (by simp [Value.cells, str, Value.oneCell']) hx8.size (by rw [hcl]; simp; omega) ?_
          intro v9 w9 o9 m9 k9
          refine gset ?_
          have x9 : Ext w w9 := ho8.mvx m9 hx8 (Nat.le_refl _)
          have o9 : Own w.heap.size 4 66 w9 v9 (rcells (recsP l k ++ (l[k].data.take (j + 1)).map (recOf l[k]))) := by
            rw [map_take_succ hlt2, ← List.append_assoc]
            simpa [rcells, Rec.cells, recOf, Value.cells] using o9
          refine wph_nil ⟨x9, ?_⟩
          refine wph_one (i := 27) (by decide +kernel) rfl rfl ?_
          repeat' (first | ((with_reducible refine o_s ?_); (first | (refine o_1 ?_; refine o_2 ?_) | (refine o_g ?_; first | refine o_u ?_ | refine o_k ?_ | refine o_n ?_ | refine o_v ?_ | ((first | refine o_G ?_ ?_ | refine o_N ?_ ?_) <;> intro hc)))) | ((fail_if_success (with_reducible refine o_s ?_)); go_step))
          refine ⟨x9, ?_⟩
          refine wph_done (by decide +kernel) ?_
          repeat' (first | ((with_reducible refine o_s ?_); (first | (refine o_1 ?_; refine o_2 ?_) | (refine o_g ?_; first | refine o_u ?_ | refine o_k ?_ | refine o_n ?_ | refine o_v ?_ | ((first | refine o_G ?_ ?_ | refine o_N ?_ ?_) <;> intro hc)))) | ((fail_if_success (with_reducible refine o_s ?_)); go_step))
          exact ⟨⟨j + 1, by omega, by go_num, x9, o9⟩, by simp [intOf]; omega⟩
        · have : j = l[k].data.length := by omega
          subst this
          repeat' (first | ((with_reducible refine o_s ?_); (first | (refine o_1 ?_; refine o_2 ?_) | (refine o_g ?_; first | refine o_u ?_ | refine o_k ?_ | refine o_n ?_ | refine o_v ?_ | ((first | refine o_G ?_ ?_ | refine o_N ?_ ?_) <;> intro hc)))) | ((fail_if_success (with_reducible refine o_s ?_)); go_step))
          refine ⟨⟨k + 1, by omega, by go_num, hxq, ?_⟩, by simp [intOf]; omega⟩
          rw [recsP_succ hlt]
          rw [List.take_length] at hoq
          exact hoq
    · have : k = l.length := by omega
      subst this
      rw [recsP_all] at ho
      repeat' (first | ((with_reducible refine o_s ?_); (first | (refine o_1 ?_; refine o_2 ?_) | (refine o_g ?_; first | refine o_u ?_ | refine o_k ?_ | refine o_n ?_ | refine o_v ?_ | ((first | refine o_G ?_ ?_ | refine o_N ?_ ?_) <;> intro hc)))) | ((fail_if_success (with_reducible refine o_s ?_)); go_step))
      go_ret
      exact ⟨_, rfl, hx, ho⟩

end Go.Proofs.X
set_option linter.unusedSimpArgs false
set_option linter.unusedVariables false
namespace Go.Proofs.X
open Go.RowKit
set_option maxRecDepth 100000
/-! ### lodestarlaw07.live -/
def liveL : List Rec := [⟨[1, 65], 1, 7, [50, 50, 50, 50]⟩, ⟨[1, 97], 1, 5, [49, 49, 49, 49]⟩, ⟨[], 16, 0, [0]⟩]
def liveA : RSet := ⟨[1, 97], 1, 5, [[49, 49, 49, 49], [50, 50, 50, 50]]⟩
def liveR : RSet := ⟨[], 16, 0, [[0]]⟩
theorem live_gather : gather liveL = [⟨[1, 97], 1, 5, [[50, 50, 50, 50], [49, 49, 49, 49]]⟩, liveR] := by decide +kernel
theorem live_groups : groups liveL = [liveA, liveR] := by
  rw [groups, live_gather]
  simp only [List.map_cons, List.map_nil]
  have h1 : norm ⟨[1, 97], 1, 5, [[50, 50, 50, 50], [49, 49, 49, 49]]⟩ = liveA := by
    unfold norm liveA
    simp only [RSet.mk.injEq, true_and]
    have : List.mergeSort [[50, 50, 50, 50], [49, 49, 49, 49]] (fun x y : List UInt8 => decide (x ≤ y)) = [[49, 49, 49, 49], [50, 50, 50, 50]] := by
      simp [List.mergeSort, List.MergeSort.Internal.splitInTwo, List.merge]
      decide +kernel
    rw [this]
    decide +kernel
  have h2 : norm liveR = liveR := by
    unfold norm liveR
    simp [List.mergeSort]
    decide +kernel
  rw [h1, h2]
theorem live_E : groupE liveL = 0 := by
  have h1 : liveL.all okR = true := by decide +kernel
  rw [groupE, live_groups, if_neg (by rw [h1]; simp), if_neg (by decide +kernel), if_neg (by decide +kernel)]
theorem perm_two {α : Type} {a b : α} {l : List α} (h : l.Perm [a, b]) : l = [a, b] ∨ l = [b, a] := by
  have hl := h.length_eq
  match l, hl with
  | [x, y], _ =>
    have hx : x ∈ [a, b] := h.mem_iff.1 (by simp)
    simp only [List.mem_cons, List.not_mem_nil, or_false] at hx
    rcases hx with rfl | rfl
    · have := (List.perm_cons x).1 h
      have hy := List.perm_singleton.1 this
      simp only [List.cons.injEq, and_true] at hy
      left; rw [hy]
    · have h2 : [x, y].Perm [x, a] := h.trans (List.Perm.swap _ _ _)
      have := (List.perm_cons x).1 h2
      have hy := List.perm_singleton.1 this
      simp only [List.cons.injEq, and_true] at hy
      right; rw [hy]
theorem live_out {out : List RSet} (h : out.Perm (groups liveL)) (hs : Sorted out) : out = [liveR, liveA] := by
  rw [live_groups] at h
  rcases perm_two h with rfl | rfl
  · exfalso
    have := hs 0 1 liveA liveR (by omega) rfl rfl
    revert this
    decide +kernel
  · rfl
theorem live_check : checkS [liveR, liveA] = 0 := by decide +kernel
theorem live_check0 : checkS [⟨[], 0, 0, []⟩] = 1 := by decide +kernel
theorem live_find : findS [liveR, liveA] [1, 65] 1 = some liveA := by decide +kernel
theorem live_E0 : groupE [⟨[], 0, 0, []⟩] = 1 := by decide +kernel
theorem live_recs : (recordsS [liveR, liveA]).length = 3 := by decide +kernel

end Go.Proofs.X
set_option linter.unusedSimpArgs false
set_option linter.unusedVariables false
namespace Go.Proofs.X
open Go.RowKit
set_option maxRecDepth 100000
def Yes (w : World) (e : Ending) (w' : World) : Prop := e = .returned (.bool true) ∧ Ext w w'
set_option maxHeartbeats 4000000 in
theorem t8 (w : World) : Calls Tryz.prog 13 #[] w (Yes w) := by
  go_enter Tryz.func13, Tryz.ntmps13
  repeat' ((fail_if_success (with_reducible refine o_s ?_)); go_step)
  repeat' (first | ((with_reducible refine o_s ?_); (first | (refine o_1 ?_; refine o_2 ?_) | (refine o_g ?_; first | refine o_u ?_ | refine o_k ?_ | refine o_n ?_ | refine o_v ?_ | ((first | refine o_G ?_ ?_ | refine o_N ?_ ?_) <;> intro hc)))) | ((fail_if_success (with_reducible refine o_s ?_)); go_step))
  refine wpl_run (v := .agg #[str [1, 65], .int .i64 1, .int .i64 7, str [50, 50, 50, 50]]) rfl (Runs.build rfl (by kernel_rfl)) ?_
  refine gset ?_
  refine wpl_run (v := .agg #[str [1, 97], .int .i64 1, .int .i64 5, str [49, 49, 49, 49]]) rfl (Runs.build rfl (by kernel_rfl)) ?_
  refine gset ?_
  refine wpl_run (v := .agg #[str [], .int .i64 16, .int .i64 0, str [0]]) rfl (Runs.build rfl (by kernel_rfl)) ?_
  refine gset ?_
  refine wpl_slice (e := 66) (k := 4) (bytes := 48) (xs := liveL.map fun r => .agg r.cells.toArray) rfl rfl rfl (by intro x hx; obtain ⟨r, _, rfl⟩ := List.mem_map.1 hx; rfl) (by decide +kernel) (by decide +kernel) ?_
  intro v1 w1 x1 s1 sl1 _
  have sl1' : Sl 4 w1 v1 (rcells liveL) := by simpa [rcells, Value.cells, List.map_map, Function.comp_def] using sl1
  refine gset ?_
  refine wpl_callR (enters_of Tryz.func14 rfl rfl) rfl rfl (t9 v1 liveL _ sl1' (by decide +kernel)) ?_
  intro r2 w2 x2 hr2
  unfold GroupR at hr2
  rw [live_E, if_pos rfl] at hr2
  obtain ⟨out, v2, rfl, hperm, hsort, hs2⟩ := hr2
  obtain rfl := live_out hperm hsort
  clear hperm hsort sl1 s1
  refine gset ?_
  repeat' (first | ((with_reducible refine o_s ?_); (first | (refine o_1 ?_; refine o_2 ?_) | (refine o_g ?_; first | refine o_u ?_ | refine o_k ?_ | refine o_n ?_ | refine o_v ?_ | ((first | refine o_G ?_ ?_ | refine o_N ?_ ?_) <;> intro hc)))) | ((fail_if_success (with_reducible refine o_s ?_)); go_step))
  refine wpl_run (v := .agg #[str [], .int .i64 0, .int .i64 0, str []]) rfl (Runs.build0 (by kernel_rfl)) ?_
  refine gset ?_
  refine wpl_slice (e := 66) (k := 4) (bytes := 48) (xs := [.agg #[str [], .int .i64 0, .int .i64 0, str []]]) rfl rfl rfl (by simp [Value.cells]) (by decide +kernel) (by decide +kernel) ?_
  intro v3 w3 x3 s3 sl3 _
  have sl3' : Sl 4 w3 v3 (rcells [⟨[], 0, 0, []⟩]) := by simpa [rcells, Value.cells, Rec.cells] using sl3
  refine gset ?_
  refine wpl_callR (enters_of Tryz.func14 rfl rfl) rfl rfl (t9 v3 [⟨[], 0, 0, []⟩] _ sl3' (by decide +kernel)) ?_
  intro r4 w4 x4 hr4
  unfold GroupR at hr4
  rw [live_E0, if_neg (by omega)] at hr4
  subst hr4
  clear sl3 s3
  refine gset ?_
  repeat' (first | ((with_reducible refine o_s ?_); (first | (refine o_1 ?_; refine o_2 ?_) | (refine o_g ?_; first | refine o_u ?_ | refine o_k ?_ | refine o_n ?_ | refine o_v ?_ | ((first | refine o_G ?_ ?_ | refine o_N ?_ ?_) <;> intro hc)))) | ((fail_if_success (with_reducible refine o_s ?_)); go_step))
  have hs4 := hs2.ext (x3.trans x4)
  obtain ⟨c2, hc2, hc2l⟩ := hs4.sl
  have hl2 : c2.length = 2 := hc2l
  repeat' (first | ((with_reducible refine o_s ?_); (first | (refine o_1 ?_; refine o_2 ?_) | (refine o_g ?_; first | refine o_u ?_ | refine o_k ?_ | refine o_n ?_ | refine o_v ?_ | ((first | refine o_G ?_ ?_ | refine o_N ?_ ?_) <;> intro hc)))) | ((fail_if_success (with_reducible refine o_s ?_)); go_step))
  rotate_left
  all_goals first
    | (exfalso; rename_i hbad; simp at hbad; done)
    | (exfalso; rename_i hbad; simp at hbad; omega)
    | (exfalso; simp_all; done)
    | skip
  refine wpl_callR (enters_of Tryz.func19 rfl rfl) rfl rfl (t13 v2 [liveR, liveA] [1, 65] 1 _ hs4 (by simp [liveR, liveA])) ?_
  intro r5 w5 x5 hr5
  rw [live_find] at hr5
  obtain ⟨x, rfl, ox⟩ := hr5
  refine gset ?_
  repeat' (first | ((with_reducible refine o_s ?_); (first | (refine o_1 ?_; refine o_2 ?_) | (refine o_g ?_; first | refine o_u ?_ | refine o_k ?_ | refine o_n ?_ | refine o_v ?_ | ((first | refine o_G ?_ ?_ | refine o_N ?_ ?_) <;> intro hc)))) | ((fail_if_success (with_reducible refine o_s ?_)); go_step))
  refine wpl_allocB (z := zset) rfl (by decide +kernel) ?_
  intro w6 x6 s6 h6
  repeat' (first | ((with_reducible refine o_s ?_); (first | (refine o_1 ?_; refine o_2 ?_) | (refine o_g ?_; first | refine o_u ?_ | refine o_k ?_ | refine o_n ?_ | refine o_v ?_ | ((first | refine o_G ?_ ?_ | refine o_N ?_ ?_) <;> intro hc)))) | ((fail_if_success (with_reducible refine o_s ?_)); go_step))
  refine wpl_storeB (v := .agg #[str liveA.name, .int .i64 liveA.kind, .int .i64 liveA.ttl, x]) rfl rfl rfl h6 (show sizeTy Tryz.prog 35 4 = true by decide +kernel) rfl (all4 rfl rfl rfl ox.one) ?_
  intro w7 p7
  have x57 : Ext w5 w7 := x6.move p7.mv (by rintro k ⟨⟩; exact Nat.le_refl _)
  have hp7 := pts_block (cs := [str [1, 97], .int .i64 1, .int .i64 5, x]) p7.this
  have ox7 := (ox.sl.ext x57)
  have hs7 := hs4.ext (x5.trans x57)
  clear p7 h6 x6
  repeat' (first | ((with_reducible refine o_s ?_); (first | (refine o_1 ?_; refine o_2 ?_) | (refine o_g ?_; first | refine o_u ?_ | refine o_k ?_ | refine o_n ?_ | refine o_v ?_ | ((first | refine o_G ?_ ?_ | refine o_N ?_ ?_) <;> intro hc)))) | ((fail_if_success (with_reducible refine o_s ?_)); go_step))
  refine wpl_callR (enters_of Tryz.func22 rfl rfl) rfl rfl (t10 v2 [liveR, liveA] _ hs7 (by rw [live_recs]; omega)) ?_
  intro r8 w8 x8 o8
  have or8 := o8.sl
  have hl8 : (rcells (recordsS [liveR, liveA])).length = 3 := by rw [rcells_length, live_recs]
  refine gset ?_
  repeat' (first | ((with_reducible refine o_s ?_); (first | (refine o_1 ?_; refine o_2 ?_) | (refine o_g ?_; first | refine o_u ?_ | refine o_k ?_ | refine o_n ?_ | refine o_v ?_ | ((first | refine o_G ?_ ?_ | refine o_N ?_ ?_) <;> intro hc)))) | ((fail_if_success (with_reducible refine o_s ?_)); go_step))
  have hs8 := hs7.ext x8
  obtain ⟨y, hy, hyd⟩ := hs8.elem (i := 1) (s := liveA) rfl
  have hy' : Pts w8 (elemPtr v2 (1 * 4)) [str [1, 97], .int .i64 1, .int .i64 5, y] := hy
  have hyd' : Sl 1 w8 y (tcells liveA.data) := hyd
  have hy0 := hyd.elem (i := 0) (e := [str [49, 49, 49, 49]]) rfl
  have hc8 := hc2.ext ((x5.trans x57).trans x8)
  have hox8 := ox7.ext x8
  have hp8 := hp7.ext x8
  have hlen2 : (tcells liveA.data).length = 2 := rfl
  have e2 : (((tcells liveA.data).length : Nat) : Int) = 2 := by rw [hlen2]; rfl
  have e3 : (((rcells (recordsS [liveR, liveA])).length : Nat) : Int) = 3 := by rw [hl8]; rfl
  refine wph_region (S := Ext w8) (by decide +kernel) ?_
  intro w9 x9 _
  refine tk 0 ?_; refine gset ?_; refine tk 1 ?_; refine gset ?_; refine tk 2 ?_; refine gset ?_; refine tk 3 ?_; refine gset ?_; refine tk 4 ?_; refine gset ?_; refine tk 5 ?_; refine gset ?_; refine tk 6 ?_; refine gset ?_; refine tk 7 ?_; refine gset ?_; refine tk 8 ?_; refine gset ?_; refine tk 9 ?_; refine gset ?_; refine tk 10 ?_; refine gset ?_; refine tk 11 ?_; refine gset ?_
  simp only [e2, decide_true]
  refine tk 12 ?_; refine gset ?_; refine tk 13 ?_; refine gset ?_; refine tk 14 ?_; refine gset ?_; refine tk 15 ?_; refine gset ?_; refine tk 16 ?_; refine gset ?_; refine tk 17 ?_; refine gset ?_; refine tk 18 ?_; refine gset ?_; refine tk 19 ?_; refine gset ?_; refine tk 20 ?_; refine gset ?_; refine tk 21 ?_; refine gset ?_; refine tk 22 ?_; refine gset ?_; refine tk 23 ?_; refine gset ?_
  refine wph_one (i := 24) (by decide +kernel) rfl rfl ?_
  refine wpl_callV (enters_of Tryz.func24 rfl rfl) rfl rfl (t12 v2 [liveR, liveA] _ (hs8.ext x9)) ?_; intro w10 x10; refine gset ?_
  rw [live_check]
  refine wph_nil ⟨by exact extc, ?_⟩
  refine tk 25 ?_; refine gset ?_; refine tk 26 ?_; refine gset ?_; refine tk 27 ?_; refine gset ?_; refine tk 28 ?_; refine gset ?_; refine tk 29 ?_; refine gset ?_; refine tk 30 ?_; refine gset ?_; refine tk 31 ?_; refine gset ?_
  refine wph_one (i := 32) (by decide +kernel) rfl rfl ?_
  refine wpl_callV (enters_of Tryz.func21 rfl rfl) rfl rfl (t15 liveA liveA x y _ ((hox8.ext x9).ext x10) ((hyd'.ext x9).ext x10)) ?_; intro w11 x11; refine gset ?_
  try simp only [decide_true]
  refine wph_nil ⟨by exact extc, ?_⟩
  refine tk 33 ?_; refine gset ?_; refine tk 34 ?_; refine gset ?_; refine tk 35 ?_; refine gset ?_; refine tk 36 ?_; refine gset ?_; refine tk 37 ?_; refine gset ?_; refine tk 38 ?_; refine gset ?_; refine tk 39 ?_; refine gset ?_; refine tk 40 ?_; refine gset ?_
  simp only [e3, decide_true]
  refine tk 41 ?_; refine gset ?_; refine tk 42 ?_; refine gset ?_
  refine wph_take (i := 43) (v := .agg zset.toArray) rfl rfl (by decide +kernel) (by decide +kernel) (by decide +kernel) rfl (by exact extc) (fun w' _ => Runs.build0 (by kernel_rfl)) (fun _ _ _ h => h) ?_
  refine gset ?_
  refine wph_one (i := 44) (by decide +kernel) rfl rfl ?_
  refine wpl_slice (e := 35) (k := 4) (bytes := 56) (xs := [.agg zset.toArray]) rfl rfl rfl (by simp [Value.cells, zset]) (by decide +kernel) (by decide +kernel) ?_
  intro v12 w12 x12 s12 sl12 _
  refine gset ?_
  refine wph_nil ⟨by exact extc, ?_⟩
  refine wph_one (i := 45) (by decide +kernel) rfl rfl ?_
  have hz : SetsAt w12 v12 [⟨[], 0, 0, []⟩] := by
    refine ⟨_, sl12, rfl, ?_⟩
    intro i s hs
    match i, hs with
    | 0, hs =>
      cases hs
      exact ⟨.slice none 0 0, rfl, Sl.nil _ _⟩
  refine wpl_callV (enters_of Tryz.func24 rfl rfl) rfl rfl (t12 v12 [⟨[], 0, 0, []⟩] _ hz) ?_; intro w13 x13; refine gset ?_
  rw [live_check0]
  refine wph_nil ⟨by exact extc, ?_⟩
  refine tk 46 ?_; refine gset ?_; refine tk 47 ?_; refine gset ?_; refine tk 48 ?_; refine gset ?_
  refine wph_done (by decide +kernel) ?_
  repeat' (first | ((with_reducible refine o_s ?_); (first | (refine o_1 ?_; refine o_2 ?_) | (refine o_g ?_; first | refine o_u ?_ | refine o_k ?_ | refine o_n ?_ | refine o_v ?_ | ((first | refine o_G ?_ ?_ | refine o_N ?_ ?_) <;> intro hc)))) | ((fail_if_success (with_reducible refine o_s ?_)); go_step))
  go_ret
  exact ⟨rfl, by exact extc⟩

end Go.Proofs.X
set_option linter.unusedSimpArgs false
set_option linter.unusedVariables false
namespace Go.Proofs.X
open Go.RowKit
set_option maxRecDepth 100000
/-! ### plain laws: what may be is found -/
theorem TPO.ltt {α : Type} {c : α → α → Int} (h : TPO c) {x y z : α} (h1 : c x y < 0) (h2 : c y z < 0) : c x z < 0 := by
  have h3 := h.tr x y z (by omega) (by omega)
  rcases Int.lt_or_eq_of_le h3 with h4 | h4
  · exact h4
  · exfalso
    have h5 := (h.eqL h4 (z := y)).1 (by omega)
    have h6 := h.anti y z
    omega
theorem check_ok {l : List RSet} (h : checkS l = 0) : ∀ i, i < l.length → badSet l i = false := by
  unfold checkS at h
  split at h
  · omega
  · split at h
    · rename_i h1
      intro i hi
      rw [List.all_eq_true] at h1
      have := h1 i (by simpa using hi)
      simpa using this
    · omega
theorem check_may {l : List RSet} (h : checkS l = 0) {i : Nat} (hi : i < l.length) : mayS l[i] = true := by
  have := check_ok h i hi
  rw [badSet, List.getElem?_eq_getElem hi] at this
  simp only [Bool.or_eq_false_iff, Bool.not_eq_false'] at this
  exact this.1
theorem check_lt {l : List RSet} (h : checkS l = 0) {i : Nat} (hi : i + 1 < l.length) : cmpSet l[i].name l[i + 1].name l[i].kind l[i + 1].kind < 0 := by
  have := check_ok h (i + 1) hi
  rw [badSet, List.getElem?_eq_getElem hi] at this
  simp only [Bool.or_eq_false_iff, Bool.and_eq_false_iff, decide_eq_false_iff_not] at this
  have h2 := this.2.resolve_left (by omega)
  have e : l.getD (i + 1 - 1) default = l[i] := by simp [show i < l.length by omega]
  rw [e] at h2
  omega
theorem check_sorted {l : List RSet} (h : checkS l = 0) (i : Nat) : ∀ j (hj : i < j) (hl : j < l.length), cmpSet l[i].name l[j].name l[i].kind l[j].kind < 0
  | 0, hj, _ => by omega
  | j + 1, hj, hl => by
    have h1 := check_lt h hl
    by_cases e : i = j
    · subst e; exact h1
    · have h2 := check_sorted h i j (by omega) (by omega)
      exact tpo_cmpSet.ltt (x := (l[i].name, l[i].kind)) (y := (l[j].name, l[j].kind)) (z := (l[j + 1].name, l[j + 1].kind)) h2 h1
theorem may_fold {s : RSet} (h : mayS s = true) : fold s.name = s.name := by
  simp only [mayS, Bool.and_eq_true, decide_eq_true_eq] at h
  exact h.1.1.1
theorem found_all {l : List RSet} (h : checkS l = 0) {i : Nat} (hi : i < l.length) : findS l l[i].name l[i].kind = some l[i] := by
  have hf := may_fold (check_may h hi)
  refine find_at hi ?_ (by simp [hit, hf])
  rw [List.find?_eq_none]
  intro x hx hh
  obtain ⟨j, hj, rfl⟩ := List.getElem_of_mem hx
  have hj' : j < i := by rw [List.length_take] at hj; omega
  rw [List.getElem_take] at hh
  simp only [hit, hf, Bool.and_eq_true, decide_eq_true_eq] at hh
  have h1 := check_sorted h j i hj' hi
  rw [hh.1, hh.2] at h1
  have h2 := tpo_cmpSet.refl (l[i].name, l[i].kind)
  simp only at h2
  omega
theorem find_kind {l : List RSet} {n : List UInt8} {k : Int} {s : RSet} (h : findS l n k = some s) : s.kind = k := by
  have := List.find?_some h
  simp only [hit, Bool.and_eq_true, decide_eq_true_eq] at this
  exact this.2
theorem meet3 {α β : Type} {F : α → β → World → Prop} {G : α → β → World → Prop} {goal : Prop} (h1 : (∀ x y w', F x y w' → G x y w') → goal) (h2 : ∀ x y w', F x y w' → G x y w') : goal := h1 h2

end Go.Proofs.X
set_option linter.unusedSimpArgs false
set_option linter.unusedVariables false
namespace Go.Proofs.X
open Go.RowKit
set_option maxRecDepth 100000
section
variable {P : Program} {w : World} {ts : List Value} {df : List Deferred} {d : Option Nat} {ty : TypeId} {ps : String} {af : Array Edge} {g : Option (Nat × Bool)}
def boolTy (P : Program) (t : TypeId) : Bool := match P.underlying t with | some .bool => true | _ => false
theorem Runs.eqlB {t u : TypeId} {x y : Operand} {a b : Bool} (hx : (Act.mk ts.toArray df).eval x = .bool a) (hy : (Act.mk ts.toArray df).eval y = .bool b) (ht : boolTy P t = true) :
    Runs P (Oper.mk d (.binOp .eql t x y u) ty ps af g) (Act.mk ts.toArray df) w (.bool (a == b)) := by
  have hu : P.underlying t = some .bool := by
    unfold boolTy at ht; split at ht
    · assumption
    · cases ht
  constructor
  simp [execOp, hx, hy, eqGuard, binOp, run_equal_bool w t a b hu]
end
theorem few_bounds {l : List RSet} (h : fewS l = true) : l.length ≤ 25 ∧ (∀ s ∈ l, s.data.length ≤ 12) ∧ (∀ s ∈ l, s.name.length ≤ 300) ∧ ∀ s ∈ l, ∀ d ∈ s.data, d.length ≤ 300 := by
  simp only [fewS, Bool.and_eq_true, decide_eq_true_eq, List.all_eq_true, fewAt] at h
  exact ⟨h.1, fun s hs => (h.2 s hs).1.1, fun s hs => (h.2 s hs).1.2, fun s hs d hd => (h.2 s hs).2 d hd⟩
theorem recs_bound : ∀ {l : List RSet}, (∀ s ∈ l, s.data.length ≤ 12) → (recordsS l).length ≤ 12 * l.length
  | [], _ => by simp [recordsS]
  | s :: l, h => by
    have ih := recs_bound (l := l) fun t ht => h t (List.mem_cons_of_mem _ ht)
    have h1 := h s (by simp)
    have e : recordsS (s :: l) = recsOf s ++ recordsS l := by simp [recordsS]
    rw [e, List.length_append, List.length_cons]
    simp only [recsOf, List.length_map]
    omega
def zS : RSet := ⟨[], 0, 0, []⟩
theorem find_uni {w w' : World} {r : Value} {o : Option RSet} (h : match o with
    | some s => ∃ x, r = .tuple #[.agg #[str s.name, .int .i64 s.kind, .int .i64 s.ttl, x], .bool true] ∧ Own w.heap.size 1 9 w' x (tcells s.data)
    | none => r = .tuple #[.agg zset.toArray, .bool false]) :
    ∃ x, r = .tuple #[.agg #[str (o.getD zS).name, .int .i64 (o.getD zS).kind, .int .i64 (o.getD zS).ttl, x], .bool o.isSome] ∧ Sl 1 w' x (tcells (o.getD zS).data) := by
  cases o with
  | none => exact ⟨.slice none 0 0, h, Sl.nil _ _⟩
  | some s =>
    obtain ⟨x, h1, h2⟩ := h
    exact ⟨x, h1, h2.sl⟩
set_option maxHeartbeats 1000000 in
/-- lodestarlaw07.RrsetFinds -/
theorem z4 (v : Value) (l : List RSet) (n : List UInt8) (kd : Int) (w : World) (hv : SetsAt w v l) : Calls Tryz.prog 4 #[v, str n, .int .i64 kd] w (Yes w) := by
  obtain ⟨cv, hv1, hvl⟩ := hv.sl
  have hle := hv1.le
  go_enter Tryz.func4, Tryz.ntmps4
  repeat' (first | ((with_reducible refine o_s ?_); (first | (refine o_1 ?_; refine o_2 ?_) | (refine o_g ?_; first | refine o_u ?_ | refine o_k ?_ | refine o_n ?_ | refine o_v ?_ | ((first | refine o_G ?_ ?_ | refine o_N ?_ ?_) <;> intro hc)))) | ((fail_if_success (with_reducible refine o_s ?_)); go_step))
  refine wpl_callV (enters_of Tryz.func18 rfl rfl) rfl rfl (t14 v l _ hv) ?_; intro w1 x1; refine gset ?_
  repeat' (first | ((with_reducible refine o_s ?_); (first | (refine o_1 ?_; refine o_2 ?_) | (refine o_g ?_; first | refine o_u ?_ | refine o_k ?_ | refine o_n ?_ | refine o_v ?_ | ((first | refine o_G ?_ ?_ | refine o_N ?_ ?_) <;> intro hc)))) | ((fail_if_success (with_reducible refine o_s ?_)); go_step))
  rotate_left
  · have hs : fewS l = true := by simpa using hc
    obtain ⟨b1, b2, b3, b4⟩ := few_bounds hs
    have b5 := recs_bound b2
    have hv1 := hv.ext x1
    refine wpl_callR (enters_of Tryz.func19 rfl rfl) rfl rfl (t13 v l n kd _ hv1 (fun s hs => by have := b2 s hs; omega)) ?_
    intro r2 w2 x2 hr2
    obtain ⟨x, rfl, sx⟩ := find_uni hr2
    generalize hA : (findS l n kd).getD zS = A at *
    generalize hB : (findS l n kd).isSome = B at *
    refine gset ?_
    repeat' (first | ((with_reducible refine o_s ?_); (first | (refine o_1 ?_; refine o_2 ?_) | (refine o_g ?_; first | refine o_u ?_ | refine o_k ?_ | refine o_n ?_ | refine o_v ?_ | ((first | refine o_G ?_ ?_ | refine o_N ?_ ?_) <;> intro hc)))) | ((fail_if_success (with_reducible refine o_s ?_)); go_step))
    refine wpl_allocB (z := zset) rfl (by decide +kernel) ?_
    intro w3 x3 s3 h3
    refine gset ?_
    refine wpl_storeB (v := .agg #[str A.name, .int .i64 A.kind, .int .i64 A.ttl, x]) rfl rfl rfl h3 (show sizeTy Tryz.prog 35 4 = true by decide +kernel) rfl (all4 rfl rfl rfl sx.one) ?_
    intro w4 p4
    have x24 : Ext w2 w4 := x3.move p4.mv (by rintro k ⟨⟩; exact Nat.le_refl _)
    have hp4 := pts_block (cs := [str A.name, .int .i64 A.kind, .int .i64 A.ttl, x]) p4.this
    have xw4 := (x1.trans x2).trans x24
    have sx4 := sx.ext x24
    clear p4 h3 x3 hr2
    repeat' (first | ((with_reducible refine o_s ?_); (first | (refine o_1 ?_; refine o_2 ?_) | (refine o_g ?_; first | refine o_u ?_ | refine o_k ?_ | refine o_n ?_ | refine o_v ?_ | ((first | refine o_G ?_ ?_ | refine o_N ?_ ?_) <;> intro hc)))) | ((fail_if_success (with_reducible refine o_s ?_)); go_step))
    refine wpl_callR (enters_of Tryz.func20 rfl rfl) rfl rfl (r7_Find v l n kd _ (hv.ext xw4) (fun s hs => by have := b2 s hs; omega)) ?_
    intro r5 w5 x5 hr5
    obtain ⟨y, rfl, sy⟩ := find_uni hr5
    rw [hA, hB] at *
    refine gset ?_
    repeat' (first | ((with_reducible refine o_s ?_); (first | (refine o_1 ?_; refine o_2 ?_) | (refine o_g ?_; first | refine o_u ?_ | refine o_k ?_ | refine o_n ?_ | refine o_v ?_ | ((first | refine o_G ?_ ?_ | refine o_N ?_ ?_) <;> intro hc)))) | ((fail_if_success (with_reducible refine o_s ?_)); go_step))
    refine wpl_allocB (z := zset) rfl (by decide +kernel) ?_
    intro w6 x6 s6 h6
    refine gset ?_
    refine wpl_storeB (v := .agg #[str A.name, .int .i64 A.kind, .int .i64 A.ttl, y]) rfl rfl rfl h6 (show sizeTy Tryz.prog 35 4 = true by decide +kernel) rfl (all4 rfl rfl rfl sy.one) ?_
    intro w7 p7
    have x57 : Ext w5 w7 := x6.move p7.mv (by rintro k ⟨⟩; exact Nat.le_refl _)
    have hp7 := pts_block (cs := [str A.name, .int .i64 A.kind, .int .i64 A.ttl, y]) p7.this
    have hp4 := hp4.ext (x5.trans x57)
    have xw7 := (xw4.trans x5).trans x57
    have sx7 := sx4.ext (x5.trans x57)
    have sy7 := sy.ext x57
    clear p7 h6 x6 hr5
    repeat' (first | ((with_reducible refine o_s ?_); (first | (refine o_1 ?_; refine o_2 ?_) | (refine o_g ?_; first | refine o_u ?_ | refine o_k ?_ | refine o_n ?_ | refine o_v ?_ | ((first | refine o_G ?_ ?_ | refine o_N ?_ ?_) <;> intro hc)))) | ((fail_if_success (with_reducible refine o_s ?_)); go_step))
    refine wpl_callV (enters_of Tryz.func21 rfl rfl) rfl rfl (t15 A A x y _ sx7 sy7) ?_; intro w8 x8; refine gset ?_
    repeat' (first | ((with_reducible refine o_s ?_); (first | (refine o_1 ?_; refine o_2 ?_) | (refine o_g ?_; first | refine o_u ?_ | refine o_k ?_ | refine o_n ?_ | refine o_v ?_ | ((first | refine o_G ?_ ?_ | refine o_N ?_ ?_) <;> intro hc)))) | ((fail_if_success (with_reducible refine o_s ?_)); go_step))
    refine wpl_run rfl (Runs.eqlB rfl rfl (by decide +kernel)) ?_
    rw [show (B == B) = true by simp]
    refine gset ?_
    repeat' (first | ((with_reducible refine o_s ?_); (first | (refine o_1 ?_; refine o_2 ?_) | (refine o_g ?_; first | refine o_u ?_ | refine o_k ?_ | refine o_n ?_ | refine o_v ?_ | ((first | refine o_G ?_ ?_ | refine o_N ?_ ?_) <;> intro hc)))) | ((fail_if_success (with_reducible refine o_s ?_)); go_step))
    have xw8 := xw7.trans x8
    refine wpl_callR (enters_of Tryz.func22 rfl rfl) rfl rfl (t10 v l _ (hv.ext xw8) (by omega)) ?_
    intro ra w9 x9 oa
    refine gset ?_
    repeat' (first | ((with_reducible refine o_s ?_); (first | (refine o_1 ?_; refine o_2 ?_) | (refine o_g ?_; first | refine o_u ?_ | refine o_k ?_ | refine o_n ?_ | refine o_v ?_ | ((first | refine o_G ?_ ?_ | refine o_N ?_ ?_) <;> intro hc)))) | ((fail_if_success (with_reducible refine o_s ?_)); go_step))
    refine wpl_callR (enters_of Tryz.func23 rfl rfl) rfl rfl (r7_Records v l _ (hv.ext (xw8.trans x9)) (by omega)) ?_
    intro rb w10 x10 ob
    refine gset ?_
    repeat' (first | ((with_reducible refine o_s ?_); (first | (refine o_1 ?_; refine o_2 ?_) | (refine o_g ?_; first | refine o_u ?_ | refine o_k ?_ | refine o_n ?_ | refine o_v ?_ | ((first | refine o_G ?_ ?_ | refine o_N ?_ ?_) <;> intro hc)))) | ((fail_if_success (with_reducible refine o_s ?_)); go_step))
    refine wpl_callV (enters_of Tryz.func17 rfl rfl) rfl rfl (r3_Same ra rb (recordsS l) (recordsS l) _ (oa.sl.ext x10) ob.sl) ?_; intro w11 x11; refine gset ?_
    repeat' (first | ((with_reducible refine o_s ?_); (first | (refine o_1 ?_; refine o_2 ?_) | (refine o_g ?_; first | refine o_u ?_ | refine o_k ?_ | refine o_n ?_ | refine o_v ?_ | ((first | refine o_G ?_ ?_ | refine o_N ?_ ?_) <;> intro hc)))) | ((fail_if_success (with_reducible refine o_s ?_)); go_step))
    have xw11 := ((xw8.trans x9).trans x10).trans x11
    refine wpl_callV (enters_of Tryz.func24 rfl rfl) rfl rfl (t12 v l _ (hv.ext xw11)) ?_; intro w12 x12; refine gset ?_
    repeat' (first | ((with_reducible refine o_s ?_); (first | (refine o_1 ?_; refine o_2 ?_) | (refine o_g ?_; first | refine o_u ?_ | refine o_k ?_ | refine o_n ?_ | refine o_v ?_ | ((first | refine o_G ?_ ?_ | refine o_N ?_ ?_) <;> intro hc)))) | ((fail_if_success (with_reducible refine o_s ?_)); go_step))
    refine wpl_callV (enters_of Tryz.func25 rfl rfl) rfl rfl (r7_Check v l _ (hv.ext (xw11.trans x12)) (fun s hs d hd => by have := b4 s hs d hd; omega)) ?_; intro w13 x13; refine gset ?_
    repeat' (first | ((with_reducible refine o_s ?_); (first | (refine o_1 ?_; refine o_2 ?_) | (refine o_g ?_; first | refine o_u ?_ | refine o_k ?_ | refine o_n ?_ | refine o_v ?_ | ((first | refine o_G ?_ ?_ | refine o_N ?_ ?_) <;> intro hc)))) | ((fail_if_success (with_reducible refine o_s ?_)); go_step))
    refine wpl_callG (enters_of Tryz.func13 rfl rfl) rfl rfl (t8 _) ?_
    rintro e w14 ⟨rfl, x14⟩
    refine ⟨_, rfl, ?_⟩
    refine gset ?_
    repeat' (first | ((with_reducible refine o_s ?_); (first | (refine o_1 ?_; refine o_2 ?_) | (refine o_g ?_; first | refine o_u ?_ | refine o_k ?_ | refine o_n ?_ | refine o_v ?_ | ((first | refine o_G ?_ ?_ | refine o_N ?_ ?_) <;> intro hc)))) | ((fail_if_success (with_reducible refine o_s ?_)); go_step))
    go_ret
    exact ⟨rfl, ((xw11.trans x12).trans x13).trans x14⟩
  all_goals
    refine wpl_callG (enters_of Tryz.func13 rfl rfl) rfl rfl (t8 _) ?_
    rintro e w2 ⟨rfl, x2⟩
    refine ⟨_, rfl, ?_⟩
    refine gset ?_
    repeat' (first | ((with_reducible refine o_s ?_); (first | (refine o_1 ?_; refine o_2 ?_) | (refine o_g ?_; first | refine o_u ?_ | refine o_k ?_ | refine o_n ?_ | refine o_v ?_ | ((first | refine o_G ?_ ?_ | refine o_N ?_ ?_) <;> intro hc)))) | ((fail_if_success (with_reducible refine o_s ?_)); go_step))
    go_ret
    exact ⟨rfl, by exact extc⟩

end Go.Proofs.X
set_option linter.unusedSimpArgs false
set_option linter.unusedVariables false
namespace Go.Proofs.X
open Go.RowKit
set_option maxRecDepth 100000
/-! ### plain laws: each record is in the set that is found -/
theorem apart_eq {gs : List RSet} (h : Apart gs) {s t : RSet} (hs : s ∈ gs) (ht : t ∈ gs) (hn : s.name = t.name) (hk : s.kind = t.kind) : s = t := by
  obtain ⟨i, hi⟩ := List.mem_iff_getElem?.1 hs
  obtain ⟨j, hj⟩ := List.mem_iff_getElem?.1 ht
  by_cases e : i = j
  · subst e
    rw [hi] at hj
    exact Option.some.inj hj
  · exact absurd ⟨hn, hk⟩ (h i j s t hi hj e)
theorem group_found {l : List Rec} {out : List RSet} (hp : out.Perm (groups l)) {q : Rec} (hq : q ∈ l) : ∃ s, findS out q.name q.kind = some s ∧ s ∈ out ∧ s.ttl ≤ q.ttl ∧ q.data ∈ s.data := by
  obtain ⟨t, ht, hm, h1, h2⟩ := gather_cov hq
  simp only [match1, Bool.and_eq_true, decide_eq_true_eq] at hm
  have hn : norm t ∈ out := hp.mem_iff.2 (List.mem_map_of_mem ht)
  have hh : hit (fold q.name) q.kind (norm t) = true := by simp [hit, norm_eq, hm.1, hm.2]
  cases hf : findS out q.name q.kind with
  | none =>
    rw [findS, List.find?_eq_none] at hf
    exact absurd hh (hf _ hn)
  | some s =>
    have hs := List.mem_of_find?_eq_some hf
    have hsh := List.find?_some hf
    simp only [hit, Bool.and_eq_true, decide_eq_true_eq] at hsh
    obtain ⟨u, hu, rfl⟩ := List.mem_map.1 (hp.mem_iff.1 hs)
    have e : u = t := apart_eq (gather_apart l) hu ht (hsh.1.trans hm.1.symm) (hsh.2.trans hm.2.symm)
    subst e
    exact ⟨_, rfl, hs, h1, by rw [norm_eq]; exact mem_nub.2 h2⟩
theorem group_small {l : List Rec} {out : List RSet} (hp : out.Perm (groups l)) (h : groupE l = 0) : ∀ s ∈ out, s.data.length ≤ 20 := by
  intro s hs
  rw [groupE] at h
  split at h
  · omega
  · split at h
    · omega
    · rename_i hb
      have hm := hp.mem_iff.1 hs
      have : (groups l).any big = false := by simpa using hb
      rw [List.any_eq_false] at this
      have := this s hm
      simpa [big] using this
theorem mem_take_succ {α : Type} {l : List α} {k : Nat} (h : k < l.length) {x : α} : x ∈ l.take (k + 1) ↔ x ∈ l.take k ∨ l[k] = x := by
  rw [List.take_add_one, List.getElem?_eq_getElem h]
  rw [List.mem_append]
  simp only [Option.toList_some, List.mem_singleton]
  rw [eq_comm (a := x)]
theorem or_step {A B : Prop} [Decidable B] (h : (false = true) ↔ A) : decide B = true ↔ A ∨ B := by
  rw [decide_eq_true_eq]
  exact ⟨.inr, fun x => x.resolve_left fun a => by cases h.2 a⟩

end Go.Proofs.X
set_option linter.unusedSimpArgs false
set_option linter.unusedVariables false
namespace Go.Proofs.X
open Go.RowKit
set_option maxRecDepth 100000
/-! ### plain laws: what is grouped, grouped again -/
theorem mem_addTo : ∀ {gs : List RSet} {r : Rec} {s : RSet}, Apart gs → s ∈ addTo gs r → (s ∈ gs ∧ match1 s r = false) ∨ (∃ t ∈ gs, match1 t r = true ∧ s = bump t r) ∨ ((∀ t ∈ gs, match1 t r = false) ∧ s = ⟨fold r.name, r.kind, r.ttl, [r.data]⟩)
  | [], r, s, _, h => by
    right; right
    exact ⟨by simp, by simpa [addTo] using h⟩
  | a :: l, r, s, hd, h => by
    obtain ⟨p1, p2⟩ := List.pairwise_cons.1 (apart_pw.1 hd)
    by_cases hm : match1 a r = true
    · simp only [addTo, hm, if_true, List.mem_cons] at h
      rcases h with h | h
      · exact .inr (.inl ⟨a, by simp, hm, h⟩)
      · refine .inl ⟨by simp [h], ?_⟩
        cases hs : match1 s r with
        | false => rfl
        | true =>
          exfalso
          simp only [match1, Bool.and_eq_true, decide_eq_true_eq] at hs hm
          exact p1 s h ⟨by rw [hm.1, hs.1], by rw [hm.2, hs.2]⟩
    · have hm' : match1 a r = false := by simpa using hm
      simp only [addTo, hm', Bool.false_eq_true, if_false, List.mem_cons] at h
      rcases h with rfl | h
      · exact .inl ⟨by simp, hm'⟩
      · rcases mem_addTo (apart_pw.2 p2) h with ⟨h1, h2⟩ | ⟨t, h1, h2, h3⟩ | ⟨h1, h2⟩
        · exact .inl ⟨by simp [h1], h2⟩
        · exact .inr (.inl ⟨t, by simp [h1], h2, h3⟩)
        · refine .inr (.inr ⟨?_, h2⟩)
          intro t ht
          rcases List.mem_cons.1 ht with rfl | ht
          · exact hm'
          · exact h1 t ht
/-- what a set is, of the records at hand -/
structure Ch (L : List Rec) (s : RSet) : Prop where
  dat : ∀ d, d ∈ s.data ↔ ∃ r ∈ L, match1 s r = true ∧ r.data = d
  ttl : ∃ r ∈ L, match1 s r = true ∧ r.ttl = s.ttl
  low : ∀ r ∈ L, match1 s r = true → s.ttl ≤ r.ttl
theorem Ch.miss {L : List Rec} {s : RSet} {r : Rec} (h : Ch L s) (hm : match1 s r = false) : Ch (L ++ [r]) s where
  dat d := by
    rw [h.dat]
    constructor
    · rintro ⟨q, h1, h2⟩; exact ⟨q, by simp [h1], h2⟩
    · rintro ⟨q, h1, h2, h3⟩
      rcases List.mem_append.1 h1 with h1 | h1
      · exact ⟨q, h1, h2, h3⟩
      · obtain rfl := List.mem_singleton.1 h1
        rw [hm] at h2; cases h2
  ttl := let ⟨q, h1, h2⟩ := h.ttl; ⟨q, by simp [h1], h2⟩
  low q h1 h2 := by
    rcases List.mem_append.1 h1 with h1 | h1
    · exact h.low q h1 h2
    · obtain rfl := List.mem_singleton.1 h1
      rw [hm] at h2; cases h2
theorem Ch.bump {L : List Rec} {s : RSet} {r : Rec} (h : Ch L s) (hm : match1 s r = true) : Ch (L ++ [r]) (X.bump s r) where
  dat d := by
    show d ∈ s.data ++ [r.data] ↔ ∃ q ∈ L ++ [r], match1 s q = true ∧ q.data = d
    rw [List.mem_append, h.dat, List.mem_singleton]
    constructor
    · rintro (⟨q, h1, h2⟩ | rfl)
      · exact ⟨q, by simp [h1], h2⟩
      · exact ⟨r, by simp, hm, rfl⟩
    · rintro ⟨q, h1, h2, h3⟩
      rcases List.mem_append.1 h1 with h1 | h1
      · exact .inl ⟨q, h1, h2, h3⟩
      · obtain rfl := List.mem_singleton.1 h1
        exact .inr h3.symm
  ttl := by
    show ∃ q ∈ L ++ [r], match1 s q = true ∧ q.ttl = min s.ttl r.ttl
    obtain ⟨q, h1, h2, h3⟩ := h.ttl
    rcases Int.le_total s.ttl r.ttl with hl | hl
    · exact ⟨q, by simp [h1], h2, by rw [h3]; omega⟩
    · exact ⟨r, by simp, hm, by omega⟩
  low q h1 h2 := by
    show min s.ttl r.ttl ≤ q.ttl
    rcases List.mem_append.1 h1 with h1 | h1
    · have := h.low q h1 h2
      omega
    · obtain rfl := List.mem_singleton.1 h1
      omega
theorem Ch.new {L : List Rec} {r : Rec} (h : ∀ q ∈ L, match1 ⟨fold r.name, r.kind, r.ttl, [r.data]⟩ q = false) : Ch (L ++ [r]) ⟨fold r.name, r.kind, r.ttl, [r.data]⟩ where
  dat d := by
    rw [List.mem_singleton]
    constructor
    · rintro rfl; exact ⟨r, by simp, by simp [match1], rfl⟩
    · rintro ⟨q, h1, h2, h3⟩
      rcases List.mem_append.1 h1 with h1 | h1
      · rw [h q h1] at h2; cases h2
      · obtain rfl := List.mem_singleton.1 h1
        exact h3.symm
  ttl := ⟨r, by simp, by simp [match1], rfl⟩
  low q h1 h2 := by
    rcases List.mem_append.1 h1 with h1 | h1
    · rw [h q h1] at h2; cases h2
    · obtain rfl := List.mem_singleton.1 h1
      exact Int.le_refl _
theorem gather_ch (l : List Rec) : ∀ k, k ≤ l.length → ∀ s ∈ gather (l.take k), Ch (l.take k) s
  | 0, _, s, h => by simp [gather] at h
  | k + 1, hk, s, h => by
    have hlt : k < l.length := by omega
    have e : l.take (k + 1) = l.take k ++ [l[k]] := by simp
    rw [gather_snoc hlt] at h
    rw [e]
    have ih := gather_ch l k (by omega)
    rcases mem_addTo (gather_apart _) h with ⟨h1, h2⟩ | ⟨t, h1, h2, rfl⟩ | ⟨h1, rfl⟩
    · exact (ih s h1).miss h2
    · exact (ih t h1).bump h2
    · refine Ch.new fun q hq => ?_
      obtain ⟨t, ht, hm, _⟩ := gather_cov hq
      have := h1 t ht
      cases hx : match1 ⟨fold l[k].name, l[k].kind, l[k].ttl, [l[k].data]⟩ q with
      | false => rfl
      | true =>
        exfalso
        simp only [match1, Bool.and_eq_true, decide_eq_true_eq] at hx hm
        have h5 : match1 t l[k] = true := by
          simp only [match1, Bool.and_eq_true, decide_eq_true_eq]
          exact ⟨by rw [hm.1, hx.1], by rw [hm.2, hx.2]⟩
        rw [this] at h5; cases h5
theorem Ch.norm {L : List Rec} {s : RSet} (h : Ch L s) : Ch L (X.norm s) where
  dat d := by
    show d ∈ nub s.data ↔ ∃ r ∈ L, match1 s r = true ∧ r.data = d
    rw [mem_nub, h.dat]
  ttl := h.ttl
  low := h.low
theorem groups_ch {l : List Rec} {s : RSet} (h : s ∈ groups l) : Ch l s ∧ s.data.Pairwise (· < ·) := by
  obtain ⟨u, hu, rfl⟩ := List.mem_map.1 h
  have := gather_ch l l.length (Nat.le_refl _)
  rw [List.take_length] at this
  exact ⟨(this u hu).norm, strict_nub _⟩
theorem Ch.uniq {L : List Rec} {s t : RSet} (h : Ch L s) (k : Ch L t) (hs : s.data.Pairwise (· < ·)) (ht : t.data.Pairwise (· < ·)) (hn : s.name = t.name) (hk : s.kind = t.kind) : s = t := by
  have hm : ∀ r, match1 s r = match1 t r := fun r => by rw [match1, match1, hn, hk]
  have hd : s.data = t.data := strict_eq hs ht fun d => by
    rw [h.dat, k.dat]
    simp only [hm]
  have ha : s.ttl = t.ttl := by
    obtain ⟨q, h1, h2, h3⟩ := h.ttl
    obtain ⟨q', k1, k2, k3⟩ := k.ttl
    have e1 := k.low q h1 (by rw [← hm]; exact h2)
    have e2 := h.low q' k1 (by rw [hm]; exact k2)
    omega
  cases s; cases t
  simp_all

end Go.Proofs.X
set_option linter.unusedSimpArgs false
set_option linter.unusedVariables false
namespace Go.Proofs.X
open Go.RowKit
set_option maxRecDepth 100000
/-- one put among others, in its place, once -/
def textS (s : List UInt8) : List (List UInt8) → List (List UInt8)
  | [] => [s]
  | x :: l => if Op.bytesLess x s = true then x :: textS s l else if x = s then x :: l else s :: x :: l
theorem textS_take {s : List UInt8} : ∀ {l : List (List UInt8)} {k : Nat}, (∀ x ∈ l.take k, Op.bytesLess x s = true) → textS s l = l.take k ++ textS s (l.drop k)
  | l, 0, _ => by simp
  | [], k + 1, _ => by simp
  | x :: l, k + 1, h => by
    have h1 := h x (by simp)
    simp only [List.take_succ_cons, List.drop_succ_cons, List.cons_append]
    rw [textS, if_pos h1, textS_take (k := k) (fun y hy => h y (by simp [hy]))]
theorem textS_len (s : List UInt8) : ∀ l : List (List UInt8), (textS s l).length ≤ l.length + 1
  | [] => by simp [textS]
  | x :: l => by
    rw [textS]
    split
    · have := textS_len s l; simp; omega
    · split <;> simp
theorem tcells_one (l : List (List UInt8)) : ∀ f ∈ tcells l, ∀ u ∈ f, u.oneCell' = true := by
  intro f hf u hu
  obtain ⟨x, _, rfl⟩ := List.mem_map.1 hf
  simp only [List.mem_singleton] at hu
  subst hu; rfl
set_option maxHeartbeats 1000000 in
/-- lodestarref07.text -/
theorem r7_text (v : Value) (l : List (List UInt8)) (s : List UInt8) (w : World) (hv : Sl 1 w v (tcells l)) (hl : l.length ≤ 100000) : Calls Tryz.prog 93 #[v, str s] w (Ret w fun r w' => (r = v ∧ textS s l = l) ∨ Own w.heap.size 1 9 w' r (tcells (textS s l))) := by
  have hlen := tcells_length l
  go_enter Tryz.func93, Tryz.ntmps93
  repeat' (first | ((with_reducible refine o_s ?_); (first | (refine o_1 ?_; refine o_2 ?_) | (refine o_g ?_; first | refine o_u ?_ | refine o_k ?_ | refine o_n ?_ | refine o_v ?_ | ((first | refine o_G ?_ ?_ | refine o_N ?_ ?_) <;> intro hc)))) | ((fail_if_success (with_reducible refine o_s ?_)); go_step))
  go_loopw [5, 6] (fun o i wr => ∃ k : Nat, k ≤ l.length ∧ i = .int .i64 k ∧ Ext w wr ∧ Own w.heap.size 1 9 wr o (tcells (l.take k)) ∧ ∀ x ∈ l.take k, Op.bytesLess x s = true) (fun _ i _ => l.length - (intOf i).toNat)
  case atStart => exact ⟨0, Nat.zero_le _, rfl, Ext.refl _, Own.nil _ _ _ _, by simp⟩
  case round =>
    obtain ⟨k, hk, rfl, hx, ho, hall⟩ := hrel
    have hv1 := hv.ext hx
    have htx := textS_take hall
    by_cases hlt : k < l.length
    · have hp := hv1.elem (tcells_at hlt)
      have hd : l.drop k = l[k] :: l.drop (k + 1) := List.drop_eq_getElem_cons hlt
      rw [hd, textS] at htx
      repeat' (first | ((with_reducible refine o_s ?_); (first | (refine o_1 ?_; refine o_2 ?_) | (refine o_g ?_; first | refine o_u ?_ | refine o_k ?_ | refine o_n ?_ | refine o_v ?_ | ((first | refine o_G ?_ ?_ | refine o_N ?_ ?_) <;> intro hc)))) | ((fail_if_success (with_reducible refine o_s ?_)); go_step))
      all_goals try (exfalso; omega)
      · have hb := ‹Op.bytesLess l[k] s = true›
        refine ap1 [str l[k]] hx ho (by rw [tcells_length]; simp; omega) ?_
        intro s2 v2 w1 w2 _ _ x2 o2
        refine gset ?_
        repeat' (first | ((with_reducible refine o_s ?_); (first | (refine o_1 ?_; refine o_2 ?_) | (refine o_g ?_; first | refine o_u ?_ | refine o_k ?_ | refine o_n ?_ | refine o_v ?_ | ((first | refine o_G ?_ ?_ | refine o_N ?_ ?_) <;> intro hc)))) | ((fail_if_success (with_reducible refine o_s ?_)); go_step))
        refine ⟨⟨k + 1, by omega, by go_num, x2, ?_, ?_⟩, by simp [intOf]; omega⟩
        · rw [show tcells (l.take (k + 1)) = tcells (l.take k) ++ [[str l[k]]] by rw [tcells, tcells, map_take_succ hlt]]
          exact o2
        · intro x hm
          rw [List.take_add_one, List.getElem?_eq_getElem hlt] at hm
          simp only [Option.toList_some, List.mem_append, List.mem_singleton] at hm
          rcases hm with hm | rfl
          · exact hall x hm
          · exact hb
      · have hb := ‹Op.bytesLess l[k] s = false›
        have he := ‹l[k] = s›
        rw [hb, if_neg (by simp), if_pos he, ← hd, List.take_append_drop] at htx
        go_ret
        exact ⟨_, rfl, hx, .inl ⟨rfl, htx⟩⟩
      · have hb := ‹Op.bytesLess l[k] s = false›
        have he := ‹¬l[k] = s›
        rw [hb, if_neg (by simp), if_neg he, ← hd] at htx
        refine ap1 [str s] hx ho (by rw [tcells_length]; simp; omega) ?_
        intro s2 v2 w1 w2 xa _ x2 o2
        refine gset ?_
        have hv3 := (hv.ext x2)
        repeat' (first | ((with_reducible refine o_s ?_); (first | (refine o_1 ?_; refine o_2 ?_) | (refine o_g ?_; first | refine o_u ?_ | refine o_k ?_ | refine o_n ?_ | refine o_v ?_ | ((first | refine o_G ?_ ?_ | refine o_N ?_ ?_) <;> intro hc)))) | ((fail_if_success (with_reducible refine o_s ?_)); go_step))
        have hcut := hv3.cut (m := k) (n := (tcells l).length) (by omega) (Nat.le_refl _)
        have e : (((tcells l).take (tcells l).length).drop k) = tcells (l.drop k) := by rw [List.take_length]; simp [tcells]
        rw [e] at hcut
        refine wpl_appendO (B := w.heap.size) rfl o2 rfl hcut (tcells_one _) x2.size (by simp only [List.length_append, tcells_length, List.length_take, List.length_drop, List.length_cons, List.length_nil]; omega) ?_
        intro v3 w3 o3 m3 _
        refine gset ?_
        have x3 := o2.mvx m3 x2 (Nat.le_refl _)
        repeat' (first | ((with_reducible refine o_s ?_); (first | (refine o_1 ?_; refine o_2 ?_) | (refine o_g ?_; first | refine o_u ?_ | refine o_k ?_ | refine o_n ?_ | refine o_v ?_ | ((first | refine o_G ?_ ?_ | refine o_N ?_ ?_) <;> intro hc)))) | ((fail_if_success (with_reducible refine o_s ?_)); go_step))
        go_ret
        refine ⟨_, rfl, x3, .inr ?_⟩
        rw [htx]
        simpa [tcells] using o3
    · have : k = l.length := by omega
      subst this
      rw [List.drop_length, List.take_length, textS] at htx
      rw [List.take_length] at ho
      repeat' (first | ((with_reducible refine o_s ?_); (first | (refine o_1 ?_; refine o_2 ?_) | (refine o_g ?_; first | refine o_u ?_ | refine o_k ?_ | refine o_n ?_ | refine o_v ?_ | ((first | refine o_G ?_ ?_ | refine o_N ?_ ?_) <;> intro hc)))) | ((fail_if_success (with_reducible refine o_s ?_)); go_step))
      all_goals try (exfalso; omega)
      refine ap1 [str s] hx ho (by rw [tcells_length]; omega) ?_
      intro s2 v2 w1 w2 xa _ x2 o2
      refine gset ?_
      have hv3 := (hv.ext x2)
      repeat' (first | ((with_reducible refine o_s ?_); (first | (refine o_1 ?_; refine o_2 ?_) | (refine o_g ?_; first | refine o_u ?_ | refine o_k ?_ | refine o_n ?_ | refine o_v ?_ | ((first | refine o_G ?_ ?_ | refine o_N ?_ ?_) <;> intro hc)))) | ((fail_if_success (with_reducible refine o_s ?_)); go_step))
      have hcut := hv3.cut (m := l.length) (n := (tcells l).length) (by omega) (Nat.le_refl _)
      have e : (((tcells l).take (tcells l).length).drop l.length) = tcells [] := by rw [List.take_length]; simp [tcells]
      rw [e] at hcut
      refine wpl_appendO (B := w.heap.size) rfl o2 rfl hcut (tcells_one _) x2.size (by simp only [List.length_append, tcells_length, List.length_take, List.length_drop, List.length_cons, List.length_nil]; omega) ?_
      intro v3 w3 o3 m3 _
      refine gset ?_
      have x3 := o2.mvx m3 x2 (Nat.le_refl _)
      repeat' (first | ((with_reducible refine o_s ?_); (first | (refine o_1 ?_; refine o_2 ?_) | (refine o_g ?_; first | refine o_u ?_ | refine o_k ?_ | refine o_n ?_ | refine o_v ?_ | ((first | refine o_G ?_ ?_ | refine o_N ?_ ?_) <;> intro hc)))) | ((fail_if_success (with_reducible refine o_s ?_)); go_step))
      go_ret
      refine ⟨_, rfl, x3, .inr ?_⟩
      rw [htx]
      simpa [tcells] using o3

end Go.Proofs.X
