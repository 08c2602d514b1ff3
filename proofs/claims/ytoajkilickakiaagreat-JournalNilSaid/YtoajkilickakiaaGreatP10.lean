/- Laws and walks that the proof of the statement is made of (part 10). -/
import Derived.Test.YtoajkilickakiaaGreatProg
import Derived.Lib.Hide
import Derived.Test.YtoajkilickakiaaGreatShelf
import Derived.Shelf.SlSortCmp.NoneTotal
import Derived.OwnWalk
import Derived.Shelf.RegionOpenPlain
import Derived.Lib.Strings
import Derived.Lib.Slices
import Derived.Lib.Walk
import Derived.Lib.Builder
import Derived.Lib.AppendStr
import Derived.Lib.UnsafeStr
import Derived.Lib.MakeNoZero
import Derived.WalkKit
import Derived.Laws.Externs
import Derived.Laws.IdiomCopy
import Derived.Laws.BitsLemmas
import GoSem.Claims
import Derived.Test.YtoajkilickakiaaGreatP1
import Derived.Test.YtoajkilickakiaaGreatP2
import Derived.Test.YtoajkilickakiaaGreatP3
import Derived.Test.YtoajkilickakiaaGreatP4
import Derived.Test.YtoajkilickakiaaGreatP5
import Derived.Test.YtoajkilickakiaaGreatP6
import Derived.Test.YtoajkilickakiaaGreatP7
import Derived.Test.YtoajkilickakiaaGreatP8
import Derived.Test.YtoajkilickakiaaGreatP9
set_option linter.unusedSimpArgs false
set_option linter.unusedVariables false
namespace Go.Proofs.X
open Go.RowKit
set_option maxRecDepth 100000
set_option maxHeartbeats 12000000 in
theorem r7_Find (v : Value) (l : List RSet) (n : List UInt8) (kd : Int) (w : World) (hv : SetsAt w v l) (hb : ∀ s ∈ l, s.data.length ≤ 1000000) : Calls Tryz.prog 48 #[v, str n, .int .i64 kd] w (Ret w fun r w' => match findS l n kd with
    | some s => ∃ x, r = .tuple #[.agg #[str s.name, .int .i64 s.kind, .int .i64 s.ttl, x], .bool true] ∧ Own w.heap.size 1 9 w' x (tcells s.data)
    | none => r = .tuple #[.agg zset.toArray, .bool false]) := by
  obtain ⟨cv, hv1, hvl⟩ := hv.sl
  have hle := hv1.le
  go_enter Tryz.func48, Tryz.ntmps48
  repeat' ((fail_if_success (with_reducible refine o_s ?_)); go_step)
  refine wpl_allocB (z := zset) rfl (by decide +kernel) ?_
  intro w2 x2 s2 h2
  refine gset ?_
  repeat' (first | ((with_reducible refine o_s ?_); (first | (refine o_1 ?_; refine o_2 ?_) | (refine o_g ?_; first | refine o_u ?_ | refine o_k ?_ | refine o_n ?_ | refine o_v ?_ | ((first | refine o_G ?_ ?_ | refine o_N ?_ ?_) <;> intro hc)))) | ((fail_if_success (with_reducible refine o_s ?_)); go_step))
  go_loopw [8] (fun i wr => ∃ k : Nat, k ≤ l.length ∧ i = .int .i64 k ∧ Ext w2 wr ∧ (l.take k).find? (hit (fold n) kd) = none) (fun i _ => l.length - (intOf i).toNat)
  case atStart => exact ⟨0, Nat.zero_le _, rfl, Ext.refl _, rfl⟩
  case round =>
    obtain ⟨k, hk, rfl, hx, hall⟩ := hrel
    have hxw : Ext w wr := x2.trans hx
    have hv2 := hv1.ext hxw
    have h3 := hx.at h2
    by_cases hlt : k < l.length
    · obtain ⟨x, h4, h4d⟩ := (hv.ext hxw).elem (List.getElem?_eq_getElem hlt)
      have hbk := hb _ (List.getElem_mem hlt)
      repeat' (first | ((with_reducible refine o_s ?_); (first | (refine o_1 ?_; refine o_2 ?_) | (refine o_g ?_; first | refine o_u ?_ | refine o_k ?_ | refine o_n ?_ | refine o_v ?_ | ((first | refine o_G ?_ ?_ | refine o_N ?_ ?_) <;> intro hc)))) | ((fail_if_success (with_reducible refine o_s ?_)); go_step))
      refine wpq_region (by decide +kernel) (by decide +kernel) ?_
      repeat' (first | ((with_reducible refine q_s ?_); (first | (refine q_1 ?_; refine q_2 ?_) | (refine q_g ?_; first | refine q_u ?_ | refine q_k ?_ | refine q_v ?_))) | (with_reducible refine q_n ?_))
      refine wpq_call (enters_of Tryz.func44 rfl rfl) rfl rfl (fun w' _ => r1_Fold n w') ?_
      refine gset ?_
      repeat' (first | ((with_reducible refine q_s ?_); (first | (refine q_1 ?_; refine q_2 ?_) | (refine q_g ?_; first | refine q_u ?_ | refine q_k ?_ | refine q_v ?_))) | (with_reducible refine q_n ?_))
      by_cases q1 : l[k].name = fold n
      · rw [decide_eq_true q1]
        repeat' (first | ((with_reducible refine q_s ?_); (first | (refine q_1 ?_; refine q_2 ?_) | (refine q_g ?_; first | refine q_u ?_ | refine q_k ?_ | refine q_v ?_))) | (with_reducible refine q_n ?_))
        intro w5 x5
        have h5 := x5.at h3
        have hv5 := hv2.ext x5
        have hp5 := h4.ext x5
        by_cases q2 : l[k].kind = kd
        · have hh : findS l n kd = some l[k] := find_at hlt hall (by simp [hit, q1, q2])
          rw [decide_eq_true q2]
          repeat' (first | ((with_reducible refine o_s ?_); (first | (refine o_1 ?_; refine o_2 ?_) | (refine o_g ?_; first | refine o_u ?_ | refine o_k ?_ | refine o_n ?_ | refine o_v ?_ | ((first | refine o_G ?_ ?_ | refine o_N ?_ ?_) <;> intro hc)))) | ((fail_if_success (with_reducible refine o_s ?_)); go_step))
          refine wpl_callR (enters_of Tryz.func97 rfl rfl) rfl rfl (r7_Copy l[k] x _ (h4d.ext x5) hbk) ?_
          intro r w6 x6 hr
          obtain ⟨y, rfl, oy⟩ := hr
          refine gset ?_
          have h6 := x6.at h5
          have hs5 := hx.size
          have hs6 := x5.size
          refine wpl_storeB (v := .agg #[str l[k].name, .int .i64 l[k].kind, .int .i64 l[k].ttl, y]) rfl rfl rfl h6 (show sizeTy Tryz.prog 55 4 = true by decide +kernel) rfl (all4 rfl rfl rfl oy.sl.one) ?_
          intro w7 p7
          have x7 : Ext w w7 := ((hxw.trans x5).trans x6).move p7.mv (by rintro k ⟨⟩; exact Nat.le_refl _)
          have o7 := oy.put p7 (by omega)
          repeat' (first | ((with_reducible refine o_s ?_); (first | (refine o_1 ?_; refine o_2 ?_) | (refine o_g ?_; first | refine o_u ?_ | refine o_k ?_ | refine o_n ?_ | refine o_v ?_ | ((first | refine o_G ?_ ?_ | refine o_N ?_ ?_) <;> intro hc)))) | ((fail_if_success (with_reducible refine o_s ?_)); go_step))
          refine bodyPost_ret (results_cellT (cs := [str l[k].name, .int .i64 l[k].kind, .int .i64 l[k].ttl, y]) rfl rfl p7.this (show aggTy Tryz.prog 55 4 = true by decide +kernel)) rfl ⟨_, rfl, x7, ?_⟩
          rw [hh]
          exact ⟨y, rfl, o7.weaken (by omega)⟩
        · rw [decide_eq_false q2]
          repeat' (first | ((with_reducible refine o_s ?_); (first | (refine o_1 ?_; refine o_2 ?_) | (refine o_g ?_; first | refine o_u ?_ | refine o_k ?_ | refine o_n ?_ | refine o_v ?_ | ((first | refine o_G ?_ ?_ | refine o_N ?_ ?_) <;> intro hc)))) | ((fail_if_success (with_reducible refine o_s ?_)); go_step))
          exact ⟨⟨k + 1, by omega, by go_num, hx.trans x5, find_take hlt hall (by simp [hit, q2])⟩, by simp [intOf]; omega⟩
      · rw [decide_eq_false q1]
        repeat' (first | ((with_reducible refine q_s ?_); (first | (refine q_1 ?_; refine q_2 ?_) | (refine q_g ?_; first | refine q_u ?_ | refine q_k ?_ | refine q_v ?_))) | (with_reducible refine q_n ?_))
        intro w5 x5
        repeat' (first | ((with_reducible refine o_s ?_); (first | (refine o_1 ?_; refine o_2 ?_) | (refine o_g ?_; first | refine o_u ?_ | refine o_k ?_ | refine o_n ?_ | refine o_v ?_ | ((first | refine o_G ?_ ?_ | refine o_N ?_ ?_) <;> intro hc)))) | ((fail_if_success (with_reducible refine o_s ?_)); go_step))
        exact ⟨⟨k + 1, by omega, by go_num, hx.trans x5, find_take hlt hall (by simp [hit, q1])⟩, by simp [intOf]; omega⟩
    · have : k = l.length := by omega
      subst this
      have hno : findS l n kd = none := by rw [List.take_length] at hall; exact hall
      repeat' (first | ((with_reducible refine o_s ?_); (first | (refine o_1 ?_; refine o_2 ?_) | (refine o_g ?_; first | refine o_u ?_ | refine o_k ?_ | refine o_n ?_ | refine o_v ?_ | ((first | refine o_G ?_ ?_ | refine o_N ?_ ?_) <;> intro hc)))) | ((fail_if_success (with_reducible refine o_s ?_)); go_step))
      refine wpl_run (v := .agg zset.toArray) rfl (Runs.build0 (by kernel_rfl)) ?_
      refine gset ?_
      refine wpl_storeB (v := .agg zset.toArray) rfl rfl rfl h3 (by decide +kernel) rfl (by decide +kernel) ?_
      intro w7 p7
      have x7 : Ext w w7 := hxw.move p7.mv (by rintro k ⟨⟩; exact Nat.le_refl _)
      repeat' (first | ((with_reducible refine o_s ?_); (first | (refine o_1 ?_; refine o_2 ?_) | (refine o_g ?_; first | refine o_u ?_ | refine o_k ?_ | refine o_n ?_ | refine o_v ?_ | ((first | refine o_G ?_ ?_ | refine o_N ?_ ?_) <;> intro hc)))) | ((fail_if_success (with_reducible refine o_s ?_)); go_step))
      refine bodyPost_ret (results_cellT (cs := zset) rfl rfl p7.this (by decide +kernel)) rfl ⟨_, rfl, x7, ?_⟩
      rw [hno]
      rfl
set_option maxHeartbeats 12000000 in
theorem r8_Has (o : List UInt8) (v : Value) (l : List RSet) (n : List UInt8) (kd : Int) (w : World) (hv : SetsAt w v l) (hb : ∀ s ∈ l, s.data.length ≤ 1000000) : Calls Tryz.prog 138 #[.agg #[str o, v], str n, .int .i64 kd] w (RetV w (.bool (findS l n kd).isSome)) := by
  go_enter Tryz.func138, Tryz.ntmps138
  repeat' ((fail_if_success (with_reducible refine o_s ?_)); go_step)
  refine wpl_box (vs := [str o, v]) rfl rfl ?_
  intro p w0 x0 hp
  refine gset ?_
  have hv1 := hv.ext x0
  repeat' (first | ((with_reducible refine o_s ?_); (first | (refine o_1 ?_; refine o_2 ?_) | (refine o_g ?_; first | refine o_u ?_ | refine o_k ?_ | refine o_n ?_ | refine o_v ?_ | ((first | refine o_G ?_ ?_ | refine o_N ?_ ?_) <;> intro hc)))) | ((fail_if_success (with_reducible refine o_s ?_)); go_step))
  refine wpl_callR (enters_of Tryz.func48 rfl rfl) rfl rfl (r7_Find v l n kd _ hv1 hb) ?_
  intro r w1 x1 hr
  cases hf : findS l n kd with
  | none =>
    rw [hf] at hr
    obtain rfl := hr
    repeat' (first | ((with_reducible refine o_s ?_); (first | (refine o_1 ?_; refine o_2 ?_) | (refine o_g ?_; first | refine o_u ?_ | refine o_k ?_ | refine o_n ?_ | refine o_v ?_ | ((first | refine o_G ?_ ?_ | refine o_N ?_ ?_) <;> intro hc)))) | ((fail_if_success (with_reducible refine o_s ?_)); go_step))
    refine wpl_allocB (z := zset) rfl (by decide +kernel) ?_
    intro w2 x2 s2 h2
    refine gset ?_
    refine wpl_storeB (v := .agg zset.toArray) rfl rfl rfl h2 (by decide +kernel) rfl (by decide +kernel) ?_
    intro w3 p3
    have x3 : Ext w w3 := ((x0.trans x1).trans x2).move p3.mv (by rintro k ⟨⟩; have := x0.size; have := x1.size; omega)
    repeat' (first | ((with_reducible refine o_s ?_); (first | (refine o_1 ?_; refine o_2 ?_) | (refine o_g ?_; first | refine o_u ?_ | refine o_k ?_ | refine o_n ?_ | refine o_v ?_ | ((first | refine o_G ?_ ?_ | refine o_N ?_ ?_) <;> intro hc)))) | ((fail_if_success (with_reducible refine o_s ?_)); go_step))
    go_ret
    exact ⟨by rw [hf]; rfl, x3⟩
  | some s =>
    rw [hf] at hr
    obtain ⟨x, rfl, ho⟩ := hr
    repeat' (first | ((with_reducible refine o_s ?_); (first | (refine o_1 ?_; refine o_2 ?_) | (refine o_g ?_; first | refine o_u ?_ | refine o_k ?_ | refine o_n ?_ | refine o_v ?_ | ((first | refine o_G ?_ ?_ | refine o_N ?_ ?_) <;> intro hc)))) | ((fail_if_success (with_reducible refine o_s ?_)); go_step))
    refine wpl_allocB (z := zset) rfl (by decide +kernel) ?_
    intro w2 x2 s2 h2
    refine gset ?_
    refine wpl_storeB (v := .agg #[str s.name, .int .i64 s.kind, .int .i64 s.ttl, x]) rfl rfl rfl h2 (show sizeTy Tryz.prog 55 4 = true by decide +kernel) rfl (all4 rfl rfl rfl ho.sl.one) ?_
    intro w3 p3
    have x3 : Ext w w3 := ((x0.trans x1).trans x2).move p3.mv (by rintro k ⟨⟩; have := x0.size; have := x1.size; omega)
    repeat' (first | ((with_reducible refine o_s ?_); (first | (refine o_1 ?_; refine o_2 ?_) | (refine o_g ?_; first | refine o_u ?_ | refine o_k ?_ | refine o_n ?_ | refine o_v ?_ | ((first | refine o_G ?_ ?_ | refine o_N ?_ ?_) <;> intro hc)))) | ((fail_if_success (with_reducible refine o_s ?_)); go_step))
    go_ret
    exact ⟨by rw [hf]; rfl, x3⟩
def checkE (o : List UInt8) : Int := if (labels o).isSome then 0 else 1
def zoneR (o : List UInt8) (l : List RSet) : Int :=
  if checkE o ≠ 0 ∨ fold o ≠ o ∨ checkS l ≠ 0 then 1 else
  if (findS l o 6).isSome = false ∨ (findS l o 2).isSome = false then 2 else
  if l.any (fun s => !rightR o l s) = true then 2 else 0
set_option maxHeartbeats 3000000 in
theorem r8_Check (o : List UInt8) (v : Value) (l : List RSet) (w : World) (hv : SetsAt w v l) (hb : ∀ s ∈ l, s.data.length ≤ 1000000) (hd : ∀ s ∈ l, ∀ d ∈ s.data, d.length ≤ 4611686018427387904) : Calls Tryz.prog 101 #[.agg #[str o, v]] w (RetV w (.int .i64 (zoneR o l))) := by
  obtain ⟨cv, hv1, hvl⟩ := hv.sl
  have hle := hv1.le
  go_enter Tryz.func101, Tryz.ntmps101
  repeat' ((fail_if_success (with_reducible refine o_s ?_)); go_step)
  refine wpl_box (vs := [str o, v]) rfl rfl ?_
  intro p w1 x1 hp
  refine gset ?_
  repeat' (first | ((with_reducible refine o_s ?_); (first | (refine o_1 ?_; refine o_2 ?_) | (refine o_g ?_; first | refine o_u ?_ | refine o_k ?_ | refine o_n ?_ | refine o_v ?_ | ((first | refine o_G ?_ ?_ | refine o_N ?_ ?_) <;> intro hc)))) | ((fail_if_success (with_reducible refine o_s ?_)); go_step))
  have c1 : ∀ w', Calls Tryz.prog 136 #[str o] w' (RetV w' (.int .i64 (checkE o))) := fun w' => r1_Check o w'
  have hv2 := hv.ext x1
  have c3 : ∀ w', Ext w1 w' → Calls Tryz.prog 137 #[v] w' (RetV w' (.int .i64 (checkS l))) := fun w' x' => r7_Check v l w' (hv2.ext x') hd
  refine wpq_region (by decide +kernel) (by decide +kernel) ?_
  repeat' (first | ((with_reducible refine q_s ?_); (first | (refine q_1 ?_; refine q_2 ?_) | (refine q_g ?_; first | refine q_u ?_ | refine q_k ?_ | refine q_v ?_))) | (with_reducible refine q_n ?_))
  refine wpq_call (enters_of Tryz.func136 rfl rfl) rfl rfl (fun w' _ => c1 w') ?_
  refine gset ?_
  repeat' (first | ((with_reducible refine q_s ?_); (first | (refine q_1 ?_; refine q_2 ?_) | (refine q_g ?_; first | refine q_u ?_ | refine q_k ?_ | refine q_v ?_))) | (with_reducible refine q_n ?_))
  by_cases q1 : checkE o = 0
  · rw [decide_eq_true q1]
    simp only [Bool.not_true]
    repeat' (first | ((with_reducible refine q_s ?_); (first | (refine q_1 ?_; refine q_2 ?_) | (refine q_g ?_; first | refine q_u ?_ | refine q_k ?_ | refine q_v ?_))) | (with_reducible refine q_n ?_))
    refine wpq_call (enters_of Tryz.func44 rfl rfl) rfl rfl (fun w' _ => r1_Fold o w') ?_
    refine gset ?_
    repeat' (first | ((with_reducible refine q_s ?_); (first | (refine q_1 ?_; refine q_2 ?_) | (refine q_g ?_; first | refine q_u ?_ | refine q_k ?_ | refine q_v ?_))) | (with_reducible refine q_n ?_))
    by_cases q2 : fold o = o
    · rw [decide_eq_true q2]
      simp only [Bool.not_true]
      repeat' (first | ((with_reducible refine q_s ?_); (first | (refine q_1 ?_; refine q_2 ?_) | (refine q_g ?_; first | refine q_u ?_ | refine q_k ?_ | refine q_v ?_))) | (with_reducible refine q_n ?_))
      refine wpq_call (enters_of Tryz.func137 rfl rfl) rfl rfl (fun w' x' => c3 w' x') ?_
      refine gset ?_
      repeat' (first | ((with_reducible refine q_s ?_); (first | (refine q_1 ?_; refine q_2 ?_) | (refine q_g ?_; first | refine q_u ?_ | refine q_k ?_ | refine q_v ?_))) | (with_reducible refine q_n ?_))
      intro w2 x2
      by_cases q3 : checkS l = 0
      · rw [decide_eq_true q3]
        simp only [Bool.not_true]
        repeat' (first | ((with_reducible refine o_s ?_); (first | (refine o_1 ?_; refine o_2 ?_) | (refine o_g ?_; first | refine o_u ?_ | refine o_k ?_ | refine o_n ?_ | refine o_v ?_ | ((first | refine o_G ?_ ?_ | refine o_N ?_ ?_) <;> intro hc)))) | ((fail_if_success (with_reducible refine o_s ?_)); go_step))
        have hx2 := x1.trans x2
        have hp2 := hp.ext x2
        have hs2 := hv.ext hx2
        refine wpl_callV (enters_of Tryz.func138 rfl rfl) rfl rfl (r8_Has o v l o 6 _ hs2 hb) ?_; intro w3 x3; refine gset ?_
        have hx3 := hx2.trans x3
        have hp3 := hp2.ext x3
        have hs3 := hs2.ext x3
        cases f6 : (findS l o 6).isSome with
        | false =>
          repeat' (first | ((with_reducible refine o_s ?_); (first | (refine o_1 ?_; refine o_2 ?_) | (refine o_g ?_; first | refine o_u ?_ | refine o_k ?_ | refine o_n ?_ | refine o_v ?_ | ((first | refine o_G ?_ ?_ | refine o_N ?_ ?_) <;> intro hc)))) | ((fail_if_success (with_reducible refine o_s ?_)); go_step))
          go_ret
          exact ⟨by rw [show zoneR o l = 2 by simp [zoneR, q1, q2, q3, f6]]; rfl, hx3⟩
        | true =>
          repeat' (first | ((with_reducible refine o_s ?_); (first | (refine o_1 ?_; refine o_2 ?_) | (refine o_g ?_; first | refine o_u ?_ | refine o_k ?_ | refine o_n ?_ | refine o_v ?_ | ((first | refine o_G ?_ ?_ | refine o_N ?_ ?_) <;> intro hc)))) | ((fail_if_success (with_reducible refine o_s ?_)); go_step))
          refine wpl_callV (enters_of Tryz.func138 rfl rfl) rfl rfl (r8_Has o v l o 2 _ hs3 hb) ?_; intro w4 x4; refine gset ?_
          have hx4 := hx3.trans x4
          have hp4 := hp3.ext x4
          have hs4 := hs3.ext x4
          cases f2 : (findS l o 2).isSome with
          | false =>
            repeat' (first | ((with_reducible refine o_s ?_); (first | (refine o_1 ?_; refine o_2 ?_) | (refine o_g ?_; first | refine o_u ?_ | refine o_k ?_ | refine o_n ?_ | refine o_v ?_ | ((first | refine o_G ?_ ?_ | refine o_N ?_ ?_) <;> intro hc)))) | ((fail_if_success (with_reducible refine o_s ?_)); go_step))
            go_ret
            exact ⟨by rw [show zoneR o l = 2 by simp [zoneR, q1, q2, q3, f6, f2]]; rfl, hx4⟩
          | true =>
            repeat' (first | ((with_reducible refine o_s ?_); (first | (refine o_1 ?_; refine o_2 ?_) | (refine o_g ?_; first | refine o_u ?_ | refine o_k ?_ | refine o_n ?_ | refine o_v ?_ | ((first | refine o_G ?_ ?_ | refine o_N ?_ ?_) <;> intro hc)))) | ((fail_if_success (with_reducible refine o_s ?_)); go_step))
            go_loopw [3] (fun i wr => ∃ k : Nat, k ≤ l.length ∧ i = .int .i64 k ∧ Ext w4 wr ∧ (l.take k).any (fun s => !rightR o l s) = false) (fun i _ => l.length - (intOf i).toNat)
            case atStart => exact ⟨0, Nat.zero_le _, rfl, Ext.refl _, rfl⟩
            case round =>
              obtain ⟨k, hk, rfl, hx, hall⟩ := hrel
              have hxw : Ext w wr := hx4.trans hx
              have hv5 := hv1.ext hxw
              have hp5 := hp4.ext hx
              have hs5 := hv.ext hxw
              by_cases hlt : k < l.length
              · obtain ⟨x, h5, h5d⟩ := hs5.elem (List.getElem?_eq_getElem hlt)
                have c5 : ∀ w', Ext wr w' → Calls Tryz.prog 139 #[.agg #[str o, v], .agg #[str l[k].name, .int .i64 l[k].kind, .int .i64 l[k].ttl, x]] w' (RetV w' (.bool (rightR o l l[k]))) := fun w' x' => r8_right o v l l[k] x w' (hs5.ext x') (h5d.ext x')
                repeat' (first | ((with_reducible refine o_s ?_); (first | (refine o_1 ?_; refine o_2 ?_) | (refine o_g ?_; first | refine o_u ?_ | refine o_k ?_ | refine o_n ?_ | refine o_v ?_ | ((first | refine o_G ?_ ?_ | refine o_N ?_ ?_) <;> intro hc)))) | ((fail_if_success (with_reducible refine o_s ?_)); go_step))
                refine wpq_region (by decide +kernel) (by decide +kernel) ?_
                repeat' (first | ((with_reducible refine q_s ?_); (first | (refine q_1 ?_; refine q_2 ?_) | (refine q_g ?_; first | refine q_u ?_ | refine q_k ?_ | refine q_v ?_))) | (with_reducible refine q_n ?_))
                refine wpq_call (enters_of Tryz.func139 rfl rfl) rfl rfl (fun w' x' => c5 w' x') ?_
                refine gset ?_
                repeat' (first | ((with_reducible refine q_s ?_); (first | (refine q_1 ?_; refine q_2 ?_) | (refine q_g ?_; first | refine q_u ?_ | refine q_k ?_ | refine q_v ?_))) | (with_reducible refine q_n ?_))
                intro w6 x6
                cases hr : rightR o l l[k] with
                | false =>
                  repeat' (first | ((with_reducible refine o_s ?_); (first | (refine o_1 ?_; refine o_2 ?_) | (refine o_g ?_; first | refine o_u ?_ | refine o_k ?_ | refine o_n ?_ | refine o_v ?_ | ((first | refine o_G ?_ ?_ | refine o_N ?_ ?_) <;> intro hc)))) | ((fail_if_success (with_reducible refine o_s ?_)); go_step))
                  go_ret
                  exact ⟨by rw [show zoneR o l = 2 by simp only [zoneR, q1, q2, q3, f6, f2]; rw [any_at (p := fun s => !rightR o l s) hlt (by simp [hr])]; simp]; rfl, hxw.trans x6⟩
                | true =>
                  repeat' (first | ((with_reducible refine o_s ?_); (first | (refine o_1 ?_; refine o_2 ?_) | (refine o_g ?_; first | refine o_u ?_ | refine o_k ?_ | refine o_n ?_ | refine o_v ?_ | ((first | refine o_G ?_ ?_ | refine o_N ?_ ?_) <;> intro hc)))) | ((fail_if_success (with_reducible refine o_s ?_)); go_step))
                  exact ⟨⟨k + 1, by omega, by go_num, hx.trans x6, any_take hlt hall (by simp [hr])⟩, by simp [intOf]; omega⟩
              · have : k = l.length := by omega
                subst this
                rw [List.take_length] at hall
                repeat' (first | ((with_reducible refine o_s ?_); (first | (refine o_1 ?_; refine o_2 ?_) | (refine o_g ?_; first | refine o_u ?_ | refine o_k ?_ | refine o_n ?_ | refine o_v ?_ | ((first | refine o_G ?_ ?_ | refine o_N ?_ ?_) <;> intro hc)))) | ((fail_if_success (with_reducible refine o_s ?_)); go_step))
                go_ret
                exact ⟨by rw [show zoneR o l = 0 by simp only [zoneR, q1, q2, q3, f6, f2]; rw [hall]; simp]; rfl, hxw⟩
      · rw [decide_eq_false q3]
        simp only [Bool.not_false]
        repeat' (first | ((with_reducible refine o_s ?_); (first | (refine o_1 ?_; refine o_2 ?_) | (refine o_g ?_; first | refine o_u ?_ | refine o_k ?_ | refine o_n ?_ | refine o_v ?_ | ((first | refine o_G ?_ ?_ | refine o_N ?_ ?_) <;> intro hc)))) | ((fail_if_success (with_reducible refine o_s ?_)); go_step))
        go_ret
        exact ⟨by rw [show zoneR o l = 1 by simp [zoneR, q3]]; rfl, x1.trans x2⟩
    · rw [decide_eq_false q2]
      simp only [Bool.not_false]
      repeat' (first | ((with_reducible refine q_s ?_); (first | (refine q_1 ?_; refine q_2 ?_) | (refine q_g ?_; first | refine q_u ?_ | refine q_k ?_ | refine q_v ?_))) | (with_reducible refine q_n ?_))
      intro w2 x2
      repeat' (first | ((with_reducible refine o_s ?_); (first | (refine o_1 ?_; refine o_2 ?_) | (refine o_g ?_; first | refine o_u ?_ | refine o_k ?_ | refine o_n ?_ | refine o_v ?_ | ((first | refine o_G ?_ ?_ | refine o_N ?_ ?_) <;> intro hc)))) | ((fail_if_success (with_reducible refine o_s ?_)); go_step))
      go_ret
      exact ⟨by rw [show zoneR o l = 1 by simp [zoneR, q2]]; rfl, x1.trans x2⟩
  · rw [decide_eq_false q1]
    simp only [Bool.not_false]
    repeat' (first | ((with_reducible refine q_s ?_); (first | (refine q_1 ?_; refine q_2 ?_) | (refine q_g ?_; first | refine q_u ?_ | refine q_k ?_ | refine q_v ?_))) | (with_reducible refine q_n ?_))
    intro w2 x2
    repeat' (first | ((with_reducible refine o_s ?_); (first | (refine o_1 ?_; refine o_2 ?_) | (refine o_g ?_; first | refine o_u ?_ | refine o_k ?_ | refine o_n ?_ | refine o_v ?_ | ((first | refine o_G ?_ ?_ | refine o_N ?_ ?_) <;> intro hc)))) | ((fail_if_success (with_reducible refine o_s ?_)); go_step))
    go_ret
    exact ⟨by rw [show zoneR o l = 1 by simp [zoneR, q1]]; rfl, x1.trans x2⟩
theorem turned_some {n : List UInt8} : (turned n).isSome = (labels n).isSome := by
  rw [turned_eq]; cases labels n <;> rfl
theorem under_refl {n : List UInt8} (h : (labels n).isSome = true) : underN n n = true := by
  rw [← turned_some] at h
  obtain ⟨a, ha⟩ := Option.isSome_iff_exists.1 h
  rw [under_iff ha ha]
  simp
theorem under_trans {a b c : List UInt8} (h : underN a b = true) (k : underN b c = true) : underN a c = true := by
  obtain ⟨x, y, hx, hy, e1⟩ := under_turned h
  obtain ⟨y', z, hy', hz, e2⟩ := under_turned k
  rw [hy] at hy'
  cases hy'
  have hl := take_len_le e2
  rw [under_iff hx hz, decide_eq_true_eq]
  rw [← e1, List.take_take, Nat.min_eq_left hl] at e2
  exact e2
theorem under_labels {a b : List UInt8} (h : underN a b = true) : (labels a).isSome = true ∧ (labels b).isSome = true := by
  obtain ⟨x, y, hx, hy, _⟩ := under_turned h
  rw [← turned_some, ← turned_some, hx, hy]
  exact ⟨rfl, rfl⟩
structure ZoneOk (o : List UInt8) (l : List RSet) : Prop where
  lab : (labels o).isSome = true
  fold : fold o = o
  chk : checkS l = 0
  soa : (findS l o 6).isSome = true
  ns : (findS l o 2).isSome = true
  right : ∀ s ∈ l, rightR o l s = true
theorem zone_ok {o : List UInt8} {l : List RSet} (h : zoneR o l = 0) : ZoneOk o l := by
  unfold zoneR at h
  split at h
  · cases h
  · rename_i h1
    split at h
    · cases h
    · rename_i h2
      split at h
      · cases h
      · rename_i h3
        simp only [not_or, ne_eq, Decidable.not_not, Bool.not_eq_false] at h1 h2
        refine ⟨?_, h1.2.1, h1.2.2, h2.1, h2.2, fun s hs => ?_⟩
        · have := h1.1
          unfold checkE at this
          split at this
          · assumption
          · cases this
        · cases hr : rightR o l s with
          | true => rfl
          | false => exact absurd (List.any_eq_true.2 ⟨s, hs, by simp [hr]⟩) h3
theorem zone_ok' {o : List UInt8} {l : List RSet} (h : ZoneOk o l) : zoneR o l = 0 := by
  obtain ⟨h1, h2, h3, h4, h5, h6⟩ := h
  have h7 : l.any (fun s => !rightR o l s) = false := by
    rw [List.any_eq_false]
    intro s hs
    simp [h6 s hs]
  unfold zoneR checkE
  simp [h1, h2, h3, h4, h5, h7]
theorem right_under {o : List UInt8} {l : List RSet} {s : RSet} (h : rightR o l s = true) : underN s.name o = true := by
  simp only [rightR, Bool.and_eq_true] at h
  exact h.1.1.1
theorem ZoneOk.may {o : List UInt8} {l : List RSet} (h : ZoneOk o l) {s : RSet} (hs : s ∈ l) : mayS s = true := by
  obtain ⟨i, hi, rfl⟩ := List.getElem_of_mem hs
  exact check_may h.chk hi
theorem ZoneOk.small {o : List UInt8} {l : List RSet} (h : ZoneOk o l) {s : RSet} (hs : s ∈ l) : X.fold s.name = s.name ∧ (labels s.name).isSome = true :=
  ⟨may_fold (h.may hs), (under_labels (right_under (h.right s hs))).1⟩
theorem findS_mem {l : List RSet} {n : List UInt8} {k : Int} {s : RSet} (h : findS l n k = some s) : s ∈ l ∧ s.name = fold n ∧ s.kind = k := by
  have h1 := List.mem_of_find?_eq_some h
  have h2 := List.find?_some h
  simp only [hit, Bool.and_eq_true, decide_eq_true_eq] at h2
  exact ⟨h1, h2⟩
theorem ZoneOk.cut {o : List UInt8} {l : List RSet} (h : ZoneOk o l) {n c : List UInt8} (hc : cutR o l n = (c, true)) : underN n c = true ∧ c ≠ o ∧ cutR o l c = (c, true) := by
  rw [cut_eq h.chk, cutP] at hc
  rw [cut_eq h.chk, cutP]
  cases hf : l.find? (isCut o n) with
  | none => rw [hf] at hc; cases hc
  | some s =>
    rw [hf] at hc
    simp only [Prod.mk.injEq, and_true] at hc
    subst hc
    obtain ⟨h1, la, lb, h2, h3⟩ := List.find?_eq_some_iff_append.1 hf
    have hs : s ∈ l := by rw [h2]; simp
    have h1' := h1
    simp only [isCut, Bool.and_eq_true, decide_eq_true_eq] at h1'
    refine ⟨h1'.2, h1'.1.2, ?_⟩
    have : l.find? (isCut o s.name) = some s := by
      rw [List.find?_eq_some_iff_append]
      refine ⟨?_, la, lb, h2, fun t ht => ?_⟩
      · simp only [isCut, Bool.and_eq_true, decide_eq_true_eq]
        exact ⟨h1'.1, under_refl (h.small hs).2⟩
      · have hn := h3 t ht
        cases hq : isCut o s.name t with
        | false => rfl
        | true =>
          simp only [isCut, Bool.and_eq_true, decide_eq_true_eq] at hq
          have : isCut o n t = true := by
            simp only [isCut, Bool.and_eq_true, decide_eq_true_eq]
            exact ⟨hq.1, under_trans h1'.2 hq.2⟩
          rw [this] at hn
          exact hn
    rw [this]
set_option maxHeartbeats 3000000 in
theorem p_Equal (u v : Value) (a b : List (List UInt8)) (w : World) (hu : Sl 1 w u (tcells a)) (hv : Sl 1 w v (tcells b)) : Calls Tryz.prog 135 #[u, v] w (RetV w (.bool (decide (a = b)))) := by
  have hal := hu.le
  have ha := tcells_length a
  have hb := tcells_length b
  go_enter Tryz.func135, Tryz.ntmps135
  repeat' (first | ((with_reducible refine o_s ?_); (first | (refine o_1 ?_; refine o_2 ?_) | (refine o_g ?_; first | refine o_u ?_ | refine o_k ?_ | refine o_n ?_ | refine o_v ?_ | ((first | refine o_G ?_ ?_ | refine o_N ?_ ?_) <;> intro hc)))) | ((fail_if_success (with_reducible refine o_s ?_)); go_step))
  · have hne := ‹(!decide (((tcells a).length : Int) = ((tcells b).length : Int))) = true›
    go_ret
    refine ⟨?_, Ext.refl _⟩
    have : a ≠ b := by rintro rfl; simp at hne
    simp [this]
  · have hne := ‹(!decide (((tcells a).length : Int) = ((tcells b).length : Int))) = false›
    have hlen : a.length = b.length := by simp at hne; omega
    go_loopw [5, 13] (fun _ i wr => ∃ k : Nat, k ≤ a.length ∧ i = .int .i64 k ∧ Ext w wr ∧ a.take k = b.take k) (fun _ i _ => a.length - (intOf i).toNat)
    case atStart => exact ⟨0, Nat.zero_le _, rfl, Ext.refl _, rfl⟩
    case round =>
      obtain ⟨k, hk, rfl, hx, hall⟩ := hrel
      by_cases hlt : k < a.length
      · have hlt2 : k < b.length := by omega
        have h1 := (hu.ext hx).elem (tcells_at hlt)
        have h2 := (hv.ext hx).elem (tcells_at hlt2)
        have hu2 := hu.ext hx
        have hv2 := hv.ext hx
        repeat' (first | ((with_reducible refine o_s ?_); (first | (refine o_1 ?_; refine o_2 ?_) | (refine o_g ?_; first | refine o_u ?_ | refine o_k ?_ | refine o_n ?_ | refine o_v ?_ | ((first | refine o_G ?_ ?_ | refine o_N ?_ ?_) <;> intro hc)))) | ((fail_if_success (with_reducible refine o_s ?_)); go_step))
        refine wph_region (S := Ext wr) (by decide +kernel) ?_
        intro w2 x2 _
        refine tk 0 ?_; refine gset ?_; refine tk 1 ?_; refine gset ?_; refine tk 2 ?_; refine gset ?_; refine tk 3 ?_; refine gset ?_; refine tk 4 ?_; refine gset ?_; refine tk 5 ?_; refine gset ?_; refine tk 6 ?_; refine gset ?_; refine tk 7 ?_; refine gset ?_; refine tk 8 ?_; refine gset ?_
        refine wph_done (by decide +kernel) ?_
        by_cases he : a[k] = b[k]
        · have e1 : decide (a[k] = b[k]) = true := decide_eq_true he
          simp only [e1, Bool.not_true]
          repeat' (first | ((with_reducible refine o_s ?_); (first | (refine o_1 ?_; refine o_2 ?_) | (refine o_g ?_; first | refine o_u ?_ | refine o_k ?_ | refine o_n ?_ | refine o_v ?_ | ((first | refine o_G ?_ ?_ | refine o_N ?_ ?_) <;> intro hc)))) | ((fail_if_success (with_reducible refine o_s ?_)); go_step))
          exact ⟨⟨k + 1, by omega, by go_num, by exact extc, take_succ_eq hall hlt hlt2 he⟩, by simp [intOf]; omega⟩
        · have e1 : decide (a[k] = b[k]) = false := decide_eq_false he
          simp only [e1, Bool.not_false]
          repeat' (first | ((with_reducible refine o_s ?_); (first | (refine o_1 ?_; refine o_2 ?_) | (refine o_g ?_; first | refine o_u ?_ | refine o_k ?_ | refine o_n ?_ | refine o_v ?_ | ((first | refine o_G ?_ ?_ | refine o_N ?_ ?_) <;> intro hc)))) | ((fail_if_success (with_reducible refine o_s ?_)); go_step))
          go_ret
          refine ⟨?_, by exact extc⟩
          simp [ne_of_at hlt hlt2 he]
      · have hk2 : k = a.length := by omega
        subst hk2
        repeat' (first | ((with_reducible refine o_s ?_); (first | (refine o_1 ?_; refine o_2 ?_) | (refine o_g ?_; first | refine o_u ?_ | refine o_k ?_ | refine o_n ?_ | refine o_v ?_ | ((first | refine o_G ?_ ?_ | refine o_N ?_ ?_) <;> intro hc)))) | ((fail_if_success (with_reducible refine o_s ?_)); go_step))
        go_ret
        refine ⟨?_, by exact extc⟩
        rw [List.take_length, hlen, List.take_length] at hall
        simp [hall]
set_option maxHeartbeats 3000000 in
theorem p_Under (n t : List UInt8) (w : World) : Calls Tryz.prog 98 #[str n, str t] w (RetV w (.bool (underN n t))) := by
  go_enter Tryz.func98, Tryz.ntmps98
  repeat' (first | ((with_reducible refine o_s ?_); (first | (refine o_1 ?_; refine o_2 ?_) | (refine o_g ?_; first | refine o_u ?_ | refine o_k ?_ | refine o_n ?_ | refine o_v ?_ | ((first | refine o_G ?_ ?_ | refine o_N ?_ ?_) <;> intro hc)))) | ((fail_if_success (with_reducible refine o_s ?_)); go_step))
  refine wpl_callR (enters_of Tryz.func134 rfl rfl) rfl rfl (t64 n _) ?_
  intro r1 w1 x1 h1
  cases ha : turned n with
  | none =>
    rw [ha] at h1
    obtain ⟨s1, rfl⟩ := h1
    repeat' (first | ((with_reducible refine o_s ?_); (first | (refine o_1 ?_; refine o_2 ?_) | (refine o_g ?_; first | refine o_u ?_ | refine o_k ?_ | refine o_n ?_ | refine o_v ?_ | ((first | refine o_G ?_ ?_ | refine o_N ?_ ?_) <;> intro hc)))) | ((fail_if_success (with_reducible refine o_s ?_)); go_step))
    refine wpl_callR (enters_of Tryz.func134 rfl rfl) rfl rfl (t64 t _) ?_
    intro r2 w2 x2 h2
    obtain ⟨s2, b2, rfl⟩ : ∃ s b, r2 = .tuple #[s, .bool b] := by
      cases hb : turned t with
      | none => rw [hb] at h2; obtain ⟨s, rfl⟩ := h2; exact ⟨s, _, rfl⟩
      | some y => rw [hb] at h2; obtain ⟨s, rfl, _⟩ := h2; exact ⟨s, _, rfl⟩
    repeat' (first | ((with_reducible refine o_s ?_); (first | (refine o_1 ?_; refine o_2 ?_) | (refine o_g ?_; first | refine o_u ?_ | refine o_k ?_ | refine o_n ?_ | refine o_v ?_ | ((first | refine o_G ?_ ?_ | refine o_N ?_ ?_) <;> intro hc)))) | ((fail_if_success (with_reducible refine o_s ?_)); go_step))
    go_ret
    exact ⟨by simp [underN, ha], x1.trans x2⟩
  | some a =>
    rw [ha] at h1
    obtain ⟨s1, rfl, hs1, hl1⟩ := h1
    repeat' (first | ((with_reducible refine o_s ?_); (first | (refine o_1 ?_; refine o_2 ?_) | (refine o_g ?_; first | refine o_u ?_ | refine o_k ?_ | refine o_n ?_ | refine o_v ?_ | ((first | refine o_G ?_ ?_ | refine o_N ?_ ?_) <;> intro hc)))) | ((fail_if_success (with_reducible refine o_s ?_)); go_step))
    refine wpl_callR (enters_of Tryz.func134 rfl rfl) rfl rfl (t64 t _) ?_
    intro r2 w2 x2 h2
    cases hb : turned t with
    | none =>
      rw [hb] at h2
      obtain ⟨s2, rfl⟩ := h2
      repeat' (first | ((with_reducible refine o_s ?_); (first | (refine o_1 ?_; refine o_2 ?_) | (refine o_g ?_; first | refine o_u ?_ | refine o_k ?_ | refine o_n ?_ | refine o_v ?_ | ((first | refine o_G ?_ ?_ | refine o_N ?_ ?_) <;> intro hc)))) | ((fail_if_success (with_reducible refine o_s ?_)); go_step))
      go_ret
      exact ⟨by simp [underN, ha, hb], x1.trans x2⟩
    | some b =>
      rw [hb] at h2
      obtain ⟨s2, rfl, hs2, hl2⟩ := h2
      have hs1 := hs1.ext x2
      have tl1 := tcells_length a
      have tl2 := tcells_length b
      repeat' (first | ((with_reducible refine o_s ?_); (first | (refine o_1 ?_; refine o_2 ?_) | (refine o_g ?_; first | refine o_u ?_ | refine o_k ?_ | refine o_n ?_ | refine o_v ?_ | ((first | refine o_G ?_ ?_ | refine o_N ?_ ?_) <;> intro hc)))) | ((fail_if_success (with_reducible refine o_s ?_)); go_step))
      · have hle : b.length ≤ a.length := by omega
        have hcut := hs1.cut (m := 0) (n := (tcells b).length) (Nat.zero_le _) (by omega)
        rw [List.drop_zero] at hcut
        have hcut : Sl 1 w2 (cutSl s1 1 0 (tcells b).length) (tcells (a.take b.length)) := by
          rw [tl2] at hcut ⊢
          simpa [tcells, List.map_take] using hcut
        refine wpl_callV (enters_of Tryz.func135 rfl rfl) rfl rfl (p_Equal _ _ _ _ _ hcut hs2) ?_; intro w3 x3; refine gset ?_
        repeat' (first | ((with_reducible refine o_s ?_); (first | (refine o_1 ?_; refine o_2 ?_) | (refine o_g ?_; first | refine o_u ?_ | refine o_k ?_ | refine o_n ?_ | refine o_v ?_ | ((first | refine o_G ?_ ?_ | refine o_N ?_ ?_) <;> intro hc)))) | ((fail_if_success (with_reducible refine o_s ?_)); go_step))
        go_ret
        exact ⟨by rw [under_iff ha hb]; rfl, (x1.trans x2).trans x3⟩
      · go_ret
        refine ⟨?_, x1.trans x2⟩
        have hlt : a.length < b.length := by omega
        rw [under_iff ha hb, decide_eq_false (fun h => by have := take_len_le h; omega)]
        rfl
def idxI {α : Type} (p : α → Bool) (l : List α) : Int := match l.findIdx? p with
  | some i => (i : Int)
  | none => -1
theorem idx_cases {α : Type} (p : α → Bool) (l : List α) : (∃ (k : Nat) (hk : k < l.length), idxI p l = k ∧ p l[k] = true ∧ l.find? p = some l[k]) ∨ (idxI p l = -1 ∧ l.any p = false ∧ l.find? p = none) := by
  unfold idxI
  cases h : l.findIdx? p with
  | none =>
    rw [List.findIdx?_eq_none_iff] at h
    refine .inr ⟨rfl, ?_, ?_⟩
    · rw [List.any_eq_false]; intro x hx; simp [h x hx]
    · rw [List.find?_eq_none]; intro x hx; simp [h x hx]
  | some k =>
    rw [List.findIdx?_eq_some_iff_getElem] at h
    obtain ⟨hk, hp, hj⟩ := h
    refine .inl ⟨k, hk, rfl, hp, ?_⟩
    rw [List.find?_eq_some_iff_getElem]
    exact ⟨hp, k, hk, rfl, fun j hjk => by simpa using hj j hjk⟩
theorem idx_at {α : Type} {p : α → Bool} {l : List α} {k : Nat} (hk : k < l.length) (ha : (l.take k).any p = false) (hp : p l[k] = true) : idxI p l = k := by
  have : l.findIdx? p = some k := by
    rw [List.findIdx?_eq_some_iff_getElem]
    refine ⟨hk, hp, fun j hj => ?_⟩
    rw [List.any_eq_false] at ha
    exact ha l[j] (by rw [List.mem_take_iff_getElem]; exact ⟨j, by omega, rfl⟩)
  rw [idxI, this]
theorem idx_no {α : Type} {p : α → Bool} {l : List α} (ha : l.any p = false) : idxI p l = -1 := by
  have : l.findIdx? p = none := by
    rw [List.findIdx?_eq_none_iff]
    intro x hx
    rw [List.any_eq_false] at ha
    simpa using ha x hx
  rw [idxI, this]
theorem idx_any {α : Type} (p : α → Bool) (l : List α) : decide (0 ≤ idxI p l) = l.any p := by
  rcases idx_cases p l with ⟨k, hk, e, hp, _⟩ | ⟨e, h, _⟩
  · rw [e, any_at hk hp]; simp
  · rw [e, h]; rfl
def SetFn (w : World) (f : FuncId) (caps : Array Value) (l : List RSet) (p : RSet → Bool) : Prop :=
  ∀ s ∈ l, ∀ x w', Ext w w' → Sl 1 w' x (tcells s.data) → Calls Tryz.prog f ([Value.agg #[str s.name, .int .i64 s.kind, .int .i64 s.ttl, x]].toArray ++ caps) w' (RetV w' (.bool (p s)))
theorem SetFn.ext {w w1 : World} {f : FuncId} {caps : Array Value} {l : List RSet} {p : RSet → Bool} (h : SetFn w f caps l p) (hx : Ext w w1) : SetFn w1 f caps l p :=
  fun s hs x w' hx' hd => h s hs x w' (hx.trans hx') hd
set_option maxHeartbeats 3000000 in
theorem p_IndexFunc (v : Value) (l : List RSet) (f : FuncId) (caps : Array Value) (p : RSet → Bool) (w : World) (hv : SetsAt w v l) (he : Enters Tryz.prog f) (hf : SetFn w f caps l p) : Calls Tryz.prog 119 #[v, .func (.func f) #[] caps] w (RetV w (.int .i64 (idxI p l))) := by
  obtain ⟨cv, hv1, hvl⟩ := hv.sl
  have hle := hv1.le
  go_enter Tryz.func119, Tryz.ntmps119
  repeat' (first | ((with_reducible refine o_s ?_); (first | (refine o_1 ?_; refine o_2 ?_) | (refine o_g ?_; first | refine o_u ?_ | refine o_k ?_ | refine o_n ?_ | refine o_v ?_ | ((first | refine o_G ?_ ?_ | refine o_N ?_ ?_) <;> intro hc)))) | ((fail_if_success (with_reducible refine o_s ?_)); go_step))
  go_loopw [5, 8] (fun _ i wr => ∃ k : Nat, k ≤ l.length ∧ i = .int .i64 k ∧ Ext w wr ∧ (l.take k).any p = false) (fun _ i _ => l.length - (intOf i).toNat)
  case atStart => exact ⟨0, Nat.zero_le _, rfl, Ext.refl _, rfl⟩
  case round =>
    obtain ⟨k, hk, rfl, hx, hall⟩ := hrel
    have hv2 := hv1.ext hx
    by_cases hlt : k < l.length
    · obtain ⟨x, h4, h4d⟩ := (hv.ext hx).elem (List.getElem?_eq_getElem hlt)
      repeat' (first | ((with_reducible refine o_s ?_); (first | (refine o_1 ?_; refine o_2 ?_) | (refine o_g ?_; first | refine o_u ?_ | refine o_k ?_ | refine o_n ?_ | refine o_v ?_ | ((first | refine o_G ?_ ?_ | refine o_N ?_ ?_) <;> intro hc)))) | ((fail_if_success (with_reducible refine o_s ?_)); go_step))
      refine wpl_callT he rfl rfl rfl (hf _ (List.getElem_mem hlt) x _ hx h4d) ?_
      rintro e w2 ⟨rfl, x2⟩
      refine ⟨_, rfl, ?_⟩
      refine gset ?_
      cases hp : p l[k] with
      | true =>
        repeat' (first | ((with_reducible refine o_s ?_); (first | (refine o_1 ?_; refine o_2 ?_) | (refine o_g ?_; first | refine o_u ?_ | refine o_k ?_ | refine o_n ?_ | refine o_v ?_ | ((first | refine o_G ?_ ?_ | refine o_N ?_ ?_) <;> intro hc)))) | ((fail_if_success (with_reducible refine o_s ?_)); go_step))
        go_ret
        exact ⟨by rw [idx_at hlt hall hp]; rfl, hx.trans x2⟩
      | false =>
        repeat' (first | ((with_reducible refine o_s ?_); (first | (refine o_1 ?_; refine o_2 ?_) | (refine o_g ?_; first | refine o_u ?_ | refine o_k ?_ | refine o_n ?_ | refine o_v ?_ | ((first | refine o_G ?_ ?_ | refine o_N ?_ ?_) <;> intro hc)))) | ((fail_if_success (with_reducible refine o_s ?_)); go_step))
        exact ⟨⟨k + 1, by omega, by go_num, hx.trans x2, any_take hlt hall hp⟩, by simp [intOf]; omega⟩
    · have : k = l.length := by omega
      subst this
      rw [List.take_length] at hall
      repeat' (first | ((with_reducible refine o_s ?_); (first | (refine o_1 ?_; refine o_2 ?_) | (refine o_g ?_; first | refine o_u ?_ | refine o_k ?_ | refine o_n ?_ | refine o_v ?_ | ((first | refine o_G ?_ ?_ | refine o_N ?_ ?_) <;> intro hc)))) | ((fail_if_success (with_reducible refine o_s ?_)); go_step))
      go_ret
      exact ⟨by rw [idx_no hall]; rfl, hx⟩
theorem p_ContainsFunc (v : Value) (l : List RSet) (f : FuncId) (caps : Array Value) (p : RSet → Bool) (w : World) (hv : SetsAt w v l) (he : Enters Tryz.prog f) (hf : SetFn w f caps l p) : Calls Tryz.prog 86 #[v, .func (.func f) #[] caps] w (RetV w (.bool (l.any p))) := by
  go_enter Tryz.func86, Tryz.ntmps86
  repeat' (first | ((with_reducible refine o_s ?_); (first | (refine o_1 ?_; refine o_2 ?_) | (refine o_g ?_; first | refine o_u ?_ | refine o_k ?_ | refine o_n ?_ | refine o_v ?_ | ((first | refine o_G ?_ ?_ | refine o_N ?_ ?_) <;> intro hc)))) | ((fail_if_success (with_reducible refine o_s ?_)); go_step))
  refine wpl_callV (enters_of Tryz.func119 rfl rfl) rfl rfl (p_IndexFunc v l f caps p _ hv he hf) ?_; intro w1 x1; refine gset ?_
  repeat' (first | ((with_reducible refine o_s ?_); (first | (refine o_1 ?_; refine o_2 ?_) | (refine o_g ?_; first | refine o_u ?_ | refine o_k ?_ | refine o_n ?_ | refine o_v ?_ | ((first | refine o_G ?_ ?_ | refine o_N ?_ ?_) <;> intro hc)))) | ((fail_if_success (with_reducible refine o_s ?_)); go_step))
  go_ret
  exact ⟨by rw [← idx_any]; rfl, x1⟩
set_option maxHeartbeats 3000000 in
theorem p_cut1 (o n : List UInt8) (v pz pn : Value) (s : RSet) (x : Value) (w : World) (hz : Pts w pz [str o, v]) (hn : Pts w pn [str n]) : Calls Tryz.prog 127 #[.agg #[str s.name, .int .i64 s.kind, .int .i64 s.ttl, x], pz, pn] w (RetV w (.bool (isCut o n s))) := by
  go_enter Tryz.func127, Tryz.ntmps127
  repeat' ((fail_if_success (with_reducible refine o_s ?_)); go_step)
  refine wpl_box (vs := [str s.name, .int .i64 s.kind, .int .i64 s.ttl, x]) rfl rfl ?_
  intro p w1 x1 hp
  refine gset ?_
  have hz1 := hz.ext x1
  have hn1 := hn.ext x1
  repeat' (first | ((with_reducible refine o_s ?_); (first | (refine o_1 ?_; refine o_2 ?_) | (refine o_g ?_; first | refine o_u ?_ | refine o_k ?_ | refine o_n ?_ | refine o_v ?_ | ((first | refine o_G ?_ ?_ | refine o_N ?_ ?_) <;> intro hc)))) | ((fail_if_success (with_reducible refine o_s ?_)); go_step))
  · have hk := ‹s.kind = 2›
    have hne := ‹(!decide (s.name = o)) = true›
    refine wpl_callV (enters_of Tryz.func98 rfl rfl) rfl rfl (p_Under n s.name _) ?_; intro w2 x2; refine gset ?_
    repeat' (first | ((with_reducible refine o_s ?_); (first | (refine o_1 ?_; refine o_2 ?_) | (refine o_g ?_; first | refine o_u ?_ | refine o_k ?_ | refine o_n ?_ | refine o_v ?_ | ((first | refine o_G ?_ ?_ | refine o_N ?_ ?_) <;> intro hc)))) | ((fail_if_success (with_reducible refine o_s ?_)); go_step))
    go_ret
    refine ⟨?_, x1.trans x2⟩
    have hne' : s.name ≠ o := by simpa using hne
    simp [isCut, hk, hne']
  all_goals
    go_ret
    refine ⟨?_, x1⟩
    simp_all [isCut]
set_option maxHeartbeats 3000000 in
theorem p_cut (o : List UInt8) (v : Value) (l : List RSet) (n : List UInt8) (w : World) (hv : SetsAt w v l) : Calls Tryz.prog 89 #[.agg #[str o, v], str n] w (RetV w (.tuple #[str (cutP o l n).1, .bool (cutP o l n).2])) := by
  obtain ⟨cv, hv1, hvl⟩ := hv.sl
  go_enter Tryz.func89, Tryz.ntmps89
  repeat' ((fail_if_success (with_reducible refine o_s ?_)); go_step)
  refine wpl_box (vs := [str o, v]) rfl rfl ?_
  intro pz w1 x1 hz
  refine gset ?_
  repeat' ((fail_if_success (with_reducible refine o_s ?_)); go_step)
  refine wpl_box (vs := [str n]) rfl rfl ?_
  intro pn w2 x2 hn
  refine gset ?_
  have hx2 := x1.trans x2
  have hz2 := hz.ext x2
  repeat' (first | ((with_reducible refine o_s ?_); (first | (refine o_1 ?_; refine o_2 ?_) | (refine o_g ?_; first | refine o_u ?_ | refine o_k ?_ | refine o_n ?_ | refine o_v ?_ | ((first | refine o_G ?_ ?_ | refine o_N ?_ ?_) <;> intro hc)))) | ((fail_if_success (with_reducible refine o_s ?_)); go_step))
  have hf : SetFn w2 127 #[pz, pn] l (isCut o n) := fun s _ x w' hx' _ => p_cut1 o n v pz pn s x w' (hz2.ext hx') (hn.ext hx')
  refine wpl_callV (enters_of Tryz.func119 rfl rfl) rfl rfl (p_IndexFunc v l 127 #[pz, pn] (isCut o n) _ (hv.ext hx2) (enters_of Tryz.func127 rfl rfl) hf) ?_; intro w3 x3; refine gset ?_
  have hx3 := hx2.trans x3
  have hz3 := hz2.ext x3
  rcases idx_cases (isCut o n) l with ⟨k, hk, e, hp, hfi⟩ | ⟨e, h, hfi⟩
  · rw [e]
    obtain ⟨x, h4, h4d⟩ := (hv.ext hx3).elem (List.getElem?_eq_getElem hk)
    have hv3 := hv1.ext hx3
    repeat' (first | ((with_reducible refine o_s ?_); (first | (refine o_1 ?_; refine o_2 ?_) | (refine o_g ?_; first | refine o_u ?_ | refine o_k ?_ | refine o_n ?_ | refine o_v ?_ | ((first | refine o_G ?_ ?_ | refine o_N ?_ ?_) <;> intro hc)))) | ((fail_if_success (with_reducible refine o_s ?_)); go_step))
    go_ret2
    exact ⟨by simp only [cutP, hfi]; rfl, hx3⟩
  · rw [e]
    repeat' (first | ((with_reducible refine o_s ?_); (first | (refine o_1 ?_; refine o_2 ?_) | (refine o_g ?_; first | refine o_u ?_ | refine o_k ?_ | refine o_n ?_ | refine o_v ?_ | ((first | refine o_G ?_ ?_ | refine o_N ?_ ?_) <;> intro hc)))) | ((fail_if_success (with_reducible refine o_s ?_)); go_step))
    go_ret2
    exact ⟨by simp only [cutP, hfi]; rfl, hx3⟩
def Rule (w : World) (f : Value) (b : Bool) : Prop := ∃ (g : FuncId) (caps : Array Value), f = .func (.func g) #[] caps ∧ Enters Tryz.prog g ∧ ∀ w', Ext w w' → Calls Tryz.prog g (([] : List Value).toArray ++ caps) w' (RetV w' (.bool b))
theorem p_right1 (o : List UInt8) (v ps pz : Value) (s : RSet) (u : Value) (w : World) (hs : Pts w ps [str s.name, .int .i64 s.kind, .int .i64 s.ttl, u]) (hz : Pts w pz [str o, v]) : Calls Tryz.prog 120 #[ps, pz] w (RetV w (.bool (underN s.name o))) := by
  go_enter Tryz.func120, Tryz.ntmps120
  repeat' (first | ((with_reducible refine o_s ?_); (first | (refine o_1 ?_; refine o_2 ?_) | (refine o_g ?_; first | refine o_u ?_ | refine o_k ?_ | refine o_n ?_ | refine o_v ?_ | ((first | refine o_G ?_ ?_ | refine o_N ?_ ?_) <;> intro hc)))) | ((fail_if_success (with_reducible refine o_s ?_)); go_step))
  refine wpl_callV (enters_of Tryz.func98 rfl rfl) rfl rfl (p_Under s.name o _) ?_; intro w1 x1; refine gset ?_
  repeat' (first | ((with_reducible refine o_s ?_); (first | (refine o_1 ?_; refine o_2 ?_) | (refine o_g ?_; first | refine o_u ?_ | refine o_k ?_ | refine o_n ?_ | refine o_v ?_ | ((first | refine o_G ?_ ?_ | refine o_N ?_ ?_) <;> intro hc)))) | ((fail_if_success (with_reducible refine o_s ?_)); go_step))
  go_ret
  exact ⟨rfl, x1⟩
def rule2 (o : List UInt8) (s : RSet) (one : Bool) : Bool := decide (s.kind ≠ 6) || (decide (s.name = o) && one)
set_option maxHeartbeats 3000000 in
theorem p_right2 (o : List UInt8) (v ps pz pb : Value) (s : RSet) (u : Value) (one : Bool) (w : World) (hs : Pts w ps [str s.name, .int .i64 s.kind, .int .i64 s.ttl, u]) (hz : Pts w pz [str o, v]) (hb : Pts w pb [.bool one]) : Calls Tryz.prog 121 #[ps, pz, pb] w (RetV w (.bool (rule2 o s one))) := by
  go_enter Tryz.func121, Tryz.ntmps121
  repeat' (first | ((with_reducible refine o_s ?_); (first | (refine o_1 ?_; refine o_2 ?_) | (refine o_g ?_; first | refine o_u ?_ | refine o_k ?_ | refine o_n ?_ | refine o_v ?_ | ((first | refine o_G ?_ ?_ | refine o_N ?_ ?_) <;> intro hc)))) | ((fail_if_success (with_reducible refine o_s ?_)); go_step))
  all_goals
    go_ret
    refine ⟨?_, Ext.refl _⟩
    simp_all [rule2]
set_option maxHeartbeats 3000000 in
theorem p_right31 (ps : Value) (s t : RSet) (u x : Value) (w : World) (hs : Pts w ps [str s.name, .int .i64 s.kind, .int .i64 s.ttl, u]) : Calls Tryz.prog 123 #[.agg #[str t.name, .int .i64 t.kind, .int .i64 t.ttl, x], ps] w (RetV w (.bool (clash s t))) := by
  go_enter Tryz.func123, Tryz.ntmps123
  repeat' ((fail_if_success (with_reducible refine o_s ?_)); go_step)
  refine wpl_box (vs := [str t.name, .int .i64 t.kind, .int .i64 t.ttl, x]) rfl rfl ?_
  intro p w1 x1 hp
  refine gset ?_
  have hs1 := hs.ext x1
  repeat' (first | ((with_reducible refine o_s ?_); (first | (refine o_1 ?_; refine o_2 ?_) | (refine o_g ?_; first | refine o_u ?_ | refine o_k ?_ | refine o_n ?_ | refine o_v ?_ | ((first | refine o_G ?_ ?_ | refine o_N ?_ ?_) <;> intro hc)))) | ((fail_if_success (with_reducible refine o_s ?_)); go_step))
  all_goals
    go_ret
    refine ⟨?_, x1⟩
    simp_all [clash]
def rule3 (l : List RSet) (s : RSet) (one : Bool) : Bool := decide (s.kind ≠ 5) || (one && !l.any (clash s))
set_option maxHeartbeats 3000000 in
theorem p_right3 (o : List UInt8) (v ps pz pb : Value) (l : List RSet) (s : RSet) (u : Value) (one : Bool) (w : World) (hs : Pts w ps [str s.name, .int .i64 s.kind, .int .i64 s.ttl, u]) (hz : Pts w pz [str o, v]) (hb : Pts w pb [.bool one]) (hv : SetsAt w v l) : Calls Tryz.prog 122 #[ps, pb, pz] w (RetV w (.bool (rule3 l s one))) := by
  have hf : SetFn w 123 #[ps] l (clash s) := fun t _ x w' hx' _ => p_right31 ps s t u x w' (hs.ext hx')
  go_enter Tryz.func122, Tryz.ntmps122
  cases one with
  | false =>
    repeat' (first | ((with_reducible refine o_s ?_); (first | (refine o_1 ?_; refine o_2 ?_) | (refine o_g ?_; first | refine o_u ?_ | refine o_k ?_ | refine o_n ?_ | refine o_v ?_ | ((first | refine o_G ?_ ?_ | refine o_N ?_ ?_) <;> intro hc)))) | ((fail_if_success (with_reducible refine o_s ?_)); go_step))
    all_goals
      go_ret
      refine ⟨?_, Ext.refl _⟩
      simp_all [rule3]
  | true =>
    repeat' (first | ((with_reducible refine o_s ?_); (first | (refine o_1 ?_; refine o_2 ?_) | (refine o_g ?_; first | refine o_u ?_ | refine o_k ?_ | refine o_n ?_ | refine o_v ?_ | ((first | refine o_G ?_ ?_ | refine o_N ?_ ?_) <;> intro hc)))) | ((fail_if_success (with_reducible refine o_s ?_)); go_step))
    · have h5 : s.kind = 5 := by simpa using (by assumption : (!decide (s.kind = 5)) = false)
      refine wpl_callV (enters_of Tryz.func86 rfl rfl) rfl rfl (p_ContainsFunc v l 123 #[ps] (clash s) _ hv (enters_of Tryz.func123 rfl rfl) hf) ?_; intro w1 x1; refine gset ?_
      repeat' (first | ((with_reducible refine o_s ?_); (first | (refine o_1 ?_; refine o_2 ?_) | (refine o_g ?_; first | refine o_u ?_ | refine o_k ?_ | refine o_n ?_ | refine o_v ?_ | ((first | refine o_G ?_ ?_ | refine o_N ?_ ?_) <;> intro hc)))) | ((fail_if_success (with_reducible refine o_s ?_)); go_step))
      go_ret
      exact ⟨by simp [rule3, h5], x1⟩
    all_goals
      go_ret
      refine ⟨?_, Ext.refl _⟩
      simp_all [rule3]
def rule4 (o : List UInt8) (l : List RSet) (s : RSet) : Bool :=
  !(cutP o l s.name).2 || decide (s.kind = 1) || decide (s.kind = 28) || (decide (s.kind = 2) && decide (s.name = (cutP o l s.name).1))
set_option maxHeartbeats 3000000 in
theorem p_right4 (o : List UInt8) (v ps pz : Value) (l : List RSet) (s : RSet) (u : Value) (w : World) (hs : Pts w ps [str s.name, .int .i64 s.kind, .int .i64 s.ttl, u]) (hz : Pts w pz [str o, v]) (hv : SetsAt w v l) : Calls Tryz.prog 124 #[pz, ps] w (RetV w (.bool (rule4 o l s))) := by
  go_enter Tryz.func124, Tryz.ntmps124
  repeat' (first | ((with_reducible refine o_s ?_); (first | (refine o_1 ?_; refine o_2 ?_) | (refine o_g ?_; first | refine o_u ?_ | refine o_k ?_ | refine o_n ?_ | refine o_v ?_ | ((first | refine o_G ?_ ?_ | refine o_N ?_ ?_) <;> intro hc)))) | ((fail_if_success (with_reducible refine o_s ?_)); go_step))
  refine wpl_callV (enters_of Tryz.func89 rfl rfl) rfl rfl (p_cut o v l s.name _ hv) ?_; intro w1 x1; refine gset ?_
  generalize hcut : cutP o l s.name = g at *
  obtain ⟨c, is⟩ := g
  have hs1 := hs.ext x1
  cases is with
  | false =>
    repeat' (first | ((with_reducible refine o_s ?_); (first | (refine o_1 ?_; refine o_2 ?_) | (refine o_g ?_; first | refine o_u ?_ | refine o_k ?_ | refine o_n ?_ | refine o_v ?_ | ((first | refine o_G ?_ ?_ | refine o_N ?_ ?_) <;> intro hc)))) | ((fail_if_success (with_reducible refine o_s ?_)); go_step))
    go_ret
    exact ⟨by simp [rule4, hcut], x1⟩
  | true =>
    repeat' (first | ((with_reducible refine o_s ?_); (first | (refine o_1 ?_; refine o_2 ?_) | (refine o_g ?_; first | refine o_u ?_ | refine o_k ?_ | refine o_n ?_ | refine o_v ?_ | ((first | refine o_G ?_ ?_ | refine o_N ?_ ?_) <;> intro hc)))) | ((fail_if_success (with_reducible refine o_s ?_)); go_step))
    all_goals
      go_ret
      refine ⟨?_, x1⟩
      simp_all [rule4]
set_option maxHeartbeats 3000000 in
theorem p_right5 (f : Value) (b : Bool) (w : World) (hf : Rule w f b) : Calls Tryz.prog 126 #[f] w (RetV w (.bool (!b))) := by
  obtain ⟨g, caps, rfl, he, hc⟩ := hf
  go_enter Tryz.func126, Tryz.ntmps126
  repeat' (first | ((with_reducible refine o_s ?_); (first | (refine o_1 ?_; refine o_2 ?_) | (refine o_g ?_; first | refine o_u ?_ | refine o_k ?_ | refine o_n ?_ | refine o_v ?_ | ((first | refine o_G ?_ ?_ | refine o_N ?_ ?_) <;> intro hc)))) | ((fail_if_success (with_reducible refine o_s ?_)); go_step))
  refine wpl_callT he rfl rfl rfl (hc _ (Ext.refl _)) ?_
  rintro e w1 ⟨rfl, x1⟩
  refine ⟨_, rfl, ?_⟩
  refine gset ?_
  repeat' (first | ((with_reducible refine o_s ?_); (first | (refine o_1 ?_; refine o_2 ?_) | (refine o_g ?_; first | refine o_u ?_ | refine o_k ?_ | refine o_n ?_ | refine o_v ?_ | ((first | refine o_G ?_ ?_ | refine o_N ?_ ?_) <;> intro hc)))) | ((fail_if_success (with_reducible refine o_s ?_)); go_step))
  go_ret
  exact ⟨rfl, x1⟩
theorem Rule.ext {w w' : World} {f : Value} {b : Bool} (h : Rule w f b) (hx : Ext w w') : Rule w' f b := by
  obtain ⟨g, caps, h1, h2, h3⟩ := h
  exact ⟨g, caps, h1, h2, fun w2 hx2 => h3 w2 (hx.trans hx2)⟩
def fcells (l : List (Value × Bool)) : List (List Value) := l.map fun x => [x.1]
theorem fcells_length (l : List (Value × Bool)) : (fcells l).length = l.length := by simp [fcells]
theorem fcells_at {l : List (Value × Bool)} {k : Nat} (h : k < l.length) : (fcells l)[k]? = some [l[k].1] := by simp [fcells, h]
def notB (x : Value × Bool) : Bool := !x.2
set_option maxHeartbeats 3000000 in
theorem p_IndexRule (v : Value) (l : List (Value × Bool)) (w : World) (hv : Sl 1 w v (fcells l)) (hf : ∀ x ∈ l, Rule w x.1 x.2) : Calls Tryz.prog 165 #[v, .func (.func 126) #[] #[]] w (RetV w (.int .i64 (idxI notB l))) := by
  have hle := hv.le
  have hlen := fcells_length l
  go_enter Tryz.func165, Tryz.ntmps165
  repeat' (first | ((with_reducible refine o_s ?_); (first | (refine o_1 ?_; refine o_2 ?_) | (refine o_g ?_; first | refine o_u ?_ | refine o_k ?_ | refine o_n ?_ | refine o_v ?_ | ((first | refine o_G ?_ ?_ | refine o_N ?_ ?_) <;> intro hc)))) | ((fail_if_success (with_reducible refine o_s ?_)); go_step))
  go_loopw [5, 8] (fun _ i wr => ∃ k : Nat, k ≤ l.length ∧ i = .int .i64 k ∧ Ext w wr ∧ (l.take k).any notB = false) (fun _ i _ => l.length - (intOf i).toNat)
  case atStart => exact ⟨0, Nat.zero_le _, rfl, Ext.refl _, rfl⟩
  case round =>
    obtain ⟨k, hk, rfl, hx, hall⟩ := hrel
    have hv2 := hv.ext hx
    by_cases hlt : k < l.length
    · have hp := hv2.elem (fcells_at hlt)
      repeat' (first | ((with_reducible refine o_s ?_); (first | (refine o_1 ?_; refine o_2 ?_) | (refine o_g ?_; first | refine o_u ?_ | refine o_k ?_ | refine o_n ?_ | refine o_v ?_ | ((first | refine o_G ?_ ?_ | refine o_N ?_ ?_) <;> intro hc)))) | ((fail_if_success (with_reducible refine o_s ?_)); go_step))
      refine wpl_callT (f := 126) (caps := #[]) (enters_of Tryz.func126 rfl rfl) rfl rfl rfl (p_right5 l[k].1 l[k].2 _ ((hf _ (List.getElem_mem hlt)).ext hx)) ?_
      rintro e w2 ⟨rfl, x2⟩
      refine ⟨_, rfl, ?_⟩
      refine gset ?_
      cases hb : l[k].2 with
      | false =>
        repeat' (first | ((with_reducible refine o_s ?_); (first | (refine o_1 ?_; refine o_2 ?_) | (refine o_g ?_; first | refine o_u ?_ | refine o_k ?_ | refine o_n ?_ | refine o_v ?_ | ((first | refine o_G ?_ ?_ | refine o_N ?_ ?_) <;> intro hc)))) | ((fail_if_success (with_reducible refine o_s ?_)); go_step))
        go_ret
        exact ⟨by rw [idx_at hlt hall (by simp [notB, hb])]; rfl, hx.trans x2⟩
      | true =>
        repeat' (first | ((with_reducible refine o_s ?_); (first | (refine o_1 ?_; refine o_2 ?_) | (refine o_g ?_; first | refine o_u ?_ | refine o_k ?_ | refine o_n ?_ | refine o_v ?_ | ((first | refine o_G ?_ ?_ | refine o_N ?_ ?_) <;> intro hc)))) | ((fail_if_success (with_reducible refine o_s ?_)); go_step))
        exact ⟨⟨k + 1, by omega, by go_num, hx.trans x2, any_take hlt hall (by simp [notB, hb])⟩, by simp [intOf]; omega⟩
    · have : k = l.length := by omega
      subst this
      rw [List.take_length] at hall
      repeat' (first | ((with_reducible refine o_s ?_); (first | (refine o_1 ?_; refine o_2 ?_) | (refine o_g ?_; first | refine o_u ?_ | refine o_k ?_ | refine o_n ?_ | refine o_v ?_ | ((first | refine o_G ?_ ?_ | refine o_N ?_ ?_) <;> intro hc)))) | ((fail_if_success (with_reducible refine o_s ?_)); go_step))
      go_ret
      exact ⟨by rw [idx_no hall]; rfl, hx⟩
theorem p_ContainsRule (v : Value) (l : List (Value × Bool)) (w : World) (hv : Sl 1 w v (fcells l)) (hf : ∀ x ∈ l, Rule w x.1 x.2) : Calls Tryz.prog 125 #[v, .func (.func 126) #[] #[]] w (RetV w (.bool (l.any notB))) := by
  go_enter Tryz.func125, Tryz.ntmps125
  repeat' (first | ((with_reducible refine o_s ?_); (first | (refine o_1 ?_; refine o_2 ?_) | (refine o_g ?_; first | refine o_u ?_ | refine o_k ?_ | refine o_n ?_ | refine o_v ?_ | ((first | refine o_G ?_ ?_ | refine o_N ?_ ?_) <;> intro hc)))) | ((fail_if_success (with_reducible refine o_s ?_)); go_step))
  refine wpl_callV (enters_of Tryz.func165 rfl rfl) rfl rfl (p_IndexRule v l _ hv hf) ?_; intro w1 x1; refine gset ?_
  repeat' (first | ((with_reducible refine o_s ?_); (first | (refine o_1 ?_; refine o_2 ?_) | (refine o_g ?_; first | refine o_u ?_ | refine o_k ?_ | refine o_n ?_ | refine o_v ?_ | ((first | refine o_G ?_ ?_ | refine o_N ?_ ?_) <;> intro hc)))) | ((fail_if_success (with_reducible refine o_s ?_)); go_step))
  go_ret
  exact ⟨by rw [← idx_any]; rfl, x1⟩
set_option maxHeartbeats 6000000 in
theorem p_right (o : List UInt8) (v : Value) (l : List RSet) (s : RSet) (u : Value) (w : World) (hv : SetsAt w v l) (hu : Sl 1 w u (tcells s.data)) (hck : checkS l = 0) : Calls Tryz.prog 88 #[.agg #[str o, v], .agg #[str s.name, .int .i64 s.kind, .int .i64 s.ttl, u]] w (RetV w (.bool (rightR o l s))) := by
  have hlen := tcells_length s.data
  go_enter Tryz.func88, Tryz.ntmps88
  repeat' ((fail_if_success (with_reducible refine o_s ?_)); go_step)
  refine wpl_box (vs := [str o, v]) rfl rfl ?_
  intro pz w1 x1 hz
  refine gset ?_
  repeat' ((fail_if_success (with_reducible refine o_s ?_)); go_step)
  refine wpl_box (vs := [str s.name, .int .i64 s.kind, .int .i64 s.ttl, u]) rfl rfl ?_
  intro ps w2 x2 hs
  refine gset ?_
  have hz2 := hz.ext x2
  have hx2 := x1.trans x2
  have hu2 := hu.ext hx2
  repeat' (first | ((with_reducible refine o_s ?_); (first | (refine o_1 ?_; refine o_2 ?_) | (refine o_g ?_; first | refine o_u ?_ | refine o_k ?_ | refine o_n ?_ | refine o_v ?_ | ((first | refine o_G ?_ ?_ | refine o_N ?_ ?_) <;> intro hc)))) | ((fail_if_success (with_reducible refine o_s ?_)); go_step))
  refine wpl_allocB (z := [.bool false]) rfl (by decide +kernel) ?_
  intro w3 x3 s3 h3
  refine gset ?_
  have hone : decide (((tcells s.data).length : Int) = 1) = decide (s.data.length = 1) := by rw [hlen, Bool.eq_iff_iff]; simp; omega
  rw [hone]
  refine wpl_store1 (v := .bool (decide (s.data.length = 1))) rfl rfl rfl h3 (by decide +kernel) rfl ?_
  intro w4 p4
  have x4 : Ext w2 w4 := x3.move p4.mv (by rintro k ⟨⟩; exact Nat.le_refl _)
  have hb4 := pts_block (cs := [.bool (decide (s.data.length = 1))]) p4.this
  have hz4 := hz2.ext x4
  have hs4 := hs.ext x4
  have hx4 := hx2.trans x4
  have hv4 := hv.ext hx4
  clear p4 h3 x3
  generalize hpb : Value.pointer (some ⟨w2.heap.size, 0, none⟩) = pb at *
  repeat' (first | ((with_reducible refine o_s ?_); (first | (refine o_1 ?_; refine o_2 ?_) | (refine o_g ?_; first | refine o_u ?_ | refine o_k ?_ | refine o_n ?_ | refine o_v ?_ | ((first | refine o_G ?_ ?_ | refine o_N ?_ ?_) <;> intro hc)))) | ((fail_if_success (with_reducible refine o_s ?_)); go_step))
  have r1 : Rule w4 (.func (.func 120) #[] #[ps, pz]) (underN s.name o) := ⟨120, _, rfl, enters_of Tryz.func120 rfl rfl, fun w' hx' => p_right1 o v ps pz s u w' (hs4.ext hx') (hz4.ext hx')⟩
  have r2 : Rule w4 (.func (.func 121) #[] #[ps, pz, pb]) (rule2 o s (decide (s.data.length = 1))) := ⟨121, _, rfl, enters_of Tryz.func121 rfl rfl, fun w' hx' => p_right2 o v ps pz pb s u _ w' (hs4.ext hx') (hz4.ext hx') (hb4.ext hx')⟩
  have r3 : Rule w4 (.func (.func 122) #[] #[ps, pb, pz]) (rule3 l s (decide (s.data.length = 1))) := ⟨122, _, rfl, enters_of Tryz.func122 rfl rfl, fun w' hx' => p_right3 o v ps pz pb l s u _ w' (hs4.ext hx') (hz4.ext hx') (hb4.ext hx') (hv4.ext hx')⟩
  have r4 : Rule w4 (.func (.func 124) #[] #[pz, ps]) (rule4 o l s) := ⟨124, _, rfl, enters_of Tryz.func124 rfl rfl, fun w' hx' => p_right4 o v ps pz l s u w' (hs4.ext hx') (hz4.ext hx') (hv4.ext hx')⟩
  refine wpl_slice (e := 27) (k := 1) (bytes := 8) (xs := [.func (.func 120) #[] #[ps, pz], .func (.func 121) #[] #[ps, pz, pb], .func (.func 122) #[] #[ps, pb, pz], .func (.func 124) #[] #[pz, ps]]) rfl rfl rfl (by simp [Value.cells]) (by decide +kernel) (by simp) ?_
  intro v5 w5 x5 _ sl5 _
  refine gset ?_
  have sl5 : Sl 1 w5 v5 (fcells [(.func (.func 120) #[] #[ps, pz], underN s.name o), (.func (.func 121) #[] #[ps, pz, pb], rule2 o s (decide (s.data.length = 1))), (.func (.func 122) #[] #[ps, pb, pz], rule3 l s (decide (s.data.length = 1))), (.func (.func 124) #[] #[pz, ps], rule4 o l s)]) := sl5
  repeat' (first | ((with_reducible refine o_s ?_); (first | (refine o_1 ?_; refine o_2 ?_) | (refine o_g ?_; first | refine o_u ?_ | refine o_k ?_ | refine o_n ?_ | refine o_v ?_ | ((first | refine o_G ?_ ?_ | refine o_N ?_ ?_) <;> intro hc)))) | ((fail_if_success (with_reducible refine o_s ?_)); go_step))
  refine wpl_callV (enters_of Tryz.func125 rfl rfl) rfl rfl (p_ContainsRule v5 _ _ sl5 (by
    intro x hx
    simp only [List.mem_cons, List.not_mem_nil, or_false] at hx
    rcases hx with rfl | rfl | rfl | rfl
    · exact r1.ext x5
    · exact r2.ext x5
    · exact r3.ext x5
    · exact r4.ext x5)) ?_; intro w6 x6; refine gset ?_
  repeat' (first | ((with_reducible refine o_s ?_); (first | (refine o_1 ?_; refine o_2 ?_) | (refine o_g ?_; first | refine o_u ?_ | refine o_k ?_ | refine o_n ?_ | refine o_v ?_ | ((first | refine o_G ?_ ?_ | refine o_N ?_ ?_) <;> intro hc)))) | ((fail_if_success (with_reducible refine o_s ?_)); go_step))
  go_ret
  refine ⟨?_, (hx4.trans x5).trans x6⟩
  congr 2
  have h4 : lastR o l s = rule4 o l s := by rw [lastR, rule4, cut_eq hck]
  simp only [rightR, h4, List.any_cons, List.any_nil, notB, rule2, rule3, Bool.or_false]
  cases underN s.name o <;> cases rule4 o l s <;> simp <;> by_cases a6 : s.kind = 6 <;> by_cases a5 : s.kind = 5 <;> by_cases an : s.name = o <;> by_cases a1 : s.data.length = 1 <;> cases l.any (clash s) <;> simp_all
def textS (s : List UInt8) : List (List UInt8) → List (List UInt8)
  | [] => [s]
  | x :: l => if Op.bytesLess x s = true then x :: textS s l else if x = s then x :: l else s :: x :: l
theorem textS_take {s : List UInt8} : ∀ {l : List (List UInt8)} {k : Nat}, (∀ x ∈ l.take k, Op.bytesLess x s = true) → textS s l = l.take k ++ textS s (l.drop k)
  | l, 0, _ => by simp
  | [], k + 1, _ => by simp
  | x :: l, k + 1, h => by
    have h1 := h x (by simp)
    simp only [List.take_succ_cons, List.drop_succ_cons, List.cons_append]
    rw [textS, if_pos h1, textS_take (k := k) (fun y hy => h y (by simp [hy]))]
theorem textS_len (s : List UInt8) : ∀ l : List (List UInt8), (textS s l).length ≤ l.length + 1
  | [] => by simp [textS]
  | x :: l => by
    rw [textS]
    split
    · have := textS_len s l; simp; omega
    · split <;> simp
def recSet (r : Rec) : RSet := ⟨fold r.name, r.kind, r.ttl, [r.data]⟩
def putS (r : Rec) : List RSet → List RSet
  | [] => [recSet r]
  | g :: gs => if aheadS g (recSet r) = true then g :: putS r gs else if aheadS (recSet r) g = true then recSet r :: g :: gs else ⟨fold r.name, r.kind, min r.ttl g.ttl, textS r.data g.data⟩ :: gs
theorem putS_take {r : Rec} : ∀ {l : List RSet} {k : Nat}, (∀ g ∈ l.take k, aheadS g (recSet r) = true) → putS r l = l.take k ++ putS r (l.drop k)
  | l, 0, _ => by simp
  | [], k + 1, _ => by simp
  | x :: l, k + 1, h => by
    have h1 := h x (by simp)
    simp only [List.take_succ_cons, List.drop_succ_cons, List.cons_append]
    rw [putS, if_pos h1, putS_take (k := k) (fun y hy => h y (by simp [hy]))]
def putAll (l : List Rec) : List RSet := l.foldl (fun gs r => putS r gs) []
theorem putAll_succ {l : List Rec} {k : Nat} (h : k < l.length) : putAll (l.take (k + 1)) = putS l[k] (putAll (l.take k)) := by
  rw [putAll, List.take_add_one, List.getElem?_eq_getElem h, Option.toList_some, List.foldl_append]
  rfl
theorem putS_len (r : Rec) : ∀ gs : List RSet, (putS r gs).length ≤ gs.length + 1
  | [] => by simp [putS]
  | g :: gs => by
    have := putS_len r gs
    rw [putS]
    split
    · simp; omega
    · split <;> simp
theorem putS_data (r : Rec) (n : Nat) : ∀ gs : List RSet, (∀ s ∈ gs, s.data.length ≤ n) → ∀ s ∈ putS r gs, s.data.length ≤ n + 1
  | [], _, s, h => by
    have : s = recSet r := by simpa [putS] using h
    subst this; simp [recSet]
  | g :: gs, hn, s, h => by
    have hg := hn g (by simp)
    have hn' : ∀ s ∈ gs, s.data.length ≤ n := fun s hs => hn s (by simp [hs])
    rw [putS] at h
    split at h
    · rcases List.mem_cons.1 h with rfl | h
      · omega
      · exact putS_data r n gs hn' s h
    · split at h
      · rcases List.mem_cons.1 h with rfl | h
        · simp [recSet]
        · have := hn s h; omega
      · rcases List.mem_cons.1 h with rfl | h
        · have := textS_len r.data g.data
          show (textS r.data g.data).length ≤ n + 1
          omega
        · have := hn' s h; omega
theorem putAll_bounds (l : List Rec) : ∀ k, k ≤ l.length → (putAll (l.take k)).length ≤ k ∧ ∀ s ∈ putAll (l.take k), s.data.length ≤ k
  | 0, _ => by simp [putAll]
  | k + 1, h => by
    obtain ⟨h1, h2⟩ := putAll_bounds l k (by omega)
    rw [putAll_succ (show k < l.length by omega)]
    have := putS_len (l[k]'(by omega)) (putAll (l.take k))
    exact ⟨by omega, putS_data _ k _ h2⟩
def refE (l : List Rec) : Int := if l.all okR = false then 1 else if 200 < (putAll l).length then 4 else if (putAll l).any big = true then 4 else 0
def RefR (B : Nat) (l : List Rec) (r : Value) (w' : World) : Prop := if refE l = 0 then ∃ v, r = .tuple #[v, .int .i64 0] ∧ SetsO B w' v (putAll l) else r = .tuple #[.slice none 0 0, .int .i64 (refE l)]
theorem mem_addTo : ∀ {gs : List RSet} {r : Rec} {s : RSet}, Apart gs → s ∈ addTo gs r → (s ∈ gs ∧ match1 s r = false) ∨ (∃ t ∈ gs, match1 t r = true ∧ s = bump t r) ∨ ((∀ t ∈ gs, match1 t r = false) ∧ s = ⟨fold r.name, r.kind, r.ttl, [r.data]⟩)
  | [], r, s, _, h => by
    right; right
    exact ⟨by simp, by simpa [addTo] using h⟩
  | a :: l, r, s, hd, h => by
    obtain ⟨p1, p2⟩ := List.pairwise_cons.1 (apart_pw.1 hd)
    by_cases hm : match1 a r = true
    · simp only [addTo, hm, if_true, List.mem_cons] at h
      rcases h with h | h
      · exact .inr (.inl ⟨a, by simp, hm, h⟩)
      · refine .inl ⟨by simp [h], ?_⟩
        cases hs : match1 s r with
        | false => rfl
        | true =>
          exfalso
          simp only [match1, Bool.and_eq_true, decide_eq_true_eq] at hs hm
          exact p1 s h ⟨by rw [hm.1, hs.1], by rw [hm.2, hs.2]⟩
    · have hm' : match1 a r = false := by simpa using hm
      simp only [addTo, hm', Bool.false_eq_true, if_false, List.mem_cons] at h
      rcases h with rfl | h
      · exact .inl ⟨by simp, hm'⟩
      · rcases mem_addTo (apart_pw.2 p2) h with ⟨h1, h2⟩ | ⟨t, h1, h2, h3⟩ | ⟨h1, h2⟩
        · exact .inl ⟨by simp [h1], h2⟩
        · exact .inr (.inl ⟨t, by simp [h1], h2, h3⟩)
        · refine .inr (.inr ⟨?_, h2⟩)
          intro t ht
          rcases List.mem_cons.1 ht with rfl | ht
          · exact hm'
          · exact h1 t ht
structure Ch (L : List Rec) (s : RSet) : Prop where
  dat : ∀ d, d ∈ s.data ↔ ∃ r ∈ L, match1 s r = true ∧ r.data = d
  ttl : ∃ r ∈ L, match1 s r = true ∧ r.ttl = s.ttl
  low : ∀ r ∈ L, match1 s r = true → s.ttl ≤ r.ttl
theorem Ch.miss {L : List Rec} {s : RSet} {r : Rec} (h : Ch L s) (hm : match1 s r = false) : Ch (L ++ [r]) s where
  dat d := by
    rw [h.dat]
    constructor
    · rintro ⟨q, h1, h2⟩; exact ⟨q, by simp [h1], h2⟩
    · rintro ⟨q, h1, h2, h3⟩
      rcases List.mem_append.1 h1 with h1 | h1
      · exact ⟨q, h1, h2, h3⟩
      · obtain rfl := List.mem_singleton.1 h1
        rw [hm] at h2; cases h2
  ttl := let ⟨q, h1, h2⟩ := h.ttl; ⟨q, by simp [h1], h2⟩
  low q h1 h2 := by
    rcases List.mem_append.1 h1 with h1 | h1
    · exact h.low q h1 h2
    · obtain rfl := List.mem_singleton.1 h1
      rw [hm] at h2; cases h2
theorem Ch.bump {L : List Rec} {s : RSet} {r : Rec} (h : Ch L s) (hm : match1 s r = true) : Ch (L ++ [r]) (X.bump s r) where
  dat d := by
    show d ∈ s.data ++ [r.data] ↔ ∃ q ∈ L ++ [r], match1 s q = true ∧ q.data = d
    rw [List.mem_append, h.dat, List.mem_singleton]
    constructor
    · rintro (⟨q, h1, h2⟩ | rfl)
      · exact ⟨q, by simp [h1], h2⟩
      · exact ⟨r, by simp, hm, rfl⟩
    · rintro ⟨q, h1, h2, h3⟩
      rcases List.mem_append.1 h1 with h1 | h1
      · exact .inl ⟨q, h1, h2, h3⟩
      · obtain rfl := List.mem_singleton.1 h1
        exact .inr h3.symm
  ttl := by
    show ∃ q ∈ L ++ [r], match1 s q = true ∧ q.ttl = min s.ttl r.ttl
    obtain ⟨q, h1, h2, h3⟩ := h.ttl
    rcases Int.le_total s.ttl r.ttl with hl | hl
    · exact ⟨q, by simp [h1], h2, by rw [h3]; omega⟩
    · exact ⟨r, by simp, hm, by omega⟩
  low q h1 h2 := by
    show min s.ttl r.ttl ≤ q.ttl
    rcases List.mem_append.1 h1 with h1 | h1
    · have := h.low q h1 h2
      omega
    · obtain rfl := List.mem_singleton.1 h1
      omega
theorem Ch.new {L : List Rec} {r : Rec} (h : ∀ q ∈ L, match1 ⟨fold r.name, r.kind, r.ttl, [r.data]⟩ q = false) : Ch (L ++ [r]) ⟨fold r.name, r.kind, r.ttl, [r.data]⟩ where
  dat d := by
    rw [List.mem_singleton]
    constructor
    · rintro rfl; exact ⟨r, by simp, by simp [match1], rfl⟩
    · rintro ⟨q, h1, h2, h3⟩
      rcases List.mem_append.1 h1 with h1 | h1
      · rw [h q h1] at h2; cases h2
      · obtain rfl := List.mem_singleton.1 h1
        exact h3.symm
  ttl := ⟨r, by simp, by simp [match1], rfl⟩
  low q h1 h2 := by
    rcases List.mem_append.1 h1 with h1 | h1
    · rw [h q h1] at h2; cases h2
    · obtain rfl := List.mem_singleton.1 h1
      exact Int.le_refl _
theorem gather_ch (l : List Rec) : ∀ k, k ≤ l.length → ∀ s ∈ gather (l.take k), Ch (l.take k) s
  | 0, _, s, h => by simp [gather] at h
  | k + 1, hk, s, h => by
    have hlt : k < l.length := by omega
    have e : l.take (k + 1) = l.take k ++ [l[k]] := by simp
    rw [gather_snoc hlt] at h
    rw [e]
    have ih := gather_ch l k (by omega)
    rcases mem_addTo (gather_apart _) h with ⟨h1, h2⟩ | ⟨t, h1, h2, rfl⟩ | ⟨h1, rfl⟩
    · exact (ih s h1).miss h2
    · exact (ih t h1).bump h2
    · refine Ch.new fun q hq => ?_
      obtain ⟨t, ht, hm, _⟩ := gather_cov hq
      have := h1 t ht
      cases hx : match1 ⟨fold l[k].name, l[k].kind, l[k].ttl, [l[k].data]⟩ q with
      | false => rfl
      | true =>
        exfalso
        simp only [match1, Bool.and_eq_true, decide_eq_true_eq] at hx hm
        have h5 : match1 t l[k] = true := by
          simp only [match1, Bool.and_eq_true, decide_eq_true_eq]
          exact ⟨by rw [hm.1, hx.1], by rw [hm.2, hx.2]⟩
        rw [this] at h5; cases h5
theorem Ch.norm {L : List Rec} {s : RSet} (h : Ch L s) : Ch L (X.norm s) where
  dat d := by
    show d ∈ nub s.data ↔ ∃ r ∈ L, match1 s r = true ∧ r.data = d
    rw [mem_nub, h.dat]
  ttl := h.ttl
  low := h.low
theorem groups_ch {l : List Rec} {s : RSet} (h : s ∈ groups l) : Ch l s ∧ s.data.Pairwise (· < ·) := by
  obtain ⟨u, hu, rfl⟩ := List.mem_map.1 h
  have := gather_ch l l.length (Nat.le_refl _)
  rw [List.take_length] at this
  exact ⟨(this u hu).norm, strict_nub _⟩
theorem Ch.uniq {L : List Rec} {s t : RSet} (h : Ch L s) (k : Ch L t) (hs : s.data.Pairwise (· < ·)) (ht : t.data.Pairwise (· < ·)) (hn : s.name = t.name) (hk : s.kind = t.kind) : s = t := by
  have hm : ∀ r, match1 s r = match1 t r := fun r => by rw [match1, match1, hn, hk]
  have hd : s.data = t.data := strict_eq hs ht fun d => by
    rw [h.dat, k.dat]
    simp only [hm]
  have ha : s.ttl = t.ttl := by
    obtain ⟨q, h1, h2, h3⟩ := h.ttl
    obtain ⟨q', k1, k2, k3⟩ := k.ttl
    have e1 := k.low q h1 (by rw [← hm]; exact h2)
    have e2 := h.low q' k1 (by rw [hm]; exact k2)
    omega
  cases s; cases t
  simp_all
end Go.Proofs.X
