/- Laws and walks that the proof of the statement is made of (part 9). -/
import Derived.Test.YtfgkdjkegifpgaaGreatProg
import Derived.Test.YtfgkdjkegifpgaaGreatP6
import Derived.Test.YtfgkdjkegifpgaaGreatP8
set_option linter.unusedSimpArgs false
set_option linter.unusedVariables false
namespace Go.Proofs.X
open Go.RowKit
set_option maxRecDepth 100000
set_option maxHeartbeats 2000000 in
/-- lodestarref07.Find -/
theorem r7_Find (v : Value) (l : List RSet) (n : List UInt8) (kd : Int) (w : World) (hv : SetsAt w v l) (hb : ∀ s ∈ l, s.data.length ≤ 1000000) : Calls Tryz.prog 20 #[v, str n, .int .i64 kd] w (Ret w fun r w' => match findS l n kd with
    | some s => ∃ x, r = .tuple #[.agg #[str s.name, .int .i64 s.kind, .int .i64 s.ttl, x], .bool true] ∧ Own w.heap.size 1 9 w' x (tcells s.data)
    | none => r = .tuple #[.agg zset.toArray, .bool false]) := by
  obtain ⟨cv, hv1, hvl⟩ := hv.sl
  have hle := hv1.le
  go_enter Tryz.func20, Tryz.ntmps20
  repeat' ((fail_if_success (with_reducible refine o_s ?_)); go_step)
  refine wpl_allocB (z := zset) rfl (by decide +kernel) ?_
  intro w2 x2 s2 h2
  refine gset ?_
  repeat' (first | ((with_reducible refine o_s ?_); (first | (refine o_1 ?_; refine o_2 ?_) | (refine o_g ?_; first | refine o_u ?_ | refine o_k ?_ | refine o_n ?_ | refine o_v ?_ | ((first | refine o_G ?_ ?_ | refine o_N ?_ ?_) <;> intro hc)))) | ((fail_if_success (with_reducible refine o_s ?_)); go_step))
  go_loopw [8] (fun i wr => ∃ k : Nat, k ≤ l.length ∧ i = .int .i64 k ∧ Ext w2 wr ∧ (l.take k).find? (hit (fold n) kd) = none) (fun i _ => l.length - (intOf i).toNat)
  case atStart => exact ⟨0, Nat.zero_le _, rfl, Ext.refl _, rfl⟩
  case round =>
    obtain ⟨k, hk, rfl, hx, hall⟩ := hrel
    have hxw : Ext w wr := x2.trans hx
    have hv2 := hv1.ext hxw
    have h3 := hx.at h2
    by_cases hlt : k < l.length
    · obtain ⟨x, h4, h4d⟩ := (hv.ext hxw).elem (List.getElem?_eq_getElem hlt)
      have hbk := hb _ (List.getElem_mem hlt)
      repeat' (first | ((with_reducible refine o_s ?_); (first | (refine o_1 ?_; refine o_2 ?_) | (refine o_g ?_; first | refine o_u ?_ | refine o_k ?_ | refine o_n ?_ | refine o_v ?_ | ((first | refine o_G ?_ ?_ | refine o_N ?_ ?_) <;> intro hc)))) | ((fail_if_success (with_reducible refine o_s ?_)); go_step))
      refine wpq_region (by decide +kernel) (by decide +kernel) ?_
      repeat' (first | ((with_reducible refine q_s ?_); (first | (refine q_1 ?_; refine q_2 ?_) | (refine q_g ?_; first | refine q_u ?_ | refine q_k ?_ | refine q_v ?_))) | (with_reducible refine q_n ?_))
      refine wpq_call (enters_of Tryz.func54 rfl rfl) rfl rfl (fun w' _ => r1_Fold n w') ?_
      refine gset ?_
      repeat' (first | ((with_reducible refine q_s ?_); (first | (refine q_1 ?_; refine q_2 ?_) | (refine q_g ?_; first | refine q_u ?_ | refine q_k ?_ | refine q_v ?_))) | (with_reducible refine q_n ?_))
      by_cases q1 : l[k].name = fold n
      · rw [decide_eq_true q1]
        repeat' (first | ((with_reducible refine q_s ?_); (first | (refine q_1 ?_; refine q_2 ?_) | (refine q_g ?_; first | refine q_u ?_ | refine q_k ?_ | refine q_v ?_))) | (with_reducible refine q_n ?_))
        intro w5 x5
        have h5 := x5.at h3
        have hv5 := hv2.ext x5
        have hp5 := h4.ext x5
        by_cases q2 : l[k].kind = kd
        · have hh : findS l n kd = some l[k] := find_at hlt hall (by simp [hit, q1, q2])
          rw [decide_eq_true q2]
          repeat' (first | ((with_reducible refine o_s ?_); (first | (refine o_1 ?_; refine o_2 ?_) | (refine o_g ?_; first | refine o_u ?_ | refine o_k ?_ | refine o_n ?_ | refine o_v ?_ | ((first | refine o_G ?_ ?_ | refine o_N ?_ ?_) <;> intro hc)))) | ((fail_if_success (with_reducible refine o_s ?_)); go_step))
          refine wpl_callR (enters_of Tryz.func55 rfl rfl) rfl rfl (r7_Copy l[k] x _ (h4d.ext x5) hbk) ?_
          intro r w6 x6 hr
          obtain ⟨y, rfl, oy⟩ := hr
          refine gset ?_
          have h6 := x6.at h5
          have hs5 := hx.size
          have hs6 := x5.size
          refine wpl_storeB (v := .agg #[str l[k].name, .int .i64 l[k].kind, .int .i64 l[k].ttl, y]) rfl rfl rfl h6 (show sizeTy Tryz.prog 35 4 = true by decide +kernel) rfl (all4 rfl rfl rfl oy.sl.one) ?_
          intro w7 p7
          have x7 : Ext w w7 := ((hxw.trans x5).trans x6).move p7.mv (by rintro k ⟨⟩; exact Nat.le_refl _)
          have o7 := oy.put p7 (by omega)
          repeat' (first | ((with_reducible refine o_s ?_); (first | (refine o_1 ?_; refine o_2 ?_) | (refine o_g ?_; first | refine o_u ?_ | refine o_k ?_ | refine o_n ?_ | refine o_v ?_ | ((first | refine o_G ?_ ?_ | refine o_N ?_ ?_) <;> intro hc)))) | ((fail_if_success (with_reducible refine o_s ?_)); go_step))
          refine bodyPost_ret (results_cellT (cs := [str l[k].name, .int .i64 l[k].kind, .int .i64 l[k].ttl, y]) rfl rfl p7.this (show aggTy Tryz.prog 35 4 = true by decide +kernel)) rfl ⟨_, rfl, x7, ?_⟩
          rw [hh]
          exact ⟨y, rfl, o7.weaken (by omega)⟩
        · rw [decide_eq_false q2]
          repeat' (first | ((with_reducible refine o_s ?_); (first | (refine o_1 ?_; refine o_2 ?_) | (refine o_g ?_; first | refine o_u ?_ | refine o_k ?_ | refine o_n ?_ | refine o_v ?_ | ((first | refine o_G ?_ ?_ | refine o_N ?_ ?_) <;> intro hc)))) | ((fail_if_success (with_reducible refine o_s ?_)); go_step))
          exact ⟨⟨k + 1, by omega, by go_num, hx.trans x5, find_take hlt hall (by simp [hit, q2])⟩, by simp [intOf]; omega⟩
      · rw [decide_eq_false q1]
        repeat' (first | ((with_reducible refine q_s ?_); (first | (refine q_1 ?_; refine q_2 ?_) | (refine q_g ?_; first | refine q_u ?_ | refine q_k ?_ | refine q_v ?_))) | (with_reducible refine q_n ?_))
        intro w5 x5
        repeat' (first | ((with_reducible refine o_s ?_); (first | (refine o_1 ?_; refine o_2 ?_) | (refine o_g ?_; first | refine o_u ?_ | refine o_k ?_ | refine o_n ?_ | refine o_v ?_ | ((first | refine o_G ?_ ?_ | refine o_N ?_ ?_) <;> intro hc)))) | ((fail_if_success (with_reducible refine o_s ?_)); go_step))
        exact ⟨⟨k + 1, by omega, by go_num, hx.trans x5, find_take hlt hall (by simp [hit, q1])⟩, by simp [intOf]; omega⟩
    · have : k = l.length := by omega
      subst this
      have hno : findS l n kd = none := by rw [List.take_length] at hall; exact hall
      repeat' (first | ((with_reducible refine o_s ?_); (first | (refine o_1 ?_; refine o_2 ?_) | (refine o_g ?_; first | refine o_u ?_ | refine o_k ?_ | refine o_n ?_ | refine o_v ?_ | ((first | refine o_G ?_ ?_ | refine o_N ?_ ?_) <;> intro hc)))) | ((fail_if_success (with_reducible refine o_s ?_)); go_step))
      refine wpl_run (v := .agg zset.toArray) rfl (Runs.build0 (by kernel_rfl)) ?_
      refine gset ?_
      refine wpl_storeB (v := .agg zset.toArray) rfl rfl rfl h3 (by decide +kernel) rfl (by decide +kernel) ?_
      intro w7 p7
      have x7 : Ext w w7 := hxw.move p7.mv (by rintro k ⟨⟩; exact Nat.le_refl _)
      repeat' (first | ((with_reducible refine o_s ?_); (first | (refine o_1 ?_; refine o_2 ?_) | (refine o_g ?_; first | refine o_u ?_ | refine o_k ?_ | refine o_n ?_ | refine o_v ?_ | ((first | refine o_G ?_ ?_ | refine o_N ?_ ?_) <;> intro hc)))) | ((fail_if_success (with_reducible refine o_s ?_)); go_step))
      refine bodyPost_ret (results_cellT (cs := zset) rfl rfl p7.this (by decide +kernel)) rfl ⟨_, rfl, x7, ?_⟩
      rw [hno]
      rfl

end Go.Proofs.X
set_option linter.unusedSimpArgs false
set_option linter.unusedVariables false
namespace Go.Proofs.X
open Go.RowKit
set_option maxRecDepth 100000
set_option maxHeartbeats 2000000 in
/-- lodestarref08.Has -/
theorem r8_Has (o : List UInt8) (v : Value) (l : List RSet) (n : List UInt8) (kd : Int) (w : World) (hv : SetsAt w v l) (hb : ∀ s ∈ l, s.data.length ≤ 1000000) : Calls Tryz.prog 73 #[.agg #[str o, v], str n, .int .i64 kd] w (RetV w (.bool (findS l n kd).isSome)) := by
  go_enter Tryz.func73, Tryz.ntmps73
  repeat' ((fail_if_success (with_reducible refine o_s ?_)); go_step)
  refine wpl_box (vs := [str o, v]) rfl rfl ?_
  intro p w0 x0 hp
  refine gset ?_
  have hv1 := hv.ext x0
  repeat' (first | ((with_reducible refine o_s ?_); (first | (refine o_1 ?_; refine o_2 ?_) | (refine o_g ?_; first | refine o_u ?_ | refine o_k ?_ | refine o_n ?_ | refine o_v ?_ | ((first | refine o_G ?_ ?_ | refine o_N ?_ ?_) <;> intro hc)))) | ((fail_if_success (with_reducible refine o_s ?_)); go_step))
  refine wpl_callR (enters_of Tryz.func20 rfl rfl) rfl rfl (r7_Find v l n kd _ hv1 hb) ?_
  intro r w1 x1 hr
  cases hf : findS l n kd with
  | none =>
    rw [hf] at hr
    obtain rfl := hr
    repeat' (first | ((with_reducible refine o_s ?_); (first | (refine o_1 ?_; refine o_2 ?_) | (refine o_g ?_; first | refine o_u ?_ | refine o_k ?_ | refine o_n ?_ | refine o_v ?_ | ((first | refine o_G ?_ ?_ | refine o_N ?_ ?_) <;> intro hc)))) | ((fail_if_success (with_reducible refine o_s ?_)); go_step))
    refine wpl_allocB (z := zset) rfl (by decide +kernel) ?_
    intro w2 x2 s2 h2
    refine gset ?_
    refine wpl_storeB (v := .agg zset.toArray) rfl rfl rfl h2 (by decide +kernel) rfl (by decide +kernel) ?_
    intro w3 p3
    have x3 : Ext w w3 := ((x0.trans x1).trans x2).move p3.mv (by rintro k ⟨⟩; have := x0.size; have := x1.size; omega)
    repeat' (first | ((with_reducible refine o_s ?_); (first | (refine o_1 ?_; refine o_2 ?_) | (refine o_g ?_; first | refine o_u ?_ | refine o_k ?_ | refine o_n ?_ | refine o_v ?_ | ((first | refine o_G ?_ ?_ | refine o_N ?_ ?_) <;> intro hc)))) | ((fail_if_success (with_reducible refine o_s ?_)); go_step))
    go_ret
    exact ⟨by rw [hf]; rfl, x3⟩
  | some s =>
    rw [hf] at hr
    obtain ⟨x, rfl, ho⟩ := hr
    repeat' (first | ((with_reducible refine o_s ?_); (first | (refine o_1 ?_; refine o_2 ?_) | (refine o_g ?_; first | refine o_u ?_ | refine o_k ?_ | refine o_n ?_ | refine o_v ?_ | ((first | refine o_G ?_ ?_ | refine o_N ?_ ?_) <;> intro hc)))) | ((fail_if_success (with_reducible refine o_s ?_)); go_step))
    refine wpl_allocB (z := zset) rfl (by decide +kernel) ?_
    intro w2 x2 s2 h2
    refine gset ?_
    refine wpl_storeB (v := .agg #[str s.name, .int .i64 s.kind, .int .i64 s.ttl, x]) rfl rfl rfl h2 (show sizeTy Tryz.prog 35 4 = true by decide +kernel) rfl (all4 rfl rfl rfl ho.sl.one) ?_
    intro w3 p3
    have x3 : Ext w w3 := ((x0.trans x1).trans x2).move p3.mv (by rintro k ⟨⟩; have := x0.size; have := x1.size; omega)
    repeat' (first | ((with_reducible refine o_s ?_); (first | (refine o_1 ?_; refine o_2 ?_) | (refine o_g ?_; first | refine o_u ?_ | refine o_k ?_ | refine o_n ?_ | refine o_v ?_ | ((first | refine o_G ?_ ?_ | refine o_N ?_ ?_) <;> intro hc)))) | ((fail_if_success (with_reducible refine o_s ?_)); go_step))
    go_ret
    exact ⟨by rw [hf]; rfl, x3⟩

end Go.Proofs.X
set_option linter.unusedSimpArgs false
set_option linter.unusedVariables false
namespace Go.Proofs.X
open Go.RowKit
set_option maxRecDepth 100000
/-- lodestarref08.There, in plain Lean -/
def thereS (o : List UInt8) (l : List RSet) (n : List UInt8) : Bool := underN n o && l.any fun s => underN s.name n
theorem any_take {α : Type} {p : α → Bool} {l : List α} {k : Nat} (hk : k < l.length) (h : (l.take k).any p = false) (hp : p l[k] = false) : (l.take (k + 1)).any p = false := by
  rw [List.take_succ_eq_append_getElem hk, List.any_append, h]; simp [hp]
theorem any_at {α : Type} {p : α → Bool} {l : List α} {k : Nat} (hk : k < l.length) (hp : p l[k] = true) : l.any p = true :=
  List.any_eq_true.mpr ⟨_, List.getElem_mem hk, hp⟩
set_option maxHeartbeats 2000000 in
/-- lodestarref08.There -/
theorem r8_There (o : List UInt8) (v : Value) (l : List RSet) (n : List UInt8) (w : World) (hv : SetsAt w v l) : Calls Tryz.prog 79 #[.agg #[str o, v], str n] w (RetV w (.bool (thereS o l n))) := by
  obtain ⟨cv, hv1, hvl⟩ := hv.sl
  have hle := hv1.le
  go_enter Tryz.func79, Tryz.ntmps79
  repeat' ((fail_if_success (with_reducible refine o_s ?_)); go_step)
  refine wpl_box (vs := [str o, v]) rfl rfl ?_
  intro p w0 x0 hp
  refine gset ?_
  repeat' (first | ((with_reducible refine o_s ?_); (first | (refine o_1 ?_; refine o_2 ?_) | (refine o_g ?_; first | refine o_u ?_ | refine o_k ?_ | refine o_n ?_ | refine o_v ?_ | ((first | refine o_G ?_ ?_ | refine o_N ?_ ?_) <;> intro hc)))) | ((fail_if_success (with_reducible refine o_s ?_)); go_step))
  refine wpl_callV (enters_of Tryz.func44 rfl rfl) rfl rfl (r1_Under _ _ _) ?_; intro w1 x1; refine gset ?_
  have hp1 := hp.ext x1
  have hx1 := x0.trans x1
  cases hu : underN n o with
  | false =>
    repeat' (first | ((with_reducible refine o_s ?_); (first | (refine o_1 ?_; refine o_2 ?_) | (refine o_g ?_; first | refine o_u ?_ | refine o_k ?_ | refine o_n ?_ | refine o_v ?_ | ((first | refine o_G ?_ ?_ | refine o_N ?_ ?_) <;> intro hc)))) | ((fail_if_success (with_reducible refine o_s ?_)); go_step))
    go_ret
    exact ⟨by simp [thereS, hu], hx1⟩
  | true =>
    repeat' (first | ((with_reducible refine o_s ?_); (first | (refine o_1 ?_; refine o_2 ?_) | (refine o_g ?_; first | refine o_u ?_ | refine o_k ?_ | refine o_n ?_ | refine o_v ?_ | ((first | refine o_G ?_ ?_ | refine o_N ?_ ?_) <;> intro hc)))) | ((fail_if_success (with_reducible refine o_s ?_)); go_step))
    go_loopw [5] (fun i wr => ∃ k : Nat, k ≤ l.length ∧ i = .int .i64 k ∧ Ext w1 wr ∧ (l.take k).any (fun s => underN s.name n) = false) (fun i _ => l.length - (intOf i).toNat)
    case atStart => exact ⟨0, Nat.zero_le _, rfl, Ext.refl _, rfl⟩
    case round =>
      obtain ⟨k, hk, rfl, hx, hall⟩ := hrel
      have hxw : Ext w wr := hx1.trans hx
      have hv2 := hv1.ext hxw
      have hp2 := hp1.ext hx
      by_cases hlt : k < l.length
      · obtain ⟨x, h4, h4d⟩ := (hv.ext hxw).elem (List.getElem?_eq_getElem hlt)
        repeat' (first | ((with_reducible refine o_s ?_); (first | (refine o_1 ?_; refine o_2 ?_) | (refine o_g ?_; first | refine o_u ?_ | refine o_k ?_ | refine o_n ?_ | refine o_v ?_ | ((first | refine o_G ?_ ?_ | refine o_N ?_ ?_) <;> intro hc)))) | ((fail_if_success (with_reducible refine o_s ?_)); go_step))
        refine wpl_callV (enters_of Tryz.func44 rfl rfl) rfl rfl (r1_Under _ _ _) ?_; intro w2 x2; refine gset ?_
        have hx2 := hxw.trans x2
        cases hq : underN l[k].name n with
        | true =>
          repeat' (first | ((with_reducible refine o_s ?_); (first | (refine o_1 ?_; refine o_2 ?_) | (refine o_g ?_; first | refine o_u ?_ | refine o_k ?_ | refine o_n ?_ | refine o_v ?_ | ((first | refine o_G ?_ ?_ | refine o_N ?_ ?_) <;> intro hc)))) | ((fail_if_success (with_reducible refine o_s ?_)); go_step))
          go_ret
          exact ⟨by simp [thereS, hu, any_at (p := fun s => underN s.name n) hlt hq], hx2⟩
        | false =>
          repeat' (first | ((with_reducible refine o_s ?_); (first | (refine o_1 ?_; refine o_2 ?_) | (refine o_g ?_; first | refine o_u ?_ | refine o_k ?_ | refine o_n ?_ | refine o_v ?_ | ((first | refine o_G ?_ ?_ | refine o_N ?_ ?_) <;> intro hc)))) | ((fail_if_success (with_reducible refine o_s ?_)); go_step))
          exact ⟨⟨k + 1, by omega, by go_num, hx.trans x2, any_take hlt hall hq⟩, by simp [intOf]; omega⟩
      · have : k = l.length := by omega
        subst this
        rw [List.take_length] at hall
        repeat' (first | ((with_reducible refine o_s ?_); (first | (refine o_1 ?_; refine o_2 ?_) | (refine o_g ?_; first | refine o_u ?_ | refine o_k ?_ | refine o_n ?_ | refine o_v ?_ | ((first | refine o_G ?_ ?_ | refine o_N ?_ ?_) <;> intro hc)))) | ((fail_if_success (with_reducible refine o_s ?_)); go_step))
        go_ret
        exact ⟨by simp [thereS, hu, hall], hxw⟩

end Go.Proofs.X
set_option linter.unusedSimpArgs false
set_option linter.unusedVariables false
namespace Go.Proofs.X
open Go.RowKit
set_option maxRecDepth 100000
/-- lodestarref08.cut, in plain Lean: one step -/
def labN (n : List UInt8) : Nat := ((labels n).getD []).length
def cutStep (o n : List UInt8) (b : List UInt8 × Bool) (s : RSet) : List UInt8 × Bool :=
  if s.kind = 2 ∧ s.name ≠ o ∧ underN n s.name = true ∧ (b.2 = false ∨ labN s.name < labN b.1) then (s.name, true) else b
def cutR (o : List UInt8) (l : List RSet) (n : List UInt8) : List UInt8 × Bool := l.foldl (cutStep o n) ([], false)
theorem cut_take {o n : List UInt8} {l : List RSet} {k : Nat} (hk : k < l.length) : cutR o (l.take (k + 1)) n = cutStep o n (cutR o (l.take k) n) l[k] := by
  rw [List.take_succ_eq_append_getElem hk, cutR, List.foldl_append]; rfl
set_option maxHeartbeats 500000 in
/-- lodestarref08.cut -/
theorem r8_cut (o : List UInt8) (v : Value) (l : List RSet) (n : List UInt8) (w : World) (hv : SetsAt w v l) : Calls Tryz.prog 76 #[.agg #[str o, v], str n] w (RetV w (.tuple #[str (cutR o l n).1, .bool (cutR o l n).2])) := by
  obtain ⟨cv, hv1, hvl⟩ := hv.sl
  have hle := hv1.le
  go_enter Tryz.func76, Tryz.ntmps76
  repeat' ((fail_if_success (with_reducible refine o_s ?_)); go_step)
  refine wpl_box (vs := [str o, v]) rfl rfl ?_
  intro p w1 x1 hp
  refine gset ?_
  repeat' (first | ((with_reducible refine o_s ?_); (first | (refine o_1 ?_; refine o_2 ?_) | (refine o_g ?_; first | refine o_u ?_ | refine o_k ?_ | refine o_n ?_ | refine o_v ?_ | ((first | refine o_G ?_ ?_ | refine o_N ?_ ?_) <;> intro hc)))) | ((fail_if_success (with_reducible refine o_s ?_)); go_step))
  go_loopw [6, 7, 8, 9] (fun b f i _ wr => ∃ k : Nat, k ≤ l.length ∧ i = .int .i64 k ∧ b = str (cutR o (l.take k) n).1 ∧ f = .bool (cutR o (l.take k) n).2 ∧ Ext w1 wr) (fun _ _ i _ _ => l.length - (intOf i).toNat)
  case atStart => exact ⟨0, Nat.zero_le _, rfl, rfl, rfl, Ext.refl _⟩
  case round =>
    obtain ⟨k, hk, rfl, rfl, rfl, hx⟩ := hrel
    have hxw : Ext w wr := x1.trans hx
    have hv2 := hv1.ext hxw
    have hp2 := hp.ext hx
    by_cases hlt : k < l.length
    · obtain ⟨x, h4, h4d⟩ := (hv.ext hxw).elem (List.getElem?_eq_getElem hlt)
      repeat' (first | ((with_reducible refine o_s ?_); (first | (refine o_1 ?_; refine o_2 ?_) | (refine o_g ?_; first | refine o_u ?_ | refine o_k ?_ | refine o_n ?_ | refine o_v ?_ | ((first | refine o_G ?_ ?_ | refine o_N ?_ ?_) <;> intro hc)))) | ((fail_if_success (with_reducible refine o_s ?_)); go_step))
      refine wpl_allocB (z := zset) rfl (by decide +kernel) ?_
      intro w2 x2 s2 h2
      refine gset ?_
      refine wpl_storeB (v := .agg #[str l[k].name, .int .i64 l[k].kind, .int .i64 l[k].ttl, x]) rfl rfl rfl h2 (show sizeTy Tryz.prog 35 4 = true by decide +kernel) rfl (all4 rfl rfl rfl (h4d.ext x2).one) ?_
      intro w3 p3
      have x3 : Ext wr w3 := x2.move p3.mv (by rintro k ⟨⟩; have := hxw.size; omega)
      have h3 : Pts w3 (.pointer (some ⟨wr.heap.size, 0, none⟩)) [str l[k].name, .int .i64 l[k].kind, .int .i64 l[k].ttl, x] := pts_block p3.this
      have hp3 := hp2.ext x3
      have hstep := cut_take (o := o) (n := n) hlt
      generalize hg : cutR o (l.take k) n = g at *
      obtain ⟨best, found⟩ := g
      have hsame : ¬ (l[k].kind = 2 ∧ l[k].name ≠ o ∧ underN n l[k].name = true ∧ (found = false ∨ labN l[k].name < labN best)) → cutR o (l.take (k + 1)) n = (best, found) := fun h => by
        rw [hstep, cutStep, if_neg h]
      have hnew : (l[k].kind = 2 ∧ l[k].name ≠ o ∧ underN n l[k].name = true ∧ (found = false ∨ labN l[k].name < labN best)) → cutR o (l.take (k + 1)) n = (l[k].name, true) := fun h => by
        rw [hstep, cutStep, if_pos h]
      repeat' (first | ((with_reducible refine o_s ?_); (first | (refine o_1 ?_; refine o_2 ?_) | (refine o_g ?_; first | refine o_u ?_ | refine o_k ?_ | refine o_n ?_ | refine o_v ?_ | ((first | refine o_G ?_ ?_ | refine o_N ?_ ?_) <;> intro hc)))) | ((fail_if_success (with_reducible refine o_s ?_)); go_step))
      · have hne : l[k].name ≠ o := by simpa using hc
        have hk2 : l[k].kind = 2 := by assumption
        refine wpl_callV (enters_of Tryz.func44 rfl rfl) rfl rfl (r1_Under _ _ _) ?_; intro w4 x4; refine gset ?_
        have hx4 := hx.trans (x3.trans x4)
        have h5 := h3.ext x4
        cases hu : underN n l[k].name with
        | false =>
          repeat' (first | ((with_reducible refine o_s ?_); (first | (refine o_1 ?_; refine o_2 ?_) | (refine o_g ?_; first | refine o_u ?_ | refine o_k ?_ | refine o_n ?_ | refine o_v ?_ | ((first | refine o_G ?_ ?_ | refine o_N ?_ ?_) <;> intro hc)))) | ((fail_if_success (with_reducible refine o_s ?_)); go_step))
          have h := hsame (fun h => absurd h.2.2.1 (by rw [hu]; decide))
          exact ⟨⟨k + 1, by omega, by go_num, by rw [h], by rw [h], hx4⟩, by simp [intOf]; omega⟩
        | true =>
          cases found with
          | false =>
            repeat' (first | ((with_reducible refine o_s ?_); (first | (refine o_1 ?_; refine o_2 ?_) | (refine o_g ?_; first | refine o_u ?_ | refine o_k ?_ | refine o_n ?_ | refine o_v ?_ | ((first | refine o_G ?_ ?_ | refine o_N ?_ ?_) <;> intro hc)))) | ((fail_if_success (with_reducible refine o_s ?_)); go_step))
            have h := hnew ⟨hk2, hne, hu, .inl rfl⟩
            exact ⟨⟨k + 1, by omega, by go_num, by rw [h], by rw [h], hx4⟩, by simp [intOf]; omega⟩
          | true =>
            repeat' (first | ((with_reducible refine o_s ?_); (first | (refine o_1 ?_; refine o_2 ?_) | (refine o_g ?_; first | refine o_u ?_ | refine o_k ?_ | refine o_n ?_ | refine o_v ?_ | ((first | refine o_G ?_ ?_ | refine o_N ?_ ?_) <;> intro hc)))) | ((fail_if_success (with_reducible refine o_s ?_)); go_step))
            refine wpl_callR (enters_of Tryz.func42 rfl rfl) rfl rfl (r1_Labels l[k].name _) ?_
            intro v5 w5 x5 o5
            have hl5 := tcells_length ((labels l[k].name).getD [])
            have hs5 := o5.sl
            have h6 := h5.ext x5
            refine gset ?_
            repeat' (first | ((with_reducible refine o_s ?_); (first | (refine o_1 ?_; refine o_2 ?_) | (refine o_g ?_; first | refine o_u ?_ | refine o_k ?_ | refine o_n ?_ | refine o_v ?_ | ((first | refine o_G ?_ ?_ | refine o_N ?_ ?_) <;> intro hc)))) | ((fail_if_success (with_reducible refine o_s ?_)); go_step))
            refine wpl_callR (enters_of Tryz.func42 rfl rfl) rfl rfl (r1_Labels best _) ?_
            intro v6 w6 x6 o6
            have hl6 := tcells_length ((labels best).getD [])
            have hs6 := o6.sl
            have h7 := h6.ext x6
            have hx7 := hx4.trans (x5.trans x6)
            refine gset ?_
            repeat' (first | ((with_reducible refine o_s ?_); (first | (refine o_1 ?_; refine o_2 ?_) | (refine o_g ?_; first | refine o_u ?_ | refine o_k ?_ | refine o_n ?_ | refine o_v ?_ | ((first | refine o_G ?_ ?_ | refine o_N ?_ ?_) <;> intro hc)))) | ((fail_if_success (with_reducible refine o_s ?_)); go_step))
            · rename_i hh
              have h := hnew ⟨hk2, hne, hu, .inr (by simp only [labN]; omega)⟩
              exact ⟨⟨k + 1, by omega, by go_num, by rw [h], by rw [h], hx7⟩, by simp [intOf]; omega⟩
            · rename_i hh
              have h := hsame (fun h => by have h8 := h.2.2.2; simp only [labN] at h8; rcases h8 with h8 | h8; cases h8; omega)
              exact ⟨⟨k + 1, by omega, by go_num, by rw [h], by rw [h], hx7⟩, by simp [intOf]; omega⟩
      · have h := hsame (fun h => by first | exact absurd h.1 hc | exact h.2.1 (by simpa using hc))
        exact ⟨⟨k + 1, by omega, by go_num, by rw [h], by rw [h], hx.trans x3⟩, by simp [intOf]; omega⟩
      · have h := hsame (fun h => by first | exact absurd h.1 hc | exact h.2.1 (by simpa using hc))
        exact ⟨⟨k + 1, by omega, by go_num, by rw [h], by rw [h], hx.trans x3⟩, by simp [intOf]; omega⟩
    · have : k = l.length := by omega
      subst this
      rw [List.take_length]
      repeat' (first | ((with_reducible refine o_s ?_); (first | (refine o_1 ?_; refine o_2 ?_) | (refine o_g ?_; first | refine o_u ?_ | refine o_k ?_ | refine o_n ?_ | refine o_v ?_ | ((first | refine o_G ?_ ?_ | refine o_N ?_ ?_) <;> intro hc)))) | ((fail_if_success (with_reducible refine o_s ?_)); go_step))
      go_ret2
      exact ⟨rfl, hxw⟩

end Go.Proofs.X
set_option linter.unusedSimpArgs false
set_option linter.unusedVariables false
namespace Go.Proofs.X
open Go.RowKit
set_option maxRecDepth 100000
/-- lodestarref08.right, in plain Lean -/
def lastR (o : List UInt8) (l : List RSet) (s : RSet) : Bool :=
  !(cutR o l s.name).2 || decide (s.kind = 1) || decide (s.kind = 28) || (decide (s.kind = 2) && decide (s.name = (cutR o l s.name).1))
def clash (s t : RSet) : Bool := decide (t.name = s.name) && decide (t.kind ≠ 5)
def rightR (o : List UInt8) (l : List RSet) (s : RSet) : Bool :=
  underN s.name o && !(decide (s.kind = 6) && (decide (s.name ≠ o) || decide (s.data.length ≠ 1))) && !(decide (s.kind = 5) && (decide (s.data.length ≠ 1) || l.any (clash s))) && lastR o l s
set_option maxHeartbeats 500000 in
/-- lodestarref08.right -/
theorem r8_right (o : List UInt8) (v : Value) (l : List RSet) (s : RSet) (u : Value) (w : World) (hv : SetsAt w v l) (hu : Sl 1 w u (tcells s.data)) : Calls Tryz.prog 74 #[.agg #[str o, v], .agg #[str s.name, .int .i64 s.kind, .int .i64 s.ttl, u]] w (RetV w (.bool (rightR o l s))) := by
  obtain ⟨cv, hv1, hvl⟩ := hv.sl
  have hle := hv1.le
  have hlen := tcells_length s.data
  go_enter Tryz.func74, Tryz.ntmps74
  repeat' ((fail_if_success (with_reducible refine o_s ?_)); go_step)
  refine wpl_box (vs := [str o, v]) rfl rfl ?_
  intro p w1 x1 hp
  refine gset ?_
  repeat' ((fail_if_success (with_reducible refine o_s ?_)); go_step)
  refine wpl_box (vs := [str s.name, .int .i64 s.kind, .int .i64 s.ttl, u]) rfl rfl ?_
  intro q w2 x2 hq
  refine gset ?_
  have hp2 := hp.ext x2
  have hx2 := x1.trans x2
  repeat' (first | ((with_reducible refine o_s ?_); (first | (refine o_1 ?_; refine o_2 ?_) | (refine o_g ?_; first | refine o_u ?_ | refine o_k ?_ | refine o_n ?_ | refine o_v ?_ | ((first | refine o_G ?_ ?_ | refine o_N ?_ ?_) <;> intro hc)))) | ((fail_if_success (with_reducible refine o_s ?_)); go_step))
  refine wpl_callV (enters_of Tryz.func44 rfl rfl) rfl rfl (r1_Under _ _ _) ?_; intro w3 x3; refine gset ?_
  have hp3 := hp2.ext x3
  have hq3 := hq.ext x3
  have hx3 := hx2.trans x3
  have hu3 := hu.ext hx3
  have hv3 := hv1.ext hx3
  have hs3 := hv.ext hx3
  cases hn : underN s.name o with
  | false =>
    repeat' (first | ((with_reducible refine o_s ?_); (first | (refine o_1 ?_; refine o_2 ?_) | (refine o_g ?_; first | refine o_u ?_ | refine o_k ?_ | refine o_n ?_ | refine o_v ?_ | ((first | refine o_G ?_ ?_ | refine o_N ?_ ?_) <;> intro hc)))) | ((fail_if_success (with_reducible refine o_s ?_)); go_step))
    go_ret
    exact ⟨by simp [rightR, hn], hx3⟩
  | true =>
    repeat' (first | ((with_reducible refine o_s ?_); (first | (refine o_1 ?_; refine o_2 ?_) | (refine o_g ?_; first | refine o_u ?_ | refine o_k ?_ | refine o_n ?_ | refine o_v ?_ | ((first | refine o_G ?_ ?_ | refine o_N ?_ ?_) <;> intro hc)))) | ((fail_if_success (with_reducible refine o_s ?_)); go_step))
    all_goals try (go_ret; exact ⟨by first | (simp_all [rightR]; done) | (simp_all [rightR]; intro h; omega), hx3⟩)
    · have hR : rightR o l s = lastR o l s := by
        have : decide (s.data.length ≠ 1) = false := by simp_all; omega
        simp_all [rightR]
      refine wpl_callV (enters_of Tryz.func76 rfl rfl) rfl rfl (r8_cut o v l s.name _ (hs3)) ?_; intro w4 x4; refine gset ?_
      generalize hcut : cutR o l s.name = g at *
      obtain ⟨c, is⟩ := g
      cases is with
      | false =>
        repeat' (first | ((with_reducible refine o_s ?_); (first | (refine o_1 ?_; refine o_2 ?_) | (refine o_g ?_; first | refine o_u ?_ | refine o_k ?_ | refine o_n ?_ | refine o_v ?_ | ((first | refine o_G ?_ ?_ | refine o_N ?_ ?_) <;> intro hc)))) | ((fail_if_success (with_reducible refine o_s ?_)); go_step))
        go_ret
        exact ⟨by rw [hR]; simp [lastR, hcut], (hx3).trans x4⟩
      | true =>
        have hq4 := (hq3).ext x4
        repeat' (first | ((with_reducible refine o_s ?_); (first | (refine o_1 ?_; refine o_2 ?_) | (refine o_g ?_; first | refine o_u ?_ | refine o_k ?_ | refine o_n ?_ | refine o_v ?_ | ((first | refine o_G ?_ ?_ | refine o_N ?_ ?_) <;> intro hc)))) | ((fail_if_success (with_reducible refine o_s ?_)); go_step))
        all_goals (go_ret; exact ⟨by rw [hR]; simp_all [lastR], hx3.trans x4⟩)
    · have h5 : s.kind = 5 := by assumption
      have hd1 : decide (s.data.length ≠ 1) = false := by simp_all; omega
      go_loopw [5] (fun i wr => ∃ k : Nat, k ≤ l.length ∧ i = .int .i64 k ∧ Ext w3 wr ∧ (l.take k).any (clash s) = false) (fun i _ => l.length - (intOf i).toNat)
      case atStart => exact ⟨0, Nat.zero_le _, rfl, Ext.refl _, rfl⟩
      case round =>
        obtain ⟨k, hk, rfl, hx, hall⟩ := hrel
        have hxw : Ext w wr := hx3.trans hx
        have hv4 := hv1.ext hxw
        have hp4 := hp3.ext hx
        have hq4 := hq3.ext hx
        by_cases hlt : k < l.length
        · obtain ⟨x, h4, h4d⟩ := (hv.ext hxw).elem (List.getElem?_eq_getElem hlt)
          repeat' (first | ((with_reducible refine o_s ?_); (first | (refine o_1 ?_; refine o_2 ?_) | (refine o_g ?_; first | refine o_u ?_ | refine o_k ?_ | refine o_n ?_ | refine o_v ?_ | ((first | refine o_G ?_ ?_ | refine o_N ?_ ?_) <;> intro hc)))) | ((fail_if_success (with_reducible refine o_s ?_)); go_step))
          refine wpq_region (by decide +kernel) (by decide +kernel) ?_
          repeat' (first | ((with_reducible refine q_s ?_); (first | (refine q_1 ?_; refine q_2 ?_) | (refine q_g ?_; first | refine q_u ?_ | refine q_k ?_ | refine q_v ?_))) | (with_reducible refine q_n ?_))
          by_cases q1 : l[k].name = s.name
          · rw [decide_eq_true q1]
            repeat' (first | ((with_reducible refine q_s ?_); (first | (refine q_1 ?_; refine q_2 ?_) | (refine q_g ?_; first | refine q_u ?_ | refine q_k ?_ | refine q_v ?_))) | (with_reducible refine q_n ?_))
            by_cases q2 : l[k].kind = 5
            · rw [decide_eq_true q2]
              repeat' (first | ((with_reducible refine q_s ?_); (first | (refine q_1 ?_; refine q_2 ?_) | (refine q_g ?_; first | refine q_u ?_ | refine q_k ?_ | refine q_v ?_))) | (with_reducible refine q_n ?_))
              intro w5 x5
              repeat' (first | ((with_reducible refine o_s ?_); (first | (refine o_1 ?_; refine o_2 ?_) | (refine o_g ?_; first | refine o_u ?_ | refine o_k ?_ | refine o_n ?_ | refine o_v ?_ | ((first | refine o_G ?_ ?_ | refine o_N ?_ ?_) <;> intro hc)))) | ((fail_if_success (with_reducible refine o_s ?_)); go_step))
              exact ⟨⟨k + 1, by omega, by go_num, hx.trans x5, any_take hlt hall (by simp [clash, q2])⟩, by simp [intOf]; omega⟩
            · rw [decide_eq_false q2]
              repeat' (first | ((with_reducible refine q_s ?_); (first | (refine q_1 ?_; refine q_2 ?_) | (refine q_g ?_; first | refine q_u ?_ | refine q_k ?_ | refine q_v ?_))) | (with_reducible refine q_n ?_))
              intro w5 x5
              repeat' (first | ((with_reducible refine o_s ?_); (first | (refine o_1 ?_; refine o_2 ?_) | (refine o_g ?_; first | refine o_u ?_ | refine o_k ?_ | refine o_n ?_ | refine o_v ?_ | ((first | refine o_G ?_ ?_ | refine o_N ?_ ?_) <;> intro hc)))) | ((fail_if_success (with_reducible refine o_s ?_)); go_step))
              have hcl : l.any (clash s) = true := any_at hlt (by simp [clash, q1, q2])
              go_ret
              exact ⟨by rw [show rightR o l s = false by simp [rightR, hcl, h5]]; rfl, hxw.trans x5⟩
          · rw [decide_eq_false q1]
            repeat' (first | ((with_reducible refine q_s ?_); (first | (refine q_1 ?_; refine q_2 ?_) | (refine q_g ?_; first | refine q_u ?_ | refine q_k ?_ | refine q_v ?_))) | (with_reducible refine q_n ?_))
            intro w5 x5
            repeat' (first | ((with_reducible refine o_s ?_); (first | (refine o_1 ?_; refine o_2 ?_) | (refine o_g ?_; first | refine o_u ?_ | refine o_k ?_ | refine o_n ?_ | refine o_v ?_ | ((first | refine o_G ?_ ?_ | refine o_N ?_ ?_) <;> intro hc)))) | ((fail_if_success (with_reducible refine o_s ?_)); go_step))
            exact ⟨⟨k + 1, by omega, by go_num, hx.trans x5, any_take hlt hall (by simp [clash, q1])⟩, by simp [intOf]; omega⟩
        · have : k = l.length := by omega
          subst this
          rw [List.take_length] at hall
          have hR : rightR o l s = lastR o l s := by simp_all [rightR]
          repeat' (first | ((with_reducible refine o_s ?_); (first | (refine o_1 ?_; refine o_2 ?_) | (refine o_g ?_; first | refine o_u ?_ | refine o_k ?_ | refine o_n ?_ | refine o_v ?_ | ((first | refine o_G ?_ ?_ | refine o_N ?_ ?_) <;> intro hc)))) | ((fail_if_success (with_reducible refine o_s ?_)); go_step))
          refine wpl_callV (enters_of Tryz.func76 rfl rfl) rfl rfl (r8_cut o v l s.name _ (hs3.ext hx)) ?_; intro w5 x5; refine gset ?_
          generalize hcut : cutR o l s.name = g at *
          obtain ⟨c, is⟩ := g
          cases is with
          | false =>
            repeat' (first | ((with_reducible refine o_s ?_); (first | (refine o_1 ?_; refine o_2 ?_) | (refine o_g ?_; first | refine o_u ?_ | refine o_k ?_ | refine o_n ?_ | refine o_v ?_ | ((first | refine o_G ?_ ?_ | refine o_N ?_ ?_) <;> intro hc)))) | ((fail_if_success (with_reducible refine o_s ?_)); go_step))
            go_ret
            exact ⟨by rw [hR]; simp [lastR, hcut], hxw.trans x5⟩
          | true =>
            have hq5 := hq4.ext x5
            repeat' (first | ((with_reducible refine o_s ?_); (first | (refine o_1 ?_; refine o_2 ?_) | (refine o_g ?_; first | refine o_u ?_ | refine o_k ?_ | refine o_n ?_ | refine o_v ?_ | ((first | refine o_G ?_ ?_ | refine o_N ?_ ?_) <;> intro hc)))) | ((fail_if_success (with_reducible refine o_s ?_)); go_step))
            all_goals (go_ret; exact ⟨by rw [hR]; simp_all [lastR], hxw.trans x5⟩)
    · have hR : rightR o l s = lastR o l s := by simp_all [rightR]
      refine wpl_callV (enters_of Tryz.func76 rfl rfl) rfl rfl (r8_cut o v l s.name _ (hs3)) ?_; intro w4 x4; refine gset ?_
      generalize hcut : cutR o l s.name = g at *
      obtain ⟨c, is⟩ := g
      cases is with
      | false =>
        repeat' (first | ((with_reducible refine o_s ?_); (first | (refine o_1 ?_; refine o_2 ?_) | (refine o_g ?_; first | refine o_u ?_ | refine o_k ?_ | refine o_n ?_ | refine o_v ?_ | ((first | refine o_G ?_ ?_ | refine o_N ?_ ?_) <;> intro hc)))) | ((fail_if_success (with_reducible refine o_s ?_)); go_step))
        go_ret
        exact ⟨by rw [hR]; simp [lastR, hcut], (hx3).trans x4⟩
      | true =>
        have hq4 := (hq3).ext x4
        repeat' (first | ((with_reducible refine o_s ?_); (first | (refine o_1 ?_; refine o_2 ?_) | (refine o_g ?_; first | refine o_u ?_ | refine o_k ?_ | refine o_n ?_ | refine o_v ?_ | ((first | refine o_G ?_ ?_ | refine o_N ?_ ?_) <;> intro hc)))) | ((fail_if_success (with_reducible refine o_s ?_)); go_step))
        all_goals (go_ret; exact ⟨by rw [hR]; simp_all [lastR], hx3.trans x4⟩)

end Go.Proofs.X
set_option linter.unusedSimpArgs false
set_option linter.unusedVariables false
namespace Go.Proofs.X
open Go.RowKit
set_option maxRecDepth 100000
def checkE (o : List UInt8) : Int := if (labels o).isSome then 0 else 1
/-- lodestarref08.Check, in plain Lean -/
def zoneR (o : List UInt8) (l : List RSet) : Int :=
  if checkE o ≠ 0 ∨ fold o ≠ o ∨ checkS l ≠ 0 then 1 else
  if (findS l o 6).isSome = false ∨ (findS l o 2).isSome = false then 2 else
  if l.any (fun s => !rightR o l s) = true then 2 else 0
set_option maxHeartbeats 500000 in
/-- lodestarref08.Check -/
theorem r8_Check (o : List UInt8) (v : Value) (l : List RSet) (w : World) (hv : SetsAt w v l) (hb : ∀ s ∈ l, s.data.length ≤ 1000000) (hd : ∀ s ∈ l, ∀ d ∈ s.data, d.length ≤ 4611686018427387904) : Calls Tryz.prog 37 #[.agg #[str o, v]] w (RetV w (.int .i64 (zoneR o l))) := by
  obtain ⟨cv, hv1, hvl⟩ := hv.sl
  have hle := hv1.le
  go_enter Tryz.func37, Tryz.ntmps37
  repeat' ((fail_if_success (with_reducible refine o_s ?_)); go_step)
  refine wpl_box (vs := [str o, v]) rfl rfl ?_
  intro p w1 x1 hp
  refine gset ?_
  repeat' (first | ((with_reducible refine o_s ?_); (first | (refine o_1 ?_; refine o_2 ?_) | (refine o_g ?_; first | refine o_u ?_ | refine o_k ?_ | refine o_n ?_ | refine o_v ?_ | ((first | refine o_G ?_ ?_ | refine o_N ?_ ?_) <;> intro hc)))) | ((fail_if_success (with_reducible refine o_s ?_)); go_step))
  have c1 : ∀ w', Calls Tryz.prog 72 #[str o] w' (RetV w' (.int .i64 (checkE o))) := fun w' => r1_Check o w'
  have hv2 := hv.ext x1
  have c3 : ∀ w', Ext w1 w' → Calls Tryz.prog 25 #[v] w' (RetV w' (.int .i64 (checkS l))) := fun w' x' => r7_Check v l w' (hv2.ext x') hd
  refine wpq_region (by decide +kernel) (by decide +kernel) ?_
  repeat' (first | ((with_reducible refine q_s ?_); (first | (refine q_1 ?_; refine q_2 ?_) | (refine q_g ?_; first | refine q_u ?_ | refine q_k ?_ | refine q_v ?_))) | (with_reducible refine q_n ?_))
  refine wpq_call (enters_of Tryz.func72 rfl rfl) rfl rfl (fun w' _ => c1 w') ?_
  refine gset ?_
  repeat' (first | ((with_reducible refine q_s ?_); (first | (refine q_1 ?_; refine q_2 ?_) | (refine q_g ?_; first | refine q_u ?_ | refine q_k ?_ | refine q_v ?_))) | (with_reducible refine q_n ?_))
  by_cases q1 : checkE o = 0
  · rw [decide_eq_true q1]
    simp only [Bool.not_true]
    repeat' (first | ((with_reducible refine q_s ?_); (first | (refine q_1 ?_; refine q_2 ?_) | (refine q_g ?_; first | refine q_u ?_ | refine q_k ?_ | refine q_v ?_))) | (with_reducible refine q_n ?_))
    refine wpq_call (enters_of Tryz.func54 rfl rfl) rfl rfl (fun w' _ => r1_Fold o w') ?_
    refine gset ?_
    repeat' (first | ((with_reducible refine q_s ?_); (first | (refine q_1 ?_; refine q_2 ?_) | (refine q_g ?_; first | refine q_u ?_ | refine q_k ?_ | refine q_v ?_))) | (with_reducible refine q_n ?_))
    by_cases q2 : fold o = o
    · rw [decide_eq_true q2]
      simp only [Bool.not_true]
      repeat' (first | ((with_reducible refine q_s ?_); (first | (refine q_1 ?_; refine q_2 ?_) | (refine q_g ?_; first | refine q_u ?_ | refine q_k ?_ | refine q_v ?_))) | (with_reducible refine q_n ?_))
      refine wpq_call (enters_of Tryz.func25 rfl rfl) rfl rfl (fun w' x' => c3 w' x') ?_
      refine gset ?_
      repeat' (first | ((with_reducible refine q_s ?_); (first | (refine q_1 ?_; refine q_2 ?_) | (refine q_g ?_; first | refine q_u ?_ | refine q_k ?_ | refine q_v ?_))) | (with_reducible refine q_n ?_))
      intro w2 x2
      by_cases q3 : checkS l = 0
      · rw [decide_eq_true q3]
        simp only [Bool.not_true]
        repeat' (first | ((with_reducible refine o_s ?_); (first | (refine o_1 ?_; refine o_2 ?_) | (refine o_g ?_; first | refine o_u ?_ | refine o_k ?_ | refine o_n ?_ | refine o_v ?_ | ((first | refine o_G ?_ ?_ | refine o_N ?_ ?_) <;> intro hc)))) | ((fail_if_success (with_reducible refine o_s ?_)); go_step))
        have hx2 := x1.trans x2
        have hp2 := hp.ext x2
        have hs2 := hv.ext hx2
        refine wpl_callV (enters_of Tryz.func73 rfl rfl) rfl rfl (r8_Has o v l o 6 _ hs2 hb) ?_; intro w3 x3; refine gset ?_
        have hx3 := hx2.trans x3
        have hp3 := hp2.ext x3
        have hs3 := hs2.ext x3
        cases f6 : (findS l o 6).isSome with
        | false =>
          repeat' (first | ((with_reducible refine o_s ?_); (first | (refine o_1 ?_; refine o_2 ?_) | (refine o_g ?_; first | refine o_u ?_ | refine o_k ?_ | refine o_n ?_ | refine o_v ?_ | ((first | refine o_G ?_ ?_ | refine o_N ?_ ?_) <;> intro hc)))) | ((fail_if_success (with_reducible refine o_s ?_)); go_step))
          go_ret
          exact ⟨by rw [show zoneR o l = 2 by simp [zoneR, q1, q2, q3, f6]]; rfl, hx3⟩
        | true =>
          repeat' (first | ((with_reducible refine o_s ?_); (first | (refine o_1 ?_; refine o_2 ?_) | (refine o_g ?_; first | refine o_u ?_ | refine o_k ?_ | refine o_n ?_ | refine o_v ?_ | ((first | refine o_G ?_ ?_ | refine o_N ?_ ?_) <;> intro hc)))) | ((fail_if_success (with_reducible refine o_s ?_)); go_step))
          refine wpl_callV (enters_of Tryz.func73 rfl rfl) rfl rfl (r8_Has o v l o 2 _ hs3 hb) ?_; intro w4 x4; refine gset ?_
          have hx4 := hx3.trans x4
          have hp4 := hp3.ext x4
          have hs4 := hs3.ext x4
          cases f2 : (findS l o 2).isSome with
          | false =>
            repeat' (first | ((with_reducible refine o_s ?_); (first | (refine o_1 ?_; refine o_2 ?_) | (refine o_g ?_; first | refine o_u ?_ | refine o_k ?_ | refine o_n ?_ | refine o_v ?_ | ((first | refine o_G ?_ ?_ | refine o_N ?_ ?_) <;> intro hc)))) | ((fail_if_success (with_reducible refine o_s ?_)); go_step))
            go_ret
            exact ⟨by rw [show zoneR o l = 2 by simp [zoneR, q1, q2, q3, f6, f2]]; rfl, hx4⟩
          | true =>
            repeat' (first | ((with_reducible refine o_s ?_); (first | (refine o_1 ?_; refine o_2 ?_) | (refine o_g ?_; first | refine o_u ?_ | refine o_k ?_ | refine o_n ?_ | refine o_v ?_ | ((first | refine o_G ?_ ?_ | refine o_N ?_ ?_) <;> intro hc)))) | ((fail_if_success (with_reducible refine o_s ?_)); go_step))
            go_loopw [3] (fun i wr => ∃ k : Nat, k ≤ l.length ∧ i = .int .i64 k ∧ Ext w4 wr ∧ (l.take k).any (fun s => !rightR o l s) = false) (fun i _ => l.length - (intOf i).toNat)
            case atStart => exact ⟨0, Nat.zero_le _, rfl, Ext.refl _, rfl⟩
            case round =>
              obtain ⟨k, hk, rfl, hx, hall⟩ := hrel
              have hxw : Ext w wr := hx4.trans hx
              have hv5 := hv1.ext hxw
              have hp5 := hp4.ext hx
              have hs5 := hv.ext hxw
              by_cases hlt : k < l.length
              · obtain ⟨x, h5, h5d⟩ := hs5.elem (List.getElem?_eq_getElem hlt)
                have c5 : ∀ w', Ext wr w' → Calls Tryz.prog 74 #[.agg #[str o, v], .agg #[str l[k].name, .int .i64 l[k].kind, .int .i64 l[k].ttl, x]] w' (RetV w' (.bool (rightR o l l[k]))) := fun w' x' => r8_right o v l l[k] x w' (hs5.ext x') (h5d.ext x')
                repeat' (first | ((with_reducible refine o_s ?_); (first | (refine o_1 ?_; refine o_2 ?_) | (refine o_g ?_; first | refine o_u ?_ | refine o_k ?_ | refine o_n ?_ | refine o_v ?_ | ((first | refine o_G ?_ ?_ | refine o_N ?_ ?_) <;> intro hc)))) | ((fail_if_success (with_reducible refine o_s ?_)); go_step))
                refine wpq_region (by decide +kernel) (by decide +kernel) ?_
                repeat' (first | ((with_reducible refine q_s ?_); (first | (refine q_1 ?_; refine q_2 ?_) | (refine q_g ?_; first | refine q_u ?_ | refine q_k ?_ | refine q_v ?_))) | (with_reducible refine q_n ?_))
                refine wpq_call (enters_of Tryz.func74 rfl rfl) rfl rfl (fun w' x' => c5 w' x') ?_
                refine gset ?_
                repeat' (first | ((with_reducible refine q_s ?_); (first | (refine q_1 ?_; refine q_2 ?_) | (refine q_g ?_; first | refine q_u ?_ | refine q_k ?_ | refine q_v ?_))) | (with_reducible refine q_n ?_))
                intro w6 x6
                cases hr : rightR o l l[k] with
                | false =>
                  repeat' (first | ((with_reducible refine o_s ?_); (first | (refine o_1 ?_; refine o_2 ?_) | (refine o_g ?_; first | refine o_u ?_ | refine o_k ?_ | refine o_n ?_ | refine o_v ?_ | ((first | refine o_G ?_ ?_ | refine o_N ?_ ?_) <;> intro hc)))) | ((fail_if_success (with_reducible refine o_s ?_)); go_step))
                  go_ret
                  exact ⟨by rw [show zoneR o l = 2 by simp only [zoneR, q1, q2, q3, f6, f2]; rw [any_at (p := fun s => !rightR o l s) hlt (by simp [hr])]; simp]; rfl, hxw.trans x6⟩
                | true =>
                  repeat' (first | ((with_reducible refine o_s ?_); (first | (refine o_1 ?_; refine o_2 ?_) | (refine o_g ?_; first | refine o_u ?_ | refine o_k ?_ | refine o_n ?_ | refine o_v ?_ | ((first | refine o_G ?_ ?_ | refine o_N ?_ ?_) <;> intro hc)))) | ((fail_if_success (with_reducible refine o_s ?_)); go_step))
                  exact ⟨⟨k + 1, by omega, by go_num, hx.trans x6, any_take hlt hall (by simp [hr])⟩, by simp [intOf]; omega⟩
              · have : k = l.length := by omega
                subst this
                rw [List.take_length] at hall
                repeat' (first | ((with_reducible refine o_s ?_); (first | (refine o_1 ?_; refine o_2 ?_) | (refine o_g ?_; first | refine o_u ?_ | refine o_k ?_ | refine o_n ?_ | refine o_v ?_ | ((first | refine o_G ?_ ?_ | refine o_N ?_ ?_) <;> intro hc)))) | ((fail_if_success (with_reducible refine o_s ?_)); go_step))
                go_ret
                exact ⟨by rw [show zoneR o l = 0 by simp only [zoneR, q1, q2, q3, f6, f2]; rw [hall]; simp]; rfl, hxw⟩
      · rw [decide_eq_false q3]
        simp only [Bool.not_false]
        repeat' (first | ((with_reducible refine o_s ?_); (first | (refine o_1 ?_; refine o_2 ?_) | (refine o_g ?_; first | refine o_u ?_ | refine o_k ?_ | refine o_n ?_ | refine o_v ?_ | ((first | refine o_G ?_ ?_ | refine o_N ?_ ?_) <;> intro hc)))) | ((fail_if_success (with_reducible refine o_s ?_)); go_step))
        go_ret
        exact ⟨by rw [show zoneR o l = 1 by simp [zoneR, q3]]; rfl, x1.trans x2⟩
    · rw [decide_eq_false q2]
      simp only [Bool.not_false]
      repeat' (first | ((with_reducible refine q_s ?_); (first | (refine q_1 ?_; refine q_2 ?_) | (refine q_g ?_; first | refine q_u ?_ | refine q_k ?_ | refine q_v ?_))) | (with_reducible refine q_n ?_))
      intro w2 x2
      repeat' (first | ((with_reducible refine o_s ?_); (first | (refine o_1 ?_; refine o_2 ?_) | (refine o_g ?_; first | refine o_u ?_ | refine o_k ?_ | refine o_n ?_ | refine o_v ?_ | ((first | refine o_G ?_ ?_ | refine o_N ?_ ?_) <;> intro hc)))) | ((fail_if_success (with_reducible refine o_s ?_)); go_step))
      go_ret
      exact ⟨by rw [show zoneR o l = 1 by simp [zoneR, q2]]; rfl, x1.trans x2⟩
  · rw [decide_eq_false q1]
    simp only [Bool.not_false]
    repeat' (first | ((with_reducible refine q_s ?_); (first | (refine q_1 ?_; refine q_2 ?_) | (refine q_g ?_; first | refine q_u ?_ | refine q_k ?_ | refine q_v ?_))) | (with_reducible refine q_n ?_))
    intro w2 x2
    repeat' (first | ((with_reducible refine o_s ?_); (first | (refine o_1 ?_; refine o_2 ?_) | (refine o_g ?_; first | refine o_u ?_ | refine o_k ?_ | refine o_n ?_ | refine o_v ?_ | ((first | refine o_G ?_ ?_ | refine o_N ?_ ?_) <;> intro hc)))) | ((fail_if_success (with_reducible refine o_s ?_)); go_step))
    go_ret
    exact ⟨by rw [show zoneR o l = 1 by simp [zoneR, q1]]; rfl, x1.trans x2⟩

end Go.Proofs.X
set_option linter.unusedSimpArgs false
set_option linter.unusedVariables false
namespace Go.Proofs.X
open Go.RowKit
set_option maxRecDepth 100000
/-! ### lodestarlaw07.live -/
def liveL : List Rec := [⟨[1, 65], 1, 7, [50, 50, 50, 50]⟩, ⟨[1, 97], 1, 5, [49, 49, 49, 49]⟩, ⟨[], 16, 0, [0]⟩]
def liveA : RSet := ⟨[1, 97], 1, 5, [[49, 49, 49, 49], [50, 50, 50, 50]]⟩
def liveR : RSet := ⟨[], 16, 0, [[0]]⟩
theorem live_gather : gather liveL = [⟨[1, 97], 1, 5, [[50, 50, 50, 50], [49, 49, 49, 49]]⟩, liveR] := by decide +kernel
theorem live_groups : groups liveL = [liveA, liveR] := by
  rw [groups, live_gather]
  simp only [List.map_cons, List.map_nil]
  have h1 : norm ⟨[1, 97], 1, 5, [[50, 50, 50, 50], [49, 49, 49, 49]]⟩ = liveA := by
    unfold norm liveA
    simp only [RSet.mk.injEq, true_and]
    have : List.mergeSort [[50, 50, 50, 50], [49, 49, 49, 49]] (fun x y : List UInt8 => decide (x ≤ y)) = [[49, 49, 49, 49], [50, 50, 50, 50]] := by
      simp [List.mergeSort, List.MergeSort.Internal.splitInTwo, List.merge]
      decide +kernel
    rw [this]
    decide +kernel
  have h2 : norm liveR = liveR := by
    unfold norm liveR
    simp [List.mergeSort]
    decide +kernel
  rw [h1, h2]
theorem live_E : groupE liveL = 0 := by
  have h1 : liveL.all okR = true := by decide +kernel
  rw [groupE, live_groups, if_neg (by rw [h1]; simp), if_neg (by decide +kernel), if_neg (by decide +kernel)]
theorem perm_two {α : Type} {a b : α} {l : List α} (h : l.Perm [a, b]) : l = [a, b] ∨ l = [b, a] := by
  have hl := h.length_eq
  match l, hl with
  | [x, y], _ =>
    have hx : x ∈ [a, b] := h.mem_iff.1 (by simp)
    simp only [List.mem_cons, List.not_mem_nil, or_false] at hx
    rcases hx with rfl | rfl
    · have := (List.perm_cons x).1 h
      have hy := List.perm_singleton.1 this
      simp only [List.cons.injEq, and_true] at hy
      left; rw [hy]
    · have h2 : [x, y].Perm [x, a] := h.trans (List.Perm.swap _ _ _)
      have := (List.perm_cons x).1 h2
      have hy := List.perm_singleton.1 this
      simp only [List.cons.injEq, and_true] at hy
      right; rw [hy]
theorem live_out {out : List RSet} (h : out.Perm (groups liveL)) (hs : Sorted out) : out = [liveR, liveA] := by
  rw [live_groups] at h
  rcases perm_two h with rfl | rfl
  · exfalso
    have := hs 0 1 liveA liveR (by omega) rfl rfl
    revert this
    decide +kernel
  · rfl
theorem live_check : checkS [liveR, liveA] = 0 := by decide +kernel
theorem live_check0 : checkS [⟨[], 0, 0, []⟩] = 1 := by decide +kernel
theorem live_find : findS [liveR, liveA] [1, 65] 1 = some liveA := by decide +kernel
theorem live_E0 : groupE [⟨[], 0, 0, []⟩] = 1 := by decide +kernel
theorem live_recs : (recordsS [liveR, liveA]).length = 3 := by decide +kernel

end Go.Proofs.X
set_option linter.unusedSimpArgs false
set_option linter.unusedVariables false
namespace Go.Proofs.X
open Go.RowKit
set_option maxRecDepth 100000
def Yes (w : World) (e : Ending) (w' : World) : Prop := e = .returned (.bool true) ∧ Ext w w'
set_option maxHeartbeats 4000000 in
theorem t8 (w : World) : Calls Tryz.prog 13 #[] w (Yes w) := by
  go_enter Tryz.func13, Tryz.ntmps13
  repeat' ((fail_if_success (with_reducible refine o_s ?_)); go_step)
  repeat' (first | ((with_reducible refine o_s ?_); (first | (refine o_1 ?_; refine o_2 ?_) | (refine o_g ?_; first | refine o_u ?_ | refine o_k ?_ | refine o_n ?_ | refine o_v ?_ | ((first | refine o_G ?_ ?_ | refine o_N ?_ ?_) <;> intro hc)))) | ((fail_if_success (with_reducible refine o_s ?_)); go_step))
  refine wpl_run (v := .agg #[str [1, 65], .int .i64 1, .int .i64 7, str [50, 50, 50, 50]]) rfl (Runs.build rfl (by kernel_rfl)) ?_
  refine gset ?_
  refine wpl_run (v := .agg #[str [1, 97], .int .i64 1, .int .i64 5, str [49, 49, 49, 49]]) rfl (Runs.build rfl (by kernel_rfl)) ?_
  refine gset ?_
  refine wpl_run (v := .agg #[str [], .int .i64 16, .int .i64 0, str [0]]) rfl (Runs.build rfl (by kernel_rfl)) ?_
  refine gset ?_
  refine wpl_slice (e := 66) (k := 4) (bytes := 48) (xs := liveL.map fun r => .agg r.cells.toArray) rfl rfl rfl (by intro x hx; obtain ⟨r, _, rfl⟩ := List.mem_map.1 hx; rfl) (by decide +kernel) (by decide +kernel) ?_
  intro v1 w1 x1 s1 sl1 _
  have sl1' : Sl 4 w1 v1 (rcells liveL) := by simpa [rcells, Value.cells, List.map_map, Function.comp_def] using sl1
  refine gset ?_
  refine wpl_callR (enters_of Tryz.func14 rfl rfl) rfl rfl (t9 v1 liveL _ sl1' (by decide +kernel)) ?_
  intro r2 w2 x2 hr2
  unfold GroupR at hr2
  rw [live_E, if_pos rfl] at hr2
  obtain ⟨out, v2, rfl, hperm, hsort, hs2⟩ := hr2
  obtain rfl := live_out hperm hsort
  clear hperm hsort sl1 s1
  refine gset ?_
  repeat' (first | ((with_reducible refine o_s ?_); (first | (refine o_1 ?_; refine o_2 ?_) | (refine o_g ?_; first | refine o_u ?_ | refine o_k ?_ | refine o_n ?_ | refine o_v ?_ | ((first | refine o_G ?_ ?_ | refine o_N ?_ ?_) <;> intro hc)))) | ((fail_if_success (with_reducible refine o_s ?_)); go_step))
  refine wpl_run (v := .agg #[str [], .int .i64 0, .int .i64 0, str []]) rfl (Runs.build0 (by kernel_rfl)) ?_
  refine gset ?_
  refine wpl_slice (e := 66) (k := 4) (bytes := 48) (xs := [.agg #[str [], .int .i64 0, .int .i64 0, str []]]) rfl rfl rfl (by simp [Value.cells]) (by decide +kernel) (by decide +kernel) ?_
  intro v3 w3 x3 s3 sl3 _
  have sl3' : Sl 4 w3 v3 (rcells [⟨[], 0, 0, []⟩]) := by simpa [rcells, Value.cells, Rec.cells] using sl3
  refine gset ?_
  refine wpl_callR (enters_of Tryz.func14 rfl rfl) rfl rfl (t9 v3 [⟨[], 0, 0, []⟩] _ sl3' (by decide +kernel)) ?_
  intro r4 w4 x4 hr4
  unfold GroupR at hr4
  rw [live_E0, if_neg (by omega)] at hr4
  subst hr4
  clear sl3 s3
  refine gset ?_
  repeat' (first | ((with_reducible refine o_s ?_); (first | (refine o_1 ?_; refine o_2 ?_) | (refine o_g ?_; first | refine o_u ?_ | refine o_k ?_ | refine o_n ?_ | refine o_v ?_ | ((first | refine o_G ?_ ?_ | refine o_N ?_ ?_) <;> intro hc)))) | ((fail_if_success (with_reducible refine o_s ?_)); go_step))
  have hs4 := hs2.ext (x3.trans x4)
  obtain ⟨c2, hc2, hc2l⟩ := hs4.sl
  have hl2 : c2.length = 2 := hc2l
  repeat' (first | ((with_reducible refine o_s ?_); (first | (refine o_1 ?_; refine o_2 ?_) | (refine o_g ?_; first | refine o_u ?_ | refine o_k ?_ | refine o_n ?_ | refine o_v ?_ | ((first | refine o_G ?_ ?_ | refine o_N ?_ ?_) <;> intro hc)))) | ((fail_if_success (with_reducible refine o_s ?_)); go_step))
  rotate_left
  all_goals first
    | (exfalso; rename_i hbad; simp at hbad; done)
    | (exfalso; rename_i hbad; simp at hbad; omega)
    | (exfalso; simp_all; done)
    | skip
  refine wpl_callR (enters_of Tryz.func19 rfl rfl) rfl rfl (t13 v2 [liveR, liveA] [1, 65] 1 _ hs4 (by simp [liveR, liveA])) ?_
  intro r5 w5 x5 hr5
  rw [live_find] at hr5
  obtain ⟨x, rfl, ox⟩ := hr5
  refine gset ?_
  repeat' (first | ((with_reducible refine o_s ?_); (first | (refine o_1 ?_; refine o_2 ?_) | (refine o_g ?_; first | refine o_u ?_ | refine o_k ?_ | refine o_n ?_ | refine o_v ?_ | ((first | refine o_G ?_ ?_ | refine o_N ?_ ?_) <;> intro hc)))) | ((fail_if_success (with_reducible refine o_s ?_)); go_step))
  refine wpl_allocB (z := zset) rfl (by decide +kernel) ?_
  intro w6 x6 s6 h6
  repeat' (first | ((with_reducible refine o_s ?_); (first | (refine o_1 ?_; refine o_2 ?_) | (refine o_g ?_; first | refine o_u ?_ | refine o_k ?_ | refine o_n ?_ | refine o_v ?_ | ((first | refine o_G ?_ ?_ | refine o_N ?_ ?_) <;> intro hc)))) | ((fail_if_success (with_reducible refine o_s ?_)); go_step))
  refine wpl_storeB (v := .agg #[str liveA.name, .int .i64 liveA.kind, .int .i64 liveA.ttl, x]) rfl rfl rfl h6 (show sizeTy Tryz.prog 35 4 = true by decide +kernel) rfl (all4 rfl rfl rfl ox.one) ?_
  intro w7 p7
  have x57 : Ext w5 w7 := x6.move p7.mv (by rintro k ⟨⟩; exact Nat.le_refl _)
  have hp7 := pts_block (cs := [str [1, 97], .int .i64 1, .int .i64 5, x]) p7.this
  have ox7 := (ox.sl.ext x57)
  have hs7 := hs4.ext (x5.trans x57)
  clear p7 h6 x6
  repeat' (first | ((with_reducible refine o_s ?_); (first | (refine o_1 ?_; refine o_2 ?_) | (refine o_g ?_; first | refine o_u ?_ | refine o_k ?_ | refine o_n ?_ | refine o_v ?_ | ((first | refine o_G ?_ ?_ | refine o_N ?_ ?_) <;> intro hc)))) | ((fail_if_success (with_reducible refine o_s ?_)); go_step))
  refine wpl_callR (enters_of Tryz.func22 rfl rfl) rfl rfl (t10 v2 [liveR, liveA] _ hs7 (by rw [live_recs]; omega)) ?_
  intro r8 w8 x8 o8
  have or8 := o8.sl
  have hl8 : (rcells (recordsS [liveR, liveA])).length = 3 := by rw [rcells_length, live_recs]
  refine gset ?_
  repeat' (first | ((with_reducible refine o_s ?_); (first | (refine o_1 ?_; refine o_2 ?_) | (refine o_g ?_; first | refine o_u ?_ | refine o_k ?_ | refine o_n ?_ | refine o_v ?_ | ((first | refine o_G ?_ ?_ | refine o_N ?_ ?_) <;> intro hc)))) | ((fail_if_success (with_reducible refine o_s ?_)); go_step))
  have hs8 := hs7.ext x8
  obtain ⟨y, hy, hyd⟩ := hs8.elem (i := 1) (s := liveA) rfl
  have hy' : Pts w8 (elemPtr v2 (1 * 4)) [str [1, 97], .int .i64 1, .int .i64 5, y] := hy
  have hyd' : Sl 1 w8 y (tcells liveA.data) := hyd
  have hy0 := hyd.elem (i := 0) (e := [str [49, 49, 49, 49]]) rfl
  have hc8 := hc2.ext ((x5.trans x57).trans x8)
  have hox8 := ox7.ext x8
  have hp8 := hp7.ext x8
  have hlen2 : (tcells liveA.data).length = 2 := rfl
  have e2 : (((tcells liveA.data).length : Nat) : Int) = 2 := by rw [hlen2]; rfl
  have e3 : (((rcells (recordsS [liveR, liveA])).length : Nat) : Int) = 3 := by rw [hl8]; rfl
  refine wph_region (S := Ext w8) (by decide +kernel) ?_
  intro w9 x9 _
  refine tk 0 ?_; refine gset ?_; refine tk 1 ?_; refine gset ?_; refine tk 2 ?_; refine gset ?_; refine tk 3 ?_; refine gset ?_; refine tk 4 ?_; refine gset ?_; refine tk 5 ?_; refine gset ?_; refine tk 6 ?_; refine gset ?_; refine tk 7 ?_; refine gset ?_; refine tk 8 ?_; refine gset ?_; refine tk 9 ?_; refine gset ?_; refine tk 10 ?_; refine gset ?_; refine tk 11 ?_; refine gset ?_
  simp only [e2, decide_true]
  refine tk 12 ?_; refine gset ?_; refine tk 13 ?_; refine gset ?_; refine tk 14 ?_; refine gset ?_; refine tk 15 ?_; refine gset ?_; refine tk 16 ?_; refine gset ?_; refine tk 17 ?_; refine gset ?_; refine tk 18 ?_; refine gset ?_; refine tk 19 ?_; refine gset ?_; refine tk 20 ?_; refine gset ?_; refine tk 21 ?_; refine gset ?_; refine tk 22 ?_; refine gset ?_; refine tk 23 ?_; refine gset ?_
  refine wph_one (i := 24) (by decide +kernel) rfl rfl ?_
  refine wpl_callV (enters_of Tryz.func24 rfl rfl) rfl rfl (t12 v2 [liveR, liveA] _ (hs8.ext x9)) ?_; intro w10 x10; refine gset ?_
  rw [live_check]
  refine wph_nil ⟨by exact extc, ?_⟩
  refine tk 25 ?_; refine gset ?_; refine tk 26 ?_; refine gset ?_; refine tk 27 ?_; refine gset ?_; refine tk 28 ?_; refine gset ?_; refine tk 29 ?_; refine gset ?_; refine tk 30 ?_; refine gset ?_; refine tk 31 ?_; refine gset ?_
  refine wph_one (i := 32) (by decide +kernel) rfl rfl ?_
  refine wpl_callV (enters_of Tryz.func21 rfl rfl) rfl rfl (t15 liveA liveA x y _ ((hox8.ext x9).ext x10) ((hyd'.ext x9).ext x10)) ?_; intro w11 x11; refine gset ?_
  try simp only [decide_true]
  refine wph_nil ⟨by exact extc, ?_⟩
  refine tk 33 ?_; refine gset ?_; refine tk 34 ?_; refine gset ?_; refine tk 35 ?_; refine gset ?_; refine tk 36 ?_; refine gset ?_; refine tk 37 ?_; refine gset ?_; refine tk 38 ?_; refine gset ?_; refine tk 39 ?_; refine gset ?_; refine tk 40 ?_; refine gset ?_
  simp only [e3, decide_true]
  refine tk 41 ?_; refine gset ?_; refine tk 42 ?_; refine gset ?_
  refine wph_take (i := 43) (v := .agg zset.toArray) rfl rfl (by decide +kernel) (by decide +kernel) (by decide +kernel) rfl (by exact extc) (fun w' _ => Runs.build0 (by kernel_rfl)) (fun _ _ _ h => h) ?_
  refine gset ?_
  refine wph_one (i := 44) (by decide +kernel) rfl rfl ?_
  refine wpl_slice (e := 35) (k := 4) (bytes := 56) (xs := [.agg zset.toArray]) rfl rfl rfl (by simp [Value.cells, zset]) (by decide +kernel) (by decide +kernel) ?_
  intro v12 w12 x12 s12 sl12 _
  refine gset ?_
  refine wph_nil ⟨by exact extc, ?_⟩
  refine wph_one (i := 45) (by decide +kernel) rfl rfl ?_
  have hz : SetsAt w12 v12 [⟨[], 0, 0, []⟩] := by
    refine ⟨_, sl12, rfl, ?_⟩
    intro i s hs
    match i, hs with
    | 0, hs =>
      cases hs
      exact ⟨.slice none 0 0, rfl, Sl.nil _ _⟩
  refine wpl_callV (enters_of Tryz.func24 rfl rfl) rfl rfl (t12 v12 [⟨[], 0, 0, []⟩] _ hz) ?_; intro w13 x13; refine gset ?_
  rw [live_check0]
  refine wph_nil ⟨by exact extc, ?_⟩
  refine tk 46 ?_; refine gset ?_; refine tk 47 ?_; refine gset ?_; refine tk 48 ?_; refine gset ?_
  refine wph_done (by decide +kernel) ?_
  repeat' (first | ((with_reducible refine o_s ?_); (first | (refine o_1 ?_; refine o_2 ?_) | (refine o_g ?_; first | refine o_u ?_ | refine o_k ?_ | refine o_n ?_ | refine o_v ?_ | ((first | refine o_G ?_ ?_ | refine o_N ?_ ?_) <;> intro hc)))) | ((fail_if_success (with_reducible refine o_s ?_)); go_step))
  go_ret
  exact ⟨rfl, by exact extc⟩

end Go.Proofs.X
set_option linter.unusedSimpArgs false
set_option linter.unusedVariables false
namespace Go.Proofs.X
open Go.RowKit
set_option maxRecDepth 100000
/-! ### plain laws: what may be is found -/
theorem TPO.ltt {α : Type} {c : α → α → Int} (h : TPO c) {x y z : α} (h1 : c x y < 0) (h2 : c y z < 0) : c x z < 0 := by
  have h3 := h.tr x y z (by omega) (by omega)
  rcases Int.lt_or_eq_of_le h3 with h4 | h4
  · exact h4
  · exfalso
    have h5 := (h.eqL h4 (z := y)).1 (by omega)
    have h6 := h.anti y z
    omega
theorem check_ok {l : List RSet} (h : checkS l = 0) : ∀ i, i < l.length → badSet l i = false := by
  unfold checkS at h
  split at h
  · omega
  · split at h
    · rename_i h1
      intro i hi
      rw [List.all_eq_true] at h1
      have := h1 i (by simpa using hi)
      simpa using this
    · omega
theorem check_may {l : List RSet} (h : checkS l = 0) {i : Nat} (hi : i < l.length) : mayS l[i] = true := by
  have := check_ok h i hi
  rw [badSet, List.getElem?_eq_getElem hi] at this
  simp only [Bool.or_eq_false_iff, Bool.not_eq_false'] at this
  exact this.1
theorem check_lt {l : List RSet} (h : checkS l = 0) {i : Nat} (hi : i + 1 < l.length) : cmpSet l[i].name l[i + 1].name l[i].kind l[i + 1].kind < 0 := by
  have := check_ok h (i + 1) hi
  rw [badSet, List.getElem?_eq_getElem hi] at this
  simp only [Bool.or_eq_false_iff, Bool.and_eq_false_iff, decide_eq_false_iff_not] at this
  have h2 := this.2.resolve_left (by omega)
  have e : l.getD (i + 1 - 1) default = l[i] := by simp [show i < l.length by omega]
  rw [e] at h2
  omega
theorem check_sorted {l : List RSet} (h : checkS l = 0) (i : Nat) : ∀ j (hj : i < j) (hl : j < l.length), cmpSet l[i].name l[j].name l[i].kind l[j].kind < 0
  | 0, hj, _ => by omega
  | j + 1, hj, hl => by
    have h1 := check_lt h hl
    by_cases e : i = j
    · subst e; exact h1
    · have h2 := check_sorted h i j (by omega) (by omega)
      exact tpo_cmpSet.ltt (x := (l[i].name, l[i].kind)) (y := (l[j].name, l[j].kind)) (z := (l[j + 1].name, l[j + 1].kind)) h2 h1
theorem may_fold {s : RSet} (h : mayS s = true) : fold s.name = s.name := by
  simp only [mayS, Bool.and_eq_true, decide_eq_true_eq] at h
  exact h.1.1.1
theorem found_all {l : List RSet} (h : checkS l = 0) {i : Nat} (hi : i < l.length) : findS l l[i].name l[i].kind = some l[i] := by
  have hf := may_fold (check_may h hi)
  refine find_at hi ?_ (by simp [hit, hf])
  rw [List.find?_eq_none]
  intro x hx hh
  obtain ⟨j, hj, rfl⟩ := List.getElem_of_mem hx
  have hj' : j < i := by rw [List.length_take] at hj; omega
  rw [List.getElem_take] at hh
  simp only [hit, hf, Bool.and_eq_true, decide_eq_true_eq] at hh
  have h1 := check_sorted h j i hj' hi
  rw [hh.1, hh.2] at h1
  have h2 := tpo_cmpSet.refl (l[i].name, l[i].kind)
  simp only at h2
  omega
theorem find_kind {l : List RSet} {n : List UInt8} {k : Int} {s : RSet} (h : findS l n k = some s) : s.kind = k := by
  have := List.find?_some h
  simp only [hit, Bool.and_eq_true, decide_eq_true_eq] at this
  exact this.2
theorem meet3 {α β : Type} {F : α → β → World → Prop} {G : α → β → World → Prop} {goal : Prop} (h1 : (∀ x y w', F x y w' → G x y w') → goal) (h2 : ∀ x y w', F x y w' → G x y w') : goal := h1 h2

end Go.Proofs.X
set_option linter.unusedSimpArgs false
set_option linter.unusedVariables false
namespace Go.Proofs.X
open Go.RowKit
set_option maxRecDepth 100000
/-! ### the first cut is the one of the fewest labels -/
def isCut (o n : List UInt8) (s : RSet) : Bool := decide (s.kind = 2) && decide (s.name ≠ o) && underN n s.name
def cutP (o : List UInt8) (l : List RSet) (n : List UInt8) : List UInt8 × Bool := match l.find? (isCut o n) with
  | some s => (s.name, true)
  | none => ([], false)
theorem cutStep_no {o n : List UInt8} {b : List UInt8 × Bool} {s : RSet} (h : isCut o n s = false) : cutStep o n b s = b := by
  unfold cutStep
  rw [if_neg]
  rintro ⟨h1, h2, h3, _⟩
  simp [isCut, h1, h2, h3] at h
theorem cutStep_yes {o n : List UInt8} {m : List UInt8} {s : RSet} (h : isCut o n s = true) : cutStep o n (m, false) s = (s.name, true) := by
  simp only [isCut, Bool.and_eq_true, decide_eq_true_eq] at h
  unfold cutStep
  rw [if_pos ⟨h.1.1, h.1.2, h.2, .inl rfl⟩]
theorem cutStep_more {o n : List UInt8} {m : List UInt8} {s : RSet} (h : isCut o n s = true → labN m ≤ labN s.name) : cutStep o n (m, true) s = (m, true) := by
  cases hc : isCut o n s with
  | false => exact cutStep_no hc
  | true =>
    have := h hc
    unfold cutStep
    rw [if_neg]
    rintro ⟨_, _, _, h4⟩
    rcases h4 with h4 | h4
    · cases h4
    · simp only at h4; omega
theorem cut_stays {o n m : List UInt8} : ∀ {l : List RSet}, (∀ t ∈ l, isCut o n t = true → labN m ≤ labN t.name) → l.foldl (cutStep o n) (m, true) = (m, true)
  | [], _ => rfl
  | t :: l, h => by
    rw [List.foldl_cons, cutStep_more (h t (by simp)), cut_stays fun u hu => h u (by simp [hu])]
theorem cut_first {o n : List UInt8} : ∀ {l : List RSet}, l.Pairwise (fun s t => isCut o n s = true → isCut o n t = true → labN s.name ≤ labN t.name) → cutR o l n = cutP o l n
  | [], _ => rfl
  | t :: l, h => by
    obtain ⟨h1, h2⟩ := List.pairwise_cons.1 h
    unfold cutR cutP
    rw [List.foldl_cons, List.find?_cons]
    cases hc : isCut o n t with
    | true => simp only [cutStep_yes hc]; exact cut_stays fun u hu => h1 u hu hc
    | false => simp only [cutStep_no hc]; exact cut_first h2
theorem labN_turned {n : List UInt8} {a : List (List UInt8)} (h : turned n = some a) : labN n = a.length := by
  rw [turned_eq] at h
  cases hl : labels n with
  | none => rw [hl] at h; cases h
  | some ls =>
    rw [hl] at h
    cases h
    simp [labN, hl]
theorem under_turned {n t : List UInt8} (h : underN n t = true) : ∃ a b, turned n = some a ∧ turned t = some b ∧ a.take b.length = b := by
  unfold underN at h
  cases ha : turned n with
  | none => rw [ha] at h; cases h
  | some a =>
    cases hb : turned t with
    | none => rw [ha, hb] at h; cases h
    | some b =>
      rw [ha, hb] at h
      exact ⟨a, b, rfl, rfl, by simpa using h⟩
theorem under_iff {n t : List UInt8} {a b : List (List UInt8)} (ha : turned n = some a) (hb : turned t = some b) : underN n t = decide (a.take b.length = b) := by
  unfold underN; rw [ha, hb]
theorem take_len_le {α : Type} {a b : List α} (h : a.take b.length = b) : b.length ≤ a.length := by
  have := congrArg List.length h
  rw [List.length_take] at this
  omega
theorem cmp_prefix {a b c : List (List UInt8)} (hb : a.take b.length = b) (hc : a.take c.length = c) (h : cmpL b c ≤ 0) : b.length ≤ c.length := by
  have e : cmpL b c = if b.length < c.length then -1 else if c.length < b.length then 1 else 0 := by
    rcases Nat.le_total b.length c.length with hl | hl
    · refine cmpL_end (k := b.length) ?_ (Nat.le_refl _) hl (.inl rfl)
      rw [List.take_length, ← hc, List.take_take, Nat.min_eq_left hl, hb]
    · refine cmpL_end (k := c.length) ?_ hl (Nat.le_refl _) (.inr rfl)
      rw [List.take_length, ← hb, List.take_take, Nat.min_eq_left hl, hc]
  rw [e] at h
  split at h
  · omega
  · split at h <;> omega
theorem cmpSet_N {a b : List UInt8} {j k : Int} (h : cmpSet a b j k < 0) : cmpN a b ≤ 0 := by
  unfold cmpSet at h
  split at h <;> omega
theorem cut_eq {o : List UInt8} {l : List RSet} (h : checkS l = 0) (n : List UInt8) : cutR o l n = cutP o l n := by
  refine cut_first ?_
  rw [List.pairwise_iff_getElem]
  intro i j hi hj hij h1 h2
  have hc := cmpSet_N (check_sorted h i j hij hj)
  simp only [isCut, Bool.and_eq_true] at h1 h2
  obtain ⟨a, b, ha, hb, e1⟩ := under_turned h1.2
  obtain ⟨a', c, ha', hc', e2⟩ := under_turned h2.2
  rw [ha] at ha'
  cases ha'
  rw [labN_turned hb, labN_turned hc']
  refine cmp_prefix e1 e2 ?_
  unfold cmpN at hc
  rw [hb, hc'] at hc
  exact hc

end Go.Proofs.X
set_option linter.unusedSimpArgs false
set_option linter.unusedVariables false
namespace Go.Proofs.X
open Go.RowKit
set_option maxRecDepth 100000
/-! ### names, one under another -/
theorem turned_some {n : List UInt8} : (turned n).isSome = (labels n).isSome := by
  rw [turned_eq]; cases labels n <;> rfl
theorem under_refl {n : List UInt8} (h : (labels n).isSome = true) : underN n n = true := by
  rw [← turned_some] at h
  obtain ⟨a, ha⟩ := Option.isSome_iff_exists.1 h
  rw [under_iff ha ha]
  simp
theorem under_trans {a b c : List UInt8} (h : underN a b = true) (k : underN b c = true) : underN a c = true := by
  obtain ⟨x, y, hx, hy, e1⟩ := under_turned h
  obtain ⟨y', z, hy', hz, e2⟩ := under_turned k
  rw [hy] at hy'
  cases hy'
  have hl := take_len_le e2
  rw [under_iff hx hz, decide_eq_true_eq]
  rw [← e1, List.take_take, Nat.min_eq_left hl] at e2
  exact e2
theorem under_labels {a b : List UInt8} (h : underN a b = true) : (labels a).isSome = true ∧ (labels b).isSome = true := by
  obtain ⟨x, y, hx, hy, _⟩ := under_turned h
  rw [← turned_some, ← turned_some, hx, hy]
  exact ⟨rfl, rfl⟩
theorem small_of {n : List UInt8} (hf : fold n = n) (h : (labels n).isSome = true) : Small n := by
  obtain ⟨ls, hl⟩ := Option.isSome_iff_exists.1 h
  exact ⟨n, ls, hl, hf.symm⟩
theorem under_same {a b : List UInt8} (fa : fold a = a) (fb : fold b = b) (h : underN a b = true) (k : underN b a = true) : a = b := by
  obtain ⟨la, lb⟩ := under_labels h
  obtain ⟨x, hx, ex⟩ := (small_of fa la).turned
  obtain ⟨y, hy, ey⟩ := (small_of fb lb).turned
  rw [under_iff hx hy, decide_eq_true_eq] at h
  rw [under_iff hy hx, decide_eq_true_eq] at k
  have h1 := take_len_le h
  have h2 := take_len_le k
  rw [List.take_of_length_le h2] at h
  rw [ex, ey, List.reverse_inj.1 h]
/-! ### a zone that may be -/
structure ZoneOk (o : List UInt8) (l : List RSet) : Prop where
  lab : (labels o).isSome = true
  fold : fold o = o
  chk : checkS l = 0
  soa : (findS l o 6).isSome = true
  ns : (findS l o 2).isSome = true
  right : ∀ s ∈ l, rightR o l s = true
theorem zone_ok {o : List UInt8} {l : List RSet} (h : zoneR o l = 0) : ZoneOk o l := by
  unfold zoneR at h
  split at h
  · cases h
  · rename_i h1
    split at h
    · cases h
    · rename_i h2
      split at h
      · cases h
      · rename_i h3
        simp only [not_or, ne_eq, Decidable.not_not, Bool.not_eq_false] at h1 h2
        refine ⟨?_, h1.2.1, h1.2.2, h2.1, h2.2, fun s hs => ?_⟩
        · have := h1.1
          unfold checkE at this
          split at this
          · assumption
          · cases this
        · cases hr : rightR o l s with
          | true => rfl
          | false => exact absurd (List.any_eq_true.2 ⟨s, hs, by simp [hr]⟩) h3
theorem zone_ok' {o : List UInt8} {l : List RSet} (h : ZoneOk o l) : zoneR o l = 0 := by
  obtain ⟨h1, h2, h3, h4, h5, h6⟩ := h
  have h7 : l.any (fun s => !rightR o l s) = false := by
    rw [List.any_eq_false]
    intro s hs
    simp [h6 s hs]
  unfold zoneR checkE
  simp [h1, h2, h3, h4, h5, h7]
theorem right_under {o : List UInt8} {l : List RSet} {s : RSet} (h : rightR o l s = true) : underN s.name o = true := by
  simp only [rightR, Bool.and_eq_true] at h
  exact h.1.1.1
theorem ZoneOk.may {o : List UInt8} {l : List RSet} (h : ZoneOk o l) {s : RSet} (hs : s ∈ l) : mayS s = true := by
  obtain ⟨i, hi, rfl⟩ := List.getElem_of_mem hs
  exact check_may h.chk hi
theorem ZoneOk.small {o : List UInt8} {l : List RSet} (h : ZoneOk o l) {s : RSet} (hs : s ∈ l) : X.fold s.name = s.name ∧ (labels s.name).isSome = true :=
  ⟨may_fold (h.may hs), (under_labels (right_under (h.right s hs))).1⟩
/-- each set's name is there -/
theorem ZoneOk.there {o : List UInt8} {l : List RSet} (h : ZoneOk o l) {s : RSet} (hs : s ∈ l) : thereS o l s.name = true := by
  simp only [thereS, Bool.and_eq_true, List.any_eq_true]
  exact ⟨right_under (h.right s hs), s, hs, under_refl (h.small hs).2⟩
theorem findS_mem {l : List RSet} {n : List UInt8} {k : Int} {s : RSet} (h : findS l n k = some s) : s ∈ l ∧ s.name = fold n ∧ s.kind = k := by
  have h1 := List.mem_of_find?_eq_some h
  have h2 := List.find?_some h
  simp only [hit, Bool.and_eq_true, decide_eq_true_eq] at h2
  exact ⟨h1, h2⟩
theorem ZoneOk.origin {o : List UInt8} {l : List RSet} (h : ZoneOk o l) : thereS o l o = true := by
  obtain ⟨s, hs⟩ := Option.isSome_iff_exists.1 h.soa
  obtain ⟨h1, h2, h3⟩ := findS_mem hs
  have := h.there h1
  rwa [h2, h.fold] at this
/-- the origin has no cut -/
theorem ZoneOk.noCut {o : List UInt8} {l : List RSet} (h : ZoneOk o l) : cutR o l o = ([], false) := by
  rw [cut_eq h.chk, cutP]
  have : l.find? (isCut o o) = none := by
    rw [List.find?_eq_none]
    intro s hs hc
    simp only [isCut, Bool.and_eq_true, decide_eq_true_eq] at hc
    exact hc.1.2 (under_same (h.small hs).1 h.fold (right_under (h.right s hs)) hc.2)
  rw [this]
/-- where a name is, the names above it are -/
theorem there_up {o : List UInt8} {l : List RSet} {n up : List UInt8} (h : thereS o l n = true) (hu : underN n up = true) (ho : underN up o = true) : thereS o l up = true := by
  simp only [thereS, Bool.and_eq_true, List.any_eq_true] at h ⊢
  obtain ⟨_, s, hs, h2⟩ := h
  exact ⟨ho, s, hs, under_trans h2 hu⟩
theorem enc_drop_le (ls : List (List UInt8)) (i : Nat) : (enc (ls.drop i)).length ≤ (enc ls).length := by
  conv => rhs; rw [← List.take_append_drop i ls, enc_append]
  simp
theorem rev_drop {α : Type} (l : List α) (i : Nat) : l.reverse.take (l.drop i).reverse.length = (l.drop i).reverse := by
  rw [List.take_reverse, List.length_reverse, List.length_drop]
  congr 1
  rcases Nat.le_total i l.length with h | h
  · congr 1; omega
  · rw [List.drop_eq_nil_of_le h, List.drop_eq_nil_of_le (by omega)]
theorem join_up {n : List UInt8} {ls : List (List UInt8)} (h : labels n = some ls) (i : Nat) : ∃ up, join (ls.drop i) = some up ∧ underN n up = true := by
  obtain ⟨h1, h2, h3⟩ := labels_fit h
  have hf : (ls.drop i).all fitL = true := by
    rw [List.all_eq_true] at h1 ⊢
    exact fun x hx => h1 x (List.mem_of_mem_drop hx)
  have hl : (enc (ls.drop i)).length ≤ 254 := by
    have := enc_drop_le ls i
    rw [h2] at this
    omega
  refine ⟨enc (ls.drop i), by rw [join, if_pos ⟨hf, hl⟩], ?_⟩
  have e1 : turned n = some (ls.map low).reverse := by rw [turned_eq, h]; rfl
  have e2 : turned (enc (ls.drop i)) = some ((ls.drop i).map low).reverse := by rw [turned_eq, labels_enc hf hl]; rfl
  rw [under_iff e1 e2, decide_eq_true_eq, List.map_drop]
  exact rev_drop _ i
/-- below a cut all is under it -/
theorem ZoneOk.cut {o : List UInt8} {l : List RSet} (h : ZoneOk o l) {n c : List UInt8} (hc : cutR o l n = (c, true)) : underN n c = true ∧ c ≠ o ∧ cutR o l c = (c, true) := by
  rw [cut_eq h.chk, cutP] at hc
  rw [cut_eq h.chk, cutP]
  cases hf : l.find? (isCut o n) with
  | none => rw [hf] at hc; cases hc
  | some s =>
    rw [hf] at hc
    simp only [Prod.mk.injEq, and_true] at hc
    subst hc
    obtain ⟨h1, la, lb, h2, h3⟩ := List.find?_eq_some_iff_append.1 hf
    have hs : s ∈ l := by rw [h2]; simp
    have h1' := h1
    simp only [isCut, Bool.and_eq_true, decide_eq_true_eq] at h1'
    refine ⟨h1'.2, h1'.1.2, ?_⟩
    have : l.find? (isCut o s.name) = some s := by
      rw [List.find?_eq_some_iff_append]
      refine ⟨?_, la, lb, h2, fun t ht => ?_⟩
      · simp only [isCut, Bool.and_eq_true, decide_eq_true_eq]
        exact ⟨h1'.1, under_refl (h.small hs).2⟩
      · have hn := h3 t ht
        cases hq : isCut o s.name t with
        | false => rfl
        | true =>
          simp only [isCut, Bool.and_eq_true, decide_eq_true_eq] at hq
          have : isCut o n t = true := by
            simp only [isCut, Bool.and_eq_true, decide_eq_true_eq]
            exact ⟨hq.1, under_trans h1'.2 hq.2⟩
          rw [this] at hn
          exact hn
    rw [this]
theorem noCut_nil {o : List UInt8} {l : List RSet} (h : checkS l = 0) {n c : List UInt8} (hc : cutR o l n = (c, false)) : c = [] := by
  rw [cut_eq h, cutP] at hc
  split at hc
  · cases hc
  · cases hc; rfl

end Go.Proofs.X
set_option linter.unusedSimpArgs false
set_option linter.unusedVariables false
namespace Go.Proofs.X
open Go.RowKit
set_option maxRecDepth 100000
set_option maxHeartbeats 500000 in
/-- slices.Equal at texts -/
theorem p_Equal (u v : Value) (a b : List (List UInt8)) (w : World) (hu : Sl 1 w u (tcells a)) (hv : Sl 1 w v (tcells b)) : Calls Tryz.prog 113 #[u, v] w (RetV w (.bool (decide (a = b)))) := by
  have hal := hu.le
  have ha := tcells_length a
  have hb := tcells_length b
  go_enter Tryz.func113, Tryz.ntmps113
  repeat' (first | ((with_reducible refine o_s ?_); (first | (refine o_1 ?_; refine o_2 ?_) | (refine o_g ?_; first | refine o_u ?_ | refine o_k ?_ | refine o_n ?_ | refine o_v ?_ | ((first | refine o_G ?_ ?_ | refine o_N ?_ ?_) <;> intro hc)))) | ((fail_if_success (with_reducible refine o_s ?_)); go_step))
  · have hne := ‹(!decide (((tcells a).length : Int) = ((tcells b).length : Int))) = true›
    go_ret
    refine ⟨?_, Ext.refl _⟩
    have : a ≠ b := by rintro rfl; simp at hne
    simp [this]
  · have hne := ‹(!decide (((tcells a).length : Int) = ((tcells b).length : Int))) = false›
    have hlen : a.length = b.length := by simp at hne; omega
    go_loopw [5, 13] (fun _ i wr => ∃ k : Nat, k ≤ a.length ∧ i = .int .i64 k ∧ Ext w wr ∧ a.take k = b.take k) (fun _ i _ => a.length - (intOf i).toNat)
    case atStart => exact ⟨0, Nat.zero_le _, rfl, Ext.refl _, rfl⟩
    case round =>
      obtain ⟨k, hk, rfl, hx, hall⟩ := hrel
      by_cases hlt : k < a.length
      · have hlt2 : k < b.length := by omega
        have h1 := (hu.ext hx).elem (tcells_at hlt)
        have h2 := (hv.ext hx).elem (tcells_at hlt2)
        have hu2 := hu.ext hx
        have hv2 := hv.ext hx
        repeat' (first | ((with_reducible refine o_s ?_); (first | (refine o_1 ?_; refine o_2 ?_) | (refine o_g ?_; first | refine o_u ?_ | refine o_k ?_ | refine o_n ?_ | refine o_v ?_ | ((first | refine o_G ?_ ?_ | refine o_N ?_ ?_) <;> intro hc)))) | ((fail_if_success (with_reducible refine o_s ?_)); go_step))
        refine wph_region (S := Ext wr) (by decide +kernel) ?_
        intro w2 x2 _
        refine tk 0 ?_; refine gset ?_; refine tk 1 ?_; refine gset ?_; refine tk 2 ?_; refine gset ?_; refine tk 3 ?_; refine gset ?_; refine tk 4 ?_; refine gset ?_; refine tk 5 ?_; refine gset ?_; refine tk 6 ?_; refine gset ?_; refine tk 7 ?_; refine gset ?_; refine tk 8 ?_; refine gset ?_
        refine wph_done (by decide +kernel) ?_
        by_cases he : a[k] = b[k]
        · have e1 : decide (a[k] = b[k]) = true := decide_eq_true he
          simp only [e1, Bool.not_true]
          repeat' (first | ((with_reducible refine o_s ?_); (first | (refine o_1 ?_; refine o_2 ?_) | (refine o_g ?_; first | refine o_u ?_ | refine o_k ?_ | refine o_n ?_ | refine o_v ?_ | ((first | refine o_G ?_ ?_ | refine o_N ?_ ?_) <;> intro hc)))) | ((fail_if_success (with_reducible refine o_s ?_)); go_step))
          exact ⟨⟨k + 1, by omega, by go_num, by exact extc, take_succ_eq hall hlt hlt2 he⟩, by simp [intOf]; omega⟩
        · have e1 : decide (a[k] = b[k]) = false := decide_eq_false he
          simp only [e1, Bool.not_false]
          repeat' (first | ((with_reducible refine o_s ?_); (first | (refine o_1 ?_; refine o_2 ?_) | (refine o_g ?_; first | refine o_u ?_ | refine o_k ?_ | refine o_n ?_ | refine o_v ?_ | ((first | refine o_G ?_ ?_ | refine o_N ?_ ?_) <;> intro hc)))) | ((fail_if_success (with_reducible refine o_s ?_)); go_step))
          go_ret
          refine ⟨?_, by exact extc⟩
          simp [ne_of_at hlt hlt2 he]
      · have hk2 : k = a.length := by omega
        subst hk2
        repeat' (first | ((with_reducible refine o_s ?_); (first | (refine o_1 ?_; refine o_2 ?_) | (refine o_g ?_; first | refine o_u ?_ | refine o_k ?_ | refine o_n ?_ | refine o_v ?_ | ((first | refine o_G ?_ ?_ | refine o_N ?_ ?_) <;> intro hc)))) | ((fail_if_success (with_reducible refine o_s ?_)); go_step))
        go_ret
        refine ⟨?_, by exact extc⟩
        rw [List.take_length, hlen, List.take_length] at hall
        simp [hall]
set_option maxHeartbeats 500000 in
/-- name.Under -/
theorem p_Under (n t : List UInt8) (w : World) : Calls Tryz.prog 77 #[str n, str t] w (RetV w (.bool (underN n t))) := by
  go_enter Tryz.func77, Tryz.ntmps77
  repeat' (first | ((with_reducible refine o_s ?_); (first | (refine o_1 ?_; refine o_2 ?_) | (refine o_g ?_; first | refine o_u ?_ | refine o_k ?_ | refine o_n ?_ | refine o_v ?_ | ((first | refine o_G ?_ ?_ | refine o_N ?_ ?_) <;> intro hc)))) | ((fail_if_success (with_reducible refine o_s ?_)); go_step))
  refine wpl_callR (enters_of Tryz.func112 rfl rfl) rfl rfl (t64 n _) ?_
  intro r1 w1 x1 h1
  cases ha : turned n with
  | none =>
    rw [ha] at h1
    obtain ⟨s1, rfl⟩ := h1
    repeat' (first | ((with_reducible refine o_s ?_); (first | (refine o_1 ?_; refine o_2 ?_) | (refine o_g ?_; first | refine o_u ?_ | refine o_k ?_ | refine o_n ?_ | refine o_v ?_ | ((first | refine o_G ?_ ?_ | refine o_N ?_ ?_) <;> intro hc)))) | ((fail_if_success (with_reducible refine o_s ?_)); go_step))
    refine wpl_callR (enters_of Tryz.func112 rfl rfl) rfl rfl (t64 t _) ?_
    intro r2 w2 x2 h2
    obtain ⟨s2, b2, rfl⟩ : ∃ s b, r2 = .tuple #[s, .bool b] := by
      cases hb : turned t with
      | none => rw [hb] at h2; obtain ⟨s, rfl⟩ := h2; exact ⟨s, _, rfl⟩
      | some y => rw [hb] at h2; obtain ⟨s, rfl, _⟩ := h2; exact ⟨s, _, rfl⟩
    repeat' (first | ((with_reducible refine o_s ?_); (first | (refine o_1 ?_; refine o_2 ?_) | (refine o_g ?_; first | refine o_u ?_ | refine o_k ?_ | refine o_n ?_ | refine o_v ?_ | ((first | refine o_G ?_ ?_ | refine o_N ?_ ?_) <;> intro hc)))) | ((fail_if_success (with_reducible refine o_s ?_)); go_step))
    go_ret
    exact ⟨by simp [underN, ha], x1.trans x2⟩
  | some a =>
    rw [ha] at h1
    obtain ⟨s1, rfl, hs1, hl1⟩ := h1
    repeat' (first | ((with_reducible refine o_s ?_); (first | (refine o_1 ?_; refine o_2 ?_) | (refine o_g ?_; first | refine o_u ?_ | refine o_k ?_ | refine o_n ?_ | refine o_v ?_ | ((first | refine o_G ?_ ?_ | refine o_N ?_ ?_) <;> intro hc)))) | ((fail_if_success (with_reducible refine o_s ?_)); go_step))
    refine wpl_callR (enters_of Tryz.func112 rfl rfl) rfl rfl (t64 t _) ?_
    intro r2 w2 x2 h2
    cases hb : turned t with
    | none =>
      rw [hb] at h2
      obtain ⟨s2, rfl⟩ := h2
      repeat' (first | ((with_reducible refine o_s ?_); (first | (refine o_1 ?_; refine o_2 ?_) | (refine o_g ?_; first | refine o_u ?_ | refine o_k ?_ | refine o_n ?_ | refine o_v ?_ | ((first | refine o_G ?_ ?_ | refine o_N ?_ ?_) <;> intro hc)))) | ((fail_if_success (with_reducible refine o_s ?_)); go_step))
      go_ret
      exact ⟨by simp [underN, ha, hb], x1.trans x2⟩
    | some b =>
      rw [hb] at h2
      obtain ⟨s2, rfl, hs2, hl2⟩ := h2
      have hs1 := hs1.ext x2
      have tl1 := tcells_length a
      have tl2 := tcells_length b
      repeat' (first | ((with_reducible refine o_s ?_); (first | (refine o_1 ?_; refine o_2 ?_) | (refine o_g ?_; first | refine o_u ?_ | refine o_k ?_ | refine o_n ?_ | refine o_v ?_ | ((first | refine o_G ?_ ?_ | refine o_N ?_ ?_) <;> intro hc)))) | ((fail_if_success (with_reducible refine o_s ?_)); go_step))
      · have hle : b.length ≤ a.length := by omega
        have hcut := hs1.cut (m := 0) (n := (tcells b).length) (Nat.zero_le _) (by omega)
        rw [List.drop_zero] at hcut
        have hcut : Sl 1 w2 (cutSl s1 1 0 (tcells b).length) (tcells (a.take b.length)) := by
          rw [tl2] at hcut ⊢
          simpa [tcells, List.map_take] using hcut
        refine wpl_callV (enters_of Tryz.func113 rfl rfl) rfl rfl (p_Equal _ _ _ _ _ hcut hs2) ?_; intro w3 x3; refine gset ?_
        repeat' (first | ((with_reducible refine o_s ?_); (first | (refine o_1 ?_; refine o_2 ?_) | (refine o_g ?_; first | refine o_u ?_ | refine o_k ?_ | refine o_n ?_ | refine o_v ?_ | ((first | refine o_G ?_ ?_ | refine o_N ?_ ?_) <;> intro hc)))) | ((fail_if_success (with_reducible refine o_s ?_)); go_step))
        go_ret
        exact ⟨by rw [under_iff ha hb]; rfl, (x1.trans x2).trans x3⟩
      · go_ret
        refine ⟨?_, x1.trans x2⟩
        have hlt : a.length < b.length := by omega
        rw [under_iff ha hb, decide_eq_false (fun h => by have := take_len_le h; omega)]
        rfl

end Go.Proofs.X
