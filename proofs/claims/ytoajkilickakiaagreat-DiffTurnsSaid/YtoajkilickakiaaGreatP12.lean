/- Laws and walks that the proof of the statement is made of (part 12). -/
import Derived.Test.YtoajkilickakiaaGreatProg
import Derived.Test.YtoajkilickakiaaGreatShelf
import Derived.Shelf.SlSortCmp.NoneTotal
import Derived.Shelf.RegionOpenPlain
import Derived.Lib.Strings
import Derived.Lib.Slices
import Derived.Lib.Walk
import Derived.Lib.Builder
import Derived.Lib.AppendStr
import Derived.Lib.UnsafeStr
import Derived.Lib.MakeNoZero
import Derived.WalkKit
import Derived.Laws.Externs
import Derived.Laws.IdiomCopy
import Derived.Laws.BitsLemmas
import GoSem.Claims
import Derived.Lib.Hide
import Derived.OwnWalk
import Derived.Test.YtoajkilickakiaaGreatP1
import Derived.Test.YtoajkilickakiaaGreatP2
import Derived.Test.YtoajkilickakiaaGreatP3
import Derived.Test.YtoajkilickakiaaGreatP4
import Derived.Test.YtoajkilickakiaaGreatP5
import Derived.Test.YtoajkilickakiaaGreatP6
import Derived.Test.YtoajkilickakiaaGreatP7
import Derived.Test.YtoajkilickakiaaGreatP8
import Derived.Test.YtoajkilickakiaaGreatP9
import Derived.Test.YtoajkilickakiaaGreatP10
import Derived.Test.YtoajkilickakiaaGreatP11
set_option linter.unusedSimpArgs false
set_option linter.unusedVariables false
namespace Go.Proofs.X
open Go.RowKit
set_option maxRecDepth 100000
def recSet (r : Rec) : RSet := ⟨fold r.name, r.kind, r.ttl, [r.data]⟩
/-- a record worked into sets -/
def putS (r : Rec) : List RSet → List RSet
  | [] => [recSet r]
  | g :: gs => if aheadS g (recSet r) = true then g :: putS r gs else if aheadS (recSet r) g = true then recSet r :: g :: gs else ⟨fold r.name, r.kind, min r.ttl g.ttl, textS r.data g.data⟩ :: gs
theorem putS_take {r : Rec} : ∀ {l : List RSet} {k : Nat}, (∀ g ∈ l.take k, aheadS g (recSet r) = true) → putS r l = l.take k ++ putS r (l.drop k)
  | l, 0, _ => by simp
  | [], k + 1, _ => by simp
  | x :: l, k + 1, h => by
    have h1 := h x (by simp)
    simp only [List.take_succ_cons, List.drop_succ_cons, List.cons_append]
    rw [putS, if_pos h1, putS_take (k := k) (fun y hy => h y (by simp [hy]))]
set_option maxHeartbeats 6000000 in
/-- lodestarref07.put -/
theorem r7_put {B : Nat} (v : Value) (l : List RSet) (r : Rec) (w : World) (hv : SetsO B w v l) (hB : B ≤ w.heap.size) (hl : l.length ≤ 100000) (hd : ∀ s ∈ l, s.data.length ≤ 100000) :
    Calls Tryz.prog 155 #[v, .agg #[str r.name, .int .i64 r.kind, .int .i64 r.ttl, str r.data]] w (Ret w fun u w' => SetsO B w' u (putS r l)) := by
  obtain ⟨css, hv1, hvf, hcs, hcf⟩ := hv
  have hcl := hcs.len
  go_enter Tryz.func155, Tryz.ntmps155
  repeat' ((fail_if_success (with_reducible refine o_s ?_)); go_step)
  refine wpl_box (vs := Rec.cells r) rfl rfl ?_
  intro p w1 x1 hp
  refine gset ?_
  have hp : Pts w1 p [str r.name, .int .i64 r.kind, .int .i64 r.ttl, str r.data] := hp
  repeat' (first | ((with_reducible refine o_s ?_); (first | (refine o_1 ?_; refine o_2 ?_) | (refine o_g ?_; first | refine o_u ?_ | refine o_k ?_ | refine o_n ?_ | refine o_v ?_ | ((first | refine o_G ?_ ?_ | refine o_N ?_ ?_) <;> intro hc)))) | ((fail_if_success (with_reducible refine o_s ?_)); go_step))
  refine wph_region (S := fun w' => Ext w1 w') (by decide +kernel) ?_
  intro w2 x2 hh2
  refine tk 0 ?_; refine gset ?_; refine tk 1 ?_; refine gset ?_; refine tk 3 ?_; refine gset ?_; refine tk 4 ?_; refine gset ?_; refine tk 5 ?_; refine gset ?_; refine tk 6 ?_; refine gset ?_; refine tk 7 ?_; refine gset ?_; refine tk 8 ?_; refine gset ?_
  apply meet3 (F := fun (vS : Value) (b : Nat) w' => Ext w1 w' ∧ w1.heap.size ≤ b ∧ w'.heap[b]? = some (.cells zset.toArray 55 (0, 0)) ∧ Own w1.heap.size 1 9 w' vS ([str r.data].map (·.cells.toList)))
  · intro hG
    have hx0 := x2
    have hx : Ext w2 w2 := Ext.refl _
    have hz12 := x2.size
    refine wph_three (i := 2) (j := 9) (k := 11) (by decide +kernel) rfl rfl rfl rfl ?_ ?_ ?_
    · refine wpl_callV (enters_of Tryz.func44 rfl rfl) rfl rfl (r1_Fold r.name _) ?_
      intro w_1 x_1
      have hx := hx.trans x_1
      refine gset ?_
      refine wph_nil ⟨hx0.trans hx, ?_⟩
      refine wph_two (i := 9) (j := 11) (by decide +kernel) rfl rfl rfl ?_ ?_
      · refine wpl_slice (e := 9) (k := 1) (bytes := 16) (xs := [str r.data]) rfl rfl rfl (by simp [str, Value.cells]) (by decide +kernel) (by simp) ?_
        intro vS w_4 x_4 _ _ hs
        have hs := hs.weaken (Nat.le_trans hz12 (by have := hx.size; omega))
        have hx := hx.trans x_4
        refine gset ?_
        refine wph_nil ⟨hx0.trans hx, ?_⟩
        refine wph_take (i := 10) (v := .agg #[str (fold r.name), .int .i64 r.kind, .int .i64 r.ttl, vS]) rfl rfl (by decide +kernel) (by decide +kernel) (by decide +kernel) rfl (hx0.trans hx) (fun w' _ => Runs.build rfl (by obtain ⟨_, _, _, rfl⟩ := hs.sl.slf; kernel_rfl)) (fun _ _ _ h => h) ?_; refine gset ?_
        refine wph_one (i := 11) (by decide +kernel) rfl rfl ?_
        refine wpl_allocB (z := zset) rfl (by decide +kernel) ?_
        intro w_6 x_6 s_6 ha
        have hb := hx.size
        have hx := hx.trans x_6
        have hs := hs.ext x_6
        generalize hbE : w_4.heap.size = b at *
        refine gset ?_
        refine wph_nil ⟨hx0.trans hx, ?_⟩
        exact hG vS b _ ⟨hx0.trans hx, by omega, ha, hs⟩
      · refine wpl_allocB (z := zset) rfl (by decide +kernel) ?_
        intro w_5 x_5 s_5 ha
        have hb := hx.size
        have hx := hx.trans x_5
        generalize hbE : w_1.heap.size = b at *
        refine gset ?_
        refine wph_nil ⟨hx0.trans hx, ?_⟩
        refine wph_one (i := 9) (by decide +kernel) rfl rfl ?_
        refine wpl_slice (e := 9) (k := 1) (bytes := 16) (xs := [str r.data]) rfl rfl rfl (by simp [str, Value.cells]) (by decide +kernel) (by simp) ?_
        intro vS w_7 x_7 _ _ hs
        have hs := hs.weaken (Nat.le_trans hz12 (by have := hx.size; omega))
        have hx := hx.trans x_7
        have ha := x_7.at ha
        refine gset ?_
        refine wph_nil ⟨hx0.trans hx, ?_⟩
        refine wph_take (i := 10) (v := .agg #[str (fold r.name), .int .i64 r.kind, .int .i64 r.ttl, vS]) rfl rfl (by decide +kernel) (by decide +kernel) (by decide +kernel) rfl (hx0.trans hx) (fun w' _ => Runs.build rfl (by obtain ⟨_, _, _, rfl⟩ := hs.sl.slf; kernel_rfl)) (fun _ _ _ h => h) ?_; refine gset ?_
        exact hG vS b _ ⟨hx0.trans hx, by omega, ha, hs⟩
    · refine wpl_slice (e := 9) (k := 1) (bytes := 16) (xs := [str r.data]) rfl rfl rfl (by simp [str, Value.cells]) (by decide +kernel) (by simp) ?_
      intro vS w_2 x_2 _ _ hs
      have hs := hs.weaken (Nat.le_trans hz12 (by have := hx.size; omega))
      have hx := hx.trans x_2
      refine gset ?_
      refine wph_nil ⟨hx0.trans hx, ?_⟩
      refine wph_two (i := 2) (j := 11) (by decide +kernel) rfl rfl rfl ?_ ?_
      · refine wpl_callV (enters_of Tryz.func44 rfl rfl) rfl rfl (r1_Fold r.name _) ?_
        intro w_8 x_8
        have hx := hx.trans x_8
        have hs := hs.ext x_8
        refine gset ?_
        refine wph_nil ⟨hx0.trans hx, ?_⟩
        refine wph_take (i := 10) (v := .agg #[str (fold r.name), .int .i64 r.kind, .int .i64 r.ttl, vS]) rfl rfl (by decide +kernel) (by decide +kernel) (by decide +kernel) rfl (hx0.trans hx) (fun w' _ => Runs.build rfl (by obtain ⟨_, _, _, rfl⟩ := hs.sl.slf; kernel_rfl)) (fun _ _ _ h => h) ?_; refine gset ?_
        refine wph_one (i := 11) (by decide +kernel) rfl rfl ?_
        refine wpl_allocB (z := zset) rfl (by decide +kernel) ?_
        intro w_10 x_10 s_10 ha
        have hb := hx.size
        have hx := hx.trans x_10
        have hs := hs.ext x_10
        generalize hbE : w_8.heap.size = b at *
        refine gset ?_
        refine wph_nil ⟨hx0.trans hx, ?_⟩
        exact hG vS b _ ⟨hx0.trans hx, by omega, ha, hs⟩
      · refine wpl_allocB (z := zset) rfl (by decide +kernel) ?_
        intro w_9 x_9 s_9 ha
        have hb := hx.size
        have hx := hx.trans x_9
        have hs := hs.ext x_9
        generalize hbE : w_2.heap.size = b at *
        refine gset ?_
        refine wph_nil ⟨hx0.trans hx, ?_⟩
        refine wph_one (i := 2) (by decide +kernel) rfl rfl ?_
        refine wpl_callV (enters_of Tryz.func44 rfl rfl) rfl rfl (r1_Fold r.name _) ?_
        intro w_11 x_11
        have hx := hx.trans x_11
        have hs := hs.ext x_11
        have ha := x_11.at ha
        refine gset ?_
        refine wph_nil ⟨hx0.trans hx, ?_⟩
        refine wph_take (i := 10) (v := .agg #[str (fold r.name), .int .i64 r.kind, .int .i64 r.ttl, vS]) rfl rfl (by decide +kernel) (by decide +kernel) (by decide +kernel) rfl (hx0.trans hx) (fun w' _ => Runs.build rfl (by obtain ⟨_, _, _, rfl⟩ := hs.sl.slf; kernel_rfl)) (fun _ _ _ h => h) ?_; refine gset ?_
        exact hG vS b _ ⟨hx0.trans hx, by omega, ha, hs⟩
    · refine wpl_allocB (z := zset) rfl (by decide +kernel) ?_
      intro w_3 x_3 s_3 ha
      have hb := hx.size
      have hx := hx.trans x_3
      generalize hbE : w2.heap.size = b at *
      refine gset ?_
      refine wph_nil ⟨hx0.trans hx, ?_⟩
      refine wph_two (i := 2) (j := 9) (by decide +kernel) rfl rfl rfl ?_ ?_
      · refine wpl_callV (enters_of Tryz.func44 rfl rfl) rfl rfl (r1_Fold r.name _) ?_
        intro w_12 x_12
        have hx := hx.trans x_12
        have ha := x_12.at ha
        refine gset ?_
        refine wph_nil ⟨hx0.trans hx, ?_⟩
        refine wph_one (i := 9) (by decide +kernel) rfl rfl ?_
        refine wpl_slice (e := 9) (k := 1) (bytes := 16) (xs := [str r.data]) rfl rfl rfl (by simp [str, Value.cells]) (by decide +kernel) (by simp) ?_
        intro vS w_14 x_14 _ _ hs
        have hs := hs.weaken (Nat.le_trans hz12 (by have := hx.size; omega))
        have hx := hx.trans x_14
        have ha := x_14.at ha
        refine gset ?_
        refine wph_nil ⟨hx0.trans hx, ?_⟩
        refine wph_take (i := 10) (v := .agg #[str (fold r.name), .int .i64 r.kind, .int .i64 r.ttl, vS]) rfl rfl (by decide +kernel) (by decide +kernel) (by decide +kernel) rfl (hx0.trans hx) (fun w' _ => Runs.build rfl (by obtain ⟨_, _, _, rfl⟩ := hs.sl.slf; kernel_rfl)) (fun _ _ _ h => h) ?_; refine gset ?_
        exact hG vS b _ ⟨hx0.trans hx, by omega, ha, hs⟩
      · refine wpl_slice (e := 9) (k := 1) (bytes := 16) (xs := [str r.data]) rfl rfl rfl (by simp [str, Value.cells]) (by decide +kernel) (by simp) ?_
        intro vS w_13 x_13 _ _ hs
        have hs := hs.weaken (Nat.le_trans hz12 (by have := hx.size; omega))
        have hx := hx.trans x_13
        have ha := x_13.at ha
        refine gset ?_
        refine wph_nil ⟨hx0.trans hx, ?_⟩
        refine wph_one (i := 2) (by decide +kernel) rfl rfl ?_
        refine wpl_callV (enters_of Tryz.func44 rfl rfl) rfl rfl (r1_Fold r.name _) ?_
        intro w_15 x_15
        have hx := hx.trans x_15
        have hs := hs.ext x_15
        have ha := x_15.at ha
        refine gset ?_
        refine wph_nil ⟨hx0.trans hx, ?_⟩
        refine wph_take (i := 10) (v := .agg #[str (fold r.name), .int .i64 r.kind, .int .i64 r.ttl, vS]) rfl rfl (by decide +kernel) (by decide +kernel) (by decide +kernel) rfl (hx0.trans hx) (fun w' _ => Runs.build rfl (by obtain ⟨_, _, _, rfl⟩ := hs.sl.slf; kernel_rfl)) (fun _ _ _ h => h) ?_; refine gset ?_
        exact hG vS b _ ⟨hx0.trans hx, by omega, ha, hs⟩
  · intro vS b w3 hF
    obtain ⟨x3, hb, h3, hs3⟩ := hF
    have hs3 : Own w1.heap.size 1 9 w3 vS (tcells [r.data]) := by simpa [tcells, Value.cells, str] using hs3
    have x13 : Ext w w3 := x1.trans x3
    have s1 := x1.size
    refine wph_one (i := 12) (by decide +kernel) rfl rfl ?_
    refine wpl_storeB (v := .agg #[str (fold r.name), .int .i64 r.kind, .int .i64 r.ttl, vS]) rfl rfl rfl h3 (show sizeTy Tryz.prog 55 4 = true by decide +kernel) rfl (all4 rfl rfl rfl hs3.sl.one) ?_
    intro w4 p4
    have x14 : Ext w1 w4 := x3.move p4.mv (by rintro k ⟨⟩; exact hb)
    have x4 : Ext w w4 := x13.move p4.mv (by rintro k ⟨⟩; omega)
    have hB4 : B ≤ w4.heap.size := Nat.le_trans hB x4.size
    have hf4 : From B vS := hs3.from' (Nat.le_trans hB s1)
    have hs4 : Sl 1 w4 vS (tcells [r.data]) := (hs3.mv p4.mv (.inr (hs3.neBlock h3 (by decide)))).sl
    have h4 : w4.heap[b]? = some (.cells [str (fold r.name), .int .i64 r.kind, .int .i64 r.ttl, vS].toArray 55 (0, 0)) := p4.this
    have hbz : b < w4.heap.size := (Array.getElem?_eq_some_iff.1 h4).1
    refine wph_nil ⟨x14, ?_⟩
    refine wph_done (by decide +kernel) ?_
    clear p4 h3 hs3 x3 x13
    repeat' (first | ((with_reducible refine o_s ?_); (first | (refine o_1 ?_; refine o_2 ?_) | (refine o_g ?_; first | refine o_u ?_ | refine o_k ?_ | refine o_n ?_ | refine o_v ?_ | ((first | refine o_G ?_ ?_ | refine o_N ?_ ?_) <;> intro hc)))) | ((fail_if_success (with_reducible refine o_s ?_)); go_step))
    have hb4 := pts_block h4
    go_loopw [6, 7] (fun o i wr => ∃ k : Nat, k ≤ l.length ∧ i = .int .i64 k ∧ Ext w4 wr ∧ Own w4.heap.size 4 55 wr o (css.take k) ∧ ∀ g ∈ l.take k, aheadS g (recSet r) = true) (fun _ i _ => l.length - (intOf i).toNat)
    case atStart => exact ⟨0, Nat.zero_le _, rfl, Ext.refl _, Own.nil _ _ _ _, by simp⟩
    case round =>
      obtain ⟨k, hk, rfl, hx, ho, hall⟩ := hrel
      have hxw := x4.trans hx
      have hvr := hv1.ext hxw
      have hcr := hcs.ext hxw
      have hbr := hb4.ext hx
      have hput := putS_take hall
      by_cases hlt : k < l.length
      · obtain ⟨x, hc1, hc2w⟩ := hcs.at' k _ (List.getElem?_eq_getElem hlt)
        have hc2 := hc2w.ext hxw
        have hdk := hd _ (List.getElem_mem hlt)
        have hp1 := hvr.elem hc1
        rw [List.drop_eq_getElem_cons hlt, putS] at hput
        have hah : ∀ w', Calls Tryz.prog 174 #[.agg #[str l[k].name, .int .i64 l[k].kind, .int .i64 l[k].ttl, x], .agg #[str (fold r.name), .int .i64 r.kind, .int .i64 r.ttl, vS]] w' (RetV w' (.bool (aheadS l[k] (recSet r)))) := fun w' => r7_ahead l[k] (recSet r) x vS w'
        have hha : ∀ w', Calls Tryz.prog 174 #[.agg #[str (fold r.name), .int .i64 r.kind, .int .i64 r.ttl, vS], .agg #[str l[k].name, .int .i64 l[k].kind, .int .i64 l[k].ttl, x]] w' (RetV w' (.bool (aheadS (recSet r) l[k]))) := fun w' => r7_ahead (recSet r) l[k] vS x w'
        repeat' (first | ((with_reducible refine o_s ?_); (first | (refine o_1 ?_; refine o_2 ?_) | (refine o_g ?_; first | refine o_u ?_ | refine o_k ?_ | refine o_n ?_ | refine o_v ?_ | ((first | refine o_G ?_ ?_ | refine o_N ?_ ?_) <;> intro hc)))) | ((fail_if_success (with_reducible refine o_s ?_)); go_step))
        refine wpq_region (by decide +kernel) (by decide +kernel) ?_
        repeat' (first | ((with_reducible refine q_s ?_); (first | (refine q_1 ?_; refine q_2 ?_) | (refine q_g ?_; first | refine q_u ?_ | refine q_k ?_ | refine q_v ?_))) | (with_reducible refine q_n ?_))
        rw [show decide ((k : Int) < (css.length : Int)) = true by simp; omega]
        repeat' (first | ((with_reducible refine q_s ?_); (first | (refine q_1 ?_; refine q_2 ?_) | (refine q_g ?_; first | refine q_u ?_ | refine q_k ?_ | refine q_v ?_))) | (with_reducible refine q_n ?_))
        refine wpq_call (enters_of Tryz.func174 rfl rfl) rfl rfl (fun w' _ => hah w') ?_
        refine gset ?_
        repeat' (first | ((with_reducible refine q_s ?_); (first | (refine q_1 ?_; refine q_2 ?_) | (refine q_g ?_; first | refine q_u ?_ | refine q_k ?_ | refine q_v ?_))) | (with_reducible refine q_n ?_))
        intro w5 x5
        cases ha : aheadS l[k] (recSet r) with
        | true =>
          repeat' (first | ((with_reducible refine o_s ?_); (first | (refine o_1 ?_; refine o_2 ?_) | (refine o_g ?_; first | refine o_u ?_ | refine o_k ?_ | refine o_n ?_ | refine o_v ?_ | ((first | refine o_G ?_ ?_ | refine o_N ?_ ?_) <;> intro hc)))) | ((fail_if_success (with_reducible refine o_s ?_)); go_step))
          have ho5 := ho.ext x5
          have hx5 := hx.trans x5
          refine ap1 [str l[k].name, .int .i64 l[k].kind, .int .i64 l[k].ttl, x] hx5 ho5 (by rw [List.length_take]; omega) ?_ (by exact ⟨rfl, rfl, rfl, by intro u hu; simp only [List.mem_cons, List.not_mem_nil, or_false] at hu; rcases hu with rfl | rfl | rfl | rfl <;> first | rfl | exact hc2.one⟩)
          intro s6 v6 w6 w7 x6 _ x7 o7
          refine gset ?_
          repeat' (first | ((with_reducible refine o_s ?_); (first | (refine o_1 ?_; refine o_2 ?_) | (refine o_g ?_; first | refine o_u ?_ | refine o_k ?_ | refine o_n ?_ | refine o_v ?_ | ((first | refine o_G ?_ ?_ | refine o_N ?_ ?_) <;> intro hc)))) | ((fail_if_success (with_reducible refine o_s ?_)); go_step))
          refine ⟨⟨k + 1, by omega, by go_num, x7, ?_, ?_⟩, by simp [intOf]; omega⟩
          · rw [List.take_add_one, hc1]
            exact o7
          · intro g hg
            rw [List.take_add_one, List.getElem?_eq_getElem hlt] at hg
            simp only [Option.toList_some, List.mem_append, List.mem_singleton] at hg
            rcases hg with hg | rfl
            · exact hall g hg
            · exact ha
        | false =>
          rw [ha, if_neg (by simp)] at hput
          repeat' (first | ((with_reducible refine o_s ?_); (first | (refine o_1 ?_; refine o_2 ?_) | (refine o_g ?_; first | refine o_u ?_ | refine o_k ?_ | refine o_n ?_ | refine o_v ?_ | ((first | refine o_G ?_ ?_ | refine o_N ?_ ?_) <;> intro hc)))) | ((fail_if_success (with_reducible refine o_s ?_)); go_step))
          have hp5 := hp1.ext x5
          have hv5 := hvr.ext x5
          have hb5 := hbr.ext x5
          refine wpq_region (by decide +kernel) (by decide +kernel) ?_
          repeat' (first | ((with_reducible refine q_s ?_); (first | (refine q_1 ?_; refine q_2 ?_) | (refine q_g ?_; first | refine q_u ?_ | refine q_k ?_ | refine q_v ?_))) | (with_reducible refine q_n ?_))
          rw [show decide ((k : Int) < (css.length : Int)) = true by simp; omega]
          repeat' (first | ((with_reducible refine q_s ?_); (first | (refine q_1 ?_; refine q_2 ?_) | (refine q_g ?_; first | refine q_u ?_ | refine q_k ?_ | refine q_v ?_))) | (with_reducible refine q_n ?_))
          refine wpq_call (enters_of Tryz.func174 rfl rfl) rfl rfl (fun w' _ => hha w') ?_
          refine gset ?_
          repeat' (first | ((with_reducible refine q_s ?_); (first | (refine q_1 ?_; refine q_2 ?_) | (refine q_g ?_; first | refine q_u ?_ | refine q_k ?_ | refine q_v ?_))) | (with_reducible refine q_n ?_))
          intro w6 x6
          have hx6 := (hx.trans x5).trans x6
          have ho6 := (ho.ext x5).ext x6
          cases hb2 : aheadS (recSet r) l[k] with
          | true =>
            rw [hb2, if_pos rfl] at hput
            have hv6 := hv1.ext (x4.trans hx6)
            have hb6 := hb5.ext x6
            repeat' (first | ((with_reducible refine o_s ?_); (first | (refine o_1 ?_; refine o_2 ?_) | (refine o_g ?_; first | refine o_u ?_ | refine o_k ?_ | refine o_n ?_ | refine o_v ?_ | ((first | refine o_G ?_ ?_ | refine o_N ?_ ?_) <;> intro hc)))) | ((fail_if_success (with_reducible refine o_s ?_)); go_step))
            refine ap1 [str (fold r.name), .int .i64 r.kind, .int .i64 r.ttl, vS] hx6 ho6 (by rw [List.length_take]; omega) ?_ (by exact ⟨rfl, rfl, rfl, by intro u hu; simp only [List.mem_cons, List.not_mem_nil, or_false] at hu; rcases hu with rfl | rfl | rfl | rfl <;> first | rfl | exact hs4.one⟩)
            intro s7 v7 w7 w8 x7 _ x8 o8
            refine gset ?_
            have hv8 := hv1.ext (x4.trans x8)
            repeat' (first | ((with_reducible refine o_s ?_); (first | (refine o_1 ?_; refine o_2 ?_) | (refine o_g ?_; first | refine o_u ?_ | refine o_k ?_ | refine o_n ?_ | refine o_v ?_ | ((first | refine o_G ?_ ?_ | refine o_N ?_ ?_) <;> intro hc)))) | ((fail_if_success (with_reducible refine o_s ?_)); go_step))
            have hcut := hv8.cut (m := k) (n := css.length) (by omega) (Nat.le_refl _)
            rw [List.take_length] at hcut
            have hc8 := hcs.ext (x4.trans x8)
            refine wpl_appendO (B := w4.heap.size) rfl o8 rfl hcut ((hc8.drop k).cell) x8.size (by simp only [List.length_append, List.length_take, List.length_drop, List.length_cons, List.length_nil]; omega) ?_
            intro v9 w9 o9 m9 _
            refine gset ?_
            have x9 := o8.mvx m9 x8 (Nat.le_refl _)
            have hc9 := hcs.ext (x4.trans x9)
            repeat' (first | ((with_reducible refine o_s ?_); (first | (refine o_1 ?_; refine o_2 ?_) | (refine o_g ?_; first | refine o_u ?_ | refine o_k ?_ | refine o_n ?_ | refine o_v ?_ | ((first | refine o_G ?_ ?_ | refine o_N ?_ ?_) <;> intro hc)))) | ((fail_if_success (with_reducible refine o_s ?_)); go_step))
            go_ret
            refine ⟨_, rfl, x4.trans x9, ?_⟩
            rw [hput, show l.take k ++ recSet r :: l[k] :: l.drop (k + 1) = l.take k ++ [recSet r] ++ l.drop k by rw [List.drop_eq_getElem_cons hlt]; simp]
            exact ⟨_, o9.sl, o9.from' hB4, ((hc9.take k).append (SetsC.one (s := recSet r) (hs4.ext x9))).append (hc9.drop k), ((hcf.take k).append (FromC.one hf4)).append (hcf.drop k)⟩
          | false =>
            rw [hb2, if_neg (by simp)] at hput
            have hb6 := hb5.ext x6
            have h6 := hx6.at h4
            have x16 := x14.trans hx6
            have hp6 := hp1.ext (x5.trans x6)
            have hv6 := hvr.ext (x5.trans x6)
            have hpp := hp.ext x16
            clear hah hha
            repeat' (first | ((with_reducible refine o_s ?_); (first | (refine o_1 ?_; refine o_2 ?_) | (refine o_g ?_; first | refine o_u ?_ | refine o_k ?_ | refine o_n ?_ | refine o_v ?_ | ((first | refine o_G ?_ ?_ | refine o_N ?_ ?_) <;> intro hc)))) | ((fail_if_success (with_reducible refine o_s ?_)); go_step))
            refine wpi_region 9 (Ext w6) (by decide +kernel) ?_
            intro w7 x7 _
            refine ⟨x7, ?_⟩
            ((with_reducible apply wpi_take (i := 0)); (rfl); (rfl); (rfl); (decide +kernel); (decide +kernel); (decide +kernel); (decide +kernel); (rfl); (intro _ _; exact rn); (exact fun _ _ _ h => h); (refine gset ?_)); ((with_reducible apply wpi_take (i := 1)); (rfl); (rfl); (rfl); (decide +kernel); (decide +kernel); (decide +kernel); (decide +kernel); (rfl); (intro _ _; exact rn); (exact fun _ _ _ h => h); (refine gset ?_)); ((with_reducible apply wpi_take (i := 2)); (rfl); (rfl); (rfl); (decide +kernel); (decide +kernel); (decide +kernel); (decide +kernel); (rfl); (intro _ _; exact rn); (exact fun _ _ _ h => h); (refine gset ?_)); ((with_reducible apply wpi_take (i := 3)); (rfl); (rfl); (rfl); (decide +kernel); (decide +kernel); (decide +kernel); (decide +kernel); (rfl); (intro _ _; exact rn); (exact fun _ _ _ h => h); (refine gset ?_)); ((with_reducible apply wpi_take (i := 4)); (rfl); (rfl); (rfl); (decide +kernel); (decide +kernel); (decide +kernel); (decide +kernel); (rfl); (intro _ _; exact rn); (exact fun _ _ _ h => h); (refine gset ?_)); ((with_reducible apply wpi_take (i := 5)); (rfl); (rfl); (rfl); (decide +kernel); (decide +kernel); (decide +kernel); (decide +kernel); (rfl); (intro _ _; exact rn); (exact fun _ _ _ h => h); (refine gset ?_)); ((with_reducible apply wpi_take (i := 6)); (rfl); (rfl); (rfl); (decide +kernel); (decide +kernel); (decide +kernel); (decide +kernel); (rfl); (intro _ _; exact rn); (exact fun _ _ _ h => h); (refine gset ?_)); ((with_reducible apply wpi_take (i := 7)); (rfl); (rfl); (rfl); (decide +kernel); (decide +kernel); (decide +kernel); (decide +kernel); (rfl); (intro _ _; exact rn); (exact fun _ _ _ h => h); (refine gset ?_)); ((with_reducible apply wpi_take (i := 8)); (rfl); (rfl); (rfl); (decide +kernel); (decide +kernel); (decide +kernel); (decide +kernel); (rfl); (intro _ _; exact rn); (exact fun _ _ _ h => h); (refine gset ?_))
            refine wpi_op (i := 9) (by decide +kernel) rfl rfl ?_
            refine wpl_storeF (cs := [str (fold r.name), .int .i64 r.kind, .int .i64 r.ttl, vS]) (x7.at h6) rfl rfl rfl (show 2 < 4 by omega) (by decide +kernel) rfl ?_
            intro w8 p8
            refine wph_nil ⟨till_no rfl, ?_⟩
            refine wpi_done (by decide +kernel) ?_
            have x18 : Ext w1 w8 := (x16.trans x7).move p8.mv (by rintro k ⟨⟩; exact hb)
            have h8 : w8.heap[b]? = some (.cells [str (fold r.name), .int .i64 r.kind, .int .i64 (min r.ttl l[k].ttl), vS].toArray 55 (0, 0)) := p8.this
            have ho8 := (ho6.ext x7).put p8 hbz
            have hz8 : w6.heap.size ≤ w8.heap.size := Nat.le_trans x7.size (Nat.le_of_eq p8.size.symm)
            have hv8 := hv1.ext (x1.trans x18)
            have hp8 := hv8.elem hc1
            have hpp8 := hp.ext x18
            have hb8 := pts_block h8
            clear hb6 hb5 hbr hb4 hp6 hv6 hpp p8 h6 x7 hp5 hv5 hvr hp1
            repeat' (first | ((with_reducible refine o_s ?_); (first | (refine o_1 ?_; refine o_2 ?_) | (refine o_g ?_; first | refine o_u ?_ | refine o_k ?_ | refine o_n ?_ | refine o_v ?_ | ((first | refine o_G ?_ ?_ | refine o_N ?_ ?_) <;> intro hc)))) | ((fail_if_success (with_reducible refine o_s ?_)); go_step))
            refine wpi_region 9 (Ext w8) (by decide +kernel) ?_
            intro w9 x9 _
            refine ⟨x9, ?_⟩
            ((with_reducible apply wpi_take (i := 0)); (rfl); (rfl); (rfl); (decide +kernel); (decide +kernel); (decide +kernel); (decide +kernel); (rfl); (intro _ _; exact rn); (exact fun _ _ _ h => h); (refine gset ?_)); ((with_reducible apply wpi_take (i := 1)); (rfl); (rfl); (rfl); (decide +kernel); (decide +kernel); (decide +kernel); (decide +kernel); (rfl); (intro _ _; exact rn); (exact fun _ _ _ h => h); (refine gset ?_)); ((with_reducible apply wpi_take (i := 2)); (rfl); (rfl); (rfl); (decide +kernel); (decide +kernel); (decide +kernel); (decide +kernel); (rfl); (intro _ _; exact rn); (exact fun _ _ _ h => h); (refine gset ?_)); ((with_reducible apply wpi_take (i := 3)); (rfl); (rfl); (rfl); (decide +kernel); (decide +kernel); (decide +kernel); (decide +kernel); (rfl); (intro _ _; exact rn); (exact fun _ _ _ h => h); (refine gset ?_)); ((with_reducible apply wpi_take (i := 4)); (rfl); (rfl); (rfl); (decide +kernel); (decide +kernel); (decide +kernel); (decide +kernel); (rfl); (intro _ _; exact rn); (exact fun _ _ _ h => h); (refine gset ?_)); ((with_reducible apply wpi_take (i := 5)); (rfl); (rfl); (rfl); (decide +kernel); (decide +kernel); (decide +kernel); (decide +kernel); (rfl); (intro _ _; exact rn); (exact fun _ _ _ h => h); (refine gset ?_)); ((with_reducible apply wpi_take (i := 6)); (rfl); (rfl); (rfl); (decide +kernel); (decide +kernel); (decide +kernel); (decide +kernel); (rfl); (intro _ _; exact rn); (exact fun _ _ _ h => h); (refine gset ?_))
            refine wpi_op (i := 7) (by decide +kernel) rfl rfl ?_
            refine wpl_callR (enters_of Tryz.func186 rfl rfl) rfl rfl (r7_text x l[k].data r.data _ (hc2w.ext ((x1.trans x18).trans x9)) hdk) ?_
            intro y w10 x10 hy
            refine gset ?_
            have x1_10 := (x18.trans x9).trans x10
            refine wph_nil ⟨till_yes (x9.trans x10), ?_⟩
            refine wpi_op (i := 8) (by decide +kernel) rfl rfl ?_
            repeat' (first | ((with_reducible refine o_s ?_); (first | (refine o_1 ?_; refine o_2 ?_) | (refine o_g ?_; first | refine o_u ?_ | refine o_k ?_ | refine o_n ?_ | refine o_v ?_ | ((first | refine o_G ?_ ?_ | refine o_N ?_ ?_) <;> intro hc)))) | ((fail_if_success (with_reducible refine o_s ?_)); go_step))
            refine ⟨till_yes (x9.trans x10), ?_⟩
            refine wpi_op (i := 9) (by decide +kernel) rfl rfl ?_
            have hy1 : y.oneCell' = true := by
              rcases hy with ⟨rfl, _⟩ | hy
              · exact hc2w.one
              · exact hy.sl.one
            have h10 := (x9.trans x10).at h8
            refine wpl_storeF (cs := [str (fold r.name), .int .i64 r.kind, .int .i64 (min r.ttl l[k].ttl), vS]) h10 rfl rfl rfl (show 3 < 4 by omega) (by decide +kernel) hy1 ?_
            intro w11 p11
            refine wph_nil ⟨till_no rfl, ?_⟩
            refine wpi_done (by decide +kernel) ?_
            have x11 : Ext w w11 := x1.trans (x1_10.move p11.mv (by rintro k ⟨⟩; exact hb))
            have h11 : w11.heap[b]? = some (.cells [str (fold r.name), .int .i64 r.kind, .int .i64 (min r.ttl l[k].ttl), y].toArray 55 (0, 0)) := p11.this
            have ho11 := (ho8.ext (x9.trans x10)).put p11 hbz
            have hz4 : w4.heap.size ≤ w11.heap.size := by
              have a1 := hx6.size
              have a2 := (x9.trans x10).size
              have a3 := p11.size
              omega
            have hz9 : b < w9.heap.size := by
              have a1 := hx6.size
              have a2 := x9.size
              omega
            have sy : (y = x ∧ textS r.data l[k].data = l[k].data) ∨ Own w9.heap.size 1 9 w11 y (tcells (textS r.data l[k].data)) := by
              rcases hy with hy | hy
              · exact .inl hy
              · exact .inr (hy.put p11 hz9)
            have hfy : From B y := by
              rcases sy with ⟨rfl, _⟩ | sy
              · exact hcf _ (List.mem_of_getElem? hc1) _ (by simp)
              · exact sy.from' (by have a1 := hx6.size; have a2 := x9.size; omega)
            have hb11 := pts_block h11
            clear hb8 hp8 hpp8 p11 h10 h8 hv8
            repeat' (first | ((with_reducible refine o_s ?_); (first | (refine o_1 ?_; refine o_2 ?_) | (refine o_g ?_; first | refine o_u ?_ | refine o_k ?_ | refine o_n ?_ | refine o_v ?_ | ((first | refine o_G ?_ ?_ | refine o_N ?_ ?_) <;> intro hc)))) | ((fail_if_success (with_reducible refine o_s ?_)); go_step))
            refine ap1 [str (fold r.name), .int .i64 r.kind, .int .i64 (min r.ttl l[k].ttl), y] x11 ho11 (by rw [List.length_take]; omega) ?_ (by exact ⟨rfl, rfl, rfl, by intro u hu; simp only [List.mem_cons, List.not_mem_nil, or_false] at hu; rcases hu with rfl | rfl | rfl | rfl <;> first | rfl | exact hy1⟩) (hB := x4.size) (hBw := hz4)
            intro s12 v12 w12 w13 x12 m13 x13 o13
            refine gset ?_
            have hv13 := hv1.ext x13
            have sy13 : (y = x ∧ textS r.data l[k].data = l[k].data) ∨ Own w9.heap.size 1 9 w13 y (tcells (textS r.data l[k].data)) := by
              rcases sy with sy | sy
              · exact .inl sy
              · exact .inr ((sy.ext x12).mv m13 ((sy.ext x12).ne (ho11.ext x12) (by decide)))
            repeat' (first | ((with_reducible refine o_s ?_); (first | (refine o_1 ?_; refine o_2 ?_) | (refine o_g ?_; first | refine o_u ?_ | refine o_k ?_ | refine o_n ?_ | refine o_v ?_ | ((first | refine o_G ?_ ?_ | refine o_N ?_ ?_) <;> intro hc)))) | ((fail_if_success (with_reducible refine o_s ?_)); go_step))
            have hcut := hv13.cut (m := k + 1) (n := css.length) (by omega) (Nat.le_refl _)
            rw [List.take_length] at hcut
            have hc13 := hcs.ext x13
            refine wpl_appendO (B := w4.heap.size) rfl o13 rfl hcut ((hc13.drop (k + 1)).cell) (Nat.le_trans hz4 (by have := x12.size; have := m13.size; omega)) (by simp only [List.length_append, List.length_take, List.length_drop, List.length_cons, List.length_nil]; omega) ?_
            intro v14 w14 o14 m14 _
            refine gset ?_
            have x14 := o13.mvx m14 x13 x4.size
            have hc14 := hcs.ext x14
            have sy14 : Sl 1 w14 y (tcells (textS r.data l[k].data)) := by
              rcases sy13 with ⟨rfl, he⟩ | sy13
              · rw [he]; exact hc2w.ext x14
              · exact (sy13.mv m14 (sy13.ne o13 (by decide))).sl
            repeat' (first | ((with_reducible refine o_s ?_); (first | (refine o_1 ?_; refine o_2 ?_) | (refine o_g ?_; first | refine o_u ?_ | refine o_k ?_ | refine o_n ?_ | refine o_v ?_ | ((first | refine o_G ?_ ?_ | refine o_N ?_ ?_) <;> intro hc)))) | ((fail_if_success (with_reducible refine o_s ?_)); go_step))
            go_ret
            refine ⟨_, rfl, x14, ?_⟩
            rw [hput, show l.take k ++ ⟨fold r.name, r.kind, min r.ttl l[k].ttl, textS r.data l[k].data⟩ :: l.drop (k + 1) = l.take k ++ [⟨fold r.name, r.kind, min r.ttl l[k].ttl, textS r.data l[k].data⟩] ++ l.drop (k + 1) by simp]
            exact ⟨_, o14.sl, o14.from' hB4, ((hc14.take k).append (SetsC.one (s := ⟨fold r.name, r.kind, min r.ttl l[k].ttl, textS r.data l[k].data⟩) sy14)).append (hc14.drop (k + 1)), ((hcf.take k).append (FromC.one hfy)).append (hcf.drop (k + 1))⟩
      · have : k = l.length := by omega
        subst this
        rw [List.drop_length, putS] at hput
        repeat' (first | ((with_reducible refine o_s ?_); (first | (refine o_1 ?_; refine o_2 ?_) | (refine o_g ?_; first | refine o_u ?_ | refine o_k ?_ | refine o_n ?_ | refine o_v ?_ | ((first | refine o_G ?_ ?_ | refine o_N ?_ ?_) <;> intro hc)))) | ((fail_if_success (with_reducible refine o_s ?_)); go_step))
        refine wpq_region (by decide +kernel) (by decide +kernel) ?_
        repeat' (first | ((with_reducible refine q_s ?_); (first | (refine q_1 ?_; refine q_2 ?_) | (refine q_g ?_; first | refine q_u ?_ | refine q_k ?_ | refine q_v ?_))) | (with_reducible refine q_n ?_))
        rw [show decide ((l.length : Int) < (css.length : Int)) = false by simp; omega]
        repeat' (first | ((with_reducible refine q_s ?_); (first | (refine q_1 ?_; refine q_2 ?_) | (refine q_g ?_; first | refine q_u ?_ | refine q_k ?_ | refine q_v ?_))) | (with_reducible refine q_n ?_))
        intro w5 x5
        repeat' (first | ((with_reducible refine o_s ?_); (first | (refine o_1 ?_; refine o_2 ?_) | (refine o_g ?_; first | refine o_u ?_ | refine o_k ?_ | refine o_n ?_ | refine o_v ?_ | ((first | refine o_G ?_ ?_ | refine o_N ?_ ?_) <;> intro hc)))) | ((fail_if_success (with_reducible refine o_s ?_)); go_step))
        have hv5 := hvr.ext x5
        have hb5 := hbr.ext x5
        refine wpq_region (by decide +kernel) (by decide +kernel) ?_
        repeat' (first | ((with_reducible refine q_s ?_); (first | (refine q_1 ?_; refine q_2 ?_) | (refine q_g ?_; first | refine q_u ?_ | refine q_k ?_ | refine q_v ?_))) | (with_reducible refine q_n ?_))
        rw [show decide ((l.length : Int) < (css.length : Int)) = false by simp; omega]
        repeat' (first | ((with_reducible refine q_s ?_); (first | (refine q_1 ?_; refine q_2 ?_) | (refine q_g ?_; first | refine q_u ?_ | refine q_k ?_ | refine q_v ?_))) | (with_reducible refine q_n ?_))
        intro w6 x6
        have hx6 := (hx.trans x5).trans x6
        have ho6 := (ho.ext x5).ext x6
        have hb6 := hb5.ext x6
        repeat' (first | ((with_reducible refine o_s ?_); (first | (refine o_1 ?_; refine o_2 ?_) | (refine o_g ?_; first | refine o_u ?_ | refine o_k ?_ | refine o_n ?_ | refine o_v ?_ | ((first | refine o_G ?_ ?_ | refine o_N ?_ ?_) <;> intro hc)))) | ((fail_if_success (with_reducible refine o_s ?_)); go_step))
        refine ap1 [str (fold r.name), .int .i64 r.kind, .int .i64 r.ttl, vS] hx6 ho6 (by rw [List.length_take]; omega) ?_ (by exact ⟨rfl, rfl, rfl, by intro u hu; simp only [List.mem_cons, List.not_mem_nil, or_false] at hu; rcases hu with rfl | rfl | rfl | rfl <;> first | rfl | exact hs4.one⟩)
        intro s7 v7 w7 w8 x7 _ x8 o8
        refine gset ?_
        have hv8 := hv1.ext (x4.trans x8)
        repeat' (first | ((with_reducible refine o_s ?_); (first | (refine o_1 ?_; refine o_2 ?_) | (refine o_g ?_; first | refine o_u ?_ | refine o_k ?_ | refine o_n ?_ | refine o_v ?_ | ((first | refine o_G ?_ ?_ | refine o_N ?_ ?_) <;> intro hc)))) | ((fail_if_success (with_reducible refine o_s ?_)); go_step))
        have hcut := hv8.cut (m := l.length) (n := css.length) (by omega) (Nat.le_refl _)
        rw [List.take_length] at hcut
        have hc8 := hcs.ext (x4.trans x8)
        refine wpl_appendO (B := w4.heap.size) rfl o8 rfl hcut ((hc8.drop l.length).cell) x8.size (by simp only [List.length_append, List.length_take, List.length_drop, List.length_cons, List.length_nil]; omega) ?_
        intro v9 w9 o9 m9 _
        refine gset ?_
        have x9 := o8.mvx m9 x8 (Nat.le_refl _)
        have hc9 := hcs.ext (x4.trans x9)
        repeat' (first | ((with_reducible refine o_s ?_); (first | (refine o_1 ?_; refine o_2 ?_) | (refine o_g ?_; first | refine o_u ?_ | refine o_k ?_ | refine o_n ?_ | refine o_v ?_ | ((first | refine o_G ?_ ?_ | refine o_N ?_ ?_) <;> intro hc)))) | ((fail_if_success (with_reducible refine o_s ?_)); go_step))
        go_ret
        refine ⟨_, rfl, x4.trans x9, ?_⟩
        rw [hput, show l.take l.length ++ [recSet r] = l.take l.length ++ [recSet r] ++ l.drop l.length by simp]
        exact ⟨_, o9.sl, o9.from' hB4, ((hc9.take l.length).append (SetsC.one (s := recSet r) (hs4.ext x9))).append (hc9.drop l.length), ((hcf.take l.length).append (FromC.one hf4)).append (hcf.drop l.length)⟩
def putAll (l : List Rec) : List RSet := l.foldl (fun gs r => putS r gs) []
theorem putAll_succ {l : List Rec} {k : Nat} (h : k < l.length) : putAll (l.take (k + 1)) = putS l[k] (putAll (l.take k)) := by
  rw [putAll, List.take_add_one, List.getElem?_eq_getElem h, Option.toList_some, List.foldl_append]
  rfl
theorem putS_len (r : Rec) : ∀ gs : List RSet, (putS r gs).length ≤ gs.length + 1
  | [] => by simp [putS]
  | g :: gs => by
    have := putS_len r gs
    rw [putS]
    split
    · simp; omega
    · split <;> simp
theorem putS_data (r : Rec) (n : Nat) : ∀ gs : List RSet, (∀ s ∈ gs, s.data.length ≤ n) → ∀ s ∈ putS r gs, s.data.length ≤ n + 1
  | [], _, s, h => by
    have : s = recSet r := by simpa [putS] using h
    subst this; simp [recSet]
  | g :: gs, hn, s, h => by
    have hg := hn g (by simp)
    have hn' : ∀ s ∈ gs, s.data.length ≤ n := fun s hs => hn s (by simp [hs])
    rw [putS] at h
    split at h
    · rcases List.mem_cons.1 h with rfl | h
      · omega
      · exact putS_data r n gs hn' s h
    · split at h
      · rcases List.mem_cons.1 h with rfl | h
        · simp [recSet]
        · have := hn s h; omega
      · rcases List.mem_cons.1 h with rfl | h
        · have := textS_len r.data g.data
          show (textS r.data g.data).length ≤ n + 1
          omega
        · have := hn' s h; omega
theorem putAll_bounds (l : List Rec) : ∀ k, k ≤ l.length → (putAll (l.take k)).length ≤ k ∧ ∀ s ∈ putAll (l.take k), s.data.length ≤ k
  | 0, _ => by simp [putAll]
  | k + 1, h => by
    obtain ⟨h1, h2⟩ := putAll_bounds l k (by omega)
    rw [putAll_succ (show k < l.length by omega)]
    have := putS_len (l[k]'(by omega)) (putAll (l.take k))
    exact ⟨by omega, putS_data _ k _ h2⟩
def refE (l : List Rec) : Int := if l.all okR = false then 1 else if 200 < (putAll l).length then 4 else if (putAll l).any big = true then 4 else 0
def RefR (B : Nat) (l : List Rec) (r : Value) (w' : World) : Prop := if refE l = 0 then ∃ v, r = .tuple #[v, .int .i64 0] ∧ SetsO B w' v (putAll l) else r = .tuple #[.slice none 0 0, .int .i64 (refE l)]
set_option maxHeartbeats 6000000 in
/-- lodestarref07.Group -/
theorem r7_Group (v : Value) (l : List Rec) (w : World) (hv : Sl 4 w v (rcells l)) (hl : l.length ≤ 10000) (hd : ∀ r ∈ l, r.data.length ≤ 4611686018427387904) : Calls Tryz.prog 111 #[v] w (Ret w (RefR w.heap.size l)) := by
  have hlen := rcells_length l
  go_enter Tryz.func111, Tryz.ntmps111
  repeat' (first | ((with_reducible refine o_s ?_); (first | (refine o_1 ?_; refine o_2 ?_) | (refine o_g ?_; first | refine o_u ?_ | refine o_k ?_ | refine o_n ?_ | refine o_v ?_ | ((first | refine o_G ?_ ?_ | refine o_N ?_ ?_) <;> intro hc)))) | ((fail_if_success (with_reducible refine o_s ?_)); go_step))
  go_loopw [4] (fun i wr => ∃ k : Nat, k ≤ l.length ∧ i = .int .i64 k ∧ Ext w wr ∧ (l.take k).all okR = true) (fun i _ => l.length - (intOf i).toNat)
  case atStart => exact ⟨0, Nat.zero_le _, rfl, Ext.refl _, by simp⟩
  case round =>
    obtain ⟨k, hk, rfl, hx, hall⟩ := hrel
    have hvr := hv.ext hx
    by_cases hlt : k < l.length
    · have hp := hvr.elem (rcells_at hlt)
      repeat' (first | ((with_reducible refine o_s ?_); (first | (refine o_1 ?_; refine o_2 ?_) | (refine o_g ?_; first | refine o_u ?_ | refine o_k ?_ | refine o_n ?_ | refine o_v ?_ | ((first | refine o_G ?_ ?_ | refine o_N ?_ ?_) <;> intro hc)))) | ((fail_if_success (with_reducible refine o_s ?_)); go_step))
      refine wpl_callV (enters_of Tryz.func154 rfl rfl) rfl rfl (r3_Check l[k] _ (hd _ (List.getElem_mem hlt))) ?_; intro w2 x2; refine gset ?_
      repeat' (first | ((with_reducible refine o_s ?_); (first | (refine o_1 ?_; refine o_2 ?_) | (refine o_g ?_; first | refine o_u ?_ | refine o_k ?_ | refine o_n ?_ | refine o_v ?_ | ((first | refine o_G ?_ ?_ | refine o_N ?_ ?_) <;> intro hc)))) | ((fail_if_success (with_reducible refine o_s ?_)); go_step))
      · have hc := ‹(!decide (checkR l[k] = 0)) = true›
        have hE : refE l = 1 := by
          have : l.all okR = false := all_no hlt (by simp [okR] at hc ⊢; exact hc)
          rw [refE, if_pos this]
        go_ret2
        refine ⟨_, rfl, hx.trans x2, ?_⟩
        unfold RefR
        rw [hE, if_neg (by omega)]
        rfl
      · have hc := ‹(!decide (checkR l[k] = 0)) = false›
        exact ⟨⟨k + 1, by omega, by go_num, hx.trans x2, all_take hlt hall (by simp [okR] at hc ⊢; exact hc)⟩, by simp [intOf]; omega⟩
    · have : k = l.length := by omega
      subst this
      rw [List.take_length] at hall
      repeat' (first | ((with_reducible refine o_s ?_); (first | (refine o_1 ?_; refine o_2 ?_) | (refine o_g ?_; first | refine o_u ?_ | refine o_k ?_ | refine o_n ?_ | refine o_v ?_ | ((first | refine o_G ?_ ?_ | refine o_N ?_ ?_) <;> intro hc)))) | ((fail_if_success (with_reducible refine o_s ?_)); go_step))
      go_loopw [5, 6] (fun o i wq => ∃ k : Nat, k ≤ l.length ∧ i = .int .i64 k ∧ Ext w wq ∧ SetsO w.heap.size wq o (putAll (l.take k))) (fun _ i _ => l.length - (intOf i).toNat)
      case atStart => exact ⟨0, Nat.zero_le _, rfl, hx, SetsO.nil _ _⟩
      case round =>
        obtain ⟨k, hk, rfl, hxq, ho⟩ := hrel
        have hvq := hv.ext hxq
        by_cases hlt : k < l.length
        · have hp := hvq.elem (rcells_at hlt)
          obtain ⟨q1, q2⟩ := putAll_bounds l k hk
          repeat' (first | ((with_reducible refine o_s ?_); (first | (refine o_1 ?_; refine o_2 ?_) | (refine o_g ?_; first | refine o_u ?_ | refine o_k ?_ | refine o_n ?_ | refine o_v ?_ | ((first | refine o_G ?_ ?_ | refine o_N ?_ ?_) <;> intro hc)))) | ((fail_if_success (with_reducible refine o_s ?_)); go_step))
          refine wpl_callR (enters_of Tryz.func155 rfl rfl) rfl rfl (r7_put u5 (putAll (l.take k)) l[k] _ ho hxq.size (by omega) (fun s hs => by have := q2 s hs; omega)) ?_
          intro o2 w2 x2 ho2
          rw [← putAll_succ hlt] at ho2
          refine gset ?_
          repeat' (first | ((with_reducible refine o_s ?_); (first | (refine o_1 ?_; refine o_2 ?_) | (refine o_g ?_; first | refine o_u ?_ | refine o_k ?_ | refine o_n ?_ | refine o_v ?_ | ((first | refine o_G ?_ ?_ | refine o_N ?_ ?_) <;> intro hc)))) | ((fail_if_success (with_reducible refine o_s ?_)); go_step))
          exact ⟨⟨k + 1, by omega, by go_num, hxq.trans x2, ho2⟩, by simp [intOf]; omega⟩
        · have : k = l.length := by omega
          subst this
          rw [List.take_length] at ho
          obtain ⟨css, hs1, hs2⟩ := ho.sets.rows
          have hsl := hs2.len
          repeat' (first | ((with_reducible refine o_s ?_); (first | (refine o_1 ?_; refine o_2 ?_) | (refine o_g ?_; first | refine o_u ?_ | refine o_k ?_ | refine o_n ?_ | refine o_v ?_ | ((first | refine o_G ?_ ?_ | refine o_N ?_ ?_) <;> intro hc)))) | ((fail_if_success (with_reducible refine o_s ?_)); go_step))
          · have h200 : 200 < (putAll l).length := by omega
            have hE : refE l = 4 := by rw [refE, if_neg (by simp [hall]), if_pos h200]
            go_ret2
            refine ⟨_, rfl, hxq, ?_⟩
            unfold RefR
            rw [hE, if_neg (by omega)]
            rfl
          · have h200 : ¬ 200 < (putAll l).length := by omega
            go_loopw [7] (fun i w5 => ∃ k : Nat, k ≤ (putAll l).length ∧ i = .int .i64 k ∧ Ext wr w5 ∧ ((putAll l).take k).all (fun s => !big s) = true) (fun i _ => (putAll l).length - (intOf i).toNat)
            case atStart => exact ⟨0, Nat.zero_le _, rfl, Ext.refl _, by simp⟩
            case round =>
              obtain ⟨k, hk, rfl, hx5, hall5⟩ := hrel
              have hs5 := hs1.ext hx5
              by_cases hlt : k < (putAll l).length
              · obtain ⟨x, hc1, hc2⟩ := (hs2.ext hx5).at' k _ (List.getElem?_eq_getElem hlt)
                have hp := hs5.elem hc1
                have hdl := tcells_length (putAll l)[k].data
                repeat' (first | ((with_reducible refine o_s ?_); (first | (refine o_1 ?_; refine o_2 ?_) | (refine o_g ?_; first | refine o_u ?_ | refine o_k ?_ | refine o_n ?_ | refine o_v ?_ | ((first | refine o_G ?_ ?_ | refine o_N ?_ ?_) <;> intro hc)))) | ((fail_if_success (with_reducible refine o_s ?_)); go_step))
                · have hb : (fun s => !big s) (putAll l)[k] = false := by simp [big]; omega
                  have hE : refE l = 4 := by
                    have hany : (putAll l).any big = true := List.any_eq_true.2 ⟨_, List.getElem_mem hlt, by simpa using hb⟩
                    rw [refE, if_neg (by simp [hall]), if_neg h200, if_pos hany]
                  go_ret2
                  refine ⟨_, rfl, hxq.trans hx5, ?_⟩
                  unfold RefR
                  rw [hE, if_neg (by omega)]
                  rfl
                · exact ⟨⟨k + 1, by omega, by go_num, hx5, all_take hlt hall5 (by simp [big]; omega)⟩, by simp [intOf]; omega⟩
              · have : k = (putAll l).length := by omega
                subst this
                rw [List.take_length] at hall5
                have hE : refE l = 0 := by
                  have hany : ¬ (putAll l).any big = true := by
                    intro h
                    obtain ⟨s, hs, hb⟩ := List.any_eq_true.1 h
                    have := List.all_eq_true.1 hall5 s hs
                    simp [hb] at this
                  rw [refE, if_neg (by simp [hall]), if_neg h200, if_neg hany]
                repeat' (first | ((with_reducible refine o_s ?_); (first | (refine o_1 ?_; refine o_2 ?_) | (refine o_g ?_; first | refine o_u ?_ | refine o_k ?_ | refine o_n ?_ | refine o_v ?_ | ((first | refine o_G ?_ ?_ | refine o_N ?_ ?_) <;> intro hc)))) | ((fail_if_success (with_reducible refine o_s ?_)); go_step))
                go_ret2
                refine ⟨_, rfl, hxq.trans hx5, ?_⟩
                unfold RefR
                rw [if_pos hE]
                exact ⟨_, rfl, ho.ext hx5⟩
/-! ### plain laws: what is grouped, grouped again -/
theorem mem_addTo : ∀ {gs : List RSet} {r : Rec} {s : RSet}, Apart gs → s ∈ addTo gs r → (s ∈ gs ∧ match1 s r = false) ∨ (∃ t ∈ gs, match1 t r = true ∧ s = bump t r) ∨ ((∀ t ∈ gs, match1 t r = false) ∧ s = ⟨fold r.name, r.kind, r.ttl, [r.data]⟩)
  | [], r, s, _, h => by
    right; right
    exact ⟨by simp, by simpa [addTo] using h⟩
  | a :: l, r, s, hd, h => by
    obtain ⟨p1, p2⟩ := List.pairwise_cons.1 (apart_pw.1 hd)
    by_cases hm : match1 a r = true
    · simp only [addTo, hm, if_true, List.mem_cons] at h
      rcases h with h | h
      · exact .inr (.inl ⟨a, by simp, hm, h⟩)
      · refine .inl ⟨by simp [h], ?_⟩
        cases hs : match1 s r with
        | false => rfl
        | true =>
          exfalso
          simp only [match1, Bool.and_eq_true, decide_eq_true_eq] at hs hm
          exact p1 s h ⟨by rw [hm.1, hs.1], by rw [hm.2, hs.2]⟩
    · have hm' : match1 a r = false := by simpa using hm
      simp only [addTo, hm', Bool.false_eq_true, if_false, List.mem_cons] at h
      rcases h with rfl | h
      · exact .inl ⟨by simp, hm'⟩
      · rcases mem_addTo (apart_pw.2 p2) h with ⟨h1, h2⟩ | ⟨t, h1, h2, h3⟩ | ⟨h1, h2⟩
        · exact .inl ⟨by simp [h1], h2⟩
        · exact .inr (.inl ⟨t, by simp [h1], h2, h3⟩)
        · refine .inr (.inr ⟨?_, h2⟩)
          intro t ht
          rcases List.mem_cons.1 ht with rfl | ht
          · exact hm'
          · exact h1 t ht
/-- what a set is, of the records at hand -/
structure Ch (L : List Rec) (s : RSet) : Prop where
  dat : ∀ d, d ∈ s.data ↔ ∃ r ∈ L, match1 s r = true ∧ r.data = d
  ttl : ∃ r ∈ L, match1 s r = true ∧ r.ttl = s.ttl
  low : ∀ r ∈ L, match1 s r = true → s.ttl ≤ r.ttl
theorem Ch.miss {L : List Rec} {s : RSet} {r : Rec} (h : Ch L s) (hm : match1 s r = false) : Ch (L ++ [r]) s where
  dat d := by
    rw [h.dat]
    constructor
    · rintro ⟨q, h1, h2⟩; exact ⟨q, by simp [h1], h2⟩
    · rintro ⟨q, h1, h2, h3⟩
      rcases List.mem_append.1 h1 with h1 | h1
      · exact ⟨q, h1, h2, h3⟩
      · obtain rfl := List.mem_singleton.1 h1
        rw [hm] at h2; cases h2
  ttl := let ⟨q, h1, h2⟩ := h.ttl; ⟨q, by simp [h1], h2⟩
  low q h1 h2 := by
    rcases List.mem_append.1 h1 with h1 | h1
    · exact h.low q h1 h2
    · obtain rfl := List.mem_singleton.1 h1
      rw [hm] at h2; cases h2
theorem Ch.bump {L : List Rec} {s : RSet} {r : Rec} (h : Ch L s) (hm : match1 s r = true) : Ch (L ++ [r]) (X.bump s r) where
  dat d := by
    show d ∈ s.data ++ [r.data] ↔ ∃ q ∈ L ++ [r], match1 s q = true ∧ q.data = d
    rw [List.mem_append, h.dat, List.mem_singleton]
    constructor
    · rintro (⟨q, h1, h2⟩ | rfl)
      · exact ⟨q, by simp [h1], h2⟩
      · exact ⟨r, by simp, hm, rfl⟩
    · rintro ⟨q, h1, h2, h3⟩
      rcases List.mem_append.1 h1 with h1 | h1
      · exact .inl ⟨q, h1, h2, h3⟩
      · obtain rfl := List.mem_singleton.1 h1
        exact .inr h3.symm
  ttl := by
    show ∃ q ∈ L ++ [r], match1 s q = true ∧ q.ttl = min s.ttl r.ttl
    obtain ⟨q, h1, h2, h3⟩ := h.ttl
    rcases Int.le_total s.ttl r.ttl with hl | hl
    · exact ⟨q, by simp [h1], h2, by rw [h3]; omega⟩
    · exact ⟨r, by simp, hm, by omega⟩
  low q h1 h2 := by
    show min s.ttl r.ttl ≤ q.ttl
    rcases List.mem_append.1 h1 with h1 | h1
    · have := h.low q h1 h2
      omega
    · obtain rfl := List.mem_singleton.1 h1
      omega
theorem Ch.new {L : List Rec} {r : Rec} (h : ∀ q ∈ L, match1 ⟨fold r.name, r.kind, r.ttl, [r.data]⟩ q = false) : Ch (L ++ [r]) ⟨fold r.name, r.kind, r.ttl, [r.data]⟩ where
  dat d := by
    rw [List.mem_singleton]
    constructor
    · rintro rfl; exact ⟨r, by simp, by simp [match1], rfl⟩
    · rintro ⟨q, h1, h2, h3⟩
      rcases List.mem_append.1 h1 with h1 | h1
      · rw [h q h1] at h2; cases h2
      · obtain rfl := List.mem_singleton.1 h1
        exact h3.symm
  ttl := ⟨r, by simp, by simp [match1], rfl⟩
  low q h1 h2 := by
    rcases List.mem_append.1 h1 with h1 | h1
    · rw [h q h1] at h2; cases h2
    · obtain rfl := List.mem_singleton.1 h1
      exact Int.le_refl _
theorem gather_ch (l : List Rec) : ∀ k, k ≤ l.length → ∀ s ∈ gather (l.take k), Ch (l.take k) s
  | 0, _, s, h => by simp [gather] at h
  | k + 1, hk, s, h => by
    have hlt : k < l.length := by omega
    have e : l.take (k + 1) = l.take k ++ [l[k]] := by simp
    rw [gather_snoc hlt] at h
    rw [e]
    have ih := gather_ch l k (by omega)
    rcases mem_addTo (gather_apart _) h with ⟨h1, h2⟩ | ⟨t, h1, h2, rfl⟩ | ⟨h1, rfl⟩
    · exact (ih s h1).miss h2
    · exact (ih t h1).bump h2
    · refine Ch.new fun q hq => ?_
      obtain ⟨t, ht, hm, _⟩ := gather_cov hq
      have := h1 t ht
      cases hx : match1 ⟨fold l[k].name, l[k].kind, l[k].ttl, [l[k].data]⟩ q with
      | false => rfl
      | true =>
        exfalso
        simp only [match1, Bool.and_eq_true, decide_eq_true_eq] at hx hm
        have h5 : match1 t l[k] = true := by
          simp only [match1, Bool.and_eq_true, decide_eq_true_eq]
          exact ⟨by rw [hm.1, hx.1], by rw [hm.2, hx.2]⟩
        rw [this] at h5; cases h5
theorem Ch.norm {L : List Rec} {s : RSet} (h : Ch L s) : Ch L (X.norm s) where
  dat d := by
    show d ∈ nub s.data ↔ ∃ r ∈ L, match1 s r = true ∧ r.data = d
    rw [mem_nub, h.dat]
  ttl := h.ttl
  low := h.low
theorem groups_ch {l : List Rec} {s : RSet} (h : s ∈ groups l) : Ch l s ∧ s.data.Pairwise (· < ·) := by
  obtain ⟨u, hu, rfl⟩ := List.mem_map.1 h
  have := gather_ch l l.length (Nat.le_refl _)
  rw [List.take_length] at this
  exact ⟨(this u hu).norm, strict_nub _⟩
theorem Ch.uniq {L : List Rec} {s t : RSet} (h : Ch L s) (k : Ch L t) (hs : s.data.Pairwise (· < ·)) (ht : t.data.Pairwise (· < ·)) (hn : s.name = t.name) (hk : s.kind = t.kind) : s = t := by
  have hm : ∀ r, match1 s r = match1 t r := fun r => by rw [match1, match1, hn, hk]
  have hd : s.data = t.data := strict_eq hs ht fun d => by
    rw [h.dat, k.dat]
    simp only [hm]
  have ha : s.ttl = t.ttl := by
    obtain ⟨q, h1, h2, h3⟩ := h.ttl
    obtain ⟨q', k1, k2, k3⟩ := k.ttl
    have e1 := k.low q h1 (by rw [← hm]; exact h2)
    have e2 := h.low q' k1 (by rw [hm]; exact k2)
    omega
  cases s; cases t
  simp_all
def cmpG (s t : RSet) : Int := cmpSet s.name t.name s.kind t.kind
theorem tpoG : TPO cmpG := tpo_cmpSet.comap fun s : RSet => (s.name, s.kind)
def SO (gs : List RSet) : Prop := gs.Pairwise fun s t => cmpG s t < 0
def newS (r : Rec) (t : RSet) : RSet := ⟨fold r.name, r.kind, min r.ttl t.ttl, textS r.data t.data⟩
theorem ahead_G (a b : RSet) : aheadS a b = decide (cmpG a b < 0) := ahead_cmp a b
theorem match_key {s : RSet} {r : Rec} : match1 s r = true ↔ s.name = fold r.name ∧ s.kind = r.kind := by simp [match1]
theorem cmpG_key {s t u : RSet} (hn : s.name = t.name) (hk : s.kind = t.kind) : cmpG u s = cmpG u t ∧ cmpG s u = cmpG t u := by
  unfold cmpG; rw [hn, hk]; exact ⟨rfl, rfl⟩
theorem no_match {s : RSet} {r : Rec} (h : cmpG s (recSet r) ≠ 0) : match1 s r = false := by
  cases hm : match1 s r with
  | false => rfl
  | true =>
    obtain ⟨h1, h2⟩ := match_key.1 hm
    exact absurd (by rw [(cmpG_key (t := recSet r) h1 h2).2]; exact tpoG.refl _) h
theorem mem_putS {r : Rec} (hr : Small (fold r.name)) : ∀ {gs : List RSet} {s : RSet}, SO gs → (∀ g ∈ gs, Small g.name) → s ∈ putS r gs →
    (s ∈ gs ∧ match1 s r = false) ∨ (∃ t ∈ gs, match1 t r = true ∧ s = newS r t) ∨ ((∀ t ∈ gs, match1 t r = false) ∧ s = recSet r)
  | [], s, _, _, h => by
    right; right
    exact ⟨by simp, by simpa [putS] using h⟩
  | g :: gs, s, hso, hsm, h => by
    obtain ⟨p1, p2⟩ := List.pairwise_cons.1 hso
    have hg := hsm g (by simp)
    rw [putS, ahead_G, ahead_G] at h
    by_cases h1 : cmpG g (recSet r) < 0
    · rw [if_pos (decide_eq_true h1)] at h
      have m1 : match1 g r = false := no_match (by omega)
      rcases List.mem_cons.1 h with rfl | h
      · exact .inl ⟨by simp, m1⟩
      · rcases mem_putS hr p2 (fun x hx => hsm x (by simp [hx])) h with ⟨a, b⟩ | ⟨t, a, b, c⟩ | ⟨a, b⟩
        · exact .inl ⟨by simp [a], b⟩
        · exact .inr (.inl ⟨t, by simp [a], b, c⟩)
        · refine .inr (.inr ⟨fun t ht => ?_, b⟩)
          rcases List.mem_cons.1 ht with rfl | ht
          · exact m1
          · exact a t ht
    · rw [if_neg (by simpa using h1)] at h
      by_cases h2 : cmpG (recSet r) g < 0
      · rw [if_pos (decide_eq_true h2)] at h
        have m1 : match1 g r = false := no_match (by have := tpoG.anti g (recSet r); omega)
        have m2 : ∀ t ∈ gs, match1 t r = false := fun t ht => no_match (by
          have := tpoG.ltt h2 (p1 t ht)
          have := tpoG.anti t (recSet r); omega)
        rcases List.mem_cons.1 h with rfl | h
        · refine .inr (.inr ⟨fun t ht => ?_, rfl⟩)
          rcases List.mem_cons.1 ht with rfl | ht
          · exact m1
          · exact m2 t ht
        · rcases List.mem_cons.1 h with rfl | h
          · exact .inl ⟨by simp, m1⟩
          · exact .inl ⟨by simp [h], m2 s h⟩
      · rw [if_neg (by simpa using h2)] at h
        have h0 : cmpG g (recSet r) = 0 := by have := tpoG.anti g (recSet r); omega
        obtain ⟨e1, e2⟩ := cmpSet_zero hg hr h0
        have mg : match1 g r = true := match_key.2 ⟨e1, e2⟩
        rcases List.mem_cons.1 h with rfl | h
        · exact .inr (.inl ⟨g, by simp, mg, rfl⟩)
        · refine .inl ⟨by simp [h], no_match ?_⟩
          have := p1 s h
          rw [(cmpG_key (t := recSet r) e1 e2).2] at this
          have := tpoG.anti s (recSet r); omega
theorem key_putS {r : Rec} : ∀ {gs : List RSet} {s : RSet}, s ∈ putS r gs → s ∈ gs ∨ (s.name = fold r.name ∧ s.kind = r.kind)
  | [], s, h => by
    right
    have : s = recSet r := by simpa [putS] using h
    subst this; exact ⟨rfl, rfl⟩
  | g :: gs, s, h => by
    rw [putS] at h
    split at h
    · rcases List.mem_cons.1 h with rfl | h
      · exact .inl (by simp)
      · rcases key_putS h with h | h
        · exact .inl (by simp [h])
        · exact .inr h
    · split at h
      · rcases List.mem_cons.1 h with rfl | h
        · exact .inr ⟨rfl, rfl⟩
        · exact .inl h
      · rcases List.mem_cons.1 h with rfl | h
        · exact .inr ⟨rfl, rfl⟩
        · exact .inl (by simp [h])
theorem so_putS {r : Rec} (hr : Small (fold r.name)) : ∀ {gs : List RSet}, SO gs → (∀ g ∈ gs, Small g.name) → SO (putS r gs)
  | [], _, _ => by simp [putS, SO]
  | g :: gs, hso, hsm => by
    obtain ⟨p1, p2⟩ := List.pairwise_cons.1 hso
    have hg := hsm g (by simp)
    rw [putS, ahead_G, ahead_G]
    by_cases h1 : cmpG g (recSet r) < 0
    · rw [if_pos (decide_eq_true h1)]
      refine List.pairwise_cons.2 ⟨fun s hs => ?_, so_putS hr p2 fun x hx => hsm x (by simp [hx])⟩
      rcases key_putS hs with h | ⟨a, b⟩
      · exact p1 s h
      · rw [(cmpG_key (t := recSet r) a b).1]; exact h1
    · rw [if_neg (by simpa using h1)]
      by_cases h2 : cmpG (recSet r) g < 0
      · rw [if_pos (decide_eq_true h2)]
        refine List.pairwise_cons.2 ⟨fun s hs => ?_, hso⟩
        rcases List.mem_cons.1 hs with rfl | hs
        · exact h2
        · exact tpoG.ltt h2 (p1 s hs)
      · rw [if_neg (by simpa using h2)]
        have h0 : cmpG g (recSet r) = 0 := by have := tpoG.anti g (recSet r); omega
        obtain ⟨e1, e2⟩ := cmpSet_zero hg hr h0
        refine List.pairwise_cons.2 ⟨fun s hs => ?_, p2⟩
        have := p1 s hs
        rw [(cmpG_key (s := g) (t := ⟨fold r.name, r.kind, min r.ttl g.ttl, textS r.data g.data⟩) e1 e2).2] at this
        exact this
/-! ### what is worked in one by one is what is grouped -/
theorem strict_textS {s : List UInt8} : ∀ {l : List (List UInt8)}, l.Pairwise (· < ·) → (textS s l).Pairwise (· < ·) ∧ ∀ x, x ∈ textS s l ↔ x = s ∨ x ∈ l
  | [], _ => by simp [textS]
  | y :: l, h => by
    obtain ⟨p1, p2⟩ := List.pairwise_cons.1 h
    obtain ⟨i1, i2⟩ := strict_textS (s := s) p2
    rw [textS]
    by_cases h1 : y < s
    · rw [if_pos (bless.2 h1)]
      refine ⟨List.pairwise_cons.2 ⟨fun x hx => ?_, i1⟩, fun x => ?_⟩
      · rcases (i2 x).1 hx with rfl | hx
        · exact h1
        · exact p1 x hx
      · simp only [List.mem_cons, i2]; exact or_left_comm
    · rw [if_neg (fun hb => h1 (bless.1 hb))]
      by_cases h2 : y = s
      · rw [if_pos h2]
        subst h2
        exact ⟨h, fun x => by simp⟩
      · rw [if_neg h2]
        have h3 : s < y := lt_of_le_ne (List.not_lt.1 h1) (fun e => h2 e.symm)
        refine ⟨List.pairwise_cons.2 ⟨fun x hx => ?_, h⟩, fun x => by simp⟩
        rcases List.mem_cons.1 hx with rfl | hx
        · exact h3
        · exact List.lt_trans h3 (p1 x hx)
theorem keep_putS {r : Rec} (hr : Small (fold r.name)) : ∀ {gs : List RSet}, (∀ g ∈ gs, Small g.name) → ∀ t ∈ gs, ∃ s ∈ putS r gs, s.name = t.name ∧ s.kind = t.kind
  | [], _, t, h => by simp at h
  | g :: gs, hsm, t, h => by
    have hg := hsm g (by simp)
    rw [putS, ahead_G, ahead_G]
    by_cases h1 : cmpG g (recSet r) < 0
    · rw [if_pos (decide_eq_true h1)]
      rcases List.mem_cons.1 h with rfl | h
      · exact ⟨t, by simp, rfl, rfl⟩
      · obtain ⟨s, a, b⟩ := keep_putS hr (fun x hx => hsm x (by simp [hx])) t h
        exact ⟨s, by simp [a], b⟩
    · rw [if_neg (by simpa using h1)]
      by_cases h2 : cmpG (recSet r) g < 0
      · rw [if_pos (decide_eq_true h2)]
        exact ⟨t, List.mem_cons_of_mem _ h, rfl, rfl⟩
      · rw [if_neg (by simpa using h2)]
        have h0 : cmpG g (recSet r) = 0 := by have := tpoG.anti g (recSet r); omega
        obtain ⟨e1, e2⟩ := cmpSet_zero hg hr h0
        rcases List.mem_cons.1 h with rfl | h
        · exact ⟨_, List.mem_cons_self, e1.symm, e2.symm⟩
        · exact ⟨t, by simp [h], rfl, rfl⟩
theorem new_putS (r : Rec) : ∀ gs : List RSet, ∃ s ∈ putS r gs, s.name = fold r.name ∧ s.kind = r.kind
  | [] => ⟨recSet r, by simp [putS], rfl, rfl⟩
  | g :: gs => by
    obtain ⟨s, a, b⟩ := new_putS r gs
    rw [putS]
    split
    · exact ⟨s, by simp [a], b⟩
    · split
      · exact ⟨recSet r, by simp, rfl, rfl⟩
      · exact ⟨_, List.mem_cons_self, rfl, rfl⟩
theorem Ch.newS {L : List Rec} {t : RSet} {r : Rec} (h : Ch L t) (hm : match1 t r = true) (ht : t.data.Pairwise (· < ·)) : Ch (L ++ [r]) (X.newS r t) := by
  have hb := h.bump hm
  obtain ⟨e1, e2⟩ := match_key.1 hm
  have hk : ∀ q, match1 (X.newS r t) q = match1 (X.bump t r) q := fun q => by simp only [match1, X.newS, X.bump, e1, e2]; rfl
  refine ⟨fun d => ?_, ?_, fun q hq hmq => ?_⟩
  · show d ∈ textS r.data t.data ↔ _
    rw [(strict_textS ht).2]
    have := hb.dat d
    simp only [hk]
    rw [← this]
    show _ ↔ d ∈ t.data ++ [r.data]
    simp [or_comm]
  · obtain ⟨q, a, b, c⟩ := hb.ttl
    exact ⟨q, a, by rw [hk]; exact b, by rw [c]; show min t.ttl r.ttl = min r.ttl t.ttl; omega⟩
  · have := hb.low q hq (by rw [← hk]; exact hmq)
    show min r.ttl t.ttl ≤ q.ttl
    have h2 : min t.ttl r.ttl ≤ q.ttl := this
    omega
theorem small_ok {r : Rec} (h : okR r = true) : Small (fold r.name) := by
  obtain ⟨ls, hl⟩ := Option.isSome_iff_exists.1 (ready_labels (r := r) (n := []) (by simpa [okR] using h)).1
  exact ⟨r.name, ls, hl, rfl⟩
theorem putAll_inv {l : List Rec} (hok : l.all okR = true) : ∀ k, k ≤ l.length → SO (putAll (l.take k)) ∧ (∀ s ∈ putAll (l.take k), Ch (l.take k) s ∧ s.data.Pairwise (· < ·) ∧ Small s.name) ∧ ∀ q ∈ l.take k, ∃ s ∈ putAll (l.take k), match1 s q = true
  | 0, _ => by simp [putAll, SO]
  | k + 1, h => by
    have hlt : k < l.length := by omega
    obtain ⟨i1, i2, i3⟩ := putAll_inv hok k (by omega)
    have hr := small_ok (List.all_eq_true.1 hok _ (List.getElem_mem hlt))
    have hsm : ∀ g ∈ putAll (l.take k), Small g.name := fun g hg => (i2 g hg).2.2
    have e : l.take (k + 1) = l.take k ++ [l[k]] := by simp
    rw [putAll_succ hlt, e]
    refine ⟨so_putS hr i1 hsm, fun s hs => ?_, fun q hq => ?_⟩
    · rcases mem_putS hr i1 hsm hs with ⟨a, b⟩ | ⟨t, a, b, rfl⟩ | ⟨a, rfl⟩
      · exact ⟨(i2 s a).1.miss b, (i2 s a).2⟩
      · exact ⟨(i2 t a).1.newS b (i2 t a).2.1, (strict_textS (i2 t a).2.1).1, hr⟩
      · refine ⟨Ch.new fun q hq => ?_, by simp [recSet], hr⟩
        obtain ⟨t, ht, hm⟩ := i3 q hq
        cases hx : match1 ⟨fold l[k].name, l[k].kind, l[k].ttl, [l[k].data]⟩ q with
        | false => rfl
        | true =>
          exfalso
          obtain ⟨x1, x2⟩ := match_key.1 hx
          obtain ⟨y1, y2⟩ := match_key.1 hm
          have h5 : match1 t l[k] = true := match_key.2 ⟨y1.trans x1.symm, y2.trans x2.symm⟩
          rw [a t ht] at h5; cases h5
    · rcases List.mem_append.1 hq with hq | hq
      · obtain ⟨t, ht, hm⟩ := i3 q hq
        obtain ⟨s, a, b, c⟩ := keep_putS hr hsm t ht
        obtain ⟨y1, y2⟩ := match_key.1 hm
        exact ⟨s, a, match_key.2 ⟨b.trans y1, c.trans y2⟩⟩
      · obtain rfl := List.mem_singleton.1 hq
        obtain ⟨s, a, b, c⟩ := new_putS l[k] (putAll (l.take k))
        exact ⟨s, a, match_key.2 ⟨b, c⟩⟩
theorem putAll_all {l : List Rec} (hok : l.all okR = true) : SO (putAll l) ∧ (∀ s ∈ putAll l, Ch l s ∧ s.data.Pairwise (· < ·) ∧ Small s.name) ∧ ∀ q ∈ l, ∃ s ∈ putAll l, match1 s q = true := by
  have := putAll_inv hok l.length (Nat.le_refl _)
  rwa [List.take_length] at this
theorem putAll_perm {l : List Rec} (hok : l.all okR = true) : (putAll l).Perm (groups l) := by
  obtain ⟨i1, i2, i3⟩ := putAll_all hok
  have n1 : (groups l).Nodup := (groups_apart _).imp fun h e => by subst e; exact h ⟨rfl, rfl⟩
  have n0 : (putAll l).Nodup := i1.imp fun h e => by subst e; have := tpoG.refl ‹RSet›; omega
  refine (List.perm_ext_iff_of_nodup n0 n1).2 fun s => ⟨fun hs => ?_, fun hs => ?_⟩
  · obtain ⟨hc, hst, _⟩ := i2 s hs
    obtain ⟨q, h1, h2, _⟩ := hc.ttl
    obtain ⟨t, ht, hm, _⟩ := gather_cov h1
    have hg : norm t ∈ groups l := List.mem_map_of_mem ht
    obtain ⟨hc', hst'⟩ := groups_ch hg
    obtain ⟨x1, x2⟩ := match_key.1 h2
    obtain ⟨y1, y2⟩ := match_key.1 hm
    have e := hc.uniq hc' hst hst' (x1.trans y1.symm) (x2.trans y2.symm)
    rw [e]; exact hg
  · obtain ⟨hc, hst⟩ := groups_ch hs
    obtain ⟨q, h1, h2, _⟩ := hc.ttl
    obtain ⟨t, ht, hm⟩ := i3 q h1
    obtain ⟨hc', hst', _⟩ := i2 t ht
    obtain ⟨x1, x2⟩ := match_key.1 h2
    obtain ⟨y1, y2⟩ := match_key.1 hm
    have e := hc.uniq hc' hst hst' (x1.trans y1.symm) (x2.trans y2.symm)
    rw [e]; exact ht
theorem putAll_sorted {l : List Rec} (hok : l.all okR = true) : Sorted (putAll l) := by
  obtain ⟨i1, _, _⟩ := putAll_all hok
  intro i j s t hij hi hj
  obtain ⟨a, rfl⟩ := List.getElem?_eq_some_iff.1 hi
  obtain ⟨b, rfl⟩ := List.getElem?_eq_some_iff.1 hj
  have h := List.pairwise_iff_getElem.1 i1 i j a b hij
  have := tpoG.anti (putAll l)[j] (putAll l)[i]
  show 0 ≤ cmpG (putAll l)[j] (putAll l)[i]
  omega
theorem ref_out {l : List Rec} (hok : l.all okR = true) {out : List RSet} (hp : out.Perm (groups l)) (hs : Sorted out) : out = putAll l :=
  sorted_one hok hp (putAll_perm hok) hs (putAll_sorted hok)
theorem ref_E (l : List Rec) : refE l = groupE l := by
  unfold refE groupE
  cases hok : l.all okR with
  | false => simp
  | true =>
    have hp := putAll_perm hok
    have hl := hp.length_eq
    have ha : (putAll l).any big = (groups l).any big := by
      cases h : (groups l).any big with
      | true =>
        obtain ⟨s, h1, h2⟩ := List.any_eq_true.1 h
        exact List.any_eq_true.2 ⟨s, hp.mem_iff.2 h1, h2⟩
      | false =>
        cases h' : (putAll l).any big with
        | false => rfl
        | true =>
          obtain ⟨s, h1, h2⟩ := List.any_eq_true.1 h'
          rw [List.any_eq_true.2 ⟨s, hp.mem_iff.1 h1, h2⟩] at h; cases h
    rw [ha, hl]
    simp only [Bool.true_eq_false, if_false]
    split <;> split <;> rfl
end Go.Proofs.X
