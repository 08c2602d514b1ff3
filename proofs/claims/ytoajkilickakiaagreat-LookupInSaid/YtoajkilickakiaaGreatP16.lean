/- Laws and walks that the proof of the statement is made of (part 16). -/
import Derived.Test.YtoajkilickakiaaGreatProg
import Derived.Lib.Hide
import Derived.Test.YtoajkilickakiaaGreatShelf
import Derived.Shelf.SlSortCmp.NoneTotal
import Derived.OwnWalk
import Derived.Shelf.RegionOpenPlain
import Derived.Lib.Strings
import Derived.Lib.Slices
import Derived.Lib.Walk
import Derived.Lib.Builder
import Derived.Lib.AppendStr
import Derived.Lib.UnsafeStr
import Derived.Lib.MakeNoZero
import Derived.WalkKit
import Derived.Laws.Externs
import Derived.Laws.IdiomCopy
import Derived.Laws.BitsLemmas
import GoSem.Claims
import Derived.StringKeys
import Derived.WalkMore
import Derived.Test.YtoajkilickakiaaGreatP1
import Derived.Test.YtoajkilickakiaaGreatP2
import Derived.Test.YtoajkilickakiaaGreatP3
import Derived.Test.YtoajkilickakiaaGreatP4
import Derived.Test.YtoajkilickakiaaGreatP5
import Derived.Test.YtoajkilickakiaaGreatP6
import Derived.Test.YtoajkilickakiaaGreatP7
import Derived.Test.YtoajkilickakiaaGreatP9
import Derived.Test.YtoajkilickakiaaGreatP10
import Derived.Test.YtoajkilickakiaaGreatP11
import Derived.Test.YtoajkilickakiaaGreatP12
import Derived.Test.YtoajkilickakiaaGreatP14
import Derived.Test.YtoajkilickakiaaGreatP15
set_option linter.unusedSimpArgs false
set_option linter.unusedVariables false
namespace Go.Proofs.X
open Go.RowKit
set_option maxRecDepth 100000
section
variable {P : Program} {w : World} {ts : List Value} {df : List Deferred} {d : Option Nat} {ty : TypeId} {ps : String} {af : Array Edge} {g : Option (Nat × Bool)}
def boolTy (P : Program) (t : TypeId) : Bool := match P.underlying t with | some .bool => true | _ => false
end
theorem few_bounds {l : List RSet} (h : fewS l = true) : l.length ≤ 25 ∧ (∀ s ∈ l, s.data.length ≤ 12) ∧ (∀ s ∈ l, s.name.length ≤ 300) ∧ ∀ s ∈ l, ∀ d ∈ s.data, d.length ≤ 300 := by
  simp only [fewS, Bool.and_eq_true, decide_eq_true_eq, List.all_eq_true, fewAt] at h
  exact ⟨h.1, fun s hs => (h.2 s hs).1.1, fun s hs => (h.2 s hs).1.2, fun s hs d hd => (h.2 s hs).2 d hd⟩
theorem recs_bound : ∀ {l : List RSet}, (∀ s ∈ l, s.data.length ≤ 12) → (recordsS l).length ≤ 12 * l.length
  | [], _ => by simp [recordsS]
  | s :: l, h => by
    have ih := recs_bound (l := l) fun t ht => h t (List.mem_cons_of_mem _ ht)
    have h1 := h s (by simp)
    have e : recordsS (s :: l) = recsOf s ++ recordsS l := by simp [recordsS]
    rw [e, List.length_append, List.length_cons]
    simp only [recsOf, List.length_map]
    omega
theorem fewz {o : List UInt8} {l : List RSet} (h : (decide ((o.length : Int) ≤ 300) && fewS l) = true) : l.length ≤ 25 ∧ (∀ s ∈ l, s.data.length ≤ 1000000) ∧ (∀ s ∈ l, ∀ d ∈ s.data, d.length ≤ 4611686018427387904) ∧ o.length ≤ 300 ∧ (∀ s ∈ l, s.data.length ≤ 12) ∧ (∀ s ∈ l, ∀ d ∈ s.data, d.length ≤ 300) := by
  simp only [Bool.and_eq_true, decide_eq_true_eq] at h
  obtain ⟨b1, b2, b3, b4⟩ := few_bounds h.2
  exact ⟨b1, fun s hs => by have := b2 s hs; omega, fun s hs d hd => by have := b4 s hs d hd; omega, by omega, b2, b4⟩
theorem d_liveV (w : World) : Calls Tryz.prog 20 #[] w (RetV w (.bool true)) := d_live w
theorem fewd {o : List UInt8} {l : List RSet} (h : (decide ((o.length : Int) ≤ 300) && fewS l) = true) : (recordsS l).length ≤ 300 ∧ (∀ s ∈ l, ∀ d ∈ s.data, d.length ≤ 1000000) ∧ ∀ r ∈ recordsS l, r.data.length ≤ 1000000 := by
  obtain ⟨a, _, _, _, b, c⟩ := fewz h
  have := recs_bound b
  have hd : ∀ s ∈ l, ∀ d ∈ s.data, d.length ≤ 1000000 := fun s hs d hd => by have := c s hs d hd; omega
  exact ⟨by omega, hd, recs_data hd⟩
theorem mkD_bounds {oa ob : List UInt8} {la lb : List RSet} (ha : (recordsS la).length ≤ 300) (hb : (recordsS lb).length ≤ 300) (da : ∀ r ∈ recordsS la, r.data.length ≤ 1000000) (db : ∀ r ∈ recordsS lb, r.data.length ≤ 1000000) :
    ((mkD oa la ob lb).gone.length ≤ 300 ∧ (mkD oa la ob lb).new.length ≤ 300) ∧ (∀ q ∈ (mkD oa la ob lb).gone, q.data.length ≤ 1000000) ∧ ∀ q ∈ (mkD oa la ob lb).new, q.data.length ≤ 1000000 := by
  unfold mkD
  split
  · have h1 := less_len (recordsS la) (recordsS lb)
    have h2 := less_len (recordsS lb) (recordsS la)
    exact ⟨⟨by show (lessR _ _).length ≤ _; omega, by show (lessR _ _).length ≤ _; omega⟩, fun q hq => da q (mem_less.1 hq).1, fun q hq => db q (mem_less.1 hq).1⟩
  · simp [zeroD]
set_option maxHeartbeats 12000000 in
theorem r7_Records (v : Value) (l : List RSet) (w : World) (hv : SetsAt w v l) (hb : (recordsS l).length ≤ 100000) : Calls Tryz.prog 69 #[v] w (Ret w fun r w' => Own w.heap.size 4 75 w' r (rcells (recordsS l))) := by
  obtain ⟨cv, hv1, hvl⟩ := hv.sl
  have hle := hv1.le
  go_enter Tryz.func69, Tryz.ntmps69
  repeat' (first | ((with_reducible refine o_s ?_); (first | (refine o_1 ?_; refine o_2 ?_) | (refine o_g ?_; first | refine o_u ?_ | refine o_k ?_ | refine o_n ?_ | refine o_v ?_ | ((first | refine o_G ?_ ?_ | refine o_N ?_ ?_) <;> intro hc)))) | ((fail_if_success (with_reducible refine o_s ?_)); go_step))
  go_loopw [3, 4, 5] (fun o i _ wr => ∃ k : Nat, k ≤ l.length ∧ i = .int .i64 k ∧ Ext w wr ∧ Own w.heap.size 4 75 wr o (rcells (recsP l k))) (fun _ i _ _ => l.length - (intOf i).toNat)
  case atStart => exact ⟨0, Nat.zero_le _, rfl, Ext.refl _, Own.nil _ _ _ _⟩
  case round =>
    obtain ⟨k, hk, rfl, hx, ho⟩ := hrel
    have hv2 := hv1.ext hx
    by_cases hlt : k < l.length
    · obtain ⟨x, h4, h4d⟩ := hv.elem (List.getElem?_eq_getElem hlt)
      have hdl := tcells_length l[k].data
      have hdle := h4d.le
      repeat' (first | ((with_reducible refine o_s ?_); (first | (refine o_1 ?_; refine o_2 ?_) | (refine o_g ?_; first | refine o_u ?_ | refine o_k ?_ | refine o_n ?_ | refine o_v ?_ | ((first | refine o_G ?_ ?_ | refine o_N ?_ ?_) <;> intro hc)))) | ((fail_if_success (with_reducible refine o_s ?_)); go_step))
      go_loopw [3, 5] (fun o i wq => ∃ j : Nat, j ≤ l[k].data.length ∧ i = .int .i64 j ∧ Ext w wq ∧ Own w.heap.size 4 75 wq o (rcells (recsP l k ++ (l[k].data.take j).map (recOf l[k])))) (fun _ i _ => l[k].data.length - (intOf i).toNat)
      case atStart => exact ⟨0, Nat.zero_le _, rfl, hx, by simpa using ho⟩
      case round =>
        obtain ⟨j, hj, rfl, hxq, hoq⟩ := hrel
        have hv3 := hv1.ext hxq
        have h4q := h4.ext hxq
        have h4dq := h4d.ext hxq
        by_cases hlt2 : j < l[k].data.length
        · have h3 := h4d.elem (tcells_at hlt2)
          have hle1 := recsP_le l (k + 1)
          rw [recsP_succ hlt, List.length_append] at hle1
          have hle2 : (recsOf l[k]).length = l[k].data.length := by simp [recsOf]
          have hcl : (rcells (recsP l k ++ (l[k].data.take j).map (recOf l[k]))).length = (recsP l k).length + j := by simp [rcells]; omega
          repeat' (first | ((with_reducible refine o_s ?_); (first | (refine o_1 ?_; refine o_2 ?_) | (refine o_g ?_; first | refine o_u ?_ | refine o_k ?_ | refine o_n ?_ | refine o_v ?_ | ((first | refine o_G ?_ ?_ | refine o_N ?_ ?_) <;> intro hc)))) | ((fail_if_success (with_reducible refine o_s ?_)); go_step))
          clear hv2 hv3 h4q h4dq
          refine wph_region (S := fun w' => Ext w w') (by decide +kernel) ?_
          intro w5 x5 hh5
          refine tk 0 ?_; refine gset ?_; refine tk 1 ?_; refine gset ?_; refine tk 2 ?_; refine gset ?_; refine tk 3 ?_; refine gset ?_; refine tk 4 ?_; refine gset ?_; refine tk 5 ?_; refine gset ?_; refine tk 6 ?_; refine gset ?_; refine tk 7 ?_; refine gset ?_; refine tk 8 ?_; refine gset ?_; refine tk 9 ?_; refine gset ?_; refine tk 10 ?_; refine gset ?_; refine tk 11 ?_; refine gset ?_; refine tk 12 ?_; refine gset ?_; refine tk 13 ?_; refine gset ?_; refine tk 14 ?_; refine gset ?_; refine tk 15 ?_; refine gset ?_; refine tk 16 ?_; refine gset ?_; refine tk 17 ?_; refine gset ?_; refine tk 18 ?_; refine gset ?_; refine tk 19 ?_; refine gset ?_; refine tk 20 ?_; refine gset ?_; refine tk 21 ?_; refine gset ?_; refine tk 22 ?_; refine gset ?_; refine tk 23 ?_; refine gset ?_
          refine wph_take (i := 24) (v := .agg #[str l[k].name, .int .i64 l[k].kind, .int .i64 l[k].ttl, str l[k].data[j]]) rfl rfl (by decide +kernel) (by decide +kernel) (by decide +kernel) rfl (hxq.trans x5) (fun w' _ => Runs.build rfl (by kernel_rfl)) (fun _ _ _ h => h) ?_
          refine gset ?_
          refine wph_one (i := 25) (by decide +kernel) rfl rfl ?_
          refine wpl_slice (e := 75) (k := 4) (bytes := 48) (xs := [.agg #[str l[k].name, .int .i64 l[k].kind, .int .i64 l[k].ttl, str l[k].data[j]]]) rfl rfl rfl (by simp [Value.cells]) (by decide +kernel) (by simp) ?_
          intro v8 w8 x8 s8 sl8 _
          refine gset ?_
          have hx8 := (hxq.trans x5).trans x8
          refine wph_nil ⟨hx8, ?_⟩
          refine wph_one (i := 26) (by decide +kernel) rfl rfl ?_
          have ho8 := (hoq.ext x5).ext x8
          refine wpl_appendO (B := w.heap.size) (e := 75) (k := 4) rfl ho8 rfl sl8 (by simp [Value.cells, str, Value.oneCell']) hx8.size (by rw [hcl]; simp; omega) ?_
          intro v9 w9 o9 m9 k9
          refine gset ?_
          have x9 : Ext w w9 := ho8.mvx m9 hx8 (Nat.le_refl _)
          have o9 : Own w.heap.size 4 75 w9 v9 (rcells (recsP l k ++ (l[k].data.take (j + 1)).map (recOf l[k]))) := by
            rw [map_take_succ hlt2, ← List.append_assoc]
            simpa [rcells, Rec.cells, recOf, Value.cells] using o9
          refine wph_nil ⟨x9, ?_⟩
          refine wph_one (i := 27) (by decide +kernel) rfl rfl ?_
          repeat' (first | ((with_reducible refine o_s ?_); (first | (refine o_1 ?_; refine o_2 ?_) | (refine o_g ?_; first | refine o_u ?_ | refine o_k ?_ | refine o_n ?_ | refine o_v ?_ | ((first | refine o_G ?_ ?_ | refine o_N ?_ ?_) <;> intro hc)))) | ((fail_if_success (with_reducible refine o_s ?_)); go_step))
          refine ⟨x9, ?_⟩
          refine wph_done (by decide +kernel) ?_
          repeat' (first | ((with_reducible refine o_s ?_); (first | (refine o_1 ?_; refine o_2 ?_) | (refine o_g ?_; first | refine o_u ?_ | refine o_k ?_ | refine o_n ?_ | refine o_v ?_ | ((first | refine o_G ?_ ?_ | refine o_N ?_ ?_) <;> intro hc)))) | ((fail_if_success (with_reducible refine o_s ?_)); go_step))
          exact ⟨⟨j + 1, by omega, by go_num, x9, o9⟩, by simp [intOf]; omega⟩
        · have : j = l[k].data.length := by omega
          subst this
          repeat' (first | ((with_reducible refine o_s ?_); (first | (refine o_1 ?_; refine o_2 ?_) | (refine o_g ?_; first | refine o_u ?_ | refine o_k ?_ | refine o_n ?_ | refine o_v ?_ | ((first | refine o_G ?_ ?_ | refine o_N ?_ ?_) <;> intro hc)))) | ((fail_if_success (with_reducible refine o_s ?_)); go_step))
          refine ⟨⟨k + 1, by omega, by go_num, hxq, ?_⟩, by simp [intOf]; omega⟩
          rw [recsP_succ hlt]
          rw [List.take_length] at hoq
          exact hoq
    · have : k = l.length := by omega
      subst this
      rw [recsP_all] at ho
      repeat' (first | ((with_reducible refine o_s ?_); (first | (refine o_1 ?_; refine o_2 ?_) | (refine o_g ?_; first | refine o_u ?_ | refine o_k ?_ | refine o_n ?_ | refine o_v ?_ | ((first | refine o_G ?_ ?_ | refine o_N ?_ ?_) <;> intro hc)))) | ((fail_if_success (with_reducible refine o_s ?_)); go_step))
      go_ret
      exact ⟨_, rfl, hx, ho⟩
set_option maxHeartbeats 6000000 in
theorem r10_Make (oa : List UInt8) (u : Value) (la : List RSet) (ob : List UInt8) (v : Value) (lb : List RSet) (w : World) (hu : SetsAt w u la) (hv : SetsAt w v lb)
    (ba : ∀ s ∈ la, s.data.length ≤ 1000000) (da : ∀ s ∈ la, ∀ d ∈ s.data, d.length ≤ 4611686018427387904) (bb : ∀ s ∈ lb, s.data.length ≤ 1000000) (db : ∀ s ∈ lb, ∀ d ∈ s.data, d.length ≤ 4611686018427387904)
    (h1 : (recordsS la).length ≤ 100000) (h2 : (recordsS lb).length ≤ 100000) : Calls Tryz.prog 22 #[.agg #[str oa, u], .agg #[str ob, v]] w (Ret w (DelU w.heap.size (mkD oa la ob lb) (mkE oa la ob lb))) := by
  go_enter Tryz.func22, Tryz.ntmps22
  repeat' ((fail_if_success (with_reducible refine o_s ?_)); go_step)
  refine wpl_box (vs := [str oa, u]) rfl rfl ?_
  intro p w1 x1 hp
  refine gset ?_
  refine wpl_box (vs := [str ob, v]) rfl rfl ?_
  intro q w2 x2 hq
  refine gset ?_
  refine wpl_allocB (z := zdel) rfl (by decide +kernel) ?_
  intro w3 x3 s3 h3
  refine gset ?_
  have hx3 := (x1.trans x2).trans x3
  have zz := (x1.trans x2).size
  have hp3 := (hp.ext x2).ext x3
  have hq3 := hq.ext x3
  repeat' (first | ((with_reducible refine o_s ?_); (first | (refine o_1 ?_; refine o_2 ?_) | (refine o_g ?_; first | refine o_u ?_ | refine o_k ?_ | refine o_n ?_ | refine o_v ?_ | ((first | refine o_G ?_ ?_ | refine o_N ?_ ?_) <;> intro hc)))) | ((fail_if_success (with_reducible refine o_s ?_)); go_step))
  refine wpl_callV (enters_of Tryz.func68 rfl rfl) rfl rfl (r8_Soa oa u la _ (hu.ext hx3) ba da) ?_; intro w4 x4; refine gset ?_
  have hx4 := hx3.trans x4
  repeat' (first | ((with_reducible refine o_s ?_); (first | (refine o_1 ?_; refine o_2 ?_) | (refine o_g ?_; first | refine o_u ?_ | refine o_k ?_ | refine o_n ?_ | refine o_v ?_ | ((first | refine o_G ?_ ?_ | refine o_N ?_ ?_) <;> intro hc)))) | ((fail_if_success (with_reducible refine o_s ?_)); go_step))
  refine wpl_allocB (z := zeroSoa) rfl (by decide +kernel) ?_
  intro w5 x5 s5 h5
  refine gset ?_
  refine wpl_storeB (v := .agg (soaZ oa la).cells.toArray) rfl rfl rfl h5 (show sizeTy Tryz.prog 103 7 = true by decide +kernel) rfl (soaR_one _) ?_
  intro w6 p6
  have x46 : Ext w4 w6 := x5.move p6.mv (by rintro k ⟨⟩; exact Nat.le_refl _)
  have b6 : w6.heap[w4.heap.size]? = some (.cells (soaZ oa la).cells.toArray 103 (0, 0)) := p6.this
  have x36 := x4.trans x46
  have hx6 := hx3.trans x36
  clear p6 h5 x5
  have h6 := x36.at h3
  have hp6 := hp3.ext x36
  have hq6 := hq3.ext x36
  repeat' (first | ((with_reducible refine o_s ?_); (first | (refine o_1 ?_; refine o_2 ?_) | (refine o_g ?_; first | refine o_u ?_ | refine o_k ?_ | refine o_n ?_ | refine o_v ?_ | ((first | refine o_G ?_ ?_ | refine o_N ?_ ?_) <;> intro hc)))) | ((fail_if_success (with_reducible refine o_s ?_)); go_step))
  · have q0 : ¬ zoneR oa la = 0 := by simpa using (by assumption : (!decide (zoneR oa la = 0)) = true)
    refine wpl_run (v := .agg zdel.toArray) rfl (Runs.build0 (by kernel_rfl)) ?_
    refine gset ?_
    repeat' (first | ((with_reducible refine o_s ?_); (first | (refine o_1 ?_; refine o_2 ?_) | (refine o_g ?_; first | refine o_u ?_ | refine o_k ?_ | refine o_n ?_ | refine o_v ?_ | ((first | refine o_G ?_ ?_ | refine o_N ?_ ?_) <;> intro hc)))) | ((fail_if_success (with_reducible refine o_s ?_)); go_step))
    refine wpl_storeB (v := .agg zdel.toArray) rfl rfl rfl h6 (by decide +kernel) rfl (by decide +kernel) ?_
    intro w7 p7
    have x7 : Ext w w7 := hx6.move p7.mv (by rintro k ⟨⟩; exact zz)
    repeat' (first | ((with_reducible refine o_s ?_); (first | (refine o_1 ?_; refine o_2 ?_) | (refine o_g ?_; first | refine o_u ?_ | refine o_k ?_ | refine o_n ?_ | refine o_v ?_ | ((first | refine o_G ?_ ?_ | refine o_N ?_ ?_) <;> intro hc)))) | ((fail_if_success (with_reducible refine o_s ?_)); go_step))
    refine bodyPost_ret (results_cellT (cs := zdel) rfl rfl p7.this (by decide +kernel)) rfl ⟨_, rfl, x7, ?_⟩
    have he : mkE oa la ob lb = zoneR oa la := by rw [mkE, if_neg q0]
    rw [mkD_bad (by rw [he]; exact q0), he]
    exact DelU.bad rfl
  · have q0 : zoneR oa la = 0 := by simpa using (by assumption : (!decide (zoneR oa la = 0)) = false)
    refine wpl_callV (enters_of Tryz.func68 rfl rfl) rfl rfl (r8_Soa ob v lb _ (hv.ext hx6) bb db) ?_; intro w7 x7; refine gset ?_
    have hx7 := hx6.trans x7
    repeat' (first | ((with_reducible refine o_s ?_); (first | (refine o_1 ?_; refine o_2 ?_) | (refine o_g ?_; first | refine o_u ?_ | refine o_k ?_ | refine o_n ?_ | refine o_v ?_ | ((first | refine o_G ?_ ?_ | refine o_N ?_ ?_) <;> intro hc)))) | ((fail_if_success (with_reducible refine o_s ?_)); go_step))
    refine wpl_allocB (z := zeroSoa) rfl (by decide +kernel) ?_
    intro w8 x8 s8 h8
    refine gset ?_
    refine wpl_storeB (v := .agg (soaZ ob lb).cells.toArray) rfl rfl rfl h8 (show sizeTy Tryz.prog 103 7 = true by decide +kernel) rfl (soaR_one _) ?_
    intro w9 p9
    have x79 : Ext w7 w9 := x8.move p9.mv (by rintro k ⟨⟩; exact Nat.le_refl _)
    have c9 : w9.heap[w7.heap.size]? = some (.cells (soaZ ob lb).cells.toArray 103 (0, 0)) := p9.this
    have x69 := x7.trans x79
    have hx9 := hx6.trans x69
    clear p9 h8 x8
    have h9 := x69.at h6
    have b9 := x69.at b6
    have hp9 := hp6.ext x69
    have hq9 := hq6.ext x69
    repeat' (first | ((with_reducible refine o_s ?_); (first | (refine o_1 ?_; refine o_2 ?_) | (refine o_g ?_; first | refine o_u ?_ | refine o_k ?_ | refine o_n ?_ | refine o_v ?_ | ((first | refine o_G ?_ ?_ | refine o_N ?_ ?_) <;> intro hc)))) | ((fail_if_success (with_reducible refine o_s ?_)); go_step))
    · have q1 : ¬ zoneR ob lb = 0 := by simpa using (by assumption : (!decide (zoneR ob lb = 0)) = true)
      refine wpl_run (v := .agg zdel.toArray) rfl (Runs.build0 (by kernel_rfl)) ?_
      refine gset ?_
      repeat' (first | ((with_reducible refine o_s ?_); (first | (refine o_1 ?_; refine o_2 ?_) | (refine o_g ?_; first | refine o_u ?_ | refine o_k ?_ | refine o_n ?_ | refine o_v ?_ | ((first | refine o_G ?_ ?_ | refine o_N ?_ ?_) <;> intro hc)))) | ((fail_if_success (with_reducible refine o_s ?_)); go_step))
      refine wpl_storeB (v := .agg zdel.toArray) rfl rfl rfl h9 (by decide +kernel) rfl (by decide +kernel) ?_
      intro wz pz
      have xz : Ext w wz := hx9.move pz.mv (by rintro k ⟨⟩; exact zz)
      repeat' (first | ((with_reducible refine o_s ?_); (first | (refine o_1 ?_; refine o_2 ?_) | (refine o_g ?_; first | refine o_u ?_ | refine o_k ?_ | refine o_n ?_ | refine o_v ?_ | ((first | refine o_G ?_ ?_ | refine o_N ?_ ?_) <;> intro hc)))) | ((fail_if_success (with_reducible refine o_s ?_)); go_step))
      refine bodyPost_ret (results_cellT (cs := zdel) rfl rfl pz.this (by decide +kernel)) rfl ⟨_, rfl, xz, ?_⟩
      have he : mkE oa la ob lb = zoneR ob lb := by rw [mkE, if_pos q0, if_neg q1]
      rw [mkD_bad (by rw [he]; exact q1), he]
      exact DelU.bad rfl
    · have q1 : zoneR ob lb = 0 := by simpa using (by assumption : (!decide (zoneR ob lb = 0)) = false)
      · have q2 : ¬ oa = ob := by simpa using (by assumption : (!decide (oa = ob)) = true)
        refine wpl_run (v := .agg zdel.toArray) rfl (Runs.build0 (by kernel_rfl)) ?_
        refine gset ?_
        repeat' (first | ((with_reducible refine o_s ?_); (first | (refine o_1 ?_; refine o_2 ?_) | (refine o_g ?_; first | refine o_u ?_ | refine o_k ?_ | refine o_n ?_ | refine o_v ?_ | ((first | refine o_G ?_ ?_ | refine o_N ?_ ?_) <;> intro hc)))) | ((fail_if_success (with_reducible refine o_s ?_)); go_step))
        refine wpl_storeB (v := .agg zdel.toArray) rfl rfl rfl h9 (by decide +kernel) rfl (by decide +kernel) ?_
        intro wz pz
        have xz : Ext w wz := hx9.move pz.mv (by rintro k ⟨⟩; exact zz)
        repeat' (first | ((with_reducible refine o_s ?_); (first | (refine o_1 ?_; refine o_2 ?_) | (refine o_g ?_; first | refine o_u ?_ | refine o_k ?_ | refine o_n ?_ | refine o_v ?_ | ((first | refine o_G ?_ ?_ | refine o_N ?_ ?_) <;> intro hc)))) | ((fail_if_success (with_reducible refine o_s ?_)); go_step))
        refine bodyPost_ret (results_cellT (cs := zdel) rfl rfl pz.this (by decide +kernel)) rfl ⟨_, rfl, xz, ?_⟩
        have he : mkE oa la ob lb = 1 := by rw [mkE, if_pos q0, if_pos q1, if_neg q2]
        rw [mkD_bad (by rw [he]; decide), he]
        exact DelU.bad rfl
    · have q1 : zoneR ob lb = 0 := by simpa using (by assumption : (!decide (zoneR ob lb = 0)) = false)
      have q2 : oa = ob := by simpa using (by assumption : (!decide (oa = ob)) = false)
      have he : mkE oa la ob lb = 0 := by rw [mkE, if_pos q0, if_pos q1, if_pos q2]
      repeat' (first | ((with_reducible refine o_s ?_); (first | (refine o_1 ?_; refine o_2 ?_) | (refine o_g ?_; first | refine o_u ?_ | refine o_k ?_ | refine o_n ?_ | refine o_v ?_ | ((first | refine o_G ?_ ?_ | refine o_N ?_ ?_) <;> intro hc)))) | ((fail_if_success (with_reducible refine o_s ?_)); go_step))
      refine wpl_callR (enters_of Tryz.func69 rfl rfl) rfl rfl (r7_Records u la _ (hu.ext hx9) (by omega)) ?_
      intro r1 w11 x911 o11
      refine gset ?_
      have hq11 := hq9.ext x911
      repeat' (first | ((with_reducible refine o_s ?_); (first | (refine o_1 ?_; refine o_2 ?_) | (refine o_g ?_; first | refine o_u ?_ | refine o_k ?_ | refine o_n ?_ | refine o_v ?_ | ((first | refine o_G ?_ ?_ | refine o_N ?_ ?_) <;> intro hc)))) | ((fail_if_success (with_reducible refine o_s ?_)); go_step))
      refine wpl_callR (enters_of Tryz.func69 rfl rfl) rfl rfl (r7_Records v lb _ (hv.ext (hx9.trans x911)) (by omega)) ?_
      intro r2 w12 x12 o12
      refine gset ?_
      have x912 := x911.trans x12
      have hx12 := hx9.trans x912
      have h12 := x912.at h9
      have sr1 := (o11.ext x12).sl
      have sr2 := o12.sl
      have pb12 := pts_block (x912.at b9)
      have pc12 := pts_block (x912.at c9)
      repeat' (first | ((with_reducible refine o_s ?_); (first | (refine o_1 ?_; refine o_2 ?_) | (refine o_g ?_; first | refine o_u ?_ | refine o_k ?_ | refine o_n ?_ | refine o_v ?_ | ((first | refine o_G ?_ ?_ | refine o_N ?_ ?_) <;> intro hc)))) | ((fail_if_success (with_reducible refine o_s ?_)); go_step))
      refine wpi_region 11 (Ext w12) (by decide +kernel) ?_
      intro w13 x13 _
      refine ⟨x13, ?_⟩
      ((with_reducible apply wpi_take (i := 0)); (rfl); (rfl); (rfl); (decide +kernel); (decide +kernel); (decide +kernel); (decide +kernel); (rfl); (intro _ _; exact rn); (exact fun _ _ _ h => h); (refine gset ?_)); ((with_reducible apply wpi_take (i := 1)); (rfl); (rfl); (rfl); (decide +kernel); (decide +kernel); (decide +kernel); (decide +kernel); (rfl); (intro _ _; exact rn); (exact fun _ _ _ h => h); (refine gset ?_)); ((with_reducible apply wpi_take (i := 2)); (rfl); (rfl); (rfl); (decide +kernel); (decide +kernel); (decide +kernel); (decide +kernel); (rfl); (intro _ _; exact rn); (exact fun _ _ _ h => h); (refine gset ?_)); ((with_reducible apply wpi_take (i := 3)); (rfl); (rfl); (rfl); (decide +kernel); (decide +kernel); (decide +kernel); (decide +kernel); (rfl); (intro _ _; exact rn); (exact fun _ _ _ h => h); (refine gset ?_)); ((with_reducible apply wpi_take (i := 4)); (rfl); (rfl); (rfl); (decide +kernel); (decide +kernel); (decide +kernel); (decide +kernel); (rfl); (intro _ _; exact rn); (exact fun _ _ _ h => h); (refine gset ?_)); ((with_reducible apply wpi_take (i := 5)); (rfl); (rfl); (rfl); (decide +kernel); (decide +kernel); (decide +kernel); (decide +kernel); (rfl); (intro _ _; exact rn); (exact fun _ _ _ h => h); (refine gset ?_)); ((with_reducible apply wpi_take (i := 7)); (rfl); (rfl); (rfl); (decide +kernel); (decide +kernel); (decide +kernel); (decide +kernel); (rfl); (intro _ _; exact rn); (exact fun _ _ _ h => h); (refine gset ?_)); ((with_reducible apply wpi_take (i := 8)); (rfl); (rfl); (rfl); (decide +kernel); (decide +kernel); (decide +kernel); (decide +kernel); (rfl); (intro _ _; exact rn); (exact fun _ _ _ h => h); (refine gset ?_))
      refine wpi_op (i := 6) (by decide +kernel) rfl rfl ?_
      refine wpl_callR (enters_of Tryz.func70 rfl rfl) rfl rfl (r10_less r1 r2 _ _ _ (sr1.ext x13) (sr2.ext x13) (by omega)) ?_
      intro g w14 x14 og
      refine gset ?_
      have x1214 := x13.trans x14
      refine wph_nil ⟨till_yes x1214, ?_⟩
      refine wpi_op (i := 9) (by decide +kernel) rfl rfl ?_
      refine wpl_callR (enters_of Tryz.func70 rfl rfl) rfl rfl (r10_less r2 r1 _ _ _ (sr2.ext x1214) (sr1.ext x1214) (by omega)) ?_
      intro n w15 x15 on
      refine gset ?_
      have x1215 := x1214.trans x15
      refine wph_nil ⟨till_yes x1215, ?_⟩
      have sg := (og.ext x15).sl
      have sn := on.sl
      refine wpi_take (i := 10) (v := .agg #[.int .i64 (soaZ oa la).serial, .int .i64 (soaZ ob lb).serial, g, n]) rfl rfl rfl (by decide +kernel) (by decide +kernel) (by decide +kernel) (by decide +kernel) rfl (fun w' _ => Runs.build rfl (by obtain ⟨_, _, _, rfl⟩ := sg.slf; obtain ⟨_, _, _, rfl⟩ := sn.slf; kernel_rfl)) (fun _ _ _ h => h) ?_
      refine gset ?_
      refine wpi_op (i := 11) (by decide +kernel) rfl rfl ?_
      have h15 := x1215.at h12
      refine wpl_storeB (v := .agg #[.int .i64 (soaZ oa la).serial, .int .i64 (soaZ ob lb).serial, g, n]) rfl rfl rfl h15 (show sizeTy Tryz.prog 34 4 = true by decide +kernel) rfl (all4 rfl rfl sg.one sn.one) ?_
      intro w16 p16
      refine wph_nil ⟨till_no rfl, ?_⟩
      ((with_reducible apply wpi_pure (i := 12)); (rfl); (rfl); (rfl); (decide +kernel); (decide +kernel); (decide +kernel); (rfl); (intro _; exact rn); (exact fun _ _ _ h => h); (refine gset ?_))
      refine wpi_done (by decide +kernel) ?_
      have x16 : Ext w w16 := (hx12.trans x1215).move p16.mv (by rintro k ⟨⟩; exact zz)
      repeat' (first | ((with_reducible refine o_s ?_); (first | (refine o_1 ?_; refine o_2 ?_) | (refine o_g ?_; first | refine o_u ?_ | refine o_k ?_ | refine o_n ?_ | refine o_v ?_ | ((first | refine o_G ?_ ?_ | refine o_N ?_ ?_) <;> intro hc)))) | ((fail_if_success (with_reducible refine o_s ?_)); go_step))
      refine bodyPost_ret (results_cellT (cs := [.int .i64 (soaZ oa la).serial, .int .i64 (soaZ ob lb).serial, g, n]) rfl rfl p16.this (show aggTy Tryz.prog 34 4 = true by decide +kernel)) rfl ⟨_, rfl, x16, ?_⟩
      have hd : mkD oa la ob lb = ⟨(soaZ oa la).serial, (soaZ ob lb).serial, lessR (recordsS la) (recordsS lb), lessR (recordsS lb) (recordsS la)⟩ := by rw [mkD, if_pos he]
      rw [hd, he]
      exact ⟨_, rfl, g, n, rfl, (og.ext x15).mv p16.mv (.inr ((og.ext x15).neBlock h15 (by decide))) |>.weaken (hx12.trans x13).size, on.mv p16.mv (.inr (on.neBlock h15 (by decide))) |>.weaken (hx12.trans x1214).size⟩
theorem same_delT {d : DeltaR} {r q : Value} (w : World) (h : DelA d r w) (k : DelA d q w) : Calls Tryz.prog 23 #[r, q] w (RetV w (.bool true)) := by
  have := r10_Same w h k
  rw [decide_eq_true rfl] at this
  exact this
set_option maxHeartbeats 6000000 in
theorem d3 (oa : List UInt8) (u : Value) (la : List RSet) (ob : List UInt8) (v : Value) (lb : List RSet) (w : World) (hu : SetsAt w u la) (hv : SetsAt w v lb) : Calls Tryz.prog 3 #[.agg #[str oa, u], .agg #[str ob, v]] w (Yes w) := by
  go_enter Tryz.func3, Tryz.ntmps3
  repeat' ((fail_if_success (with_reducible refine o_s ?_)); go_step)
  refine wpl_box (vs := [str oa, u]) rfl rfl ?_
  intro p w1 x1 hp
  refine gset ?_
  refine wpl_box (vs := [str ob, v]) rfl rfl ?_
  intro q w2 x2 hq
  refine gset ?_
  have hx2 := x1.trans x2
  have hp2 := hp.ext x2
  repeat' (first | ((with_reducible refine o_s ?_); (first | (refine o_1 ?_; refine o_2 ?_) | (refine o_g ?_; first | refine o_u ?_ | refine o_k ?_ | refine o_n ?_ | refine o_v ?_ | ((first | refine o_G ?_ ?_ | refine o_N ?_ ?_) <;> intro hc)))) | ((fail_if_success (with_reducible refine o_s ?_)); go_step))
  refine wpl_callV (enters_of Tryz.func19 rfl rfl) rfl rfl (l10_few oa ob u v la lb _ (hu.ext hx2) (hv.ext hx2)) ?_; intro w4 x4; refine gset ?_
  have hx5 := hx2.trans x4
  have hp5 := hp2.ext x4
  have hq5 := hq.ext x4
  cases hf : ((decide ((oa.length : Int) ≤ 300) && fewS la) && (decide ((ob.length : Int) ≤ 300) && fewS lb)) with
  | false =>
    repeat' (first | ((with_reducible refine o_s ?_); (first | (refine o_1 ?_; refine o_2 ?_) | (refine o_g ?_; first | refine o_u ?_ | refine o_k ?_ | refine o_n ?_ | refine o_v ?_ | ((first | refine o_G ?_ ?_ | refine o_N ?_ ?_) <;> intro hc)))) | ((fail_if_success (with_reducible refine o_s ?_)); go_step))
    refine wpl_callV (enters_of Tryz.func20 rfl rfl) rfl rfl (d_liveV _) ?_; intro w5 x5; refine gset ?_
    repeat' (first | ((with_reducible refine o_s ?_); (first | (refine o_1 ?_; refine o_2 ?_) | (refine o_g ?_; first | refine o_u ?_ | refine o_k ?_ | refine o_n ?_ | refine o_v ?_ | ((first | refine o_G ?_ ?_ | refine o_N ?_ ?_) <;> intro hc)))) | ((fail_if_success (with_reducible refine o_s ?_)); go_step))
    go_ret
    exact ⟨rfl, hx5.trans x5⟩
  | true =>
    obtain ⟨fa, fb⟩ := Bool.and_eq_true_iff.1 hf
    obtain ⟨_, ba, da, _⟩ := fewz fa
    obtain ⟨_, bb, db, _⟩ := fewz fb
    obtain ⟨ra, ea, ga⟩ := fewd fa
    obtain ⟨rb, eb, gb⟩ := fewd fb
    obtain ⟨⟨m1, m2⟩, m3, m4⟩ := mkD_bounds (oa := oa) (ob := ob) ra rb ga gb
    repeat' (first | ((with_reducible refine o_s ?_); (first | (refine o_1 ?_; refine o_2 ?_) | (refine o_g ?_; first | refine o_u ?_ | refine o_k ?_ | refine o_n ?_ | refine o_v ?_ | ((first | refine o_G ?_ ?_ | refine o_N ?_ ?_) <;> intro hc)))) | ((fail_if_success (with_reducible refine o_s ?_)); go_step))
    refine wpl_callR (enters_of Tryz.func21 rfl rfl) rfl rfl (p_Make oa u la ob v lb _ (hu.ext hx5) (hv.ext hx5) ba da bb db (by omega) (by omega)) ?_
    rintro _ w6 x6 ⟨_, rfl, g, n, rfl, og, on⟩
    have sg := og.sl
    have sn := on.sl
    refine gset ?_
    repeat' (first | ((with_reducible refine o_s ?_); (first | (refine o_1 ?_; refine o_2 ?_) | (refine o_g ?_; first | refine o_u ?_ | refine o_k ?_ | refine o_n ?_ | refine o_v ?_ | ((first | refine o_G ?_ ?_ | refine o_N ?_ ?_) <;> intro hc)))) | ((fail_if_success (with_reducible refine o_s ?_)); go_step))
    refine wpl_allocB (z := zdel) rfl (by decide +kernel) ?_
    intro w7 x7 s7 h7
    refine gset ?_
    generalize hmd : mkD oa la ob lb = dd at *
    refine wpl_storeB (v := .agg #[.int .i64 dd.fr, .int .i64 dd.to, g, n]) rfl rfl rfl h7 (show sizeTy Tryz.prog 30 4 = true by decide +kernel) rfl (all4 rfl rfl sg.one sn.one) ?_
    intro w8 p8
    have x8 : Ext w6 w8 := x7.move p8.mv (by rintro k ⟨⟩; exact Nat.le_refl _)
    have hd8 := pts_block (cs := [.int .i64 dd.fr, .int .i64 dd.to, g, n]) p8.this
    have x58 := x6.trans x8
    have hp8 := hp5.ext x58
    have hq8 := hq5.ext x58
    have hx8 := hx5.trans x58
    have sg8 := sg.ext x8
    have sn8 := sn.ext x8
    have hD8 : DelA dd (.agg #[.int .i64 dd.fr, .int .i64 dd.to, g, n]) w8 := ⟨g, n, rfl, sg8, sn8⟩
    clear p8 h7 x7
    repeat' (first | ((with_reducible refine o_s ?_); (first | (refine o_1 ?_; refine o_2 ?_) | (refine o_g ?_; first | refine o_u ?_ | refine o_k ?_ | refine o_n ?_ | refine o_v ?_ | ((first | refine o_G ?_ ?_ | refine o_N ?_ ?_) <;> intro hc)))) | ((fail_if_success (with_reducible refine o_s ?_)); go_step))
    refine wpl_callR (enters_of Tryz.func22 rfl rfl) rfl rfl (r10_Make oa u la ob v lb _ (hu.ext hx8) (hv.ext hx8) ba da bb db (by omega) (by omega)) ?_
    rintro _ w9 x9 ⟨_, rfl, g', n', rfl, og', on'⟩
    rw [hmd] at og' on' ⊢
    have sg' := og'.sl
    have sn' := on'.sl
    refine gset ?_
    repeat' (first | ((with_reducible refine o_s ?_); (first | (refine o_1 ?_; refine o_2 ?_) | (refine o_g ?_; first | refine o_u ?_ | refine o_k ?_ | refine o_n ?_ | refine o_v ?_ | ((first | refine o_G ?_ ?_ | refine o_N ?_ ?_) <;> intro hc)))) | ((fail_if_success (with_reducible refine o_s ?_)); go_step))
    refine wpl_allocB (z := zdel) rfl (by decide +kernel) ?_
    intro w10 x10 s10 h10
    refine gset ?_
    refine wpl_storeB (v := .agg #[.int .i64 dd.fr, .int .i64 dd.to, g', n']) rfl rfl rfl h10 (show sizeTy Tryz.prog 34 4 = true by decide +kernel) rfl (all4 rfl rfl sg'.one sn'.one) ?_
    intro w11 p11
    have x11 : Ext w9 w11 := x10.move p11.mv (by rintro k ⟨⟩; exact Nat.le_refl _)
    have he11 := pts_block (cs := [.int .i64 dd.fr, .int .i64 dd.to, g', n']) p11.this
    have x811 := x9.trans x11
    have hd11 := hd8.ext x811
    have hx11 := hx8.trans x811
    have hD11 := hD8.ext x811
    have sg11 := sg8.ext x811
    have sn11 := sn8.ext x811
    have sg'11 := sg'.ext x11
    have sn'11 := sn'.ext x11
    have hE11 : DelA dd (.agg #[.int .i64 dd.fr, .int .i64 dd.to, g', n']) w11 := ⟨g', n', rfl, sg'11, sn'11⟩
    clear p11 h10 x10
    repeat' (first | ((with_reducible refine o_s ?_); (first | (refine o_1 ?_; refine o_2 ?_) | (refine o_g ?_; first | refine o_u ?_ | refine o_k ?_ | refine o_n ?_ | refine o_v ?_ | ((first | refine o_G ?_ ?_ | refine o_N ?_ ?_) <;> intro hc)))) | ((fail_if_success (with_reducible refine o_s ?_)); go_step))
    refine wpq_region (by decide +kernel) (by decide +kernel) ?_
    repeat' (first | ((with_reducible refine q_s ?_); (first | (refine q_1 ?_; refine q_2 ?_) | (refine q_g ?_; first | refine q_u ?_ | refine q_k ?_ | refine q_v ?_))) | (with_reducible refine q_n ?_))
    refine wpq_call (enters_of Tryz.func24 rfl rfl) rfl rfl (fun w' x' => l10_Told w' (hD11.ext x')) ?_
    refine gset ?_
    repeat' (first | ((with_reducible refine q_s ?_); (first | (refine q_1 ?_; refine q_2 ?_) | (refine q_g ?_; first | refine q_u ?_ | refine q_k ?_ | refine q_v ?_))) | (with_reducible refine q_n ?_))
    refine wpq_call (enters_of Tryz.func23 rfl rfl) rfl rfl (fun w' x' => same_delT w' (hD11.ext x') (hE11.ext x')) ?_
    refine gset ?_
    repeat' (first | ((with_reducible refine q_s ?_); (first | (refine q_1 ?_; refine q_2 ?_) | (refine q_g ?_; first | refine q_u ?_ | refine q_k ?_ | refine q_v ?_))) | (with_reducible refine q_n ?_))
    refine wpq_call (enters_of Tryz.func20 rfl rfl) rfl rfl (fun w' x' => d_liveV w') ?_
    refine gset ?_
    repeat' (first | ((with_reducible refine q_s ?_); (first | (refine q_1 ?_; refine q_2 ?_) | (refine q_g ?_; first | refine q_u ?_ | refine q_k ?_ | refine q_v ?_))) | (with_reducible refine q_n ?_))
    intro w12 x12
    repeat' (first | ((with_reducible refine o_s ?_); (first | (refine o_1 ?_; refine o_2 ?_) | (refine o_g ?_; first | refine o_u ?_ | refine o_k ?_ | refine o_n ?_ | refine o_v ?_ | ((first | refine o_G ?_ ?_ | refine o_N ?_ ?_) <;> intro hc)))) | ((fail_if_success (with_reducible refine o_s ?_)); go_step))
    go_ret
    exact ⟨rfl, hx11.trans x12⟩
def starR : Rec := ⟨[1, 42, 1, 97], 16, 3, [1, 120]⟩
def starZ : List RSet := [⟨[1, 97], 2, 9, [[2, 110, 115, 1, 97, 0]]⟩, ⟨[1, 97], 6, 9, [simS]⟩, ⟨[1, 42, 1, 97], 16, 3, [[1, 120]]⟩, ⟨[2, 110, 115, 1, 97], 1, 9, [[49, 49, 49, 49]]⟩]
theorem star_E : loadE [1, 97] (simR ++ [starR]) = 0 := by decide +kernel
theorem star_L : loadL [1, 97] (simR ++ [starR]) = starZ := by decide +kernel
theorem star_O : loadO [1, 97] (simR ++ [starR]) = [1, 97] := by decide +kernel
theorem star_r : ∀ r ∈ simR ++ [starR], r.data.length ≤ 4611686018427387904 := by decide +kernel
theorem star_b : ∀ s ∈ starZ, s.data.length ≤ 1000000 := by decide +kernel
def ansA : AnsR := ⟨0, [⟨[1, 113, 1, 97], 16, 3, [1, 120]⟩], [], []⟩
def ansB : AnsR := ⟨0, [⟨[1, 97], 2, 9, [2, 110, 115, 1, 97, 0]⟩], [], [⟨[2, 110, 115, 1, 97], 1, 9, [49, 49, 49, 49]⟩]⟩
def ansC : AnsR := ⟨4, [], [], []⟩
def ansD : AnsR := ⟨1, [], [⟨[1, 97], 6, 4, simS⟩], []⟩
theorem ans_a : askE [1, 97] starZ [1, 113, 1, 65] = 0 ∧ askA [1, 97] starZ [1, 113, 1, 65] 16 = ansA := by decide +kernel
theorem ans_b : askE [1, 97] starZ [1, 97] = 0 ∧ askA [1, 97] starZ [1, 97] 2 = ansB := by decide +kernel
theorem ans_c : askE [1, 97] starZ [1, 98] = 0 ∧ askA [1, 97] starZ [1, 98] 1 = ansC := by decide +kernel
theorem ans_d : askE [1, 97] starZ [2, 110, 115, 1, 97] = 0 ∧ askA [1, 97] starZ [2, 110, 115, 1, 97] 15 = ansD := by decide +kernel
theorem ask_at {o : List UInt8} {v : Value} {l : List RSet} {q : List UInt8} {k : Int} {a : AnsR} (h : askE o l q = 0 ∧ askA o l q k = a) (w : World) (hv : SetsAt w v l) (hb : ∀ s ∈ l, s.data.length ≤ 1000000) :
    Calls Tryz.prog 41 #[.agg #[str o, v], .agg #[str q, .int .i64 k]] w (Ret w fun r w' => ∃ u1 u2 u3, r = .tuple #[.agg #[.int .i64 a.kind, u1, u2, u3], .int .i64 0] ∧ Sl 4 w' u1 (rcells a.ans) ∧ Sl 4 w' u2 (rcells a.auth) ∧ Sl 4 w' u3 (rcells a.extra)) := by
  refine (p_Ask o v l q k w hv hb).mono ?_
  rintro e w' ⟨r, rfl, hx, y, rfl, u1, u2, u3, rfl, s1, s2, s3⟩
  rw [h.2] at s1 s2 s3
  exact ⟨_, rfl, hx, u1, u2, u3, by rw [h.1, h.2], s1.sl, s2.sl, s3.sl⟩
theorem p_SimpleO (w : World) : Calls Tryz.prog 65 #[] w (Ret w fun r w' => Own w.heap.size 4 75 w' r (rcells simR)) := by
  go_enter Tryz.func65, Tryz.ntmps65
  repeat' ((fail_if_success (with_reducible refine o_s ?_)); go_step)
  repeat' (first | ((with_reducible refine o_s ?_); (first | (refine o_1 ?_; refine o_2 ?_) | (refine o_g ?_; first | refine o_u ?_ | refine o_k ?_ | refine o_n ?_ | refine o_v ?_ | ((first | refine o_G ?_ ?_ | refine o_N ?_ ?_) <;> intro hc)))) | ((fail_if_success (with_reducible refine o_s ?_)); go_step))
  refine wpl_run (v := .agg #[str [1, 97], .int .i64 6, .int .i64 9, str simS]) rfl (Runs.build rfl (by kernel_rfl)) ?_
  refine gset ?_
  refine wpl_run (v := .agg #[str [1, 97], .int .i64 2, .int .i64 9, str [2, 110, 115, 1, 97, 0]]) rfl (Runs.build rfl (by kernel_rfl)) ?_
  refine gset ?_
  refine wpl_run (v := .agg #[str [2, 110, 115, 1, 97], .int .i64 1, .int .i64 9, str [49, 49, 49, 49]]) rfl (Runs.build rfl (by kernel_rfl)) ?_
  refine gset ?_
  refine wpl_slice (e := 75) (k := 4) (bytes := 48) (xs := simR.map fun r => .agg r.cells.toArray) rfl rfl rfl (by intro x hx; obtain ⟨r, _, rfl⟩ := List.mem_map.1 hx; rfl) (by decide +kernel) (by decide +kernel) ?_
  intro v1 w1 x1 s1 _ o1
  have o1' : Own w.heap.size 4 75 w1 v1 (rcells simR) := by simpa [rcells, Value.cells, List.map_map, Function.comp_def] using o1
  refine gset ?_
  repeat' (first | ((with_reducible refine o_s ?_); (first | (refine o_1 ?_; refine o_2 ?_) | (refine o_g ?_; first | refine o_u ?_ | refine o_k ?_ | refine o_n ?_ | refine o_v ?_ | ((first | refine o_G ?_ ?_ | refine o_N ?_ ?_) <;> intro hc)))) | ((fail_if_success (with_reducible refine o_s ?_)); go_step))
  go_ret
  exact ⟨_, rfl, x1, o1'⟩
set_option maxHeartbeats 8000000 in
theorem l9_live (w : World) : Calls Tryz.prog 38 #[] w (RetV w (.bool true)) := by
  go_enter Tryz.func38, Tryz.ntmps38
  repeat' (first | ((with_reducible refine o_s ?_); (first | (refine o_1 ?_; refine o_2 ?_) | (refine o_g ?_; first | refine o_u ?_ | refine o_k ?_ | refine o_n ?_ | refine o_v ?_ | ((first | refine o_G ?_ ?_ | refine o_N ?_ ?_) <;> intro hc)))) | ((fail_if_success (with_reducible refine o_s ?_)); go_step))
  refine wpl_callR (enters_of Tryz.func65 rfl rfl) rfl rfl (p_SimpleO _) ?_
  intro v1 w1 x1 hv1
  refine gset ?_
  repeat' (first | ((with_reducible refine o_s ?_); (first | (refine o_1 ?_; refine o_2 ?_) | (refine o_g ?_; first | refine o_u ?_ | refine o_k ?_ | refine o_n ?_ | refine o_v ?_ | ((first | refine o_G ?_ ?_ | refine o_N ?_ ?_) <;> intro hc)))) | ((fail_if_success (with_reducible refine o_s ?_)); go_step))
  refine wpl_run (v := recV starR) rfl (Runs.build rfl (by kernel_rfl)) ?_
  refine gset ?_
  refine wpl_slice (e := 75) (k := 4) (bytes := 48) (xs := [recV starR]) rfl rfl rfl (by simp [Value.cells, recV]) (by decide +kernel) (by simp) ?_
  intro v2 w2 x2 _ sl2 _
  refine gset ?_
  have hv2 := hv1.ext x2
  refine wpl_appendO (e := 75) (k := 4) rfl hv2 rfl (show Sl 4 w2 v2 (rcells [starR]) from sl2) rcells_one (x1.trans x2).size (by decide) ?_
  intro v3 w3 o3 m3 _
  refine gset ?_
  have hx3 := hv2.mvx m3 (x1.trans x2) (Nat.le_refl _)
  have hrc : rcells simR ++ rcells [starR] = rcells (simR ++ [starR]) := by simp [rcells]
  rw [hrc] at o3
  have s3 := o3.sl
  repeat' (first | ((with_reducible refine o_s ?_); (first | (refine o_1 ?_; refine o_2 ?_) | (refine o_g ?_; first | refine o_u ?_ | refine o_k ?_ | refine o_n ?_ | refine o_v ?_ | ((first | refine o_G ?_ ?_ | refine o_N ?_ ?_) <;> intro hc)))) | ((fail_if_success (with_reducible refine o_s ?_)); go_step))
  refine wpl_callR (enters_of Tryz.func64 rfl rfl) rfl rfl (p_Load [1, 97] v3 (simR ++ [starR]) _ s3 (by decide) star_r) ?_
  rintro _ w4 x4 ⟨z, rfl, hz⟩
  rw [star_E, star_O]
  rw [star_L] at hz
  have hz := hz.sets
  have hz1 : z.oneCell' = true := by obtain ⟨css, h, _⟩ := hz; exact h.one
  have hx4 := hx3.trans x4
  refine gset ?_
  repeat' (first | ((with_reducible refine o_s ?_); (first | (refine o_1 ?_; refine o_2 ?_) | (refine o_g ?_; first | refine o_u ?_ | refine o_k ?_ | refine o_n ?_ | refine o_v ?_ | ((first | refine o_G ?_ ?_ | refine o_N ?_ ?_) <;> intro hc)))) | ((fail_if_success (with_reducible refine o_s ?_)); go_step))
  refine wpl_allocB (z := zzone) rfl (by decide +kernel) ?_
  intro w5 x5 s5 h5
  refine gset ?_
  refine wpl_storeB (v := .agg #[str [1, 97], z]) rfl rfl rfl h5 (show sizeTy Tryz.prog 25 2 = true by decide +kernel) rfl (zone_one hz1) ?_
  intro w6 p6
  have x6 : Ext w4 w6 := x5.move p6.mv (by rintro k ⟨⟩; exact Nat.le_refl _)
  have hp6 := pts_block (cs := [str [1, 97], z]) p6.this
  have hz6 := hz.ext x6
  have hx6 := hx4.trans x6
  clear p6 h5 x5 hz s3 sl2 hv2 hv1 o3
  repeat' (first | ((with_reducible refine o_s ?_); (first | (refine o_1 ?_; refine o_2 ?_) | (refine o_g ?_; first | refine o_u ?_ | refine o_k ?_ | refine o_n ?_ | refine o_v ?_ | ((first | refine o_G ?_ ?_ | refine o_N ?_ ?_) <;> intro hc)))) | ((fail_if_success (with_reducible refine o_s ?_)); go_step))
  refine wpl_run (v := .agg #[str [1, 113, 1, 65], .int .i64 16]) rfl (Runs.build rfl (by kernel_rfl)) ?_
  refine gset ?_
  refine wpl_callR (enters_of Tryz.func41 rfl rfl) rfl rfl (ask_at ans_a _ hz6 star_b) ?_
  rintro _ w7 x7 ⟨a1, a2, a3, rfl, sa1, sa2, sa3⟩
  refine gset ?_
  repeat' (first | ((with_reducible refine o_s ?_); (first | (refine o_1 ?_; refine o_2 ?_) | (refine o_g ?_; first | refine o_u ?_ | refine o_k ?_ | refine o_n ?_ | refine o_v ?_ | ((first | refine o_G ?_ ?_ | refine o_N ?_ ?_) <;> intro hc)))) | ((fail_if_success (with_reducible refine o_s ?_)); go_step))
  refine wpl_allocB (z := zans) rfl (by decide +kernel) ?_
  intro w8 x8 s8 h8
  refine gset ?_
  refine wpl_storeB (v := .agg #[.int .i64 0, a1, a2, a3]) rfl rfl rfl h8 (show sizeTy Tryz.prog 61 4 = true by decide +kernel) rfl (all4 rfl sa1.one sa2.one sa3.one) ?_
  intro w9 p9
  have x9 : Ext w7 w9 := x8.move p9.mv (by rintro k ⟨⟩; exact Nat.le_refl _)
  have ha9 := pts_block (cs := [.int .i64 0, a1, a2, a3]) p9.this
  have x69 := x7.trans x9
  have hp9 := hp6.ext x69
  have hz9 := hz6.ext x69
  have hx9 := hx6.trans x69
  have sa9 := sa1.ext x9
  clear p9 h8 x8 sa1 sa2 sa3
  repeat' (first | ((with_reducible refine o_s ?_); (first | (refine o_1 ?_; refine o_2 ?_) | (refine o_g ?_; first | refine o_u ?_ | refine o_k ?_ | refine o_n ?_ | refine o_v ?_ | ((first | refine o_G ?_ ?_ | refine o_N ?_ ?_) <;> intro hc)))) | ((fail_if_success (with_reducible refine o_s ?_)); go_step))
  refine wpl_run (v := .agg #[str [1, 97], .int .i64 2]) rfl (Runs.build rfl (by kernel_rfl)) ?_
  refine gset ?_
  refine wpl_callR (enters_of Tryz.func41 rfl rfl) rfl rfl (ask_at ans_b _ hz9 star_b) ?_
  rintro _ w10 x10 ⟨b1, b2, b3, rfl, sb1, sb2, sb3⟩
  refine gset ?_
  repeat' (first | ((with_reducible refine o_s ?_); (first | (refine o_1 ?_; refine o_2 ?_) | (refine o_g ?_; first | refine o_u ?_ | refine o_k ?_ | refine o_n ?_ | refine o_v ?_ | ((first | refine o_G ?_ ?_ | refine o_N ?_ ?_) <;> intro hc)))) | ((fail_if_success (with_reducible refine o_s ?_)); go_step))
  refine wpl_allocB (z := zans) rfl (by decide +kernel) ?_
  intro w11 x11 s11 h11
  refine gset ?_
  refine wpl_storeB (v := .agg #[.int .i64 0, b1, b2, b3]) rfl rfl rfl h11 (show sizeTy Tryz.prog 61 4 = true by decide +kernel) rfl (all4 rfl sb1.one sb2.one sb3.one) ?_
  intro w12 p12
  have x12 : Ext w10 w12 := x11.move p12.mv (by rintro k ⟨⟩; exact Nat.le_refl _)
  have hb12 := pts_block (cs := [.int .i64 0, b1, b2, b3]) p12.this
  have x912 := x10.trans x12
  have hp12 := hp9.ext x912
  have hz12 := hz9.ext x912
  have hx12 := hx9.trans x912
  have ha12 := ha9.ext x912
  have sa12 := sa9.ext x912
  have sb12 := sb3.ext x12
  clear p12 h11 x11 sb1 sb2 sb3
  repeat' (first | ((with_reducible refine o_s ?_); (first | (refine o_1 ?_; refine o_2 ?_) | (refine o_g ?_; first | refine o_u ?_ | refine o_k ?_ | refine o_n ?_ | refine o_v ?_ | ((first | refine o_G ?_ ?_ | refine o_N ?_ ?_) <;> intro hc)))) | ((fail_if_success (with_reducible refine o_s ?_)); go_step))
  refine wpl_run (v := .agg #[str [1, 98], .int .i64 1]) rfl (Runs.build rfl (by kernel_rfl)) ?_
  refine gset ?_
  refine wpl_callR (enters_of Tryz.func41 rfl rfl) rfl rfl (ask_at ans_c _ hz12 star_b) ?_
  rintro _ w13 x13 ⟨c1, c2, c3, rfl, sc1, sc2, sc3⟩
  refine gset ?_
  repeat' (first | ((with_reducible refine o_s ?_); (first | (refine o_1 ?_; refine o_2 ?_) | (refine o_g ?_; first | refine o_u ?_ | refine o_k ?_ | refine o_n ?_ | refine o_v ?_ | ((first | refine o_G ?_ ?_ | refine o_N ?_ ?_) <;> intro hc)))) | ((fail_if_success (with_reducible refine o_s ?_)); go_step))
  refine wpl_allocB (z := zans) rfl (by decide +kernel) ?_
  intro w14 x14 s14 h14
  refine gset ?_
  refine wpl_storeB (v := .agg #[.int .i64 4, c1, c2, c3]) rfl rfl rfl h14 (show sizeTy Tryz.prog 61 4 = true by decide +kernel) rfl (all4 rfl sc1.one sc2.one sc3.one) ?_
  intro w15 p15
  have x15 : Ext w13 w15 := x14.move p15.mv (by rintro k ⟨⟩; exact Nat.le_refl _)
  have hc15 := pts_block (cs := [.int .i64 4, c1, c2, c3]) p15.this
  have x1215 := x13.trans x15
  have hp15 := hp12.ext x1215
  have hz15 := hz12.ext x1215
  have hx15 := hx12.trans x1215
  have ha15 := ha12.ext x1215
  have hb15 := hb12.ext x1215
  have sa15 := sa12.ext x1215
  have sb15 := sb12.ext x1215
  clear p15 h14 x14 sc1 sc2 sc3
  repeat' (first | ((with_reducible refine o_s ?_); (first | (refine o_1 ?_; refine o_2 ?_) | (refine o_g ?_; first | refine o_u ?_ | refine o_k ?_ | refine o_n ?_ | refine o_v ?_ | ((first | refine o_G ?_ ?_ | refine o_N ?_ ?_) <;> intro hc)))) | ((fail_if_success (with_reducible refine o_s ?_)); go_step))
  refine wpl_run (v := .agg #[str [2, 110, 115, 1, 97], .int .i64 15]) rfl (Runs.build rfl (by kernel_rfl)) ?_
  refine gset ?_
  refine wpl_callR (enters_of Tryz.func41 rfl rfl) rfl rfl (ask_at ans_d _ hz15 star_b) ?_
  rintro _ w16 x16 ⟨d1, d2, d3, rfl, sd1, sd2, sd3⟩
  refine gset ?_
  repeat' (first | ((with_reducible refine o_s ?_); (first | (refine o_1 ?_; refine o_2 ?_) | (refine o_g ?_; first | refine o_u ?_ | refine o_k ?_ | refine o_n ?_ | refine o_v ?_ | ((first | refine o_G ?_ ?_ | refine o_N ?_ ?_) <;> intro hc)))) | ((fail_if_success (with_reducible refine o_s ?_)); go_step))
  refine wpl_allocB (z := zans) rfl (by decide +kernel) ?_
  intro w17 x17 s17 h17
  refine gset ?_
  refine wpl_storeB (v := .agg #[.int .i64 1, d1, d2, d3]) rfl rfl rfl h17 (show sizeTy Tryz.prog 61 4 = true by decide +kernel) rfl (all4 rfl sd1.one sd2.one sd3.one) ?_
  intro w18 p18
  have x18 : Ext w16 w18 := x17.move p18.mv (by rintro k ⟨⟩; exact Nat.le_refl _)
  have hd18 := pts_block (cs := [.int .i64 1, d1, d2, d3]) p18.this
  have x1518 := x16.trans x18
  have ha18 := ha15.ext x1518
  have hb18 := hb15.ext x1518
  have hc18 := hc15.ext x1518
  have sa18 := sa15.ext x1518
  have sb18 := sb15.ext x1518
  have sd18 := sd2.ext x18
  have hx18 := hx15.trans x1518
  clear p18 h17 x17 sd1 sd2 sd3 sa12 sa9 sa15 sb12 sb15 ha9 ha12 ha15 hb12 hb15 hc15
  have la : (rcells ansA.ans).length = 1 := rfl
  have lb : (rcells ansB.extra).length = 1 := rfl
  have ld : (rcells ansD.auth).length = 1 := rfl
  have ea := sa18.elem (i := 0) (e := [str [1, 113, 1, 97], .int .i64 16, .int .i64 3, str [1, 120]]) rfl
  have ed := sd18.elem (i := 0) (e := [str [1, 97], .int .i64 6, .int .i64 4, str simS]) rfl
  repeat' (first | ((with_reducible refine o_s ?_); (first | (refine o_1 ?_; refine o_2 ?_) | (refine o_g ?_; first | refine o_u ?_ | refine o_k ?_ | refine o_n ?_ | refine o_v ?_ | ((first | refine o_G ?_ ?_ | refine o_N ?_ ?_) <;> intro hc)))) | ((fail_if_success (with_reducible refine o_s ?_)); go_step))
  all_goals first
    | (exfalso
       have h := ‹¬ ((rcells ansA.ans).length : Int) = 1›
       exact h rfl)
    | (exfalso
       have h := ‹¬ ((rcells ansB.extra).length : Int) = 1›
       exact h rfl)
    | (exfalso
       have h := ‹¬ ((rcells ansD.auth).length : Int) = 1›
       exact h rfl)
    | (go_ret
       exact ⟨rfl, hx18⟩)
theorem meetK5 {α β γ δ : Type} {F : α → β → γ → δ → World → Prop} {G : α → β → γ → δ → World → Prop} {goal : Prop} (h1 : (∀ x y z u w', F x y z u w' → G x y z u w') → goal) (h2 : ∀ x y z u w', F x y z u w' → G x y z u w') : goal := h1 h2
theorem ask_is {o : List UInt8} {v : Value} {l : List RSet} {q : List UInt8} {k E : Int} {a : AnsR} (hA : askA o l q k = a) (hE : askE o l q = E) (w : World) (hv : SetsAt w v l) (hb : ∀ s ∈ l, s.data.length ≤ 1000000) :
    Calls Tryz.prog 41 #[.agg #[str o, v], .agg #[str q, .int .i64 k]] w (Ret w fun r w' => ∃ u1 u2 u3, r = .tuple #[.agg #[.int .i64 a.kind, u1, u2, u3], .int .i64 E] ∧ Sl 4 w' u1 (rcells a.ans) ∧ Sl 4 w' u2 (rcells a.auth) ∧ Sl 4 w' u3 (rcells a.extra)) := by
  refine (p_Ask o v l q k w hv hb).mono ?_
  rintro e w' ⟨r, rfl, hx, y, rfl, u1, u2, u3, rfl, s1, s2, s3⟩
  rw [hA] at s1 s2 s3
  exact ⟨_, rfl, hx, u1, u2, u3, by rw [hE, hA], s1.sl, s2.sl, s3.sl⟩
theorem ask_own {o : List UInt8} {v : Value} {l : List RSet} {q : List UInt8} {k E : Int} {a : AnsR} (hA : askA o l q k = a) (hE : askE o l q = E) (w : World) (hv : SetsAt w v l) (hb : ∀ s ∈ l, s.data.length ≤ 1000000) :
    Calls Tryz.prog 41 #[.agg #[str o, v], .agg #[str q, .int .i64 k]] w (Ret w fun r w' => ∃ u1 u2 u3, r = .tuple #[.agg #[.int .i64 a.kind, u1, u2, u3], .int .i64 E] ∧ Own 0 4 75 w' u1 (rcells a.ans) ∧ Own 0 4 75 w' u2 (rcells a.auth) ∧ Own 0 4 75 w' u3 (rcells a.extra)) := by
  refine (p_Ask o v l q k w hv hb).mono ?_
  rintro e w' ⟨r, rfl, hx, y, rfl, u1, u2, u3, rfl, s1, s2, s3⟩
  rw [hA] at s1 s2 s3
  exact ⟨_, rfl, hx, u1, u2, u3, by rw [hE, hA], s1.weaken (Nat.zero_le _), s2.weaken (Nat.zero_le _), s3.weaken (Nat.zero_le _)⟩
set_option maxHeartbeats 8000000 in
theorem k11 (o : List UInt8) (v : Value) (l : List RSet) (q : List UInt8) (k : Int) (w : World) (hv : SetsAt w v l) : Calls Tryz.prog 11 #[.agg #[str o, v], .agg #[str q, .int .i64 k]] w (Yes w) := by
  go_enter Tryz.func11, Tryz.ntmps11
  repeat' ((fail_if_success (with_reducible refine o_s ?_)); go_step)
  refine wpl_box (vs := [str o, v]) rfl rfl ?_
  intro p w1 x1 hp
  refine gset ?_
  refine wpl_box (vs := [str q, .int .i64 k]) rfl rfl ?_
  intro pq w2 x2 hq
  refine gset ?_
  have hx2 := x1.trans x2
  have hp2 := hp.ext x2
  have hv2 := hv.ext hx2
  repeat' (first | ((with_reducible refine o_s ?_); (first | (refine o_1 ?_; refine o_2 ?_) | (refine o_g ?_; first | refine o_u ?_ | refine o_k ?_ | refine o_n ?_ | refine o_v ?_ | ((first | refine o_G ?_ ?_ | refine o_N ?_ ?_) <;> intro hc)))) | ((fail_if_success (with_reducible refine o_s ?_)); go_step))
  refine wpl_callV (enters_of Tryz.func25 rfl rfl) rfl rfl (r8_Few o v l _ hv2) ?_; intro w3 x3; refine gset ?_
  have hx3 := hx2.trans x3
  have hp3 := hp2.ext x3
  have hq3 := hq.ext x3
  have hv3 := hv2.ext x3
  cases hF : (decide ((o.length : Int) ≤ 300) && fewS l) with
  | false =>
    repeat' (first | ((with_reducible refine o_s ?_); (first | (refine o_1 ?_; refine o_2 ?_) | (refine o_g ?_; first | refine o_u ?_ | refine o_k ?_ | refine o_n ?_ | refine o_v ?_ | ((first | refine o_G ?_ ?_ | refine o_N ?_ ?_) <;> intro hc)))) | ((fail_if_success (with_reducible refine o_s ?_)); go_step))
    refine wpl_callV (enters_of Tryz.func38 rfl rfl) rfl rfl (l9_live _) ?_; intro w4 x4; refine gset ?_
    repeat' (first | ((with_reducible refine o_s ?_); (first | (refine o_1 ?_; refine o_2 ?_) | (refine o_g ?_; first | refine o_u ?_ | refine o_k ?_ | refine o_n ?_ | refine o_v ?_ | ((first | refine o_G ?_ ?_ | refine o_N ?_ ?_) <;> intro hc)))) | ((fail_if_success (with_reducible refine o_s ?_)); go_step))
    go_ret
    exact ⟨rfl, hx3.trans x4⟩
  | true =>
    have hb := (fewz hF).2.1
    repeat' (first | ((with_reducible refine o_s ?_); (first | (refine o_1 ?_; refine o_2 ?_) | (refine o_g ?_; first | refine o_u ?_ | refine o_k ?_ | refine o_n ?_ | refine o_v ?_ | ((first | refine o_G ?_ ?_ | refine o_N ?_ ?_) <;> intro hc)))) | ((fail_if_success (with_reducible refine o_s ?_)); go_step))
    · refine wpl_callV (enters_of Tryz.func38 rfl rfl) rfl rfl (l9_live _) ?_; intro w4 x4; refine gset ?_
      repeat' (first | ((with_reducible refine o_s ?_); (first | (refine o_1 ?_; refine o_2 ?_) | (refine o_g ?_; first | refine o_u ?_ | refine o_k ?_ | refine o_n ?_ | refine o_v ?_ | ((first | refine o_G ?_ ?_ | refine o_N ?_ ?_) <;> intro hc)))) | ((fail_if_success (with_reducible refine o_s ?_)); go_step))
      go_ret
      exact ⟨rfl, hx3.trans x4⟩
    · refine wpl_callR (enters_of Tryz.func41 rfl rfl) rfl rfl (ask_is rfl rfl _ hv3 hb) ?_
      rintro _ w4 x4 ⟨u1, u2, u3, rfl, s1, s2, s3⟩
      obtain ⟨l1, l2⟩ := ask_letters o l q k
      have cA : ∀ w', SetsAt w' v l → Calls Tryz.prog 41 #[.agg #[str o, v], .agg #[str (fold q), .int .i64 k]] w' (Ret w' fun r w'' => ∃ u1 u2 u3, r = .tuple #[.agg #[.int .i64 (askA o l q k).kind, u1, u2, u3], .int .i64 (askE o l q)] ∧ Own 0 4 75 w'' u1 (rcells (askA o l q k).ans) ∧ Own 0 4 75 w'' u2 (rcells (askA o l q k).auth) ∧ Own 0 4 75 w'' u3 (rcells (askA o l q k).extra)) := fun w' h => ask_own l1 l2 w' h hb
      clear l1 l2
      generalize askA o l q k = A at *
      generalize askE o l q = E at *
      refine gset ?_
      repeat' (first | ((with_reducible refine o_s ?_); (first | (refine o_1 ?_; refine o_2 ?_) | (refine o_g ?_; first | refine o_u ?_ | refine o_k ?_ | refine o_n ?_ | refine o_v ?_ | ((first | refine o_G ?_ ?_ | refine o_N ?_ ?_) <;> intro hc)))) | ((fail_if_success (with_reducible refine o_s ?_)); go_step))
      refine wpl_allocB (z := zans) rfl (by decide +kernel) ?_
      intro w5 x5 s5 h5
      refine gset ?_
      refine wpl_storeB (v := .agg #[.int .i64 A.kind, u1, u2, u3]) rfl rfl rfl h5 (show sizeTy Tryz.prog 61 4 = true by decide +kernel) rfl (all4 rfl s1.one s2.one s3.one) ?_
      intro w6 p6
      have x6 : Ext w4 w6 := x5.move p6.mv (by rintro k ⟨⟩; exact Nat.le_refl _)
      have ha6 := pts_block (cs := [.int .i64 A.kind, u1, u2, u3]) p6.this
      have x36 := x4.trans x6
      have hp6 := hp3.ext x36
      have hq6 := hq3.ext x36
      have hv6 := hv3.ext x36
      have hx6 := hx3.trans x36
      have s1 := s1.ext x6
      have s2 := s2.ext x6
      have s3 := s3.ext x6
      clear p6 h5 x5
      repeat' (first | ((with_reducible refine o_s ?_); (first | (refine o_1 ?_; refine o_2 ?_) | (refine o_g ?_; first | refine o_u ?_ | refine o_k ?_ | refine o_n ?_ | refine o_v ?_ | ((first | refine o_G ?_ ?_ | refine o_N ?_ ?_) <;> intro hc)))) | ((fail_if_success (with_reducible refine o_s ?_)); go_step))
      refine wph_region (S := fun w' => Ext w6 w') (by decide +kernel) ?_
      intro wA xA hhA
      refine tk 0 ?_; refine gset ?_; refine tk 1 ?_; refine gset ?_; refine tk 2 ?_; refine gset ?_; refine tk 4 ?_; refine gset ?_; refine tk 5 ?_; refine gset ?_
      apply meetK5 (F := fun (t1 t2 t3 : Value) (b : Nat) w' => Ext w6 w' ∧ w6.heap.size ≤ b ∧ w'.heap[b]? = some (.cells zans.toArray 61 (0, 0)) ∧ Own 0 4 75 w' t1 (rcells A.ans) ∧ Own 0 4 75 w' t2 (rcells A.auth) ∧ Own 0 4 75 w' t3 (rcells A.extra))
      · intro hG
        have hx := xA
        refine wph_two (i := 3) (j := 11) (by decide +kernel) rfl rfl rfl ?_ ?_
        · refine wpl_callV (enters_of Tryz.func44 rfl rfl) rfl rfl (r1_Fold q _) ?_
          intro wB xB
          refine gset ?_
          have hx := hx.trans xB
          refine wph_nil ⟨hx, ?_⟩
          refine wph_take (i := 6) (v := .agg #[str (fold q), .int .i64 k]) rfl rfl (by decide +kernel) (by decide +kernel) (by decide +kernel) rfl hx (fun w' _ => Runs.build rfl (by kernel_rfl)) (fun _ _ _ h => h) ?_; refine gset ?_
          refine wph_two (i := 7) (j := 11) (by decide +kernel) rfl rfl rfl ?_ ?_
          · refine wpl_callR (enters_of Tryz.func41 rfl rfl) rfl rfl (cA _ (hv6.ext hx)) ?_
            rintro _ wC xC ⟨t1, t2, t3, rfl, st1, st2, st3⟩
            refine gset ?_
            have hx := hx.trans xC
            refine wph_nil ⟨hx, ?_⟩
            refine tk 8 ?_; refine gset ?_; refine tk 9 ?_; refine gset ?_; refine tk 10 ?_; refine gset ?_
            refine wph_one (i := 11) (by decide +kernel) rfl rfl ?_
            refine wpl_allocB (z := zans) rfl (by decide +kernel) ?_
            intro wD xD sA hbb
            have hbs := hx.size
            refine gset ?_
            have hx := hx.trans xD
            have st1 := st1.ext xD
            have st2 := st2.ext xD
            have st3 := st3.ext xD
            refine wph_nil ⟨hx, ?_⟩
            generalize wC.heap.size = b at *
            exact hG t1 t2 t3 b _ ⟨hx, hbs, hbb, st1, st2, st3⟩
          · refine wpl_allocB (z := zans) rfl (by decide +kernel) ?_
            intro wC xC sA hbb
            have hbs := hx.size
            refine gset ?_
            have hx := hx.trans xC
            refine wph_nil ⟨hx, ?_⟩
            generalize wB.heap.size = b at *
            refine wph_one (i := 7) (by decide +kernel) rfl rfl ?_
            refine wpl_callR (enters_of Tryz.func41 rfl rfl) rfl rfl (cA _ (hv6.ext hx)) ?_
            rintro _ wD xD ⟨t1, t2, t3, rfl, st1, st2, st3⟩
            refine gset ?_
            have hx := hx.trans xD
            refine wph_nil ⟨hx, ?_⟩
            refine tk 8 ?_; refine gset ?_; refine tk 9 ?_; refine gset ?_; refine tk 10 ?_; refine gset ?_
            have hbb := xD.at hbb
            exact hG t1 t2 t3 b _ ⟨hx, hbs, hbb, st1, st2, st3⟩
        · refine wpl_allocB (z := zans) rfl (by decide +kernel) ?_
          intro wB xB sA hbb
          have hbs := hx.size
          refine gset ?_
          have hx := hx.trans xB
          refine wph_nil ⟨hx, ?_⟩
          generalize wA.heap.size = b at *
          refine wph_one (i := 3) (by decide +kernel) rfl rfl ?_
          refine wpl_callV (enters_of Tryz.func44 rfl rfl) rfl rfl (r1_Fold q _) ?_
          intro wC xC
          refine gset ?_
          have hx := hx.trans xC
          refine wph_nil ⟨hx, ?_⟩
          refine wph_take (i := 6) (v := .agg #[str (fold q), .int .i64 k]) rfl rfl (by decide +kernel) (by decide +kernel) (by decide +kernel) rfl hx (fun w' _ => Runs.build rfl (by kernel_rfl)) (fun _ _ _ h => h) ?_; refine gset ?_
          have hbb := xC.at hbb
          refine wph_one (i := 7) (by decide +kernel) rfl rfl ?_
          refine wpl_callR (enters_of Tryz.func41 rfl rfl) rfl rfl (cA _ (hv6.ext hx)) ?_
          rintro _ wD xD ⟨t1, t2, t3, rfl, st1, st2, st3⟩
          refine gset ?_
          have hx := hx.trans xD
          refine wph_nil ⟨hx, ?_⟩
          refine tk 8 ?_; refine gset ?_; refine tk 9 ?_; refine gset ?_; refine tk 10 ?_; refine gset ?_
          have hbb := xD.at hbb
          exact hG t1 t2 t3 b _ ⟨hx, hbs, hbb, st1, st2, st3⟩
      · rintro t1 t2 t3 b wE ⟨xE, hb6, hE, st1, st2, st3⟩
        refine wph_one (i := 12) (by decide +kernel) rfl rfl ?_
        refine wpl_storeB (v := .agg #[.int .i64 A.kind, t1, t2, t3]) rfl rfl rfl hE (show sizeTy Tryz.prog 61 4 = true by decide +kernel) rfl (all4 rfl st1.sl.one st2.sl.one st3.sl.one) ?_
        intro wF pF
        have xF : Ext w6 wF := xE.move pF.mv (by rintro k ⟨⟩; exact hb6)
        have hF7 := pts_block (cs := [.int .i64 A.kind, t1, t2, t3]) pF.this
        have r1 : Sl 4 wF t1 (rcells A.ans) := (st1.mv pF.mv (.inr (st1.neBlock hE (by decide)))).sl
        have r2 : Sl 4 wF t2 (rcells A.auth) := (st2.mv pF.mv (.inr (st2.neBlock hE (by decide)))).sl
        have r3 : Sl 4 wF t3 (rcells A.extra) := (st3.mv pF.mv (.inr (st3.neBlock hE (by decide)))).sl
        have hA7 : AnsA A (.agg #[.int .i64 A.kind, u1, u2, u3]) wF := ⟨u1, u2, u3, rfl, s1.ext xF, s2.ext xF, s3.ext xF⟩
        have hB7 : AnsA A (.agg #[.int .i64 A.kind, t1, t2, t3]) wF := ⟨t1, t2, t3, rfl, r1, r2, r3⟩
        have ha7 := ha6.ext xF
        have hx7 := hx6.trans xF
        refine wph_nil ⟨xF, ?_⟩
        refine tk 13 ?_; refine gset ?_
        refine wph_done (by decide +kernel) ?_
        clear ha6 hp6 hq6 hv6 s1 s2 s3 hE st1 st2 st3 r1 r2 r3 pF hb6 xE hx6
        repeat' (first | ((with_reducible refine o_s ?_); (first | (refine o_1 ?_; refine o_2 ?_) | (refine o_g ?_; first | refine o_u ?_ | refine o_k ?_ | refine o_n ?_ | refine o_v ?_ | ((first | refine o_G ?_ ?_ | refine o_N ?_ ?_) <;> intro hc)))) | ((fail_if_success (with_reducible refine o_s ?_)); go_step))
        refine wpq_region (by decide +kernel) (by decide +kernel) ?_
        repeat' (first | ((with_reducible refine q_s ?_); (first | (refine q_1 ?_; refine q_2 ?_) | (refine q_g ?_; first | refine q_u ?_ | refine q_k ?_ | refine q_v ?_))) | (with_reducible refine q_n ?_))
        refine wpq_call (enters_of Tryz.func46 rfl rfl) rfl rfl (fun w' x' => l9_Told w' (hA7.ext x')) ?_
        refine gset ?_
        repeat' (first | ((with_reducible refine q_s ?_); (first | (refine q_1 ?_; refine q_2 ?_) | (refine q_g ?_; first | refine q_u ?_ | refine q_k ?_ | refine q_v ?_))) | (with_reducible refine q_n ?_))
        refine wpq_call (enters_of Tryz.func46 rfl rfl) rfl rfl (fun w' x' => l9_Told w' (hB7.ext x')) ?_
        refine gset ?_
        repeat' (first | ((with_reducible refine q_s ?_); (first | (refine q_1 ?_; refine q_2 ?_) | (refine q_g ?_; first | refine q_u ?_ | refine q_k ?_ | refine q_v ?_))) | (with_reducible refine q_n ?_))
        refine wpq_call (enters_of Tryz.func45 rfl rfl) rfl rfl (fun w' x' => r9_Same w' (hA7.ext x') (hB7.ext x')) ?_
        refine gset ?_
        repeat' (first | ((with_reducible refine q_s ?_); (first | (refine q_1 ?_; refine q_2 ?_) | (refine q_g ?_; first | refine q_u ?_ | refine q_k ?_ | refine q_v ?_))) | (with_reducible refine q_n ?_))
        refine wpq_call (enters_of Tryz.func38 rfl rfl) rfl rfl (fun w' _ => l9_live w') ?_
        refine gset ?_
        repeat' (first | ((with_reducible refine q_s ?_); (first | (refine q_1 ?_; refine q_2 ?_) | (refine q_g ?_; first | refine q_u ?_ | refine q_k ?_ | refine q_v ?_))) | (with_reducible refine q_n ?_))
        intro w8 x8
        repeat' (first | ((with_reducible refine o_s ?_); (first | (refine o_1 ?_; refine o_2 ?_) | (refine o_g ?_; first | refine o_u ?_ | refine o_k ?_ | refine o_n ?_ | refine o_v ?_ | ((first | refine o_G ?_ ?_ | refine o_N ?_ ?_) <;> intro hc)))) | ((fail_if_success (with_reducible refine o_s ?_)); go_step))
        go_ret
        exact ⟨rfl, hx7.trans x8⟩
/-! ### LookupDenies -/
section
variable {P : Program} {w : World} {ts : List Value} {df : List Deferred} {d : Option Nat} {ty : TypeId} {ps : String} {af : Array Edge} {g : Option (Nat × Bool)}
theorem Runs.neqBB {t u : TypeId} {x y : Operand} {a b : Bool} (hx : (Act.mk ts.toArray df).eval x = .bool a) (hy : (Act.mk ts.toArray df).eval y = .bool b) (ht : boolTy P t = true) :
    Runs P (Oper.mk d (.binOp .neq t x y u) ty ps af g) (Act.mk ts.toArray df) w (.bool (a != b)) := by
  have hu : P.underlying t = some .bool := by
    unfold boolTy at ht; split at ht
    · assumption
    · cases ht
  constructor
  simp [execOp, hx, hy, eqGuard, binOp, run_equal_bool w t a b hu, bne]
end
theorem ask_E {o : List UInt8} {l : List RSet} {q : List UInt8} (h : askE o l q = 0) : zoneR o l = 0 ∧ checkE q = 0 := by
  unfold askE at h
  split at h
  · rename_i h1; exact absurd h h1
  · rename_i h1; exact ⟨by simpa using h1, h⟩
theorem denies_law {o : List UInt8} {l : List RSet} {q : List UInt8} {k : Int} (h : askE o l q = 0) (ha : (askA o l q k).ans = []) :
    ((askA o l q k).kind = 4 ↔ underN q o = false) ∧ ((askA o l q k).kind = 3 ↔ underN q o = true ∧ (cutP o l q).2 = true) ∧ ((askA o l q k).kind = 2 → isIn l q = false) := by
  have hz := zone_ok (ask_E h).1
  have e : askA o l q k = ⟨(askP o l k 9 0 (fold q)).kind, (askP o l k 9 0 (fold q)).ans, (askP o l k 9 0 (fold q)).auth, extraS l (tellsR (askP o l k 9 0 (fold q)))⟩ := by rw [askA, if_neg (by simp [h])]
  rw [e] at ha ⊢
  have := ask_denies hz k (fold q) ha
  rw [under_foldL, cutP_fold, isIn_fold] at this
  exact this
set_option maxHeartbeats 8000000 in
theorem k14 (o : List UInt8) (v : Value) (l : List RSet) (q : List UInt8) (k : Int) (w : World) (hv : SetsAt w v l) : Calls Tryz.prog 14 #[.agg #[str o, v], .agg #[str q, .int .i64 k]] w (Yes w) := by
  go_enter Tryz.func14, Tryz.ntmps14
  repeat' ((fail_if_success (with_reducible refine o_s ?_)); go_step)
  refine wpl_box (vs := [str o, v]) rfl rfl ?_
  intro p w1 x1 hp
  refine gset ?_
  refine wpl_box (vs := [str q, .int .i64 k]) rfl rfl ?_
  intro pq w2 x2 hq
  refine gset ?_
  have hx2 := x1.trans x2
  have hp2 := hp.ext x2
  have hv2 := hv.ext hx2
  repeat' (first | ((with_reducible refine o_s ?_); (first | (refine o_1 ?_; refine o_2 ?_) | (refine o_g ?_; first | refine o_u ?_ | refine o_k ?_ | refine o_n ?_ | refine o_v ?_ | ((first | refine o_G ?_ ?_ | refine o_N ?_ ?_) <;> intro hc)))) | ((fail_if_success (with_reducible refine o_s ?_)); go_step))
  refine wpl_callV (enters_of Tryz.func25 rfl rfl) rfl rfl (r8_Few o v l _ hv2) ?_; intro w3 x3; refine gset ?_
  have hx3 := hx2.trans x3
  have hp3 := hp2.ext x3
  have hq3 := hq.ext x3
  have hv3 := hv2.ext x3
  cases hF : (decide ((o.length : Int) ≤ 300) && fewS l) with
  | false =>
    repeat' (first | ((with_reducible refine o_s ?_); (first | (refine o_1 ?_; refine o_2 ?_) | (refine o_g ?_; first | refine o_u ?_ | refine o_k ?_ | refine o_n ?_ | refine o_v ?_ | ((first | refine o_G ?_ ?_ | refine o_N ?_ ?_) <;> intro hc)))) | ((fail_if_success (with_reducible refine o_s ?_)); go_step))
    refine wpl_callV (enters_of Tryz.func38 rfl rfl) rfl rfl (l9_live _) ?_; intro w4 x4; refine gset ?_
    repeat' (first | ((with_reducible refine o_s ?_); (first | (refine o_1 ?_; refine o_2 ?_) | (refine o_g ?_; first | refine o_u ?_ | refine o_k ?_ | refine o_n ?_ | refine o_v ?_ | ((first | refine o_G ?_ ?_ | refine o_N ?_ ?_) <;> intro hc)))) | ((fail_if_success (with_reducible refine o_s ?_)); go_step))
    go_ret
    exact ⟨rfl, hx3.trans x4⟩
  | true =>
    have hb := (fewz hF).2.1
    repeat' (first | ((with_reducible refine o_s ?_); (first | (refine o_1 ?_; refine o_2 ?_) | (refine o_g ?_; first | refine o_u ?_ | refine o_k ?_ | refine o_n ?_ | refine o_v ?_ | ((first | refine o_G ?_ ?_ | refine o_N ?_ ?_) <;> intro hc)))) | ((fail_if_success (with_reducible refine o_s ?_)); go_step))
    · refine wpl_callV (enters_of Tryz.func38 rfl rfl) rfl rfl (l9_live _) ?_; intro w4 x4; refine gset ?_
      repeat' (first | ((with_reducible refine o_s ?_); (first | (refine o_1 ?_; refine o_2 ?_) | (refine o_g ?_; first | refine o_u ?_ | refine o_k ?_ | refine o_n ?_ | refine o_v ?_ | ((first | refine o_G ?_ ?_ | refine o_N ?_ ?_) <;> intro hc)))) | ((fail_if_success (with_reducible refine o_s ?_)); go_step))
      go_ret
      exact ⟨rfl, hx3.trans x4⟩
    · refine wpl_callR (enters_of Tryz.func41 rfl rfl) rfl rfl (ask_is rfl rfl _ hv3 hb) ?_
      rintro _ w4 x4 ⟨u1, u2, u3, rfl, s1, s2, s3⟩
      refine gset ?_
      repeat' (first | ((with_reducible refine o_s ?_); (first | (refine o_1 ?_; refine o_2 ?_) | (refine o_g ?_; first | refine o_u ?_ | refine o_k ?_ | refine o_n ?_ | refine o_v ?_ | ((first | refine o_G ?_ ?_ | refine o_N ?_ ?_) <;> intro hc)))) | ((fail_if_success (with_reducible refine o_s ?_)); go_step))
      refine wpl_allocB (z := zans) rfl (by decide +kernel) ?_
      intro w5 x5 s5 h5
      refine gset ?_
      refine wpl_storeB (v := .agg #[.int .i64 (askA o l q k).kind, u1, u2, u3]) rfl rfl rfl h5 (show sizeTy Tryz.prog 61 4 = true by decide +kernel) rfl (all4 rfl s1.one s2.one s3.one) ?_
      intro w6 p6
      have x6 : Ext w4 w6 := x5.move p6.mv (by rintro k ⟨⟩; exact Nat.le_refl _)
      have ha6 := pts_block (cs := [.int .i64 (askA o l q k).kind, u1, u2, u3]) p6.this
      have x36 := x4.trans x6
      have hp6 := hp3.ext x36
      have hq6 := hq3.ext x36
      have hv6 := hv3.ext x36
      have hx6 := hx3.trans x36
      have g1 := s1.ext x6
      clear p6 h5 x5 s1 s2 s3
      by_cases hE : askE o l q = 0
      · have hdl := denies_law (k := k) hE
        obtain ⟨z1, z2⟩ := ask_E hE
        rw [hE]
        generalize askA o l q k = A at *
        have hrl := rcells_length A.ans
        repeat' (first | ((with_reducible refine o_s ?_); (first | (refine o_1 ?_; refine o_2 ?_) | (refine o_g ?_; first | refine o_u ?_ | refine o_k ?_ | refine o_n ?_ | refine o_v ?_ | ((first | refine o_G ?_ ?_ | refine o_N ?_ ?_) <;> intro hc)))) | ((fail_if_success (with_reducible refine o_s ?_)); go_step))
        · refine wpl_callV (enters_of Tryz.func38 rfl rfl) rfl rfl (l9_live _) ?_; intro w7 x7; refine gset ?_
          repeat' (first | ((with_reducible refine o_s ?_); (first | (refine o_1 ?_; refine o_2 ?_) | (refine o_g ?_; first | refine o_u ?_ | refine o_k ?_ | refine o_n ?_ | refine o_v ?_ | ((first | refine o_G ?_ ?_ | refine o_N ?_ ?_) <;> intro hc)))) | ((fail_if_success (with_reducible refine o_s ?_)); go_step))
          go_ret
          exact ⟨rfl, hx6.trans x7⟩
        · have hA0 : A.ans = [] := List.eq_nil_of_length_eq_zero (by have := ‹((rcells A.ans).length : Int) ≤ 0›; omega)
          obtain ⟨d4, d3, d2⟩ := hdl hA0
          have hz := zone_ok z1
          have c39 : Calls Tryz.prog 39 #[.agg #[str o, v], str q] w6 (RetV w6 (.tuple #[str (cutP o l q).1, .bool (cutP o l q).2])) := by
            have := p_Cut o v l q w6 hv6 hb
            rw [if_pos z1, cut_eq hz.chk] at this
            exact this
          refine wpl_callV (enters_of Tryz.func39 rfl rfl) rfl rfl (c39) ?_; intro w7 x7; refine gset ?_
          have ha7 := ha6.ext x7
          have hp7 := hp6.ext x7
          have hq7 := hq6.ext x7
          have hv7 := hv6.ext x7
          have hx7 := hx6.trans x7
          repeat' (first | ((with_reducible refine o_s ?_); (first | (refine o_1 ?_; refine o_2 ?_) | (refine o_g ?_; first | refine o_u ?_ | refine o_k ?_ | refine o_n ?_ | refine o_v ?_ | ((first | refine o_G ?_ ?_ | refine o_N ?_ ?_) <;> intro hc)))) | ((fail_if_success (with_reducible refine o_s ?_)); go_step))
          refine wpl_callV (enters_of Tryz.func50 rfl rfl) rfl rfl (r1_Under q o _) ?_; intro w8 x8; refine gset ?_
          have ha8 := ha7.ext x8
          have hp8 := hp7.ext x8
          have hq8 := hq7.ext x8
          have hv8 := hv7.ext x8
          have hx8 := hx7.trans x8
          have k4 : decide (A.kind = 4) = !underN q o := by
            cases hu : underN q o <;> simp [d4, hu]
          have k3 : decide (A.kind = 3) = (underN q o && (cutP o l q).2) := by
            cases hu : underN q o <;> cases hc : (cutP o l q).2 <;> simp [d3, hu, hc]
          clear d4 d3
          cases hu : underN q o <;> cases hc : (cutP o l q).2
          all_goals
            rw [hu] at k4 k3
            rw [hc] at k3
            simp only [Bool.not_true, Bool.not_false, Bool.and_true, Bool.and_false, Bool.true_and, Bool.false_and] at k4 k3
            repeat' (first | ((with_reducible refine o_s ?_); (first | (refine o_1 ?_; refine o_2 ?_) | (refine o_g ?_; first | refine o_u ?_ | refine o_k ?_ | refine o_n ?_ | refine o_v ?_ | ((first | refine o_G ?_ ?_ | refine o_N ?_ ?_) <;> intro hc)))) | ((fail_if_success (with_reducible refine o_s ?_)); go_step))
            refine wpl_run rfl (Runs.neqBB rfl rfl (by decide +kernel)) ?_
            refine gset ?_
            rw [k4]
            simp only [bne_self_eq_false]
            repeat' (first | ((with_reducible refine o_s ?_); (first | (refine o_1 ?_; refine o_2 ?_) | (refine o_g ?_; first | refine o_u ?_ | refine o_k ?_ | refine o_n ?_ | refine o_v ?_ | ((first | refine o_G ?_ ?_ | refine o_N ?_ ?_) <;> intro hc)))) | ((fail_if_success (with_reducible refine o_s ?_)); go_step))
            refine wpl_run rfl (Runs.neqBB rfl rfl (by decide +kernel)) ?_
            refine gset ?_
            rw [k3]
            simp only [bne_self_eq_false]
            repeat' (first | ((with_reducible refine o_s ?_); (first | (refine o_1 ?_; refine o_2 ?_) | (refine o_g ?_; first | refine o_u ?_ | refine o_k ?_ | refine o_n ?_ | refine o_v ?_ | ((first | refine o_G ?_ ?_ | refine o_N ?_ ?_) <;> intro hc)))) | ((fail_if_success (with_reducible refine o_s ?_)); go_step))
          all_goals first
            | (have hk2 := ‹(!decide (A.kind = 2)) = false›
               have hk2' : A.kind = 2 := by simpa using hk2
               have hth : (decide (zoneR o l = 0) && thereS o l q) = false := by
                 have := d2 hk2'
                 unfold isIn at this
                 simp [thereS, this]
               refine wpl_callV (enters_of Tryz.func49 rfl rfl) rfl rfl (p_Exists o v l q _ hv8 hb) ?_; intro w9 x9; refine gset ?_
               rw [hth]
               repeat' (first | ((with_reducible refine o_s ?_); (first | (refine o_1 ?_; refine o_2 ?_) | (refine o_g ?_; first | refine o_u ?_ | refine o_k ?_ | refine o_n ?_ | refine o_v ?_ | ((first | refine o_G ?_ ?_ | refine o_N ?_ ?_) <;> intro hc)))) | ((fail_if_success (with_reducible refine o_s ?_)); go_step))
               refine wpl_callV (enters_of Tryz.func38 rfl rfl) rfl rfl (l9_live _) ?_; intro w10 x10; refine gset ?_
               repeat' (first | ((with_reducible refine o_s ?_); (first | (refine o_1 ?_; refine o_2 ?_) | (refine o_g ?_; first | refine o_u ?_ | refine o_k ?_ | refine o_n ?_ | refine o_v ?_ | ((first | refine o_G ?_ ?_ | refine o_N ?_ ?_) <;> intro hc)))) | ((fail_if_success (with_reducible refine o_s ?_)); go_step))
               go_ret
               exact ⟨rfl, hx8.trans (x9.trans x10)⟩)
            | (refine wpl_callV (enters_of Tryz.func38 rfl rfl) rfl rfl (l9_live _) ?_; intro w9 x9; refine gset ?_
               repeat' (first | ((with_reducible refine o_s ?_); (first | (refine o_1 ?_; refine o_2 ?_) | (refine o_g ?_; first | refine o_u ?_ | refine o_k ?_ | refine o_n ?_ | refine o_v ?_ | ((first | refine o_G ?_ ?_ | refine o_N ?_ ?_) <;> intro hc)))) | ((fail_if_success (with_reducible refine o_s ?_)); go_step))
               go_ret
               exact ⟨rfl, hx8.trans x9⟩)
      · repeat' (first | ((with_reducible refine o_s ?_); (first | (refine o_1 ?_; refine o_2 ?_) | (refine o_g ?_; first | refine o_u ?_ | refine o_k ?_ | refine o_n ?_ | refine o_v ?_ | ((first | refine o_G ?_ ?_ | refine o_N ?_ ?_) <;> intro hc)))) | ((fail_if_success (with_reducible refine o_s ?_)); go_step))
        all_goals first
          | (exfalso
             have hh := ‹(!decide (askE o l q = 0)) = false›
             simp [hE] at hh
             done)
          | (refine wpl_callV (enters_of Tryz.func38 rfl rfl) rfl rfl (l9_live _) ?_; intro w7 x7; refine gset ?_
             repeat' (first | ((with_reducible refine o_s ?_); (first | (refine o_1 ?_; refine o_2 ?_) | (refine o_g ?_; first | refine o_u ?_ | refine o_k ?_ | refine o_n ?_ | refine o_v ?_ | ((first | refine o_G ?_ ?_ | refine o_N ?_ ?_) <;> intro hc)))) | ((fail_if_success (with_reducible refine o_s ?_)); go_step))
             go_ret
             exact ⟨rfl, hx6.trans x7⟩)
theorem mem_take_succ {α : Type} {l : List α} {k : Nat} (h : k < l.length) {x : α} : x ∈ l.take (k + 1) ↔ x ∈ l.take k ∨ l[k] = x := by
  rw [List.take_add_one, List.getElem?_eq_getElem h]
  rw [List.mem_append]
  simp only [Option.toList_some, List.mem_singleton]
  rw [eq_comm (a := x)]
end Go.Proofs.X
