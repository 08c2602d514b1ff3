/- Laws and walks that the proof of the statement is made of (part 17). -/
import Derived.Test.YtoajkilickakiaaGreatProg
import Derived.Test.YtoajkilickakiaaGreatShelf
import Derived.Shelf.SlSortCmp.NoneTotal
import Derived.Shelf.RegionOpenPlain
import Derived.Lib.Strings
import Derived.Lib.Slices
import Derived.Lib.Walk
import Derived.Lib.Builder
import Derived.Lib.AppendStr
import Derived.Lib.UnsafeStr
import Derived.Lib.MakeNoZero
import Derived.WalkKit
import Derived.Laws.Externs
import Derived.Laws.IdiomCopy
import Derived.Laws.BitsLemmas
import GoSem.Claims
import Derived.Lib.Hide
import Derived.OwnWalk
import Derived.OrdersIn
import Derived.LoopIn
import Derived.Laws.Pointers
import Derived.Test.YtoajkilickakiaaGreatP1
import Derived.Test.YtoajkilickakiaaGreatP2
import Derived.Test.YtoajkilickakiaaGreatP3
import Derived.Test.YtoajkilickakiaaGreatP4
import Derived.Test.YtoajkilickakiaaGreatP5
import Derived.Test.YtoajkilickakiaaGreatP6
import Derived.Test.YtoajkilickakiaaGreatP9
import Derived.Test.YtoajkilickakiaaGreatP10
import Derived.Test.YtoajkilickakiaaGreatP11
import Derived.Test.YtoajkilickakiaaGreatP12
import Derived.Test.YtoajkilickakiaaGreatP13
import Derived.Test.YtoajkilickakiaaGreatP14
import Derived.Test.YtoajkilickakiaaGreatP15
import Derived.Test.YtoajkilickakiaaGreatP16
set_option linter.unusedSimpArgs false
set_option linter.unusedVariables false
namespace Go.Proofs.X
open Go.RowKit
set_option maxRecDepth 100000
theorem goneF_append : ∀ (g h l : List Rec), goneF l (g ++ h) = (goneF l g).bind fun m => goneF m h
  | [], h, l => by simp [goneF]
  | r :: g, h, l => by
    rw [List.cons_append, goneF, goneF]
    split
    · exact goneF_append g h _
    · rfl
theorem newF_append : ∀ (g h l : List Rec), newF l (g ++ h) = (newF l g).bind fun m => newF m h
  | [], h, l => by simp [newF]
  | r :: g, h, l => by
    rw [List.cons_append, newF, newF]
    split
    · rfl
    · exact newF_append g h _
theorem gone_step {l m g : List Rec} {k : Nat} (hk : k < g.length) (h : goneF l (g.take k) = some m) : goneF l (g.take (k + 1)) = if g[k] ∈ m then some (m.erase g[k]) else none := by
  rw [List.take_succ_eq_append_getElem hk, goneF_append, h]
  simp [goneF]
theorem new_step {l m g : List Rec} {k : Nat} (hk : k < g.length) (h : newF l (g.take k) = some m) : newF l (g.take (k + 1)) = if g[k] ∈ m then none else some (m ++ [g[k]]) := by
  rw [List.take_succ_eq_append_getElem hk, newF_append, h]
  simp [newF]
theorem gone_bad {l m g : List Rec} {k : Nat} (hk : k < g.length) (h : goneF l (g.take k) = some m) (hn : g[k] ∉ m) : goneF l g = none := by
  rw [← List.take_append_drop k g, goneF_append, h, List.drop_eq_getElem_cons hk]
  simp [goneF, hn]
theorem new_bad {l m g : List Rec} {k : Nat} (hk : k < g.length) (h : newF l (g.take k) = some m) (hn : g[k] ∈ m) : newF l g = none := by
  rw [← List.take_append_drop k g, newF_append, h, List.drop_eq_getElem_cons hk]
  simp [newF, hn]
theorem gone_len : ∀ {g l m : List Rec}, goneF l g = some m → m.length ≤ l.length ∧ ∀ r ∈ m, r ∈ l
  | [], l, m, h => by rw [goneF] at h; cases h; exact ⟨Nat.le_refl _, fun _ h => h⟩
  | r :: g, l, m, h => by
    rw [goneF] at h
    split at h
    · obtain ⟨h1, h2⟩ := gone_len h
      exact ⟨Nat.le_trans h1 (List.length_erase_le), fun q hq => List.mem_of_mem_erase (h2 q hq)⟩
    · cases h
theorem new_len : ∀ {g l m : List Rec}, newF l g = some m → m.length = l.length + g.length ∧ ∀ r ∈ m, r ∈ l ∨ r ∈ g
  | [], l, m, h => by rw [newF] at h; cases h; exact ⟨by simp, fun _ h => .inl h⟩
  | r :: g, l, m, h => by
    rw [newF] at h
    split at h
    · cases h
    · obtain ⟨h1, h2⟩ := new_len h
      refine ⟨by rw [h1]; simp; omega, fun q hq => ?_⟩
      rcases h2 q hq with h3 | h3
      · rcases List.mem_append.1 h3 with h4 | h4
        · exact .inl h4
        · exact .inr (by rw [List.mem_singleton.1 h4]; simp)
      · exact .inr (List.mem_cons_of_mem _ h3)
theorem idx_mem {m : List Rec} {r : Rec} (h : r ∈ m) : ∃ i, i < m.length ∧ idxI (fun q => decide (r = q)) m = (i : Nat) ∧ m.eraseIdx i = m.erase r := by
  have hlt := List.idxOf_lt_length_of_mem h
  refine ⟨m.idxOf r, hlt, idx_at hlt ?_ ?_, (List.erase_eq_eraseIdx_of_idxOf rfl).symm⟩
  · rw [any_mem, decide_eq_false_iff_not]
    intro hm
    obtain ⟨j, hj, he⟩ := List.getElem_of_mem hm
    rw [List.length_take] at hj
    rw [List.getElem_take] at he
    have := List.not_of_lt_findIdx (p := (· == r)) (xs := m) (i := j) (by unfold List.idxOf at hj; omega)
    simp [he] at this
  · have := List.getElem_idxOf hlt
    rw [this]; simp
theorem idx_none {m : List Rec} {r : Rec} (h : r ∉ m) : idxI (fun q => decide (r = q)) m = -1 := idx_no (by rw [any_mem, decide_eq_false h])
theorem recs_len {s : RSet} : (recsOf s).length = s.data.length := by simp [recsOf]
theorem putS_recs (r : Rec) : ∀ gs : List RSet, (recordsS (putS r gs)).length ≤ (recordsS gs).length + 1
  | [] => by simp [putS, recordsS, recsOf, recSet]
  | g :: gs => by
    have ih := putS_recs r gs
    unfold recordsS at ih ⊢
    rw [putS]
    split
    · simp only [List.map_cons, List.flatten_cons, List.length_append] at ih ⊢; omega
    · split
      · simp only [List.map_cons, List.flatten_cons, List.length_append]
        have : (recsOf (recSet r)).length = 1 := rfl
        omega
      · simp only [List.map_cons, List.flatten_cons, List.length_append]
        have h1 : (recsOf ⟨fold r.name, r.kind, min r.ttl g.ttl, textS r.data g.data⟩).length ≤ (recsOf g).length + 1 := by
          rw [recs_len, recs_len]
          exact textS_len _ _
        omega
theorem putAll_recs (l : List Rec) : ∀ k, k ≤ l.length → (recordsS (putAll (l.take k))).length ≤ k
  | 0, _ => by simp [putAll, recordsS]
  | k + 1, h => by
    rw [putAll_succ h]
    have := putS_recs l[k] (putAll (l.take k))
    have ih := putAll_recs l k (by omega)
    omega
theorem loadL_bounds {o : List UInt8} {m : List Rec} {n : Nat} (hm : ∀ r ∈ m, r.data.length ≤ n) : (∀ s ∈ loadL o m, s.data.length ≤ m.length) ∧ (∀ s ∈ loadL o m, ∀ d ∈ s.data, d.length ≤ n) ∧ (recordsS (loadL o m)).length ≤ m.length := by
  unfold loadL
  split
  · refine ⟨putAll_len m, fun s hs d hd => ?_, ?_⟩
    · obtain ⟨r, hr, rfl⟩ := putAll_data hs hd
      exact hm r hr
    · have := putAll_recs m m.length (Nat.le_refl _)
      rwa [List.take_length] at this
  · simp [recordsS]
theorem recs_data {l : List RSet} {n : Nat} (h : ∀ s ∈ l, ∀ d ∈ s.data, d.length ≤ n) : ∀ r ∈ recordsS l, r.data.length ≤ n := by
  intro r hr
  unfold recordsS at hr
  obtain ⟨x, hx, hr⟩ := List.mem_flatten.1 hr
  obtain ⟨s, hs, rfl⟩ := List.mem_map.1 hx
  unfold recsOf at hr
  obtain ⟨d, hd, rfl⟩ := List.mem_map.1 hr
  exact h s hs d hd
def AppU (B : Nat) (o : List UInt8) (l : List RSet) (d : DeltaR) (q : Value) (w : World) : Prop := ∃ y, q = .tuple #[.agg #[str (appO o l d), y], .int .i64 (appE o l d)] ∧ SetsO B w y (appL o l d)
theorem AppU.bad {B : Nat} {o : List UInt8} {l : List RSet} {d : DeltaR} {e : Int} {w : World} (h : appE o l d = e) (he : e ≠ 0) : AppU B o l d (.tuple #[.agg zzone.toArray, .int .i64 e]) w := by
  refine ⟨.slice none 0 0, ?_, ?_⟩
  · rw [appO, if_neg (by rw [h]; exact he), h]; rfl
  · rw [appL, if_neg (by rw [h]; exact he)]; exact SetsO.nil _ _
theorem appE_none {o : List UInt8} {l : List RSet} {d : DeltaR} (q0 : zoneR o l = 0) (q1 : (soaZ o l).serial = d.fr) (h : editR (recordsS l) d = none) : appE o l d = 5 := by rw [appE, if_pos q0, if_pos q1, h]
theorem appE_some {o : List UInt8} {l : List RSet} {d : DeltaR} {x : List Rec} (q0 : zoneR o l = 0) (q1 : (soaZ o l).serial = d.fr) (h : editR (recordsS l) d = some x) : appE o l d = endE o x d.to := by rw [appE, if_pos q0, if_pos q1, h]
theorem edit_none1 {l : List Rec} {d : DeltaR} (h : goneF l d.gone = none) : editR l d = none := by rw [editR, h]; rfl
theorem edit_of {l m : List Rec} {d : DeltaR} (h : goneF l d.gone = some m) : editR l d = newF m d.new := by rw [editR, h]; rfl
set_option maxHeartbeats 8000000 in
theorem p_Apply (o : List UInt8) (v : Value) (l : List RSet) {d : DeltaR} {r : Value} (w : World) (hv : SetsAt w v l) (hd : DelA d r w)
    (bl : ∀ s ∈ l, s.data.length ≤ 1000000) (dl : ∀ s ∈ l, ∀ d ∈ s.data, d.length ≤ 1000000) (h1 : (recordsS l).length ≤ 5000) (h2 : d.new.length ≤ 5000) (dn : ∀ q ∈ d.new, q.data.length ≤ 1000000) :
    Calls Tryz.prog 28 #[.agg #[str o, v], r] w (Ret w (AppU w.heap.size o l d)) := by
  obtain ⟨g, n, rfl, sg, sn⟩ := hd
  have lg := rcells_length d.gone
  have ln := rcells_length d.new
  have lgl := sg.le
  have lnl := sn.le
  go_enter Tryz.func28, Tryz.ntmps28
  repeat' ((fail_if_success (with_reducible refine o_s ?_)); go_step)
  refine wpl_box (vs := [str o, v]) rfl rfl ?_
  intro p w1 x1 hp
  refine gset ?_
  refine wpl_box (vs := [.int .i64 d.fr, .int .i64 d.to, g, n]) rfl rfl ?_
  intro q w2 x2 hq
  refine gset ?_
  refine wpl_allocB (z := zzone) rfl (by decide +kernel) ?_
  intro w3 x3 s3 h3
  refine gset ?_
  have hx3 := (x1.trans x2).trans x3
  have zz := (x1.trans x2).size
  have hp3 := (hp.ext x2).ext x3
  have hq3 := hq.ext x3
  repeat' (first | ((with_reducible refine o_s ?_); (first | (refine o_1 ?_; refine o_2 ?_) | (refine o_g ?_; first | refine o_u ?_ | refine o_k ?_ | refine o_n ?_ | refine o_v ?_ | ((first | refine o_G ?_ ?_ | refine o_N ?_ ?_) <;> intro hc)))) | ((fail_if_success (with_reducible refine o_s ?_)); go_step))
  refine wpl_callV (enters_of Tryz.func63 rfl rfl) rfl rfl (p_Soa o v l _ (hv.ext hx3) bl (fun s hs d hd => by have := dl s hs d hd; omega)) ?_; intro w4 x4; refine gset ?_
  have hx4 := hx3.trans x4
  repeat' (first | ((with_reducible refine o_s ?_); (first | (refine o_1 ?_; refine o_2 ?_) | (refine o_g ?_; first | refine o_u ?_ | refine o_k ?_ | refine o_n ?_ | refine o_v ?_ | ((first | refine o_G ?_ ?_ | refine o_N ?_ ?_) <;> intro hc)))) | ((fail_if_success (with_reducible refine o_s ?_)); go_step))
  refine wpl_allocB (z := zeroSoa) rfl (by decide +kernel) ?_
  intro w5 x5 s5 h5
  refine gset ?_
  refine wpl_storeB (v := .agg (soaZ o l).cells.toArray) rfl rfl rfl h5 (show sizeTy Tryz.prog 103 7 = true by decide +kernel) rfl (soaR_one _) ?_
  intro w6 p6
  have x46 : Ext w4 w6 := x5.move p6.mv (by rintro k ⟨⟩; exact Nat.le_refl _)
  have b6 : w6.heap[w4.heap.size]? = some (.cells (soaZ o l).cells.toArray 103 (0, 0)) := p6.this
  have x36 := x4.trans x46
  have hx6 := hx3.trans x36
  clear p6 h5 x5
  have h6 := x36.at h3
  have hp6 := hp3.ext x36
  have hq6 := hq3.ext x36
  repeat' (first | ((with_reducible refine o_s ?_); (first | (refine o_1 ?_; refine o_2 ?_) | (refine o_g ?_; first | refine o_u ?_ | refine o_k ?_ | refine o_n ?_ | refine o_v ?_ | ((first | refine o_G ?_ ?_ | refine o_N ?_ ?_) <;> intro hc)))) | ((fail_if_success (with_reducible refine o_s ?_)); go_step))
  · have q0 : ¬ zoneR o l = 0 := by simpa using (by assumption : (!decide (zoneR o l = 0)) = true)
    refine wpl_run (v := .agg zzone.toArray) rfl (Runs.build0 (by kernel_rfl)) ?_
    refine gset ?_
    repeat' (first | ((with_reducible refine o_s ?_); (first | (refine o_1 ?_; refine o_2 ?_) | (refine o_g ?_; first | refine o_u ?_ | refine o_k ?_ | refine o_n ?_ | refine o_v ?_ | ((first | refine o_G ?_ ?_ | refine o_N ?_ ?_) <;> intro hc)))) | ((fail_if_success (with_reducible refine o_s ?_)); go_step))
    refine wpl_storeB (v := .agg zzone.toArray) rfl rfl rfl h6 (by decide +kernel) rfl (by decide +kernel) ?_
    intro wz pz
    have xz : Ext w wz := hx6.move pz.mv (by rintro k ⟨⟩; exact zz)
    repeat' (first | ((with_reducible refine o_s ?_); (first | (refine o_1 ?_; refine o_2 ?_) | (refine o_g ?_; first | refine o_u ?_ | refine o_k ?_ | refine o_n ?_ | refine o_v ?_ | ((first | refine o_G ?_ ?_ | refine o_N ?_ ?_) <;> intro hc)))) | ((fail_if_success (with_reducible refine o_s ?_)); go_step))
    refine bodyPost_ret (results_cellT (cs := zzone) rfl rfl pz.this (by decide +kernel)) rfl ⟨_, rfl, xz, ?_⟩
    exact AppU.bad (by rw [appE, if_neg q0]) q0
  · have q0 : zoneR o l = 0 := by simpa using (by assumption : (!decide (zoneR o l = 0)) = false)
    have pb6 := pts_block b6
    have pb6' : Pts w6 (.pointer (some ⟨w4.heap.size, 0, none⟩)) [str (soaZ o l).main, str (soaZ o l).mail, .int .i64 (soaZ o l).serial, .int .i64 (soaZ o l).refresh, .int .i64 (soaZ o l).retry, .int .i64 (soaZ o l).expire, .int .i64 (soaZ o l).minimum] := pb6
    repeat' (first | ((with_reducible refine o_s ?_); (first | (refine o_1 ?_; refine o_2 ?_) | (refine o_g ?_; first | refine o_u ?_ | refine o_k ?_ | refine o_n ?_ | refine o_v ?_ | ((first | refine o_G ?_ ?_ | refine o_N ?_ ?_) <;> intro hc)))) | ((fail_if_success (with_reducible refine o_s ?_)); go_step))
    · have q1 : ¬ (soaZ o l).serial = d.fr := by simpa using (by assumption : (!decide ((soaZ o l).serial = d.fr)) = true)
      refine wpl_run (v := .agg zzone.toArray) rfl (Runs.build0 (by kernel_rfl)) ?_
      refine gset ?_
      refine wpl_storeB (v := .agg zzone.toArray) rfl rfl rfl h6 (by decide +kernel) rfl (by decide +kernel) ?_
      intro wz pz
      have xz : Ext w wz := hx6.move pz.mv (by rintro k ⟨⟩; exact zz)
      repeat' (first | ((with_reducible refine o_s ?_); (first | (refine o_1 ?_; refine o_2 ?_) | (refine o_g ?_; first | refine o_u ?_ | refine o_k ?_ | refine o_n ?_ | refine o_v ?_ | ((first | refine o_G ?_ ?_ | refine o_N ?_ ?_) <;> intro hc)))) | ((fail_if_success (with_reducible refine o_s ?_)); go_step))
      refine bodyPost_ret (results_cellT (cs := zzone) rfl rfl pz.this (by decide +kernel)) rfl ⟨_, rfl, xz, ?_⟩
      exact AppU.bad (by rw [appE, if_pos q0, if_neg q1]) (by decide)
    · have q1 : (soaZ o l).serial = d.fr := by simpa using (by assumption : (!decide ((soaZ o l).serial = d.fr)) = false)
      refine wpl_callR (enters_of Tryz.func43 rfl rfl) rfl rfl (t10 v l _ (hv.ext hx6) (by omega)) ?_
      intro r0 w7 x7 o7
      refine gset ?_
      have hq7 := hq6.ext x7
      have sg6 := sg.ext hx6
      have sn6 := sn.ext hx6
      have hrd := recs_data dl
      repeat' (first | ((with_reducible refine o_s ?_); (first | (refine o_1 ?_; refine o_2 ?_) | (refine o_g ?_; first | refine o_u ?_ | refine o_k ?_ | refine o_n ?_ | refine o_v ?_ | ((first | refine o_G ?_ ?_ | refine o_N ?_ ?_) <;> intro hc)))) | ((fail_if_success (with_reducible refine o_s ?_)); go_step))
      go_loopw [8, 10, 11, 39] (fun o _ _ i wr => ∃ (k : Nat) (m : List Rec), k ≤ d.gone.length ∧ i = .int .i64 k ∧ Ext w6 wr ∧ Own w6.heap.size 4 75 wr o (rcells m) ∧ goneF (recordsS l) (d.gone.take k) = some m) (fun _ _ _ i _ => d.gone.length - (intOf i).toNat)
      case atStart => exact ⟨0, recordsS l, Nat.zero_le _, rfl, x7, o7, rfl⟩
      case round =>
        obtain ⟨k, m, hk, rfl, hx, ho, hg⟩ := hrel
        obtain ⟨gl, gm⟩ := gone_len hg
        have hml := rcells_length m
        have hsg := sg6.ext hx
        have hqr := hq6.ext hx
        have hpr := hp6.ext hx
        by_cases hlt : k < d.gone.length
        · have hpe := hsg.elem (rcells_at hlt)
          repeat' (first | ((with_reducible refine o_s ?_); (first | (refine o_1 ?_; refine o_2 ?_) | (refine o_g ?_; first | refine o_u ?_ | refine o_k ?_ | refine o_n ?_ | refine o_v ?_ | ((first | refine o_G ?_ ?_ | refine o_N ?_ ?_) <;> intro hc)))) | ((fail_if_success (with_reducible refine o_s ?_)); go_step))
          refine wpl_allocB (z := zrec) rfl (by decide +kernel) ?_
          intro w8 x8 s8 h8
          refine gset ?_
          refine wpl_storeB (v := .agg #[str d.gone[k].name, .int .i64 d.gone[k].kind, .int .i64 d.gone[k].ttl, str d.gone[k].data]) rfl rfl rfl h8 (show sizeTy Tryz.prog 75 4 = true by decide +kernel) rfl (all4 rfl rfl rfl rfl) ?_
          intro w9 p9
          have x9 : Ext wr w9 := x8.move p9.mv (by rintro k ⟨⟩; exact Nat.le_refl _)
          have hp9 := pts_block (cs := [str d.gone[k].name, .int .i64 d.gone[k].kind, .int .i64 d.gone[k].ttl, str d.gone[k].data]) p9.this
          have hx9 := hx.trans x9
          have ho9 := ho.ext x9
          clear p9 h8 x8
          repeat' (first | ((with_reducible refine o_s ?_); (first | (refine o_1 ?_; refine o_2 ?_) | (refine o_g ?_; first | refine o_u ?_ | refine o_k ?_ | refine o_n ?_ | refine o_v ?_ | ((first | refine o_G ?_ ?_ | refine o_N ?_ ?_) <;> intro hc)))) | ((fail_if_success (with_reducible refine o_s ?_)); go_step))
          refine wpl_callV (enters_of Tryz.func74 rfl rfl) rfl rfl (p_Index _ m d.gone[k] _ ho9.sl) ?_; intro w10 x10; refine gset ?_
          have hx10 := hx9.trans x10
          have ho10 := ho9.ext x10
          by_cases hm : d.gone[k] ∈ m
          · obtain ⟨i, hi, ei, ee⟩ := idx_mem hm
            rw [ei]
            have hst := gone_step hlt hg
            rw [if_pos hm] at hst
            repeat' (first | ((with_reducible refine o_s ?_); (first | (refine o_1 ?_; refine o_2 ?_) | (refine o_g ?_; first | refine o_u ?_ | refine o_k ?_ | refine o_n ?_ | refine o_v ?_ | ((first | refine o_G ?_ ?_ | refine o_N ?_ ?_) <;> intro hc)))) | ((fail_if_success (with_reducible refine o_s ?_)); go_step))
            refine wpl_callG (enters_of Tryz.func75 rfl rfl) rfl rfl (p_Delete ho10 hi (by omega)) ?_
            rintro _ w11 ⟨v11, rfl, o11, m11, k11⟩
            refine ⟨_, rfl, ?_⟩
            refine gset ?_
            rw [ee] at o11
            have hx11 : Ext w6 w11 := ho10.mvx m11 hx10 (Nat.le_refl _)
            repeat' (first | ((with_reducible refine o_s ?_); (first | (refine o_1 ?_; refine o_2 ?_) | (refine o_g ?_; first | refine o_u ?_ | refine o_k ?_ | refine o_n ?_ | refine o_v ?_ | ((first | refine o_G ?_ ?_ | refine o_N ?_ ?_) <;> intro hc)))) | ((fail_if_success (with_reducible refine o_s ?_)); go_step))
            exact ⟨⟨k + 1, _, by omega, by go_num, hx11, o11, hst⟩, by simp [intOf]; omega⟩
          · rw [idx_none hm]
            have hb := edit_none1 (gone_bad hlt hg hm)
            repeat' (first | ((with_reducible refine o_s ?_); (first | (refine o_1 ?_; refine o_2 ?_) | (refine o_g ?_; first | refine o_u ?_ | refine o_k ?_ | refine o_n ?_ | refine o_v ?_ | ((first | refine o_G ?_ ?_ | refine o_N ?_ ?_) <;> intro hc)))) | ((fail_if_success (with_reducible refine o_s ?_)); go_step))
            refine wpl_run (v := .agg zzone.toArray) rfl (Runs.build0 (by kernel_rfl)) ?_
            refine gset ?_
            refine wpl_storeB (v := .agg zzone.toArray) rfl rfl rfl (hx10.at h6) (by decide +kernel) rfl (by decide +kernel) ?_
            intro wz pz
            have xz : Ext w wz := (hx6.trans hx10).move pz.mv (by rintro k ⟨⟩; exact zz)
            repeat' (first | ((with_reducible refine o_s ?_); (first | (refine o_1 ?_; refine o_2 ?_) | (refine o_g ?_; first | refine o_u ?_ | refine o_k ?_ | refine o_n ?_ | refine o_v ?_ | ((first | refine o_G ?_ ?_ | refine o_N ?_ ?_) <;> intro hc)))) | ((fail_if_success (with_reducible refine o_s ?_)); go_step))
            refine bodyPost_ret (results_cellT (cs := zzone) rfl rfl pz.this (by decide +kernel)) rfl ⟨_, rfl, xz, ?_⟩
            exact AppU.bad (appE_none q0 q1 hb) (by decide)
        · have : k = d.gone.length := by omega
          subst this
          rw [List.take_length] at hg
          have hed := edit_of hg
          repeat' (first | ((with_reducible refine o_s ?_); (first | (refine o_1 ?_; refine o_2 ?_) | (refine o_g ?_; first | refine o_u ?_ | refine o_k ?_ | refine o_n ?_ | refine o_v ?_ | ((first | refine o_G ?_ ?_ | refine o_N ?_ ?_) <;> intro hc)))) | ((fail_if_success (with_reducible refine o_s ?_)); go_step))
          go_loopw [8, 13, 58] (fun o _ i wr => ∃ (k : Nat) (m' : List Rec), k ≤ d.new.length ∧ i = .int .i64 k ∧ Ext w6 wr ∧ Own w6.heap.size 4 75 wr o (rcells m') ∧ newF m (d.new.take k) = some m') (fun _ _ i _ => d.new.length - (intOf i).toNat)
          case atStart => exact ⟨0, m, Nat.zero_le _, rfl, hx, ho, rfl⟩
          case round =>
            obtain ⟨k, m', hk, rfl, hx, ho, hn⟩ := hrel
            obtain ⟨nl, nm⟩ := new_len hn
            have hml := rcells_length m'
            have hsn := sn6.ext hx
            have hqr := hq6.ext hx
            have hpr := hp6.ext hx
            rw [List.length_take] at nl
            by_cases hlt : k < d.new.length
            · have hpe := hsn.elem (rcells_at hlt)
              have hst := new_step hlt hn
              repeat' (first | ((with_reducible refine o_s ?_); (first | (refine o_1 ?_; refine o_2 ?_) | (refine o_g ?_; first | refine o_u ?_ | refine o_k ?_ | refine o_n ?_ | refine o_v ?_ | ((first | refine o_G ?_ ?_ | refine o_N ?_ ?_) <;> intro hc)))) | ((fail_if_success (with_reducible refine o_s ?_)); go_step))
              refine wpl_allocB (z := zrec) rfl (by decide +kernel) ?_
              intro w8 x8 s8 h8
              refine gset ?_
              refine wpl_storeB (v := .agg #[str d.new[k].name, .int .i64 d.new[k].kind, .int .i64 d.new[k].ttl, str d.new[k].data]) rfl rfl rfl h8 (show sizeTy Tryz.prog 75 4 = true by decide +kernel) rfl (all4 rfl rfl rfl rfl) ?_
              intro w9 p9
              have x9 : Ext wr w9 := x8.move p9.mv (by rintro k ⟨⟩; exact Nat.le_refl _)
              have hp9 := pts_block (cs := [str d.new[k].name, .int .i64 d.new[k].kind, .int .i64 d.new[k].ttl, str d.new[k].data]) p9.this
              have hx9 := hx.trans x9
              have ho9 := ho.ext x9
              clear p9 h8 x8
              repeat' (first | ((with_reducible refine o_s ?_); (first | (refine o_1 ?_; refine o_2 ?_) | (refine o_g ?_; first | refine o_u ?_ | refine o_k ?_ | refine o_n ?_ | refine o_v ?_ | ((first | refine o_G ?_ ?_ | refine o_N ?_ ?_) <;> intro hc)))) | ((fail_if_success (with_reducible refine o_s ?_)); go_step))
              refine wpl_callV (enters_of Tryz.func76 rfl rfl) rfl rfl (p_Contains _ m' d.new[k] _ ho9.sl) ?_; intro w10 x10; refine gset ?_
              have hx10 := hx9.trans x10
              have ho10 := ho9.ext x10
              have hp10 := hp9.ext x10
              by_cases hm : d.new[k] ∈ m'
              · rw [decide_eq_true hm]
                have hb := new_bad hlt hn hm
                repeat' (first | ((with_reducible refine o_s ?_); (first | (refine o_1 ?_; refine o_2 ?_) | (refine o_g ?_; first | refine o_u ?_ | refine o_k ?_ | refine o_n ?_ | refine o_v ?_ | ((first | refine o_G ?_ ?_ | refine o_N ?_ ?_) <;> intro hc)))) | ((fail_if_success (with_reducible refine o_s ?_)); go_step))
                refine wpl_run (v := .agg zzone.toArray) rfl (Runs.build0 (by kernel_rfl)) ?_
                refine gset ?_
                refine wpl_storeB (v := .agg zzone.toArray) rfl rfl rfl (hx10.at h6) (by decide +kernel) rfl (by decide +kernel) ?_
                intro wz pz
                have xz : Ext w wz := (hx6.trans hx10).move pz.mv (by rintro k ⟨⟩; exact zz)
                repeat' (first | ((with_reducible refine o_s ?_); (first | (refine o_1 ?_; refine o_2 ?_) | (refine o_g ?_; first | refine o_u ?_ | refine o_k ?_ | refine o_n ?_ | refine o_v ?_ | ((first | refine o_G ?_ ?_ | refine o_N ?_ ?_) <;> intro hc)))) | ((fail_if_success (with_reducible refine o_s ?_)); go_step))
                refine bodyPost_ret (results_cellT (cs := zzone) rfl rfl pz.this (by decide +kernel)) rfl ⟨_, rfl, xz, ?_⟩
                exact AppU.bad (appE_none q0 q1 (hed.trans hb)) (by decide)
              · rw [decide_eq_false hm]
                rw [if_neg hm] at hst
                repeat' (first | ((with_reducible refine o_s ?_); (first | (refine o_1 ?_; refine o_2 ?_) | (refine o_g ?_; first | refine o_u ?_ | refine o_k ?_ | refine o_n ?_ | refine o_v ?_ | ((first | refine o_G ?_ ?_ | refine o_N ?_ ?_) <;> intro hc)))) | ((fail_if_success (with_reducible refine o_s ?_)); go_step))
                refine ap1 [str d.new[k].name, .int .i64 d.new[k].kind, .int .i64 d.new[k].ttl, str d.new[k].data] hx10 ho10 (by omega) ?_ (rec_elem rfl)
                intro s5 v5 w11 w12 x11 m12 x12 o12
                refine gset ?_
                repeat' (first | ((with_reducible refine o_s ?_); (first | (refine o_1 ?_; refine o_2 ?_) | (refine o_g ?_; first | refine o_u ?_ | refine o_k ?_ | refine o_n ?_ | refine o_v ?_ | ((first | refine o_G ?_ ?_ | refine o_N ?_ ?_) <;> intro hc)))) | ((fail_if_success (with_reducible refine o_s ?_)); go_step))
                refine ⟨⟨k + 1, _, by omega, by go_num, x12, ?_, hst⟩, by simp [intOf]; omega⟩
                simpa [rcells, Rec.cells] using o12
            · have : k = d.new.length := by omega
              subst this
              rw [List.take_length] at hn
              rw [hn] at hed
              have hmd : ∀ q ∈ m', q.data.length ≤ 1000000 := by
                intro q hq
                rcases nm q hq with h | h
                · exact hrd q (gm q h)
                · exact dn q (List.mem_of_mem_take h)
              have hm5 : m'.length ≤ 10000 := by omega
              obtain ⟨lb1, lb2, lb3⟩ := loadL_bounds (o := o) hmd
              have hend := appE_some q0 q1 hed
              repeat' (first | ((with_reducible refine o_s ?_); (first | (refine o_1 ?_; refine o_2 ?_) | (refine o_g ?_; first | refine o_u ?_ | refine o_k ?_ | refine o_n ?_ | refine o_v ?_ | ((first | refine o_G ?_ ?_ | refine o_N ?_ ?_) <;> intro hc)))) | ((fail_if_success (with_reducible refine o_s ?_)); go_step))
              refine wpl_callR (enters_of Tryz.func64 rfl rfl) rfl rfl (p_Load o _ m' _ ho.sl hm5 (fun q hq => by have := hmd q hq; omega)) ?_
              rintro _ w20 x20 ⟨y, rfl, sy⟩
              refine gset ?_
              have hx20 := hx.trans x20
              obtain ⟨ya, yn, yc, hys⟩ : ∃ a n c, y = .slice a n c := by obtain ⟨css, h, _⟩ := sy.out; exact h.slf
              have hy1 : y.oneCell' = true := by rw [hys]; rfl
              repeat' (first | ((with_reducible refine o_s ?_); (first | (refine o_1 ?_; refine o_2 ?_) | (refine o_g ?_; first | refine o_u ?_ | refine o_k ?_ | refine o_n ?_ | refine o_v ?_ | ((first | refine o_G ?_ ?_ | refine o_N ?_ ?_) <;> intro hc)))) | ((fail_if_success (with_reducible refine o_s ?_)); go_step))
              refine wpl_allocB (z := zzone) rfl (by decide +kernel) ?_
              intro w21 x21 s21 h21
              refine gset ?_
              refine wpl_storeB (v := .agg #[str (loadO o m'), y]) rfl rfl rfl h21 (show sizeTy Tryz.prog 25 2 = true by decide +kernel) rfl (zone_one hy1) ?_
              intro w22 p22
              have x2022 : Ext w20 w22 := x21.move p22.mv (by rintro k ⟨⟩; exact Nat.le_refl _)
              have z22 : w22.heap[w20.heap.size]? = some (.cells [str (loadO o m'), y].toArray 25 (0, 0)) := p22.this
              have hx22 := hx20.trans x2022
              have sy22 := sy.ext x2022
              have ho22 := ho.ext (x20.trans x2022)
              clear p22 h21 x21
              repeat' (first | ((with_reducible refine o_s ?_); (first | (refine o_1 ?_; refine o_2 ?_) | (refine o_g ?_; first | refine o_u ?_ | refine o_k ?_ | refine o_n ?_ | refine o_v ?_ | ((first | refine o_G ?_ ?_ | refine o_N ?_ ?_) <;> intro hc)))) | ((fail_if_success (with_reducible refine o_s ?_)); go_step))
              · have q2 : ¬ loadE o m' = 0 := by simpa using (by assumption : (!decide (loadE o m' = 0)) = true)
                refine wpl_run (v := .agg zzone.toArray) rfl (Runs.build0 (by kernel_rfl)) ?_
                refine gset ?_
                repeat' (first | ((with_reducible refine o_s ?_); (first | (refine o_1 ?_; refine o_2 ?_) | (refine o_g ?_; first | refine o_u ?_ | refine o_k ?_ | refine o_n ?_ | refine o_v ?_ | ((first | refine o_G ?_ ?_ | refine o_N ?_ ?_) <;> intro hc)))) | ((fail_if_success (with_reducible refine o_s ?_)); go_step))
                refine wpl_storeB (v := .agg zzone.toArray) rfl rfl rfl (hx22.at h6) (by decide +kernel) rfl (by decide +kernel) ?_
                intro wz pz
                have xz : Ext w wz := (hx6.trans hx22).move pz.mv (by rintro k ⟨⟩; exact zz)
                repeat' (first | ((with_reducible refine o_s ?_); (first | (refine o_1 ?_; refine o_2 ?_) | (refine o_g ?_; first | refine o_u ?_ | refine o_k ?_ | refine o_n ?_ | refine o_v ?_ | ((first | refine o_G ?_ ?_ | refine o_N ?_ ?_) <;> intro hc)))) | ((fail_if_success (with_reducible refine o_s ?_)); go_step))
                refine bodyPost_ret (results_cellT (cs := zzone) rfl rfl pz.this (by decide +kernel)) rfl ⟨_, rfl, xz, ?_⟩
                exact AppU.bad (by rw [hend, endE, if_neg q2]) q2
              · have q2 : loadE o m' = 0 := by simpa using (by assumption : (!decide (loadE o m' = 0)) = false)
                have pz22 := pts_block z22
                repeat' (first | ((with_reducible refine o_s ?_); (first | (refine o_1 ?_; refine o_2 ?_) | (refine o_g ?_; first | refine o_u ?_ | refine o_k ?_ | refine o_n ?_ | refine o_v ?_ | ((first | refine o_G ?_ ?_ | refine o_N ?_ ?_) <;> intro hc)))) | ((fail_if_success (with_reducible refine o_s ?_)); go_step))
                refine wpl_callV (enters_of Tryz.func63 rfl rfl) rfl rfl (p_Soa (loadO o m') y (loadL o m') _ sy22.sets (fun s hs => by have := lb1 s hs; omega) (fun s hs d hd => by have := lb2 s hs d hd; omega)) ?_; intro w23 x23; refine gset ?_
                have hx23 := hx22.trans x23
                have b23 := hx23.at b6
                repeat' (first | ((with_reducible refine o_s ?_); (first | (refine o_1 ?_; refine o_2 ?_) | (refine o_g ?_; first | refine o_u ?_ | refine o_k ?_ | refine o_n ?_ | refine o_v ?_ | ((first | refine o_G ?_ ?_ | refine o_N ?_ ?_) <;> intro hc)))) | ((fail_if_success (with_reducible refine o_s ?_)); go_step))
                refine wpl_storeB (v := .agg (soaZ (loadO o m') (loadL o m')).cells.toArray) rfl rfl rfl b23 (show sizeTy Tryz.prog 103 7 = true by decide +kernel) rfl (soaR_one _) ?_
                intro w24 p24
                have e1 := x4.size
                have e2 := x46.size
                have e3 := hx.size
                have e4 := x20.size
                have e5 : w4.heap.size < w6.heap.size := (Array.getElem?_eq_some_iff.1 b6).1
                have x24 : Ext w3 w24 := (x36.trans hx23).move p24.mv (by rintro k ⟨⟩; exact e1)
                have hxw24 := hx3.trans x24
                have hq24 := hq3.ext x24
                have b24 : w24.heap[w4.heap.size]? = some (.cells [str (soaZ (loadO o m') (loadL o m')).main, str (soaZ (loadO o m') (loadL o m')).mail, .int .i64 (soaZ (loadO o m') (loadL o m')).serial, .int .i64 (soaZ (loadO o m') (loadL o m')).refresh, .int .i64 (soaZ (loadO o m') (loadL o m')).retry, .int .i64 (soaZ (loadO o m') (loadL o m')).expire, .int .i64 (soaZ (loadO o m') (loadL o m')).minimum].toArray 103 (0, 0)) := p24.this
                have h24 := p24.at (hx23.at h6) (by omega)
                have z24 := p24.at (x23.at z22) (by omega)
                have sy24 := (sy22.ext x23).put p24 (by omega)
                have ho24 := (ho22.ext x23).mv p24.mv (.inr ((ho22.ext x23).neBlock b23 (by decide)))
                have pz24 := pts_block z24
                clear p24 b23
                repeat' (first | ((with_reducible refine o_s ?_); (first | (refine o_1 ?_; refine o_2 ?_) | (refine o_g ?_; first | refine o_u ?_ | refine o_k ?_ | refine o_n ?_ | refine o_v ?_ | ((first | refine o_G ?_ ?_ | refine o_N ?_ ?_) <;> intro hc)))) | ((fail_if_success (with_reducible refine o_s ?_)); go_step))
                refine wpl_callR (enters_of Tryz.func43 rfl rfl) rfl rfl (t10 y (loadL o m') _ sy24.sets (by omega)) ?_
                intro r5 w25 x25 o25
                refine gset ?_
                have hxw25 := hxw24.trans x25
                have h25 := x25.at h24
                have z25 := x25.at z24
                have pz25 := pz24.ext x25
                have pb25 := pts_block (x25.at b24)
                have hq25 := hq24.ext x25
                have sl25 := (ho24.ext x25).sl
                have sr25 := o25.sl
                have lr := rcells_length (recordsS (loadL o m'))
                repeat' (first | ((with_reducible refine o_s ?_); (first | (refine o_1 ?_; refine o_2 ?_) | (refine o_g ?_; first | refine o_u ?_ | refine o_k ?_ | refine o_n ?_ | refine o_v ?_ | ((first | refine o_G ?_ ?_ | refine o_N ?_ ?_) <;> intro hc)))) | ((fail_if_success (with_reducible refine o_s ?_)); go_step))
                · have q3 : (soaZ (loadO o m') (loadL o m')).serial = d.to := by simpa using (by assumption : (!decide ((soaZ (loadO o m') (loadL o m')).serial = d.to)) = false)
                  have q4 : (recordsS (loadL o m')).length = m'.length := by
                    have : (↑(rcells (recordsS (loadL o m'))).length : Int) = ↑(rcells m').length := by simpa using hc
                    omega
                  refine wpl_callR (enters_of Tryz.func67 rfl rfl) rfl rfl (p_less _ r5 m' (recordsS (loadL o m')) _ sl25 sr25 (by omega)) ?_
                  intro r6 w26 x26 o26
                  have sr26 := o26.sl
                  have hxw26 := hxw25.trans x26
                  have h26 := x26.at h25
                  have z26 := x26.at z25
                  have pz26 := pz25.ext x26
                  have l6 := rcells_length (lessR m' (recordsS (loadL o m')))
                  have sy26 := (sy24.ext x25).ext x26
                  refine gset ?_
                  repeat' (first | ((with_reducible refine o_s ?_); (first | (refine o_1 ?_; refine o_2 ?_) | (refine o_g ?_; first | refine o_u ?_ | refine o_k ?_ | refine o_n ?_ | refine o_v ?_ | ((first | refine o_G ?_ ?_ | refine o_N ?_ ?_) <;> intro hc)))) | ((fail_if_success (with_reducible refine o_s ?_)); go_step))
                  · have q5 : ¬ lessR m' (recordsS (loadL o m')) = [] := by
                      intro e
                      rw [e] at l6
                      simp at l6
                      have := (by assumption : (0 : Int) < ↑(rcells (lessR m' (recordsS (loadL o m')))).length)
                      rw [e] at this
                      simp [rcells] at this
                    refine wpl_run (v := .agg zzone.toArray) rfl (Runs.build0 (by kernel_rfl)) ?_
                    refine gset ?_
                    refine wpl_storeB (v := .agg zzone.toArray) rfl rfl rfl h26 (by decide +kernel) rfl (by decide +kernel) ?_
                    intro wz pz
                    have xz : Ext w wz := hxw26.move pz.mv (by rintro k ⟨⟩; exact zz)
                    repeat' (first | ((with_reducible refine o_s ?_); (first | (refine o_1 ?_; refine o_2 ?_) | (refine o_g ?_; first | refine o_u ?_ | refine o_k ?_ | refine o_n ?_ | refine o_v ?_ | ((first | refine o_G ?_ ?_ | refine o_N ?_ ?_) <;> intro hc)))) | ((fail_if_success (with_reducible refine o_s ?_)); go_step))
                    refine bodyPost_ret (results_cellT (cs := zzone) rfl rfl pz.this (by decide +kernel)) rfl ⟨_, rfl, xz, ?_⟩
                    exact AppU.bad (by rw [hend, endE, if_pos q2, if_neg (fun h => q5 h.2.2)]) (by decide)
                  · have q5 : lessR m' (recordsS (loadL o m')) = [] := List.eq_nil_of_length_eq_zero (by omega)
                    have hE : appE o l d = 0 := by rw [hend, endE, if_pos q2, if_pos ⟨q3, q4, q5⟩]
                    repeat' (first | ((with_reducible refine o_s ?_); (first | (refine o_1 ?_; refine o_2 ?_) | (refine o_g ?_; first | refine o_u ?_ | refine o_k ?_ | refine o_n ?_ | refine o_v ?_ | ((first | refine o_G ?_ ?_ | refine o_N ?_ ?_) <;> intro hc)))) | ((fail_if_success (with_reducible refine o_s ?_)); go_step))
                    refine wpl_storeB (v := .agg #[str (loadO o m'), y]) rfl rfl rfl h26 (show sizeTy Tryz.prog 25 2 = true by decide +kernel) rfl (zone_one hy1) ?_
                    intro wz pz
                    have xz : Ext w wz := hxw26.move pz.mv (by rintro k ⟨⟩; exact zz)
                    repeat' (first | ((with_reducible refine o_s ?_); (first | (refine o_1 ?_; refine o_2 ?_) | (refine o_g ?_; first | refine o_u ?_ | refine o_k ?_ | refine o_n ?_ | refine o_v ?_ | ((first | refine o_G ?_ ?_ | refine o_N ?_ ?_) <;> intro hc)))) | ((fail_if_success (with_reducible refine o_s ?_)); go_step))
                    refine bodyPost_ret (results_cellT (cs := [str (loadO o m'), y]) rfl rfl pz.this (show aggTy Tryz.prog 25 2 = true by decide +kernel)) rfl ⟨_, rfl, xz, ?_⟩
                    refine ⟨y, ?_, ?_⟩
                    · rw [appO, if_pos hE, hE, hed]; rfl
                    · rw [appL, if_pos hE, hed]
                      exact (sy26.put pz (by omega)).weaken (hx6.trans hx).size
                · have q4 : ¬ (recordsS (loadL o m')).length = m'.length := by
                    have : ¬ (↑(rcells (recordsS (loadL o m'))).length : Int) = ↑(rcells m').length := by simpa using hc
                    omega
                  refine wpl_run (v := .agg zzone.toArray) rfl (Runs.build0 (by kernel_rfl)) ?_
                  refine gset ?_
                  refine wpl_storeB (v := .agg zzone.toArray) rfl rfl rfl h25 (by decide +kernel) rfl (by decide +kernel) ?_
                  intro wz pz
                  have xz : Ext w wz := hxw25.move pz.mv (by rintro k ⟨⟩; exact zz)
                  repeat' (first | ((with_reducible refine o_s ?_); (first | (refine o_1 ?_; refine o_2 ?_) | (refine o_g ?_; first | refine o_u ?_ | refine o_k ?_ | refine o_n ?_ | refine o_v ?_ | ((first | refine o_G ?_ ?_ | refine o_N ?_ ?_) <;> intro hc)))) | ((fail_if_success (with_reducible refine o_s ?_)); go_step))
                  refine bodyPost_ret (results_cellT (cs := zzone) rfl rfl pz.this (by decide +kernel)) rfl ⟨_, rfl, xz, ?_⟩
                  exact AppU.bad (by rw [hend, endE, if_pos q2, if_neg (fun h => q4 h.2.1)]) (by decide)
                · have q3 : ¬ (soaZ (loadO o m') (loadL o m')).serial = d.to := by simpa using hc
                  refine wpl_run (v := .agg zzone.toArray) rfl (Runs.build0 (by kernel_rfl)) ?_
                  refine gset ?_
                  refine wpl_storeB (v := .agg zzone.toArray) rfl rfl rfl h25 (by decide +kernel) rfl (by decide +kernel) ?_
                  intro wz pz
                  have xz : Ext w wz := hxw25.move pz.mv (by rintro k ⟨⟩; exact zz)
                  repeat' (first | ((with_reducible refine o_s ?_); (first | (refine o_1 ?_; refine o_2 ?_) | (refine o_g ?_; first | refine o_u ?_ | refine o_k ?_ | refine o_n ?_ | refine o_v ?_ | ((first | refine o_G ?_ ?_ | refine o_N ?_ ?_) <;> intro hc)))) | ((fail_if_success (with_reducible refine o_s ?_)); go_step))
                  refine bodyPost_ret (results_cellT (cs := zzone) rfl rfl pz.this (by decide +kernel)) rfl ⟨_, rfl, xz, ?_⟩
                  exact AppU.bad (by rw [hend, endE, if_pos q2, if_neg (fun h => q3 h.1)]) (by decide)
structure WasAt (B : Nat) (w0 w : World) (v : Value) (o : List UInt8) (hist : List (List RSet)) : Prop where
  out : ∃ css, Own B 2 25 w v css ∧ css.length = hist.length ∧ ∀ (i : Nat) (a : List RSet), hist[i]? = some a → ∃ u, css[i]? = some [str o, u] ∧ SetsAt w0 u a
theorem WasAt.keep {T : List TypeId} {B : Nat} {w0 w w' : World} {v : Value} {o : List UInt8} {hist : List (List RSet)} (h : WasAt B w0 w v o hist) (hk : Keep T w w') (ht : 25 ∉ T) : WasAt B w0 w' v o hist := by
  obtain ⟨css, a, b, c⟩ := h
  exact ⟨css, a.keep hk ht, b, c⟩
theorem again_step {s : Int} {o : List UInt8} {zs : List (List RSet)} {i m : Nat} {b : List RSet} (hb : zs[i + 1 + m]? = some b) :
    ((zs.drop (i + 1)).take (m + 1)).any (fun z => decide ((soaZ o z).serial = s)) = (((zs.drop (i + 1)).take m).any (fun z => decide ((soaZ o z).serial = s)) || decide ((soaZ o b).serial = s)) := by
  rw [List.take_add_one, List.getElem?_drop, hb, List.any_append]
  simp
theorem again_no {s : Int} {o : List UInt8} {zs : List (List RSet)} {i : Nat} (h : ((zs.drop (i + 1)).take (zs.length - (i + 1))).any (fun z => decide ((soaZ o z).serial = s)) = false) :
    ∀ k b, i < k → zs[k]? = some b → (soaZ o b).serial ≠ s := by
  intro k b hik hk e
  rw [List.take_of_length_le (by simp)] at h
  rw [List.any_eq_false] at h
  refine h b ?_ (by simpa using e)
  refine List.mem_of_getElem? (i := k - (i + 1)) ?_
  rw [List.getElem?_drop, show i + 1 + (k - (i + 1)) = k by omega]
  exact hk
theorem meetM {α β : Type} {F : α → β → World → Prop} {G : α → β → World → Prop} {goal : Prop} (h1 : (∀ x y w', F x y w' → G x y w') → goal) (h2 : ∀ x y w', F x y w' → G x y w') : goal := h1 h2
set_option maxHeartbeats 16000000 in
theorem j18 (o : List UInt8) (v : Value) (l : List RSet) (room : Int) (lv : Value) (zs : List (List UInt8 × List RSet)) (w : World) (hv : SetsAt w v l) (hz : ZonesAt w lv zs) :
    Calls Tryz.prog 18 #[.agg #[str o, v], .int .i64 room, lv] w (Yes w) := by
  go_enter Tryz.func18, Tryz.ntmps18
  repeat' ((fail_if_success (with_reducible refine o_s ?_)); go_step)
  refine wpl_box (vs := [str o, v]) rfl rfl ?_
  intro p w1 x1 hp
  refine gset ?_
  have hv1 := hv.ext x1
  repeat' (first | ((with_reducible refine o_s ?_); (first | (refine o_1 ?_; refine o_2 ?_) | (refine o_g ?_; first | refine o_u ?_ | refine o_k ?_ | refine o_n ?_ | refine o_v ?_ | ((first | refine o_G ?_ ?_ | refine o_N ?_ ?_) <;> intro hc)))) | ((fail_if_success (with_reducible refine o_s ?_)); go_step))
  refine wpl_callV (enters_of Tryz.func25 rfl rfl) rfl rfl (r8_Few o v l _ hv1) ?_; intro w5 x5; refine gset ?_
  have hx5 := x1.trans x5
  have hp5 := hp.ext x5
  have hv5 := hv1.ext x5
  have hz5 := hz.ext hx5
  obtain ⟨cs5, sl5, cl5, at5⟩ := hz5.out
  cases hf : (decide ((o.length : Int) ≤ 300) && fewS l) with
  | false =>
    repeat' (first | ((with_reducible refine o_s ?_); (first | (refine o_1 ?_; refine o_2 ?_) | (refine o_g ?_; first | refine o_u ?_ | refine o_k ?_ | refine o_n ?_ | refine o_v ?_ | ((first | refine o_G ?_ ?_ | refine o_N ?_ ?_) <;> intro hc)))) | ((fail_if_success (with_reducible refine o_s ?_)); go_step))
    refine wpl_callV (enters_of Tryz.func51 rfl rfl) rfl rfl (j_liveV _) ?_; intro w6 x6; refine gset ?_
    repeat' (first | ((with_reducible refine o_s ?_); (first | (refine o_1 ?_; refine o_2 ?_) | (refine o_g ?_; first | refine o_u ?_ | refine o_k ?_ | refine o_n ?_ | refine o_v ?_ | ((first | refine o_G ?_ ?_ | refine o_N ?_ ?_) <;> intro hc)))) | ((fail_if_success (with_reducible refine o_s ?_)); go_step))
    go_ret
    exact ⟨rfl, hx5.trans x6⟩
  | true =>
    obtain ⟨fl, fb, fd, _⟩ := fewz hf
    repeat' (first | ((with_reducible refine o_s ?_); (first | (refine o_1 ?_; refine o_2 ?_) | (refine o_g ?_; first | refine o_u ?_ | refine o_k ?_ | refine o_n ?_ | refine o_v ?_ | ((first | refine o_G ?_ ?_ | refine o_N ?_ ?_) <;> intro hc)))) | ((fail_if_success (with_reducible refine o_s ?_)); go_step))
    · refine wpl_callV (enters_of Tryz.func51 rfl rfl) rfl rfl (j_liveV _) ?_; intro w6 x6; refine gset ?_
      repeat' (first | ((with_reducible refine o_s ?_); (first | (refine o_1 ?_; refine o_2 ?_) | (refine o_g ?_; first | refine o_u ?_ | refine o_k ?_ | refine o_n ?_ | refine o_v ?_ | ((first | refine o_G ?_ ?_ | refine o_N ?_ ?_) <;> intro hc)))) | ((fail_if_success (with_reducible refine o_s ?_)); go_step))
      go_ret
      exact ⟨rfl, hx5.trans x6⟩
    · have hlen := ‹(cs5.length : Int) ≤ 12›
      refine wpl_callG (enters_of Tryz.func52 rfl rfl) rfl rfl (p_New o v l room _ hv5 (by omega) fb) ?_
      rintro e w6 (⟨hne, rfl, x6⟩ | ⟨h0, b, rfl, hJ6⟩)
      · refine ⟨_, rfl, ?_⟩
        refine gset ?_
        have hx6 := hx5.trans x6
        repeat' (first | ((with_reducible refine o_s ?_); (first | (refine o_1 ?_; refine o_2 ?_) | (refine o_g ?_; first | refine o_u ?_ | refine o_k ?_ | refine o_n ?_ | refine o_v ?_ | ((first | refine o_G ?_ ?_ | refine o_N ?_ ?_) <;> intro hc)))) | ((fail_if_success (with_reducible refine o_s ?_)); go_step))
        · (refine wpl_run0 (v := .bool true) (Runs.isNil (p := none) rfl rfl (by kernel_rfl)) ?_; refine gset ?_)
          repeat' (first | ((with_reducible refine o_s ?_); (first | (refine o_1 ?_; refine o_2 ?_) | (refine o_g ?_; first | refine o_u ?_ | refine o_k ?_ | refine o_n ?_ | refine o_v ?_ | ((first | refine o_G ?_ ?_ | refine o_N ?_ ?_) <;> intro hc)))) | ((fail_if_success (with_reducible refine o_s ?_)); go_step))
          refine wpl_callV (enters_of Tryz.func51 rfl rfl) rfl rfl (j_liveV _) ?_; intro w8 x8; refine gset ?_
          repeat' (first | ((with_reducible refine o_s ?_); (first | (refine o_1 ?_; refine o_2 ?_) | (refine o_g ?_; first | refine o_u ?_ | refine o_k ?_ | refine o_n ?_ | refine o_v ?_ | ((first | refine o_G ?_ ?_ | refine o_N ?_ ?_) <;> intro hc)))) | ((fail_if_success (with_reducible refine o_s ?_)); go_step))
          go_ret
          exact ⟨rfl, hx6.trans x8⟩
        · exact absurd (by simpa using ‹(!decide (newE o l room = 0)) = false›) hne
      · refine ⟨_, rfl, ?_⟩
        refine gset ?_
        have x6 := hJ6.ext
        have hp6 := hp5.ext x6
        have hO := newE_ok h0
        repeat' (first | ((with_reducible refine o_s ?_); (first | (refine o_1 ?_; refine o_2 ?_) | (refine o_g ?_; first | refine o_u ?_ | refine o_k ?_ | refine o_n ?_ | refine o_v ?_ | ((first | refine o_G ?_ ?_ | refine o_N ?_ ?_) <;> intro hc)))) | ((fail_if_success (with_reducible refine o_s ?_)); go_step))
        (refine wpl_run0 (v := .bool false) (Runs.isNil (p := some ⟨_, _, _⟩) rfl rfl (by kernel_rfl)) ?_; refine gset ?_)
        repeat' (first | ((with_reducible refine o_s ?_); (first | (refine o_1 ?_; refine o_2 ?_) | (refine o_g ?_; first | refine o_u ?_ | refine o_k ?_ | refine o_n ?_ | refine o_v ?_ | ((first | refine o_G ?_ ?_ | refine o_N ?_ ?_) <;> intro hc)))) | ((fail_if_success (with_reducible refine o_s ?_)); go_step))
        refine wpl_slice (e := 25) (k := 2) (bytes := 40) (xs := [.agg #[str o, v]]) rfl rfl rfl (by simp [Value.cells]) (by decide +kernel) (by simp) ?_
        intro v7 w7 x7 s7 sl7 o7
        refine gset ?_
        have hJ7 := hJ6.grow x7
        have hW7 : WasAt w5.heap.size w5 w7 v7 o [l] := by
          refine ⟨_, o7.weaken x6.size, rfl, fun i a hi => ?_⟩
          cases i with
          | zero => simp at hi; subst hi; exact ⟨v, rfl, hv5⟩
          | succ i => simp at hi
        clear o7 sl7 s7 x7 hJ6 x6 hp6
        repeat' (first | ((with_reducible refine o_s ?_); (first | (refine o_1 ?_; refine o_2 ?_) | (refine o_g ?_; first | refine o_u ?_ | refine o_k ?_ | refine o_n ?_ | refine o_v ?_ | ((first | refine o_G ?_ ?_ | refine o_N ?_ ?_) <;> intro hc)))) | ((fail_if_success (with_reducible refine o_s ?_)); go_step))
        go_loopw [9, 10] (fun was i wr => ∃ (k : Nat) (l : List RSet) (ds : List DeltaR) (hist : List (List RSet)), k ≤ zs.length ∧ i = .int .i64 k ∧ JAt w5 wr b o l room ds ∧ JOk o l room ds ∧ WasAt w5.heap.size w5 wr was o hist ∧ hist.length ≤ k + 1 ∧ hist.getLast? = some l ∧ (∀ z ∈ hist, ZoneOk o z) ∧ ds = trimD room (histD o hist)) (fun _ i _ => zs.length - (intOf i).toNat)
        case atStart => exact ⟨0, l, [], [l], Nat.zero_le _, rfl, hJ7, hO, hW7, Nat.le_refl _, rfl, (by intro z hz; rw [List.mem_singleton.1 hz]; exact hO.zone), by simp [histD, trimD]⟩
        case round =>
          clear hJ7 hO hW7
          obtain ⟨k, l2, ds, hist, hk, rfl, hJ, hO, hW, hhl, hlast, hzo, hds⟩ := hrel
          have hx := hJ.ext
          by_cases hlt : k < zs.length
          · obtain ⟨u, hc, hu⟩ := at5 k _ (List.getElem?_eq_getElem hlt)
            have hpe := sl5.elem hc
            have hkc : k < cs5.length := by omega
            repeat' (first | ((with_reducible refine o_s ?_); (first | (refine o_1 ?_; refine o_2 ?_) | (refine o_g ?_; first | refine o_u ?_ | refine o_k ?_ | refine o_n ?_ | refine o_v ?_ | ((first | refine o_G ?_ ?_ | refine o_N ?_ ?_) <;> intro hc)))) | ((fail_if_success (with_reducible refine o_s ?_)); go_step))
            refine wpl_callV (enters_of Tryz.func25 rfl rfl) rfl rfl (r8_Few zs[k].1 u zs[k].2 _ (hu.ext hx)) ?_; intro w8 x8; refine gset ?_
            have hx8 := hx.trans x8
            have hJ8 := hJ.grow x8
            have hW8 := hW.keep (x8.keep []) (by simp)
            cases hg : (decide ((zs[k].1.length : Int) ≤ 300) && fewS zs[k].2) with
            | false =>
              repeat' (first | ((with_reducible refine o_s ?_); (first | (refine o_1 ?_; refine o_2 ?_) | (refine o_g ?_; first | refine o_u ?_ | refine o_k ?_ | refine o_n ?_ | refine o_v ?_ | ((first | refine o_G ?_ ?_ | refine o_N ?_ ?_) <;> intro hc)))) | ((fail_if_success (with_reducible refine o_s ?_)); go_step))
              refine wpl_callV (enters_of Tryz.func51 rfl rfl) rfl rfl (j_liveV _) ?_; intro w9 x9; refine gset ?_
              repeat' (first | ((with_reducible refine o_s ?_); (first | (refine o_1 ?_; refine o_2 ?_) | (refine o_g ?_; first | refine o_u ?_ | refine o_k ?_ | refine o_n ?_ | refine o_v ?_ | ((first | refine o_G ?_ ?_ | refine o_N ?_ ?_) <;> intro hc)))) | ((fail_if_success (with_reducible refine o_s ?_)); go_step))
              go_ret
              exact ⟨rfl, hx5.trans (hx8.trans x9)⟩
            | true =>
              obtain ⟨gl, gb, gd, _⟩ := fewz hg
              clear hJ hx hW
              repeat' (first | ((with_reducible refine o_s ?_); (first | (refine o_1 ?_; refine o_2 ?_) | (refine o_g ?_; first | refine o_u ?_ | refine o_k ?_ | refine o_n ?_ | refine o_v ?_ | ((first | refine o_G ?_ ?_ | refine o_N ?_ ?_) <;> intro hc)))) | ((fail_if_success (with_reducible refine o_s ?_)); go_step))
              refine wpl_callG (enters_of Tryz.func54 rfl rfl) rfl rfl (p_UpdateX hJ8 hO zs[k].1 u zs[k].2 hu gb gd) ?_
              rintro e w10 ⟨rfl, hk10, hJ10⟩
              refine ⟨_, rfl, ?_⟩
              refine gset ?_
              have hx10 := hJ10.ext
              have hW10 := hW8.keep hk10 (by decide)
              have hO2 := hO.next zs[k].1 zs[k].2
              clear hJ8 hk10 hx8 hW8
              ((with_reducible refine o_s ?_); (first | (refine o_1 ?_; refine o_2 ?_) | (refine o_g ?_; refine o_u ?_; (with_reducible refine o_s ?_); refine o_1 ?_; refine o_2 ?_)))
              by_cases q : updE o l2 zs[k].1 zs[k].2 = 0
              · obtain ⟨eo, hzk, _⟩ := updE_ok q
                rw [decide_eq_true q]
                rw [nextL, if_pos q, nextD, if_pos q] at hJ10 hO2
                obtain ⟨css, ow, cl, cat⟩ := hW10.out
                have hus := hu
                have hu1 : u.oneCell' = true := by obtain ⟨css, h, _⟩ := hus; exact h.one
                repeat' (first | ((with_reducible refine o_s ?_); (first | (refine o_1 ?_; refine o_2 ?_) | (refine o_g ?_; first | refine o_u ?_ | refine o_k ?_ | refine o_n ?_ | refine o_v ?_ | ((first | refine o_G ?_ ?_ | refine o_N ?_ ?_) <;> intro hc)))) | ((fail_if_success (with_reducible refine o_s ?_)); go_step))
                refine ap1 [str zs[k].1, u] (B := w5.heap.size) hx10 ow (by omega) ?_ (hc := ⟨rfl, rfl, rfl, by intro x hx; simp at hx; rcases hx with rfl | rfl; rfl; exact hu1⟩) (hBw := hx10.size)
                intro sv was' w11 w12 x11 m12 hx12 ho12
                refine gset ?_
                have hK12 : Keep [25] w10 w12 := by
                  intro c cs t fz hcc ht
                  refine m12.at (x11.at hcc) fun e => ?_
                  obtain ⟨cur, fz', h'⟩ := ow.type e.symm
                  rw [hcc] at h'
                  simp only [Option.some.injEq, Obj.cells.injEq] at h'
                  exact ht (by simp [h'.2.1])
                have hJ12 := hJ10.keep hK12 hx12 (by decide) (by decide) (by decide) (by decide) (by decide)
                repeat' (first | ((with_reducible refine o_s ?_); (first | (refine o_1 ?_; refine o_2 ?_) | (refine o_g ?_; first | refine o_u ?_ | refine o_k ?_ | refine o_n ?_ | refine o_v ?_ | ((first | refine o_G ?_ ?_ | refine o_N ?_ ?_) <;> intro hc)))) | ((fail_if_success (with_reducible refine o_s ?_)); go_step))
                refine ⟨⟨k + 1, zs[k].2, _, hist ++ [zs[k].2], by omega, by go_num, hJ12, hO2, ⟨_, ho12, by simp [cl], fun i a hi => ?_⟩, by simp; omega, by simp, ?_, ?_⟩, by simp [intOf]; omega⟩
                · rw [List.getElem?_append] at hi ⊢
                  rw [cl]
                  split at hi
                  · rw [if_pos ‹_›]; exact cat i a hi
                  · rw [if_neg ‹_›]
                    have hi0 : i - hist.length = 0 := by
                      have := (List.getElem?_eq_some_iff.1 hi).1
                      simpa using this
                    rw [hi0] at hi ⊢
                    cases hi
                    exact ⟨u, by rw [eo]; rfl, hu⟩
                · intro z hz
                  rcases List.mem_append.1 hz with hz | hz
                  · exact hzo z hz
                  · rw [List.mem_singleton.1 hz]; exact hzk
                · rw [histD_snoc o hist l2 _ hlast, hds]
                  exact trim_snoc room (histD o hist) _ hO.fits.1
              · rw [decide_eq_false q]
                rw [nextL, if_neg q, nextD, if_neg q] at hJ10 hO2
                repeat' (first | ((with_reducible refine o_s ?_); (first | (refine o_1 ?_; refine o_2 ?_) | (refine o_g ?_; first | refine o_u ?_ | refine o_k ?_ | refine o_n ?_ | refine o_v ?_ | ((first | refine o_G ?_ ?_ | refine o_N ?_ ?_) <;> intro hc)))) | ((fail_if_success (with_reducible refine o_s ?_)); go_step))
                exact ⟨⟨k + 1, l2, ds, hist, by omega, by go_num, hJ10, hO2, hW10, by omega, hlast, hzo, hds⟩, by simp [intOf]; omega⟩
          · have hke : k = cs5.length := by omega
            obtain ⟨css, ow, cl, cat⟩ := hW.out
            have slw := ow.sl
            have hcl13 : css.length ≤ 13 := by omega
            obtain ⟨bl, bb, bd, bn, bg⟩ := hO.small
            clear hhl
            repeat' (first | ((with_reducible refine o_s ?_); (first | (refine o_1 ?_; refine o_2 ?_) | (refine o_g ?_; first | refine o_u ?_ | refine o_k ?_ | refine o_n ?_ | refine o_v ?_ | ((first | refine o_G ?_ ?_ | refine o_N ?_ ?_) <;> intro hc)))) | ((fail_if_success (with_reducible refine o_s ?_)); go_step))
            go_loopw [11, 12, 13, 14, 15, 16, 17, 18, 19, 20, 21, 22, 23] (fun i _ _ _ _ _ _ _ _ _ _ _ _ w2 => ∃ k2 : Nat, k2 ≤ css.length ∧ i = .int .i64 k2 ∧ Ext wr w2) (fun i _ _ _ _ _ _ _ _ _ _ _ _ _ => css.length - (intOf i).toNat)
            case atStart => exact ⟨0, Nat.zero_le _, rfl, Ext.refl _⟩
            case round =>
              obtain ⟨i, hi, rfl, hy⟩ := hrel
              have sl2 := slw.ext hy
              by_cases hil : i < css.length
              · have hih : i < hist.length := by omega
                obtain ⟨u, hc, hu⟩ := cat i _ (List.getElem?_eq_getElem hih)
                have hzi := hzo _ (List.getElem_mem hih)
                obtain ⟨zl, zb, zd, zr⟩ := zoneJ hzi
                have hpe := sl2.elem hc
                have hxi := hx.trans hy
                repeat' (first | ((with_reducible refine o_s ?_); (first | (refine o_1 ?_; refine o_2 ?_) | (refine o_g ?_; first | refine o_u ?_ | refine o_k ?_ | refine o_n ?_ | refine o_v ?_ | ((first | refine o_G ?_ ?_ | refine o_N ?_ ?_) <;> intro hc)))) | ((fail_if_success (with_reducible refine o_s ?_)); go_step))
                refine wpl_callV (enters_of Tryz.func63 rfl rfl) rfl rfl (p_Soa o u hist[i] _ (hu.ext hxi) (fun s hs => by have := zb s hs; omega) (fun s hs d hd => by have := zd s hs d hd; omega)) ?_; intro w10 x10; refine gset ?_
                repeat' (first | ((with_reducible refine o_s ?_); (first | (refine o_1 ?_; refine o_2 ?_) | (refine o_g ?_; first | refine o_u ?_ | refine o_k ?_ | refine o_n ?_ | refine o_v ?_ | ((first | refine o_G ?_ ?_ | refine o_N ?_ ?_) <;> intro hc)))) | ((fail_if_success (with_reducible refine o_s ?_)); go_step))
                refine wpl_allocB (z := zeroSoa) rfl (by decide +kernel) ?_
                intro w11 x11 s11 h11
                refine gset ?_
                refine wpl_storeB (v := .agg (soaZ o hist[i]).cells.toArray) rfl rfl rfl h11 (show sizeTy Tryz.prog 103 7 = true by decide +kernel) rfl (soaR_one _) ?_
                intro w12 p12
                have x12 : Ext w10 w12 := x11.move p12.mv (by rintro k ⟨⟩; exact Nat.le_refl _)
                have hs12 := pts_block (cs := (soaZ o hist[i]).cells) p12.this
                have hy12 := hy.trans (x10.trans x12)
                clear p12 h11 x11 x12 hpe
                generalize w10.heap.size = bs at *
                repeat' (first | ((with_reducible refine o_s ?_); (first | (refine o_1 ?_; refine o_2 ?_) | (refine o_g ?_; first | refine o_u ?_ | refine o_k ?_ | refine o_n ?_ | refine o_v ?_ | ((first | refine o_G ?_ ?_ | refine o_N ?_ ?_) <;> intro hc)))) | ((fail_if_success (with_reducible refine o_s ?_)); go_step))
                go_loopw [14, 15, 16, 17] (fun a j _ _ w3 => ∃ m : Nat, i + 1 + m ≤ css.length ∧ j = .int .i64 ((i + 1 + m : Nat) : Int) ∧ a = .bool (((hist.drop (i + 1)).take m).any fun z => decide ((soaZ o z).serial = (soaZ o hist[i]).serial)) ∧ Ext w12 w3) (fun _ j _ _ _ => css.length - (intOf j).toNat)
                case atStart => exact ⟨0, by omega, by go_num, by simp, Ext.refl _⟩
                case round =>
                  obtain ⟨m, hm, rfl, rfl, hy3⟩ := hrel
                  have hy13 := hy12.trans hy3
                  have sl3 := slw.ext hy13
                  by_cases hml : i + 1 + m < css.length
                  · have hmh : i + 1 + m < hist.length := by omega
                    obtain ⟨u2, hc2, hu2⟩ := cat (i + 1 + m) _ (List.getElem?_eq_getElem hmh)
                    obtain ⟨zl2, zb2, zd2, zr2⟩ := zoneJ (hzo _ (List.getElem_mem hmh))
                    have hpe := sl3.elem hc2
                    have hag := again_step (s := (soaZ o hist[i]).serial) (o := o) (List.getElem?_eq_getElem hmh)
                    repeat' (first | ((with_reducible refine o_s ?_); (first | (refine o_1 ?_; refine o_2 ?_) | (refine o_g ?_; first | refine o_u ?_ | refine o_k ?_ | refine o_n ?_ | refine o_v ?_ | ((first | refine o_G ?_ ?_ | refine o_N ?_ ?_) <;> intro hc)))) | ((fail_if_success (with_reducible refine o_s ?_)); go_step))
                    refine wpl_callV (enters_of Tryz.func63 rfl rfl) rfl rfl (p_Soa o u2 hist[i + 1 + m] _ (hu2.ext (hx.trans hy13)) (fun s hs => by have := zb2 s hs; omega) (fun s hs d hd => by have := zd2 s hs d hd; omega)) ?_; intro w14 x14; refine gset ?_
                    repeat' (first | ((with_reducible refine o_s ?_); (first | (refine o_1 ?_; refine o_2 ?_) | (refine o_g ?_; first | refine o_u ?_ | refine o_k ?_ | refine o_n ?_ | refine o_v ?_ | ((first | refine o_G ?_ ?_ | refine o_N ?_ ?_) <;> intro hc)))) | ((fail_if_success (with_reducible refine o_s ?_)); go_step))
                    refine wpl_allocB (z := zeroSoa) rfl (by decide +kernel) ?_
                    intro w15 x15 s15 h15
                    refine gset ?_
                    refine wpl_storeB (v := .agg (soaZ o hist[i + 1 + m]).cells.toArray) rfl rfl rfl h15 (show sizeTy Tryz.prog 103 7 = true by decide +kernel) rfl (soaR_one _) ?_
                    intro w16 p16
                    have x16 : Ext w14 w16 := x15.move p16.mv (by rintro k ⟨⟩; exact Nat.le_refl _)
                    have ht16 := pts_block (cs := (soaZ o hist[i + 1 + m]).cells) p16.this
                    have hx16 := hy3.trans (x14.trans x16)
                    have hs16 := hs12.ext hx16
                    clear p16 h15 x15 x16 hpe
                    cases hA : (((hist.drop (i + 1)).take m).any fun z => decide ((soaZ o z).serial = (soaZ o hist[i]).serial)) with
                    | true =>
                      rw [hA, Bool.true_or] at hag
                      repeat' (first | ((with_reducible refine o_s ?_); (first | (refine o_1 ?_; refine o_2 ?_) | (refine o_g ?_; first | refine o_u ?_ | refine o_k ?_ | refine o_n ?_ | refine o_v ?_ | ((first | refine o_G ?_ ?_ | refine o_N ?_ ?_) <;> intro hc)))) | ((fail_if_success (with_reducible refine o_s ?_)); go_step))
                      exact ⟨⟨m + 1, by omega, by go_num, by rw [hag], hx16⟩, by simp [intOf]; omega⟩
                    | false =>
                      rw [hA, Bool.false_or] at hag
                      repeat' (first | ((with_reducible refine o_s ?_); (first | (refine o_1 ?_; refine o_2 ?_) | (refine o_g ?_; first | refine o_u ?_ | refine o_k ?_ | refine o_n ?_ | refine o_v ?_ | ((first | refine o_G ?_ ?_ | refine o_N ?_ ?_) <;> intro hc)))) | ((fail_if_success (with_reducible refine o_s ?_)); go_step))
                      exact ⟨⟨m + 1, by omega, by go_num, by rw [hag], hx16⟩, by simp [intOf]; omega⟩
                  · have hme : i + 1 + m = css.length := by omega
                    have hJ3 := hJ.grow hy13
                    have hs3 := hs12.ext hy3
                    have hmm : m = hist.length - (i + 1) := by omega
                    repeat' (first | ((with_reducible refine o_s ?_); (first | (refine o_1 ?_; refine o_2 ?_) | (refine o_g ?_; first | refine o_u ?_ | refine o_k ?_ | refine o_n ?_ | refine o_v ?_ | ((first | refine o_G ?_ ?_ | refine o_N ?_ ?_) <;> intro hc)))) | ((fail_if_success (with_reducible refine o_s ?_)); go_step))
                    refine wpl_callR (enters_of Tryz.func59 rfl rfl) rfl rfl (p_Since hJ3 bb bd bn (fun d hd => by have := bg d hd; omega) _) ?_
                    rintro _ w15 x15 ⟨y, rfl, hD⟩
                    refine gset ?_
                    have hy15 := hy13.trans x15
                    have hJ15 := hJ3.grow x15
                    have sl15 := slw.ext hy15
                    have hpe := sl15.elem hc
                    clear sl2 sl3 hs3 hJ3
                    cases hA : (((hist.drop (i + 1)).take m).any fun z => decide ((soaZ o z).serial = (soaZ o hist[i]).serial)) with
                    | true =>
                      repeat' (first | ((with_reducible refine o_s ?_); (first | (refine o_1 ?_; refine o_2 ?_) | (refine o_g ?_; first | refine o_u ?_ | refine o_k ?_ | refine o_n ?_ | refine o_v ?_ | ((first | refine o_G ?_ ?_ | refine o_N ?_ ?_) <;> intro hc)))) | ((fail_if_success (with_reducible refine o_s ?_)); go_step))
                      exact ⟨⟨i + 1, by omega, by go_num, hy15⟩, by simp [intOf]; omega⟩
                    | false =>
                      cases hB : (sinceR o l2 ds (soaZ o hist[i]).serial).2 with
                      | false =>
                        repeat' (first | ((with_reducible refine o_s ?_); (first | (refine o_1 ?_; refine o_2 ?_) | (refine o_g ?_; first | refine o_u ?_ | refine o_k ?_ | refine o_n ?_ | refine o_v ?_ | ((first | refine o_G ?_ ?_ | refine o_N ?_ ?_) <;> intro hc)))) | ((fail_if_success (with_reducible refine o_s ?_)); go_step))
                        exact ⟨⟨i + 1, by omega, by go_num, hy15⟩, by simp [intOf]; omega⟩
                      | true =>
                        have hna := again_no (o := o) (s := (soaZ o hist[i]).serial) (by rw [← hmm]; exact hA)
                        have hM := since_made (a := hist[i]) hO.fits.1 hzo hlast (List.getElem?_eq_getElem hih) rfl hna (by rw [← hds]; exact hB)
                        rw [← hds] at hM
                        obtain ⟨hM1, hM2⟩ := hM
                        obtain ⟨cD, sD, lD, eD⟩ := hD.each
                        generalize (sinceR o l2 ds (soaZ o hist[i]).serial).1 = Rl at *
                        clear hA hB hna hD
                        repeat' (first | ((with_reducible refine o_s ?_); (first | (refine o_1 ?_; refine o_2 ?_) | (refine o_g ?_; first | refine o_u ?_ | refine o_k ?_ | refine o_n ?_ | refine o_v ?_ | ((first | refine o_G ?_ ?_ | refine o_N ?_ ?_) <;> intro hc)))) | ((fail_if_success (with_reducible refine o_s ?_)); go_step))
                        refine wpl_allocB (z := zzone) rfl (by decide +kernel) ?_
                        intro w16 x16 s16 h16
                        refine gset ?_
                        have hu1 : u.oneCell' = true := by obtain ⟨css, h, _⟩ := hu; exact h.one
                        refine wpl_storeB (v := .agg #[str o, u]) rfl rfl rfl h16 (show sizeTy Tryz.prog 25 2 = true by decide +kernel) rfl (zone_one hu1) ?_
                        intro w17 p17
                        have x17 : Ext w15 w17 := x16.move p17.mv (by rintro k ⟨⟩; exact Nat.le_refl _)
                        have hb17 : w17.heap[w15.heap.size]? = some (.cells [str o, u].toArray 25 (0, 0)) := p17.this
                        clear p17 h16 x16 s16 hpe
                        repeat' (first | ((with_reducible refine o_s ?_); (first | (refine o_1 ?_; refine o_2 ?_) | (refine o_g ?_; first | refine o_u ?_ | refine o_k ?_ | refine o_n ?_ | refine o_v ?_ | ((first | refine o_G ?_ ?_ | refine o_N ?_ ?_) <;> intro hc)))) | ((fail_if_success (with_reducible refine o_s ?_)); go_step))
                        go_loopw [21, 22, 23] (fun j _ _ w4 => ∃ (q : Nat) (ux : Value) (a : List RSet), q ≤ Rl.length ∧ j = .int .i64 q ∧ Ext w15 w4 ∧ w4.heap[w15.heap.size]? = some (.cells [str o, ux].toArray 25 (0, 0)) ∧ hist[i + q]? = some a ∧ SetsAt w4 ux a) (fun j _ _ _ => Rl.length - (intOf j).toNat)
                        case atStart => exact ⟨0, u, hist[i], Nat.zero_le _, rfl, x17, hb17, List.getElem?_eq_getElem hih, (hu.ext (hx.trans hy15)).ext x17⟩
                        case round =>
                          clear hb17 x17
                          obtain ⟨q, ux, a, hq, rfl, hz4, hbx, hia, hsa⟩ := hrel
                          have hy4 := hy15.trans hz4
                          have hx4 := hx.trans hy4
                          have hpx := pts_block (cs := [str o, ux]) hbx
                          have sD4 := sD.ext hz4
                          have hbs : w15.heap.size < wr.heap.size := (Array.getElem?_eq_some_iff.1 hbx).1
                          by_cases hqr : q < Rl.length
                          · have hib : i + q + 1 < hist.length := by omega
                            obtain ⟨hza1, hza2, hza3, hza4⟩ := zoneJ (hzo _ (List.mem_of_getElem? hia))
                            have hzb := hzo _ (List.getElem_mem hib)
                            have hRq := hM2 q a hist[i + q + 1] hia (List.getElem?_eq_getElem hib)
                            have hok := (back_ok (mkE_ok (hzo _ (List.mem_of_getElem? hia)) hzb)).1
                            have hlen := mkD_len (hzo _ (List.mem_of_getElem? hia)) hzb
                            have hmk := (mk_ok (mkE_ok (hzo _ (List.mem_of_getElem? hia)) hzb)).2.2.2
                            obtain ⟨g, n, hcD, sg, sn⟩ := eD q _ hRq
                            have hpe := sD4.elem hcD
                            have hqc : q < cD.length := by omega
                            have hnd : ∀ r ∈ (mkD o a o hist[i + q + 1]).new, r.data.length ≤ 1000000 := by
                              intro r hr
                              rw [hmk] at hr
                              exact recs_data (n := 1000000) (fun s hs d hd => by have := (zoneJ hzb).2.2.1 s hs d hd; omega) r (mem_less.1 hr).1
                            have cM : ∀ w', Ext wr w' → Calls Tryz.prog 28 #[.agg #[str o, ux], .agg #[.int .i64 (mkD o a o hist[i + q + 1]).fr, .int .i64 (mkD o a o hist[i + q + 1]).to, g, n]] w' (Ret w' fun r w'' => ∃ y, r = .tuple #[.agg #[str o, y], .int .i64 0] ∧ SetsO w'.heap.size w'' y hist[i + q + 1]) := fun w' hx' => by
                              have hzx := hz4.trans hx'
                              refine (p_Apply (d := mkD o a o hist[i + q + 1]) o ux a w' (hsa.ext hx') ⟨g, n, rfl, sg.ext hzx, sn.ext hzx⟩ (fun s hs => by have := hza2 s hs; omega) (fun s hs d hd => by have := hza3 s hs d hd; omega) (by omega) (by omega) hnd).mono ?_
                              rintro e w'' ⟨_, rfl, hxx, y, rfl, hy⟩
                              rw [hok.1, hok.2.2]
                              rw [hok.2.1] at hy
                              exact ⟨_, rfl, hxx, y, rfl, hy⟩
                            clear hM2 hmk hlen hnd hza2 hza3 sg sn hzb hza4 hza1
                            generalize mkD o a o hist[i + q + 1] = D at *
                            repeat' (first | ((with_reducible refine o_s ?_); (first | (refine o_1 ?_; refine o_2 ?_) | (refine o_g ?_; first | refine o_u ?_ | refine o_k ?_ | refine o_n ?_ | refine o_v ?_ | ((first | refine o_G ?_ ?_ | refine o_N ?_ ?_) <;> intro hc)))) | ((fail_if_success (with_reducible refine o_s ?_)); go_step))
                            refine wph_region (S := fun w' => Ext wr w') (by decide +kernel) ?_
                            intro w21 x21 _
                            refine tk 0 ?_; refine gset ?_; refine tk 1 ?_; refine gset ?_; refine tk 2 ?_; refine gset ?_; refine tk 3 ?_; refine gset ?_; refine tk 4 ?_; refine gset ?_
                            apply meetM (F := fun (yv : Value) (kb : Nat) w' => Ext wr w' ∧ w'.heap[kb]? = some (.cells [str o, yv].toArray 25 (0, 0)) ∧ SetsO wr.heap.size w' yv hist[i + q + 1])
                            · intro hG
                              refine wph_two (i := 5) (j := 9) (by decide +kernel) rfl rfl rfl ?_ ?_
                              · refine wpl_callR (enters_of Tryz.func28 rfl rfl) rfl rfl (cM _ x21) ?_
                                rintro _ wC xC ⟨y1, rfl, hy1⟩
                                refine gset ?_
                                have x1 := x21.trans xC
                                have hsC := x21.size
                                have hy11 : y1.oneCell' = true := by obtain ⟨css, h, _⟩ := hy1.sets; exact h.one
                                refine wph_nil ⟨x1, ?_⟩
                                refine tk 6 ?_; refine gset ?_; refine tk 7 ?_; refine gset ?_; refine tk 8 ?_; refine gset ?_
                                refine wph_one (i := 9) (by decide +kernel) rfl rfl ?_
                                refine wpl_allocB (z := zzone) rfl (by decide +kernel) ?_
                                intro wE xE sE hE
                                have hsE := x1.size
                                refine gset ?_
                                refine wph_nil ⟨x1.trans xE, ?_⟩
                                refine wph_one (i := 10) (by decide +kernel) rfl rfl ?_
                                refine wpl_storeB (v := .agg #[str o, y1]) rfl rfl rfl hE (show sizeTy Tryz.prog 25 2 = true by decide +kernel) rfl (zone_one hy11) ?_
                                intro wF pF
                                have xF : Ext wC wF := xE.move pF.mv (by rintro k ⟨⟩; exact Nat.le_refl _)
                                have hF := pF.this
                                refine wph_nil ⟨x1.trans xF, ?_⟩
                                refine tk 11 ?_; refine gset ?_
                                have hfin := (hy1.ext xF).weaken hsC
                                have x4 := x1.trans xF
                                clear pF hE xE sE
                                generalize wC.heap.size = kb at *
                                exact hG y1 kb _ ⟨x4, hF, hfin⟩
                              · refine wpl_allocB (z := zzone) rfl (by decide +kernel) ?_
                                intro wD xD sD hD
                                have hsD := x21.size
                                refine gset ?_
                                have x2 := x21.trans xD
                                refine wph_nil ⟨x2, ?_⟩
                                refine wph_one (i := 5) (by decide +kernel) rfl rfl ?_
                                refine wpl_callR (enters_of Tryz.func28 rfl rfl) rfl rfl (cM _ x2) ?_
                                rintro _ wE xE ⟨y1, rfl, hy1⟩
                                refine gset ?_
                                have hsE := x2.size
                                have hy11 : y1.oneCell' = true := by obtain ⟨css, h, _⟩ := hy1.sets; exact h.one
                                have x3 := x2.trans xE
                                refine wph_nil ⟨x3, ?_⟩
                                refine tk 6 ?_; refine gset ?_; refine tk 7 ?_; refine gset ?_; refine tk 8 ?_; refine gset ?_
                                have hE := xE.at hD
                                refine wph_one (i := 10) (by decide +kernel) rfl rfl ?_
                                refine wpl_storeB (v := .agg #[str o, y1]) rfl rfl rfl hE (show sizeTy Tryz.prog 25 2 = true by decide +kernel) rfl (zone_one hy11) ?_
                                intro wF pF
                                have xF : Ext wr wF := x3.move pF.mv (by rintro k ⟨⟩; exact hsD)
                                have hF := pF.this
                                refine wph_nil ⟨xF, ?_⟩
                                refine tk 11 ?_; refine gset ?_
                                have hfin := (hy1.put pF (by omega)).weaken hsE
                                clear pF hE hD sD
                                generalize w21.heap.size = kb at *
                                exact hG y1 kb _ ⟨xF, hF, hfin⟩
                            · rintro yv kb w7 ⟨x7, hkb, hyv⟩
                              refine wph_done (by decide +kernel) ?_
                              have hbx7 := x7.at hbx
                              have hpk := pts_block (cs := [str o, yv]) hkb
                              have hyv1 : yv.oneCell' = true := by obtain ⟨css, h, _⟩ := hyv.sets; exact h.one
                              clear hpx hpe hkb hbx
                              repeat' (first | ((with_reducible refine o_s ?_); (first | (refine o_1 ?_; refine o_2 ?_) | (refine o_g ?_; first | refine o_u ?_ | refine o_k ?_ | refine o_n ?_ | refine o_v ?_ | ((first | refine o_G ?_ ?_ | refine o_N ?_ ?_) <;> intro hc)))) | ((fail_if_success (with_reducible refine o_s ?_)); go_step))
                              refine wpl_storeB (v := .agg #[str o, yv]) rfl rfl rfl hbx7 (show sizeTy Tryz.prog 25 2 = true by decide +kernel) rfl (zone_one hyv1) ?_
                              intro w8 p8
                              have hz8 : Ext w15 w8 := (hz4.trans x7).move p8.mv (by rintro k ⟨⟩; exact Nat.le_refl _)
                              have hs8 := (hyv.put p8 hbs).sets
                              have hb8 := p8.this
                              clear p8
                              repeat' (first | ((with_reducible refine o_s ?_); (first | (refine o_1 ?_; refine o_2 ?_) | (refine o_g ?_; first | refine o_u ?_ | refine o_k ?_ | refine o_n ?_ | refine o_v ?_ | ((first | refine o_G ?_ ?_ | refine o_N ?_ ?_) <;> intro hc)))) | ((fail_if_success (with_reducible refine o_s ?_)); go_step))
                              exact ⟨⟨q + 1, yv, hist[i + q + 1], by omega, by go_num, hz8, hb8, List.getElem?_eq_getElem hib, hs8⟩, by simp [intOf]; omega⟩
                          · have hqe : q = cD.length := by omega
                            have hal : a = l2 := by
                              have h1 : hist[hist.length - 1]? = some l2 := by rw [← List.getLast?_eq_getElem?]; exact hlast
                              rw [show hist.length - 1 = i + q by omega, hia] at h1
                              exact Option.some.inj h1
                            have hJ4 := hJ.grow hy4
                            repeat' (first | ((with_reducible refine o_s ?_); (first | (refine o_1 ?_; refine o_2 ?_) | (refine o_g ?_; first | refine o_u ?_ | refine o_k ?_ | refine o_n ?_ | refine o_v ?_ | ((first | refine o_G ?_ ?_ | refine o_N ?_ ?_) <;> intro hc)))) | ((fail_if_success (with_reducible refine o_s ?_)); go_step))
                            refine wph_region (S := fun w' => Ext wr w') (by decide +kernel) ?_
                            intro w21 x21 _
                            refine tk 0 ?_; refine gset ?_; refine tk 1 ?_; refine gset ?_
                            refine wph_one (i := 2) (by decide +kernel) rfl rfl ?_
                            refine wpl_callR (enters_of Tryz.func62 rfl rfl) rfl rfl (p_Zone (hJ4.grow x21) bl bb) ?_
                            rintro _ w22 x22 ⟨y4, rfl, hy4'⟩
                            refine gset ?_
                            have x22 := x21.trans x22
                            refine wph_nil ⟨x22, ?_⟩
                            refine wph_one (i := 3) (by decide +kernel) rfl rfl ?_
                            refine wpl_callV (enters_of Tryz.func31 rfl rfl) rfl rfl (same_true (hsa.ext x22) hy4'.sets rfl hal) ?_
                            intro w23 x23
                            refine gset ?_
                            have x23 := x22.trans x23
                            refine wph_nil ⟨x23, ?_⟩
                            refine tk 4 ?_; refine gset ?_
                            refine wph_done (by decide +kernel) ?_
                            repeat' (first | ((with_reducible refine o_s ?_); (first | (refine o_1 ?_; refine o_2 ?_) | (refine o_g ?_; first | refine o_u ?_ | refine o_k ?_ | refine o_n ?_ | refine o_v ?_ | ((first | refine o_G ?_ ?_ | refine o_N ?_ ?_) <;> intro hc)))) | ((fail_if_success (with_reducible refine o_s ?_)); go_step))
                            exact ⟨⟨i + 1, by omega, by go_num, hy4.trans x23⟩, by simp [intOf]; omega⟩
              · have hie : i = css.length := by omega
                have hJ2 := hJ.grow hy
                repeat' (first | ((with_reducible refine o_s ?_); (first | (refine o_1 ?_; refine o_2 ?_) | (refine o_g ?_; first | refine o_u ?_ | refine o_k ?_ | refine o_n ?_ | refine o_v ?_ | ((first | refine o_G ?_ ?_ | refine o_N ?_ ?_) <;> intro hc)))) | ((fail_if_success (with_reducible refine o_s ?_)); go_step))
                refine wpl_callV (enters_of Tryz.func58 rfl rfl) rfl rfl (p_Len hJ2) ?_; intro w10 x10; refine gset ?_
                iterate 2 ((with_reducible refine o_s ?_); (first | (refine o_1 ?_; refine o_2 ?_) | (refine o_g ?_; refine o_u ?_; (with_reducible refine o_s ?_); refine o_1 ?_; refine o_2 ?_)))
                rw [decide_eq_true hO.len]
                repeat' (first | ((with_reducible refine o_s ?_); (first | (refine o_1 ?_; refine o_2 ?_) | (refine o_g ?_; first | refine o_u ?_ | refine o_k ?_ | refine o_n ?_ | refine o_v ?_ | ((first | refine o_G ?_ ?_ | refine o_N ?_ ?_) <;> intro hc)))) | ((fail_if_success (with_reducible refine o_s ?_)); go_step))
                refine wpl_callV (enters_of Tryz.func51 rfl rfl) rfl rfl (j_liveV _) ?_; intro w11 x11; refine gset ?_
                repeat' (first | ((with_reducible refine o_s ?_); (first | (refine o_1 ?_; refine o_2 ?_) | (refine o_g ?_; first | refine o_u ?_ | refine o_k ?_ | refine o_n ?_ | refine o_v ?_ | ((first | refine o_G ?_ ?_ | refine o_N ?_ ?_) <;> intro hc)))) | ((fail_if_success (with_reducible refine o_s ?_)); go_step))
                go_ret
                exact ⟨rfl, hx5.trans (hx.trans (hy.trans (x10.trans x11)))⟩
end Go.Proofs.X
