/- Laws and walks that the proof of the statement is made of (part 14). -/
import Derived.Test.YtoajkilickakiaaGreatProg
import Derived.Test.YtoajkilickakiaaGreatShelf
import Derived.Shelf.SlSortCmp.NoneTotal
import Derived.Shelf.RegionOpenPlain
import Derived.Lib.Strings
import Derived.Lib.Slices
import Derived.Lib.Walk
import Derived.Lib.Builder
import Derived.Lib.AppendStr
import Derived.Lib.UnsafeStr
import Derived.Lib.MakeNoZero
import Derived.WalkKit
import Derived.Laws.Externs
import Derived.Laws.IdiomCopy
import Derived.Laws.BitsLemmas
import GoSem.Claims
import Derived.StringKeys
import Derived.Lib.Hide
import Derived.OwnWalk
import Derived.WalkMore
import Derived.Test.YtoajkilickakiaaGreatP1
import Derived.Test.YtoajkilickakiaaGreatP2
import Derived.Test.YtoajkilickakiaaGreatP3
import Derived.Test.YtoajkilickakiaaGreatP4
import Derived.Test.YtoajkilickakiaaGreatP5
import Derived.Test.YtoajkilickakiaaGreatP6
import Derived.Test.YtoajkilickakiaaGreatP7
import Derived.Test.YtoajkilickakiaaGreatP8
import Derived.Test.YtoajkilickakiaaGreatP9
import Derived.Test.YtoajkilickakiaaGreatP10
import Derived.Test.YtoajkilickakiaaGreatP11
import Derived.Test.YtoajkilickakiaaGreatP12
import Derived.Test.YtoajkilickakiaaGreatP13
set_option linter.unusedSimpArgs false
set_option linter.unusedVariables false
namespace Go.Proofs.X
open Go.RowKit
set_option maxRecDepth 100000
theorem host_labels (k : Int) (d : List UInt8) : (labels (fold (parseHost k d).1)).isSome = true := by
  have h0 : (labels (fold [])).isSome = true := rfl
  unfold parseHost
  split
  · exact h0
  · split
    · exact h0
    · split
      · exact h0
      · rename_i n hn
        unfold hostN at hn
        split at hn
        · rename_i hh
          cases hn
          rw [labels_fold]
          exact hh.2
        · cases hn
theorem setsP_len (l : List RSet) (n : List UInt8) : (setsP l n).length ≤ l.length := by
  unfold setsP
  split <;> exact at_len _ _ _
theorem recs_le : ∀ {L : List RSet}, (∀ s ∈ L, s.data.length ≤ 20) → (recordsS L).length ≤ 20 * L.length
  | [], _ => by simp [recordsS]
  | s :: L, h => by
    have e : recordsS (s :: L) = recsOf s ++ recordsS L := by simp [recordsS]
    have ih := recs_le (L := L) fun t ht => h t (by simp [ht])
    have := h s (by simp)
    rw [e, List.length_append, recsOf, List.length_map, List.length_cons]
    omega
structure StepA (w0 : World) (b : Nat) (o : List UInt8) (v : Value) (A : List Rec) (r : StepR) (w' : World) : Prop where
  ext : Ext w0 w'
  out : ∃ a u, w'.heap[b]? = some (.cells (askC o v r.kind a u (.slice none 0 0)).toArray 128 (0, 0)) ∧ Own w0.heap.size 4 75 w' a (rcells (A ++ r.ans)) ∧ Own w0.heap.size 4 75 w' u (rcells r.auth) ∧ (r.more = true → u = .slice none 0 0)
theorem StepA.of {w0 w1 w' : World} {b : Nat} {o : List UInt8} {v : Value} {A : List Rec} {r : StepR} {a u : Value} {row : Option Nat} {cs : List Value} (hx : Ext w0 w1) (hm : Mv row w1 w') (hrow : row = some b) (hbk : w0.heap.size ≤ b)
    (hb1 : w1.heap[b]? = some (.cells cs.toArray 128 (0, 0))) (hb : w'.heap[b]? = some (.cells (askC o v r.kind a u (.slice none 0 0)).toArray 128 (0, 0))) (ha : Own w0.heap.size 4 75 w1 a (rcells (A ++ r.ans))) (hu : Own w0.heap.size 4 75 w1 u (rcells r.auth)) (hn : r.more = true → u = .slice none 0 0 := by (intro h; cases h)) : StepA w0 b o v A r w' := by
  subst hrow
  exact ⟨hx.move hm (by rintro k ⟨⟩; exact hbk), a, u, hb, ha.mv hm (.inr (ha.neBlock hb1 (by decide))), hu.mv hm (.inr (hu.neBlock hb1 (by decide))), hn⟩
set_option maxHeartbeats 8000000 in
theorem p_step (b : Nat) (o : List UInt8) (v : Value) (l : List RSet) (n : List UInt8) (k c : Int) (a : Value) (A : List Rec) (w0 w : World) (hx : Ext w0 w) (hv : SetsAt w0 v l) (hz : ZoneOk o l) (hbk : w0.heap.size ≤ b)
    (hb : w.heap[b]? = some (.cells (askC o v 0 a (.slice none 0 0) (.slice none 0 0)).toArray 128 (0, 0))) (ha : Own w0.heap.size 4 75 w a (rcells A)) (hn : (labels n).isSome = true) (hA : A.length ≤ 100000) :
    Calls Tryz.prog 91 #[.pointer (some ⟨b, 0, none⟩), str n, .int .i64 k, .int .i64 c] w fun e w' => e = .returned (.tuple #[str (stepP o l n k c).next, .bool (stepP o l n k c).more]) ∧ StepA w0 b o v A (stepP o l n k c) w' := by
  have hzb := zone_data hz
  have hzr := zone_ok' hz
  have hblt := (Array.getElem?_eq_some_iff.1 hb).1
  go_enter Tryz.func91, Tryz.ntmps91
  repeat' ((fail_if_success (with_reducible refine o_s ?_)); go_step)
  refine wpl_box (vs := [.int .i64 k]) rfl rfl ?_
  intro pk w1 x1 hk
  refine gset ?_
  have hx1 := hx.trans x1
  have hb1 := x1.at hb
  obtain ⟨hp, hp0, hp2⟩ := ask_pts hb1
  have ha1 := ha.ext x1
  have hv1 := hv.ext hx1
  repeat' (first | ((with_reducible refine o_s ?_); (first | (refine o_1 ?_; refine o_2 ?_) | (refine o_g ?_; first | refine o_u ?_ | refine o_k ?_ | refine o_n ?_ | refine o_v ?_ | ((first | refine o_G ?_ ?_ | refine o_N ?_ ?_) <;> intro hc)))) | ((fail_if_success (with_reducible refine o_s ?_)); go_step))
  refine wpl_callV (enters_of Tryz.func98 rfl rfl) rfl rfl (p_Under n o _) ?_; intro w2 x2; refine gset ?_
  have hb2 := x2.at hb1
  have hx2 := hx1.trans x2
  have ha2 := ha1.ext x2
  cases hu : underN n o with
  | false =>
    repeat' (first | ((with_reducible refine o_s ?_); (first | (refine o_1 ?_; refine o_2 ?_) | (refine o_g ?_; first | refine o_u ?_ | refine o_k ?_ | refine o_n ?_ | refine o_v ?_ | ((first | refine o_G ?_ ?_ | refine o_N ?_ ?_) <;> intro hc)))) | ((fail_if_success (with_reducible refine o_s ?_)); go_step))
    · refine wpl_run0 (Runs.fieldA (off := 2) rfl (by decide +kernel)) ?_
      refine gset ?_
      repeat' (first | ((with_reducible refine o_s ?_); (first | (refine o_1 ?_; refine o_2 ?_) | (refine o_g ?_; first | refine o_u ?_ | refine o_k ?_ | refine o_n ?_ | refine o_v ?_ | ((first | refine o_G ?_ ?_ | refine o_N ?_ ?_) <;> intro hc)))) | ((fail_if_success (with_reducible refine o_s ?_)); go_step))
      refine wpl_storeF (n := 2) hb2 rfl rfl rfl (by simp [askC]) (by decide +kernel) rfl ?_
      intro w3 p3
      repeat' (first | ((with_reducible refine o_s ?_); (first | (refine o_1 ?_; refine o_2 ?_) | (refine o_g ?_; first | refine o_u ?_ | refine o_k ?_ | refine o_n ?_ | refine o_v ?_ | ((first | refine o_G ?_ ?_ | refine o_N ?_ ?_) <;> intro hc)))) | ((fail_if_success (with_reducible refine o_s ?_)); go_step))
      go_ret2
      have hr : stepP o l n k c = ⟨4, [], [], [], false⟩ := by rw [stepP, if_pos hu, if_pos ‹c = 0›]
      rw [hr]
      exact ⟨rfl, StepA.of hx2 p3.mv rfl hbk hb2 p3.this (by rw [List.append_nil]; exact ha2) (Own.nil _ _ _ _)⟩
    · have hr : stepP o l n k c = ⟨0, [], [], [], false⟩ := by rw [stepP, if_pos hu, if_neg ‹¬ c = 0›]
      go_ret2
      rw [hr]
      exact ⟨rfl, StepA.of hx2 (Mv.refl _ _) rfl hbk hb2 hb2 (by rw [List.append_nil]; exact ha2) (Own.nil _ _ _ _)⟩
  | true =>
    have hu' : ¬ underN n o = false := by simp [hu]
    repeat' (first | ((with_reducible refine o_s ?_); (first | (refine o_1 ?_; refine o_2 ?_) | (refine o_g ?_; first | refine o_u ?_ | refine o_k ?_ | refine o_n ?_ | refine o_v ?_ | ((first | refine o_G ?_ ?_ | refine o_N ?_ ?_) <;> intro hc)))) | ((fail_if_success (with_reducible refine o_s ?_)); go_step))
    have c39 : ∀ w', SetsAt w' v l → Calls Tryz.prog 39 #[.agg #[str o, v], str n] w' (RetV w' (.tuple #[str (cutP o l n).1, .bool (cutP o l n).2])) := fun w' h => by
      have := p_Cut o v l n w' h hzb
      rw [if_pos hzr, cut_eq hz.chk] at this
      exact this
    have hv2 := hv1.ext x2
    refine wpl_callV (enters_of Tryz.func39 rfl rfl) rfl rfl (c39 _ hv2) ?_; intro w3 x3; refine gset ?_
    have hb3 := x3.at hb2
    have hx3 := hx2.trans x3
    have ha3 := ha2.ext x3
    have hv3 := hv2.ext x3
    have hk3 := (hk.ext x2).ext x3
    obtain ⟨qp, qp0, qp2⟩ := ask_pts hb3
    clear hp hp0 hp2
    cases hc : (cutP o l n).2 with
    | true =>
      repeat' (first | ((with_reducible refine o_s ?_); (first | (refine o_1 ?_; refine o_2 ?_) | (refine o_g ?_; first | refine o_u ?_ | refine o_k ?_ | refine o_n ?_ | refine o_v ?_ | ((first | refine o_G ?_ ?_ | refine o_N ?_ ?_) <;> intro hc)))) | ((fail_if_success (with_reducible refine o_s ?_)); go_step))
      refine wpl_callR (enters_of Tryz.func40 rfl rfl) rfl rfl (t13 v l (cutP o l n).1 2 _ hv3 (fun s hs => by have := hzb s hs; omega)) ?_
      intro r4 w4 x4 hr4
      obtain ⟨y4, rfl, hy4⟩ := find_one hr4
      clear hr4
      repeat' (first | ((with_reducible refine o_s ?_); (first | (refine o_1 ?_; refine o_2 ?_) | (refine o_g ?_; first | refine o_u ?_ | refine o_k ?_ | refine o_n ?_ | refine o_v ?_ | ((first | refine o_G ?_ ?_ | refine o_N ?_ ?_) <;> intro hc)))) | ((fail_if_success (with_reducible refine o_s ?_)); go_step))
      refine wpl_allocB (z := zset) rfl (by decide +kernel) ?_
      intro w5 x5 s5 h5
      refine gset ?_
      refine wpl_storeB (v := .agg #[str ((findS l (cutP o l n).1 2).getD zeroS).name, .int .i64 ((findS l (cutP o l n).1 2).getD zeroS).kind, .int .i64 ((findS l (cutP o l n).1 2).getD zeroS).ttl, y4]) rfl rfl rfl h5 (show sizeTy Tryz.prog 55 4 = true by decide +kernel) rfl (all4 rfl rfl rfl hy4.one) ?_
      intro w6 p6
      have x6 : Ext w4 w6 := x5.move p6.mv (by rintro k ⟨⟩; exact Nat.le_refl _)
      have h6 := pts_block (cs := [str ((findS l (cutP o l n).1 2).getD zeroS).name, .int .i64 ((findS l (cutP o l n).1 2).getD zeroS).kind, .int .i64 ((findS l (cutP o l n).1 2).getD zeroS).ttl, y4]) p6.this
      have x36 := x4.trans x6
      have hx6 := hx3.trans x36
      have hb6 := x36.at hb3
      have ha6 := ha3.ext x36
      have y6 := hy4.ext x6
      clear p6 h5 x5
      repeat' (first | ((with_reducible refine o_s ?_); (first | (refine o_1 ?_; refine o_2 ?_) | (refine o_g ?_; first | refine o_u ?_ | refine o_k ?_ | refine o_n ?_ | refine o_v ?_ | ((first | refine o_G ?_ ?_ | refine o_N ?_ ?_) <;> intro hc)))) | ((fail_if_success (with_reducible refine o_s ?_)); go_step))
      refine wpl_slice (e := 55) (k := 4) (bytes := 56) (xs := [.agg #[str ((findS l (cutP o l n).1 2).getD zeroS).name, .int .i64 ((findS l (cutP o l n).1 2).getD zeroS).kind, .int .i64 ((findS l (cutP o l n).1 2).getD zeroS).ttl, y4]]) rfl rfl rfl (by simp [Value.cells]) (by decide +kernel) (by simp) ?_
      intro v8 w8 x8 _ sl8 _
      refine gset ?_
      have hs8 : SetsAt w8 v8 [(findS l (cutP o l n).1 2).getD zeroS] := (SetsC.one (s := (findS l (cutP o l n).1 2).getD zeroS) (y6.ext x8)).sets sl8
      have hlen : (recordsS [(findS l (cutP o l n).1 2).getD zeroS]).length ≤ 1000000 := by
        rw [← recOpt_getD]
        have := recOpt_len (fun s hs => (may_data (hz.may hs)).2) (cutP o l n).1 2
        omega
      repeat' (first | ((with_reducible refine o_s ?_); (first | (refine o_1 ?_; refine o_2 ?_) | (refine o_g ?_; first | refine o_u ?_ | refine o_k ?_ | refine o_n ?_ | refine o_v ?_ | ((first | refine o_G ?_ ?_ | refine o_N ?_ ?_) <;> intro hc)))) | ((fail_if_success (with_reducible refine o_s ?_)); go_step))
      refine wpl_callR (enters_of Tryz.func43 rfl rfl) rfl rfl (t10 v8 _ _ hs8 hlen) ?_
      intro r9 w9 x9 o9
      rw [← recOpt_getD] at o9
      refine gset ?_
      have x69 := x8.trans x9
      have hx9 := hx6.trans x69
      have hb9 := x69.at hb6
      have ha9 := ha6.ext x69
      have zz : w0.heap.size ≤ w8.heap.size := (hx6.trans x8).size
      repeat' (first | ((with_reducible refine o_s ?_); (first | (refine o_1 ?_; refine o_2 ?_) | (refine o_g ?_; first | refine o_u ?_ | refine o_k ?_ | refine o_n ?_ | refine o_v ?_ | ((first | refine o_G ?_ ?_ | refine o_N ?_ ?_) <;> intro hc)))) | ((fail_if_success (with_reducible refine o_s ?_)); go_step))
      refine wpl_run0 (Runs.fieldA (off := 2) rfl (by decide +kernel)) ?_
      refine gset ?_
      repeat' (first | ((with_reducible refine o_s ?_); (first | (refine o_1 ?_; refine o_2 ?_) | (refine o_g ?_; first | refine o_u ?_ | refine o_k ?_ | refine o_n ?_ | refine o_v ?_ | ((first | refine o_G ?_ ?_ | refine o_N ?_ ?_) <;> intro hc)))) | ((fail_if_success (with_reducible refine o_s ?_)); go_step))
      refine wpl_storeF (n := 2) hb9 rfl rfl rfl (by simp [askC]) (by decide +kernel) rfl ?_
      intro w10 p10
      have hb10 : w10.heap[b]? = some (.cells (askC o v 3 a (.slice none 0 0) (.slice none 0 0)).toArray 128 (0, 0)) := p10.this
      obtain ⟨ap, ap0, ap2⟩ := ask_pts hb10
      repeat' (first | ((with_reducible refine o_s ?_); (first | (refine o_1 ?_; refine o_2 ?_) | (refine o_g ?_; first | refine o_u ?_ | refine o_k ?_ | refine o_n ?_ | refine o_v ?_ | ((first | refine o_G ?_ ?_ | refine o_N ?_ ?_) <;> intro hc)))) | ((fail_if_success (with_reducible refine o_s ?_)); go_step))
      refine wpl_run0 (Runs.fieldA (off := 2) rfl (by decide +kernel)) ?_
      refine gset ?_
      repeat' (first | ((with_reducible refine o_s ?_); (first | (refine o_1 ?_; refine o_2 ?_) | (refine o_g ?_; first | refine o_u ?_ | refine o_k ?_ | refine o_n ?_ | refine o_v ?_ | ((first | refine o_G ?_ ?_ | refine o_N ?_ ?_) <;> intro hc)))) | ((fail_if_success (with_reducible refine o_s ?_)); go_step))
      refine wpl_storeF (n := 4) hb10 rfl rfl rfl (by simp [askC]) (by decide +kernel) o9.sl.one ?_
      intro w11 p11
      repeat' (first | ((with_reducible refine o_s ?_); (first | (refine o_1 ?_; refine o_2 ?_) | (refine o_g ?_; first | refine o_u ?_ | refine o_k ?_ | refine o_n ?_ | refine o_v ?_ | ((first | refine o_G ?_ ?_ | refine o_N ?_ ?_) <;> intro hc)))) | ((fail_if_success (with_reducible refine o_s ?_)); go_step))
      go_ret2
      have hr : stepP o l n k c = ⟨3, [], recOpt (findS l (cutP o l n).1 2), [], false⟩ := by rw [stepP, if_neg hu', if_pos hc]
      rw [hr]
      exact ⟨rfl, StepA.of hx9 (p10.mv.trans p11.mv) rfl hbk hb9 p11.this (by rw [List.append_nil]; exact ha9) (o9.weaken zz)⟩
    | false =>
      have hc' : ¬ (cutP o l n).2 = true := by simp [hc]
      repeat' (first | ((with_reducible refine o_s ?_); (first | (refine o_1 ?_; refine o_2 ?_) | (refine o_g ?_; first | refine o_u ?_ | refine o_k ?_ | refine o_n ?_ | refine o_v ?_ | ((first | refine o_G ?_ ?_ | refine o_N ?_ ?_) <;> intro hc)))) | ((fail_if_success (with_reducible refine o_s ?_)); go_step))
      refine wpl_callR (enters_of Tryz.func128 rfl rfl) rfl rfl (p_sets o v l n w0 _ hx3 hv hz hn) ?_
      intro r4 w4 x4 hr4
      obtain ⟨u, css, rfl, ho, hcs⟩ := hr4
      have hx4 := hx3.trans x4
      have hb4 := x4.at hb3
      have ha4 := ha3.ext x4
      have hk4 := hk3.ext x4
      have z34 := hx3.size
      obtain ⟨sp, sp0, sp2⟩ := ask_pts hb4
      clear qp qp0 qp2
      have hne : a.ownBlock ≠ some b := ha4.neBlock hb4 (by decide)
      cases hsb : setsB l n with
      | false =>
        repeat' (first | ((with_reducible refine o_s ?_); (first | (refine o_1 ?_; refine o_2 ?_) | (refine o_g ?_; first | refine o_u ?_ | refine o_k ?_ | refine o_n ?_ | refine o_v ?_ | ((first | refine o_G ?_ ?_ | refine o_N ?_ ?_) <;> intro hc)))) | ((fail_if_success (with_reducible refine o_s ?_)); go_step))
        refine wpl_callG (enters_of Tryz.func129 rfl rfl) rfl rfl (p_denies b o v l 0 2 a w0 _ hx4 hv hz hbk hb4 ha4.sl.one) ?_
        rintro e w5 ⟨rfl, x5, m5, u5, b5, o5⟩
        refine ⟨_, rfl, ?_⟩
        refine gset ?_
        repeat' (first | ((with_reducible refine o_s ?_); (first | (refine o_1 ?_; refine o_2 ?_) | (refine o_g ?_; first | refine o_u ?_ | refine o_k ?_ | refine o_n ?_ | refine o_v ?_ | ((first | refine o_G ?_ ?_ | refine o_N ?_ ?_) <;> intro hc)))) | ((fail_if_success (with_reducible refine o_s ?_)); go_step))
        go_ret2
        have hr : stepP o l n k c = ⟨2, [], [denZ o l], [], false⟩ := by rw [stepP, if_neg hu', if_neg hc', if_pos hsb]
        rw [hr]
        exact ⟨rfl, x5, a, u5, b5, by rw [List.append_nil]; exact ha4.mv m5 (.inr hne), o5.weaken hx4.size, fun h => by cases h⟩
      | true =>
        have hsb' : ¬ setsB l n = false := by simp [hsb]
        have hL : SetsAt w4 u (setsP l n) := (hcs.ext hx4).sets ho.sl
        have hf1 : SetFn w4 130 #[] (setsP l n) isAlias := fun s _ x w' _ _ => p_step1 s x w'
        have hcl := hcs.len
        have hl200 := zone_len hz
        have hspl := setsP_len l n
        repeat' (first | ((with_reducible refine o_s ?_); (first | (refine o_1 ?_; refine o_2 ?_) | (refine o_g ?_; first | refine o_u ?_ | refine o_k ?_ | refine o_n ?_ | refine o_v ?_ | ((first | refine o_G ?_ ?_ | refine o_N ?_ ?_) <;> intro hc)))) | ((fail_if_success (with_reducible refine o_s ?_)); go_step))
        refine wpl_callV (enters_of Tryz.func119 rfl rfl) rfl rfl (p_IndexFunc u (setsP l n) 130 #[] isAlias _ hL (enters_of Tryz.func130 rfl rfl) hf1) ?_; intro w5 x5; refine gset ?_
        have hx5 := hx4.trans x5
        have hb5 := x5.at hb4
        have ha5 := ha4.ext x5
        have ho5 := ho.ext x5
        have hk5 := hk4.ext x5
        by_cases hal : (setsP l n).any isAlias = true ∧ k ≠ 5 ∧ k ≠ 255
        · rcases idx_cases isAlias (setsP l n) with ⟨i, hi, hidx, hpi, hfind⟩ | ⟨_, hno⟩
          · rw [hidx]
            have hset : aliasSet l n = (setsP l n)[i] := by rw [aliasSet, hfind]; rfl
            obtain ⟨h51, h52⟩ := hal.2
            have hcut : ((setsP l n).take (i + 1)).drop i = [aliasSet l n] := by
              rw [hset, List.take_succ_eq_append_getElem hi, List.drop_append]
              simp [Nat.min_eq_left (Nat.le_of_lt hi)]
            obtain ⟨x, hcx, hdx⟩ := hcs.row hi
            rw [← hset] at hcx hdx
            have hmem : aliasSet l n ∈ setsP l n := by rw [hset]; exact List.getElem_mem hi
            obtain ⟨hrne, hd20, hd1⟩ := setsP_ne hz.chk hmem
            have hsl5 := ho5.sl
            have hdl : ((aliasSet l n).data.getD 0 []).length ≤ 9223372036854775807 := by
              obtain ⟨t, ht, _, _, e3, _⟩ := setsP_data hz.chk hmem
              have := zone_datum hz t ht ((aliasSet l n).data.getD 0 []) (by rw [e3, List.getD_eq_getElem?_getD, List.getElem?_eq_getElem (by rw [← e3]; omega)]; simp)
              omega
            have hd0 : (tcells (aliasSet l n).data)[0]? = some [str ((aliasSet l n).data.getD 0 [])] := tcells_get _ _ _ (by rw [List.getD_eq_getElem?_getD, List.getElem?_eq_getElem (by omega)]; simp)
            repeat' (first | ((with_reducible refine o_s ?_); (first | (refine o_1 ?_; refine o_2 ?_) | (refine o_g ?_; first | refine o_u ?_ | refine o_k ?_ | refine o_n ?_ | refine o_v ?_ | ((first | refine o_G ?_ ?_ | refine o_N ?_ ?_) <;> intro hc)))) | ((fail_if_success (with_reducible refine o_s ?_)); go_step))
            · have hr : stepP o l n k c = ⟨0, [], [], [], false⟩ := by rw [stepP, if_neg hu', if_neg hc', if_neg hsb', if_pos hal, if_pos ‹c = 8›]
              go_ret2
              rw [hr]
              exact ⟨rfl, StepA.of hx5 (Mv.refl _ _) rfl hbk hb5 hb5 (by rw [List.append_nil]; exact ha5) (Own.nil _ _ _ _)⟩
            · have hc8 := ‹¬ c = 8›
              refine wpi_region 12 (Ext w5) (by decide +kernel) ?_
              intro w6 x6 _
              refine ⟨x6, ?_⟩
              ((with_reducible apply wpi_pure (i := 0)); (rfl); (rfl); (rfl); (decide +kernel); (decide +kernel); (decide +kernel); (rfl); (intro _; exact rn); (exact fun _ _ _ h => h); (refine gset ?_))
              ((with_reducible apply wpi_take (i := 1)); (rfl); (rfl); (rfl); (decide +kernel); (decide +kernel); (decide +kernel); (decide +kernel); (rfl); (intro _ _; exact rn); (exact fun _ _ _ h => h); (refine gset ?_)); ((with_reducible apply wpi_take (i := 2)); (rfl); (rfl); (rfl); (decide +kernel); (decide +kernel); (decide +kernel); (decide +kernel); (rfl); (intro _ _; exact rn); (exact fun _ _ _ h => h); (refine gset ?_))
              refine wpi_pure (i := 3) rfl rfl rfl (by decide +kernel) (by decide +kernel) (by decide +kernel) rfl (fun _ => Runs.fieldA (off := 2) rfl (by decide +kernel)) (fun _ _ _ h => h) ?_; refine gset ?_
              ((with_reducible apply wpi_take (i := 4)); (rfl); (rfl); (rfl); (decide +kernel); (decide +kernel); (decide +kernel); (decide +kernel); (rfl); (intro _ _; exact rn); (exact fun _ _ _ h => h); (refine gset ?_)); ((with_reducible apply wpi_take (i := 5)); (rfl); (rfl); (rfl); (decide +kernel); (decide +kernel); (decide +kernel); (decide +kernel); (rfl); (intro _ _; exact rn); (exact fun _ _ _ h => h); (refine gset ?_)); ((with_reducible apply wpi_take (i := 6)); (rfl); (rfl); (rfl); (decide +kernel); (decide +kernel); (decide +kernel); (decide +kernel); (rfl); (intro _ _; exact rn); (exact fun _ _ _ h => h); (refine gset ?_)); ((with_reducible apply wpi_take (i := 7)); (rfl); (rfl); (rfl); (decide +kernel); (decide +kernel); (decide +kernel); (decide +kernel); (rfl); (intro _ _; exact rn); (exact fun _ _ _ h => h); (refine gset ?_)); ((with_reducible apply wpi_take (i := 8)); (rfl); (rfl); (rfl); (decide +kernel); (decide +kernel); (decide +kernel); (decide +kernel); (rfl); (intro _ _; exact rn); (exact fun _ _ _ h => h); (refine gset ?_)); ((with_reducible apply wpi_take (i := 9)); (rfl); (rfl); (rfl); (decide +kernel); (decide +kernel); (decide +kernel); (decide +kernel); (rfl); (intro _ _; exact rn); (exact fun _ _ _ h => h); (refine gset ?_))
              refine wpi_take (i := 10) (v := cutSl u 4 i (i + 1)) rfl rfl (by decide +kernel) (by decide +kernel) (by decide +kernel) (by decide +kernel) (by decide +kernel) rfl (fun w' hF => Runs.cut (k := 4) (m := i) (n := i + 1) (es := css) rfl rfl (hsl5.ext hF) (by omega) (by omega) (by decide +kernel)) (fun _ _ _ h => h) ?_
              refine gset ?_
              refine wpi_op (i := 11) (by decide +kernel) rfl rfl ?_
              have hs6 : SetsAt w6 (cutSl u 4 i (i + 1)) [aliasSet l n] := by
                have h1 := ((hcs.ext (hx5.trans x6)).take (i + 1)).drop i
                rw [hcut] at h1
                exact h1.sets ((hsl5.ext x6).cut (by omega) (by omega))
              refine wpl_callR (enters_of Tryz.func43 rfl rfl) rfl rfl (t10 _ _ _ hs6 (by rw [records_one, recsOf, List.length_map]; omega)) ?_
              intro r7 w7 x7 o7
              rw [records_one] at o7
              refine gset ?_
              have x57 := x6.trans x7
              have hb7 := x57.at hb5
              have ha7 := ha5.ext x57
              refine wph_nil ⟨till_yes x57, ?_⟩
              refine wpi_op (i := 12) (by decide +kernel) rfl rfl ?_
              refine wpl_appendO (e := 75) (k := 4) rfl ha7 rfl o7.sl rcells_one (hx5.trans x57).size (by rw [rcells_length, rcells_length, recsOf, List.length_map]; omega) ?_
              intro a8 w8 o8 m8 _
              refine gset ?_
              have hb8 := m8.at hb7 (fun e => hne e.symm)
              have hx8 := ha7.mvx m8 (hx5.trans x57) (Nat.le_refl _)
              have ho7 := ho5.ext x57
              have ho8 := ho7.mv m8 (ho7.ne ha7 (by decide))
              have hrc : rcells A ++ rcells (recsOf (aliasSet l n)) = rcells (A ++ recsOf (aliasSet l n)) := by simp [rcells]
              rw [hrc] at o8
              refine wph_nil ⟨till_no rfl, ?_⟩
              ((with_reducible apply wpi_pure (i := 13)); (rfl); (rfl); (rfl); (decide +kernel); (decide +kernel); (decide +kernel); (rfl); (intro _; exact rn); (exact fun _ _ _ h => h); (refine gset ?_))
              refine wpi_pure (i := 14) rfl rfl rfl (by decide +kernel) (by decide +kernel) (by decide +kernel) rfl (fun _ => Runs.fieldA (off := 2) rfl (by decide +kernel)) (fun _ _ _ h => h) ?_; refine gset ?_
              refine wpi_pure (i := 15) rfl rfl rfl (by decide +kernel) (by decide +kernel) (by decide +kernel) rfl (fun _ => Runs.fieldA (off := 1) rfl (by decide +kernel)) (fun _ _ _ h => h) ?_; refine gset ?_
              refine wpi_op (i := 16) (by decide +kernel) rfl rfl ?_
              refine wpl_storeF (n := 3) hb8 rfl rfl rfl (by simp [askC]) (by decide +kernel) o8.sl.one ?_
              intro w9 p9
              refine wph_nil ⟨till_no rfl, ?_⟩
              refine wpi_done (by decide +kernel) ?_
              have hb9 : w9.heap[b]? = some (.cells (askC o v 0 a8 (.slice none 0 0) (.slice none 0 0)).toArray 128 (0, 0)) := p9.this
              have hx9 : Ext w0 w9 := hx8.move p9.mv (by rintro k ⟨⟩; exact hbk)
              have ho9 := ho8.mv p9.mv (.inr (ho8.neBlock hb8 (by decide)))
              have ha9 := o8.mv p9.mv (.inr (o8.neBlock hb8 (by decide)))
              have hs9 := ho9.sl
              have el9 := hs9.elem hcx
              have hd9 := hdx.ext hx9
              have ed9 := hd9.elem hd0
              have htl := tcells_length (aliasSet l n).data
              clear sp sp0 sp2 hsl5
              repeat' (first | ((with_reducible refine o_s ?_); (first | (refine o_1 ?_; refine o_2 ?_) | (refine o_g ?_; first | refine o_u ?_ | refine o_k ?_ | refine o_n ?_ | refine o_v ?_ | ((first | refine o_G ?_ ?_ | refine o_N ?_ ?_) <;> intro hc)))) | ((fail_if_success (with_reducible refine o_s ?_)); go_step))
              refine wpl_callV (enters_of Tryz.func131 rfl rfl) rfl rfl (t39 5 ((aliasSet l n).data.getD 0 []) _ hdl) ?_; intro w10 x10; refine gset ?_
              repeat' (first | ((with_reducible refine o_s ?_); (first | (refine o_1 ?_; refine o_2 ?_) | (refine o_g ?_; first | refine o_u ?_ | refine o_k ?_ | refine o_n ?_ | refine o_v ?_ | ((first | refine o_G ?_ ?_ | refine o_N ?_ ?_) <;> intro hc)))) | ((fail_if_success (with_reducible refine o_s ?_)); go_step))
              refine wpl_callV (enters_of Tryz.func84 rfl rfl) rfl rfl (t17 (parseHost 5 ((aliasSet l n).data.getD 0 [])).1 _) ?_; intro w11 x11; refine gset ?_
              repeat' (first | ((with_reducible refine o_s ?_); (first | (refine o_1 ?_; refine o_2 ?_) | (refine o_g ?_; first | refine o_u ?_ | refine o_k ?_ | refine o_n ?_ | refine o_v ?_ | ((first | refine o_G ?_ ?_ | refine o_N ?_ ?_) <;> intro hc)))) | ((fail_if_success (with_reducible refine o_s ?_)); go_step))
              go_ret2
              have hr : stepP o l n k c = ⟨0, recsOf (aliasSet l n), [], fold (parseHost 5 ((aliasSet l n).data.getD 0 [])).1, true⟩ := by rw [stepP, if_neg hu', if_neg hc', if_neg hsb', if_pos hal, if_neg hc8]
              rw [hr]
              have x911 := x10.trans x11
              exact ⟨rfl, hx9.trans x911, a8, .slice none 0 0, x911.at hb9, ha9.ext x911, Own.nil _ _ _ _, fun _ => rfl⟩
            all_goals
              exfalso
              first
                | (have hq : ¬ (0 : Int) ≤ (i : Int) := by assumption
                   omega)
                | (have hq : (!decide (k = 255)) = false := by assumption
                   simp [h52] at hq)
                | (have hq : (!decide (k = 5)) = false := by assumption
                   simp [h51] at hq)
          · rw [hno.1] at hal; cases hal.1
        · have hf2 : SetFn w1 133 #[pk] (setsP l n) (fun s => !ofKind k s) := fun s _ x w' hx' _ => p_step2 pk k s x w' (hk.ext hx')
          have x15 : Ext w1 w5 := x2.trans (x3.trans (x4.trans x5))
          have zb : w1.heap.size ≤ w3.heap.size := (x2.trans x3).size
          have hb5' := hb5
          have hkk : (setsP l n).any isAlias = true → k = 5 ∨ k = 255 := fun h => by
            by_cases h5 : k = 5
            · exact .inl h5
            · by_cases h6 : k = 255
              · exact .inr h6
              · exact absurd ⟨h, h5, h6⟩ hal
          have hfe : (setsP l n).filter (fun s => !!ofKind k s) = (setsP l n).filter (ofKind k) := by simp only [Bool.not_not]
          have hMl : ((setsP l n).filter (ofKind k)).length ≤ 200 := Nat.le_trans (List.length_filter_le _ _) (by omega)
          have hM20 := recs_le (L := (setsP l n).filter (ofKind k)) fun s hs => (setsP_ne hz.chk (List.mem_filter.1 hs).1).2.1
          have hany : idxI isAlias (setsP l n) = -1 ∨ ∃ i : Nat, idxI isAlias (setsP l n) = i ∧ (k = 5 ∨ k = 255) := by
            rcases idx_cases isAlias (setsP l n) with ⟨i, hi, hidx, hpi, hfind⟩ | ⟨hidx, hno⟩
            · exact .inr ⟨i, hidx, hkk (List.any_eq_true.2 ⟨_, List.getElem_mem hi, hpi⟩)⟩
            · exact .inl hidx
          obtain ⟨j, hj, hjk⟩ : ∃ j : Int, idxI isAlias (setsP l n) = j ∧ (0 ≤ j → k = 5 ∨ k = 255) := by
            rcases hany with h | ⟨i, h, h2⟩
            · exact ⟨-1, h, by omega⟩
            · exact ⟨i, h, fun _ => h2⟩
          rw [hj]
          clear hany hj sp sp0 sp2
          repeat' (first | ((with_reducible refine o_s ?_); (first | (refine o_1 ?_; refine o_2 ?_) | (refine o_g ?_; first | refine o_u ?_ | refine o_k ?_ | refine o_n ?_ | refine o_v ?_ | ((first | refine o_G ?_ ?_ | refine o_N ?_ ?_) <;> intro hc)))) | ((fail_if_success (with_reducible refine o_s ?_)); go_step))
          all_goals first
            | (exfalso
               have q1 : (!decide (k = 5)) = true := by assumption
               have q2 : (!decide (k = 255)) = true := by assumption
               have q3 : 0 ≤ j := by assumption
               simp at q1 q2
               rcases hjk q3 with h | h
               · exact q1 h
               · exact q2 h)
            | skip
          all_goals
            refine wpl_callG (enters_of Tryz.func132 rfl rfl) rfl rfl (p_DeleteFunc u (setsP l n) css 133 #[pk] (fun s => !ofKind k s) w1 _ x15 zb ho5 (hcs.ext hx1) (enters_of Tryz.func133 rfl rfl) hf2) ?_
            rintro e w6 ⟨v6, css6, rfl, o6, c6, x6⟩
            refine ⟨_, rfl, ?_⟩
            refine gset ?_
            rw [hfe] at c6
            have hb6 := x6.at hb1
            have ha6 := ha1.ext x6
            have hx6 := hx1.trans x6
            have hs6 := (c6.ext x6).sets o6.sl
            have sl6 := o6.sl
            have cl6 := c6.len
            obtain ⟨rp, rp0, rp2⟩ := ask_pts hb6
            generalize hM : (setsP l n).filter (ofKind k) = M at *
            repeat' (first | ((with_reducible refine o_s ?_); (first | (refine o_1 ?_; refine o_2 ?_) | (refine o_g ?_; first | refine o_u ?_ | refine o_k ?_ | refine o_n ?_ | refine o_v ?_ | ((first | refine o_G ?_ ?_ | refine o_N ?_ ?_) <;> intro hc)))) | ((fail_if_success (with_reducible refine o_s ?_)); go_step))
            refine wpi_region 8 (Ext w6) (by decide +kernel) ?_
            intro w7 x7 _
            refine ⟨x7, ?_⟩
            ((with_reducible apply wpi_pure (i := 0)); (rfl); (rfl); (rfl); (decide +kernel); (decide +kernel); (decide +kernel); (rfl); (intro _; exact rn); (exact fun _ _ _ h => h); (refine gset ?_))
            ((with_reducible apply wpi_take (i := 1)); (rfl); (rfl); (rfl); (decide +kernel); (decide +kernel); (decide +kernel); (decide +kernel); (rfl); (intro _ _; exact rn); (exact fun _ _ _ h => h); (refine gset ?_)); ((with_reducible apply wpi_take (i := 2)); (rfl); (rfl); (rfl); (decide +kernel); (decide +kernel); (decide +kernel); (decide +kernel); (rfl); (intro _ _; exact rn); (exact fun _ _ _ h => h); (refine gset ?_))
            refine wpi_pure (i := 3) rfl rfl rfl (by decide +kernel) (by decide +kernel) (by decide +kernel) rfl (fun _ => Runs.fieldA (off := 2) rfl (by decide +kernel)) (fun _ _ _ h => h) ?_; refine gset ?_
            ((with_reducible apply wpi_take (i := 4)); (rfl); (rfl); (rfl); (decide +kernel); (decide +kernel); (decide +kernel); (decide +kernel); (rfl); (intro _ _; exact rn); (exact fun _ _ _ h => h); (refine gset ?_)); ((with_reducible apply wpi_take (i := 5)); (rfl); (rfl); (rfl); (decide +kernel); (decide +kernel); (decide +kernel); (decide +kernel); (rfl); (intro _ _; exact rn); (exact fun _ _ _ h => h); (refine gset ?_)); ((with_reducible apply wpi_take (i := 6)); (rfl); (rfl); (rfl); (decide +kernel); (decide +kernel); (decide +kernel); (decide +kernel); (rfl); (intro _ _; exact rn); (exact fun _ _ _ h => h); (refine gset ?_))
            refine wpi_op (i := 7) (by decide +kernel) rfl rfl ?_
            refine wpl_callR (enters_of Tryz.func43 rfl rfl) rfl rfl (t10 v6 M _ (hs6.ext x7) (by omega)) ?_
            intro r8 w8 x8 o8
            refine gset ?_
            have x68 := x7.trans x8
            have hb8 := x68.at hb6
            have ha8 := ha6.ext x68
            refine wph_nil ⟨till_yes x68, ?_⟩
            refine wpi_op (i := 8) (by decide +kernel) rfl rfl ?_
            refine wpl_appendO (e := 75) (k := 4) rfl ha8 rfl o8.sl rcells_one (hx6.trans x68).size (by rw [rcells_length, rcells_length]; omega) ?_
            intro a9 w9 o9 m9 _
            refine gset ?_
            have hb9 := m9.at hb8 (fun e => hne e.symm)
            have hx9 := ha8.mvx m9 (hx6.trans x68) (Nat.le_refl _)
            have o69 := (o6.ext x68).mv m9 ((o6.ext x68).ne ha8 (by decide))
            have hrc : rcells A ++ rcells (recordsS M) = rcells (A ++ recordsS M) := by simp [rcells]
            rw [hrc] at o9
            refine wph_nil ⟨till_no rfl, ?_⟩
            ((with_reducible apply wpi_pure (i := 9)); (rfl); (rfl); (rfl); (decide +kernel); (decide +kernel); (decide +kernel); (rfl); (intro _; exact rn); (exact fun _ _ _ h => h); (refine gset ?_))
            refine wpi_pure (i := 10) rfl rfl rfl (by decide +kernel) (by decide +kernel) (by decide +kernel) rfl (fun _ => Runs.fieldA (off := 2) rfl (by decide +kernel)) (fun _ _ _ h => h) ?_; refine gset ?_
            refine wpi_pure (i := 11) rfl rfl rfl (by decide +kernel) (by decide +kernel) (by decide +kernel) rfl (fun _ => Runs.fieldA (off := 1) rfl (by decide +kernel)) (fun _ _ _ h => h) ?_; refine gset ?_
            refine wpi_op (i := 12) (by decide +kernel) rfl rfl ?_
            refine wpl_storeF (n := 3) hb9 rfl rfl rfl (by simp [askC]) (by decide +kernel) o9.sl.one ?_
            intro w10 p10
            refine wph_nil ⟨till_no rfl, ?_⟩
            refine wpi_done (by decide +kernel) ?_
            have hb10 : w10.heap[b]? = some (.cells (askC o v 0 a9 (.slice none 0 0) (.slice none 0 0)).toArray 128 (0, 0)) := p10.this
            have hx10 : Ext w0 w10 := hx9.move p10.mv (by rintro k ⟨⟩; exact hbk)
            have ha10 := o9.mv p10.mv (.inr (o9.neBlock hb9 (by decide)))
            have o610 := o69.mv p10.mv (.inr (o69.neBlock hb9 (by decide)))
            have sl10 := o610.sl
            clear rp rp0 rp2 sl6
            repeat' (first | ((with_reducible refine o_s ?_); (first | (refine o_1 ?_; refine o_2 ?_) | (refine o_g ?_; first | refine o_u ?_ | refine o_k ?_ | refine o_n ?_ | refine o_v ?_ | ((first | refine o_G ?_ ?_ | refine o_N ?_ ?_) <;> intro hc)))) | ((fail_if_success (with_reducible refine o_s ?_)); go_step))
            · have hl0 : css6.length = 0 := by have := ‹(css6.length : Int) = 0›; omega
              have hM0 : M = [] := List.eq_nil_of_length_eq_zero (by omega)
              refine wpl_callG (enters_of Tryz.func129 rfl rfl) rfl rfl (p_denies b o v l 0 1 a9 w0 _ hx10 hv hz hbk hb10 ha10.sl.one) ?_
              rintro e w11 ⟨rfl, x11, m11, u11, b11, o11⟩
              refine ⟨_, rfl, ?_⟩
              refine gset ?_
              repeat' (first | ((with_reducible refine o_s ?_); (first | (refine o_1 ?_; refine o_2 ?_) | (refine o_g ?_; first | refine o_u ?_ | refine o_k ?_ | refine o_n ?_ | refine o_v ?_ | ((first | refine o_G ?_ ?_ | refine o_N ?_ ?_) <;> intro hc)))) | ((fail_if_success (with_reducible refine o_s ?_)); go_step))
              go_ret2
              have hr : stepP o l n k c = ⟨1, [], [denZ o l], [], false⟩ := by rw [stepP, if_neg hu', if_neg hc', if_neg hsb', if_neg hal, hM, if_pos hM0]
              rw [hr]
              rw [hM0, show recordsS [] = [] from rfl] at ha10
              exact ⟨rfl, x11, a9, u11, b11, ha10.mv m11 (.inr (ha10.neBlock hb10 (by decide))), o11.weaken hx10.size, fun h => by cases h⟩
            · have hl0 : css6.length ≠ 0 := by have := ‹¬ (css6.length : Int) = 0›; omega
              have hM0 : M ≠ [] := by rintro rfl; exact hl0 cl6
              go_ret2
              have hr : stepP o l n k c = ⟨0, recordsS M, [], [], false⟩ := by rw [stepP, if_neg hu', if_neg hc', if_neg hsb', if_neg hal, hM, if_neg hM0]
              rw [hr]
              exact ⟨rfl, hx10, a9, .slice none 0 0, hb10, ha10, Own.nil _ _ _ _, fun h => by cases h⟩
def FromL (l : List RSet) (r : Rec) : Prop := ∃ t ∈ l, r.data ∈ t.data
theorem FromL.opt {l : List RSet} {n : List UInt8} {k : Int} : ∀ r ∈ recOpt (findS l n k), FromL l r := by
  intro r hr
  cases hf : findS l n k with
  | none => rw [hf] at hr; cases hr
  | some s =>
    rw [hf] at hr
    obtain ⟨d, hd, rfl⟩ := List.mem_map.1 hr
    exact ⟨s, (findS_mem hf).1, hd⟩
theorem FromL.sets {l : List RSet} (h : checkS l = 0) {n : List UInt8} {s : RSet} (hs : s ∈ setsP l n) : ∀ r ∈ recsOf s, FromL l r := by
  intro r hr
  obtain ⟨d, hd, rfl⟩ := List.mem_map.1 hr
  obtain ⟨t, ht, _, _, e, _⟩ := setsP_data h hs
  exact ⟨t, ht, by rw [← e]; exact hd⟩
theorem step_from {o : List UInt8} {l : List RSet} (h : checkS l = 0) (n : List UInt8) (k c : Int) : (∀ r ∈ (stepP o l n k c).ans, FromL l r) ∧ ((stepP o l n k c).kind = 3 → ∀ r ∈ (stepP o l n k c).auth, FromL l r) := by
  unfold stepP
  split
  · exact ⟨by simp, by simp⟩
  · split
    · exact ⟨by simp, fun _ => FromL.opt⟩
    · split
      · exact ⟨by simp, by simp⟩
      · split
        · rename_i h4
          split
          · exact ⟨by simp, by simp⟩
          · exact ⟨FromL.sets h (alias_mem h4.1).1, by simp⟩
        · split
          · exact ⟨by simp, by simp⟩
          · refine ⟨fun r hr => ?_, by simp⟩
            obtain ⟨s, hs, d, hd, rfl⟩ := mem_records hr
            exact FromL.sets h (List.mem_filter.1 hs).1 _ (List.mem_map_of_mem hd)
theorem ask_from {o : List UInt8} {l : List RSet} (h : checkS l = 0) (k : Int) : ∀ (f : Nat) (c : Int) (n : List UInt8), (∀ r ∈ (askP o l k f c n).ans, FromL l r) ∧ ((askP o l k f c n).kind = 3 → ∀ r ∈ (askP o l k f c n).auth, FromL l r)
  | 0, c, n => by simp [askP]
  | f + 1, c, n => by
    rw [askP]
    split
    · obtain ⟨h1, h2⟩ := ask_from h k f (c + 1) (stepP o l n k c).next
      refine ⟨fun r hr => ?_, h2⟩
      rcases List.mem_append.1 hr with hr | hr
      · exact (step_from h n k c).1 r hr
      · exact h1 r hr
    · exact step_from h n k c
theorem step_more {o : List UInt8} {l : List RSet} (h : checkS l = 0) {n : List UInt8} {k c : Int} (hm : (stepP o l n k c).more = true) :
    (stepP o l n k c).kind = 0 ∧ (stepP o l n k c).auth = [] ∧ c ≠ 8 ∧ (labels (stepP o l n k c).next).isSome = true ∧ (stepP o l n k c).ans.length ≤ 20 := by
  generalize hr : stepP o l n k c = r at *
  unfold stepP at hr
  split at hr
  · subst hr; cases hm
  · split at hr
    · subst hr; cases hm
    · split at hr
      · subst hr; cases hm
      · split at hr
        · rename_i h4
          split at hr
          · subst hr; cases hm
          · rename_i h5
            subst hr
            refine ⟨rfl, rfl, h5, host_labels _ _, ?_⟩
            simp only [recsOf, List.length_map]
            exact (setsP_ne h (alias_mem h4.1).1).2.1
        · split at hr <;> (subst hr; cases hm)
theorem step_len {o : List UInt8} {l : List RSet} (h : checkS l = 0) (hl : l.length ≤ 200) (n : List UInt8) (k c : Int) : (stepP o l n k c).ans.length ≤ 4000 ∧ (stepP o l n k c).auth.length ≤ 20 := by
  unfold stepP
  split
  · simp
  · split
    · have := recOpt_len (fun s hs => (may_data (check_mem h hs)).2) (cutP o l n).1 2
      exact ⟨by simp, this⟩
    · split
      · simp
      · split
        · rename_i h4
          split
          · simp
          · have := (setsP_ne h (alias_mem h4.1).1).2.1
            simp only [recsOf, List.length_map]
            exact ⟨by omega, by simp⟩
        · split
          · simp
          · have h1 := recs_le (L := (setsP l n).filter (ofKind k)) fun s hs => (setsP_ne h (List.mem_filter.1 hs).1).2.1
            have h2 := List.length_filter_le (ofKind k) (setsP l n)
            have h3 := setsP_len l n
            exact ⟨by simp only; omega, by simp⟩
def zans : List Value := [.int .i64 0, .slice none 0 0, .slice none 0 0, .slice none 0 0]
def AnsO (B : Nat) (a : AnsR) (y : Value) (w : World) : Prop :=
  ∃ u1 u2 u3, y = .agg #[.int .i64 a.kind, u1, u2, u3] ∧ Own B 4 75 w u1 (rcells a.ans) ∧ Own B 4 75 w u2 (rcells a.auth) ∧ Own B 4 75 w u3 (rcells a.extra)
def AnsA (a : AnsR) (y : Value) (w : World) : Prop :=
  ∃ u1 u2 u3, y = .agg #[.int .i64 a.kind, u1, u2, u3] ∧ Sl 4 w u1 (rcells a.ans) ∧ Sl 4 w u2 (rcells a.auth) ∧ Sl 4 w u3 (rcells a.extra)
theorem AnsO.a {B : Nat} {a : AnsR} {y : Value} {w : World} (h : AnsO B a y w) : AnsA a y w := let ⟨u1, u2, u3, e, a, b, c⟩ := h; ⟨u1, u2, u3, e, a.sl, b.sl, c.sl⟩
theorem AnsA.ext {a : AnsR} {y : Value} {w w' : World} (h : AnsA a y w) (hx : Ext w w') : AnsA a y w' := let ⟨u1, u2, u3, e, a, b, c⟩ := h; ⟨u1, u2, u3, e, a.ext hx, b.ext hx, c.ext hx⟩
theorem AnsO.zero (B : Nat) (w : World) : AnsO B zeroA (.agg zans.toArray) w := ⟨_, _, _, rfl, Own.nil _ _ _ _, Own.nil _ _ _ _, Own.nil _ _ _ _⟩
set_option maxHeartbeats 8000000 in
theorem p_Ask (o : List UInt8) (v : Value) (l : List RSet) (q : List UInt8) (k : Int) (w : World) (hv : SetsAt w v l) (hb : ∀ s ∈ l, s.data.length ≤ 1000000) :
    Calls Tryz.prog 41 #[.agg #[str o, v], .agg #[str q, .int .i64 k]] w (Ret w fun r w' => ∃ y, r = .tuple #[y, .int .i64 (askE o l q)] ∧ AnsO w.heap.size (askA o l q k) y w') := by
  go_enter Tryz.func41, Tryz.ntmps41
  repeat' ((fail_if_success (with_reducible refine o_s ?_)); go_step)
  refine wpl_box (vs := [str o, v]) rfl rfl ?_
  intro p w1 x1 hp
  refine gset ?_
  refine wpl_box (vs := [str q, .int .i64 k]) rfl rfl ?_
  intro pq w2 x2 hq
  refine gset ?_
  refine wpl_allocB (z := zans) rfl (by decide +kernel) ?_
  intro w3 x3 s3 h3
  refine gset ?_
  have hx3 := x1.trans (x2.trans x3)
  have hp3 := hp.ext (x2.trans x3)
  have hq3 := hq.ext x3
  have hv3 := hv.ext hx3
  have z2 := (x1.trans x2).size
  repeat' (first | ((with_reducible refine o_s ?_); (first | (refine o_1 ?_; refine o_2 ?_) | (refine o_g ?_; first | refine o_u ?_ | refine o_k ?_ | refine o_n ?_ | refine o_v ?_ | ((first | refine o_G ?_ ?_ | refine o_N ?_ ?_) <;> intro hc)))) | ((fail_if_success (with_reducible refine o_s ?_)); go_step))
  go_step3
  repeat' (first | ((with_reducible refine o_s ?_); (first | (refine o_1 ?_; refine o_2 ?_) | (refine o_g ?_; first | refine o_u ?_ | refine o_k ?_ | refine o_n ?_ | refine o_v ?_ | ((first | refine o_G ?_ ?_ | refine o_N ?_ ?_) <;> intro hc)))) | ((fail_if_success (with_reducible refine o_s ?_)); go_step))
  refine wpl_callV (enters_of Tryz.func37 rfl rfl) rfl rfl (p_Check o v l _ hv3 hb) ?_; intro w4 x4; refine gset ?_
  have h4 := x4.at h3
  have hx4 := hx3.trans x4
  have hp4 := hp3.ext x4
  have hq4 := hq3.ext x4
  have hv4 := hv3.ext x4
  have ret0 : ∀ e : Int, e ≠ 0 → askE o l q = e → askA o l q k = zeroA := fun e he h => by rw [askA, if_pos (by rw [h]; exact he)]
  repeat' (first | ((with_reducible refine o_s ?_); (first | (refine o_1 ?_; refine o_2 ?_) | (refine o_g ?_; first | refine o_u ?_ | refine o_k ?_ | refine o_n ?_ | refine o_v ?_ | ((first | refine o_G ?_ ?_ | refine o_N ?_ ?_) <;> intro hc)))) | ((fail_if_success (with_reducible refine o_s ?_)); go_step))
  · have q1 : ¬ zoneR o l = 0 := by simpa using (by assumption : (!decide (zoneR o l = 0)) = true)
    have hE : askE o l q = zoneR o l := by rw [askE, if_pos q1]
    refine wpl_run (v := .agg zans.toArray) rfl (Runs.build0 (by kernel_rfl)) ?_
    refine gset ?_
    repeat' (first | ((with_reducible refine o_s ?_); (first | (refine o_1 ?_; refine o_2 ?_) | (refine o_g ?_; first | refine o_u ?_ | refine o_k ?_ | refine o_n ?_ | refine o_v ?_ | ((first | refine o_G ?_ ?_ | refine o_N ?_ ?_) <;> intro hc)))) | ((fail_if_success (with_reducible refine o_s ?_)); go_step))
    refine wpl_storeB (v := .agg zans.toArray) rfl rfl rfl h4 (by decide +kernel) rfl (by decide +kernel) ?_
    intro w5 p5
    repeat' (first | ((with_reducible refine o_s ?_); (first | (refine o_1 ?_; refine o_2 ?_) | (refine o_g ?_; first | refine o_u ?_ | refine o_k ?_ | refine o_n ?_ | refine o_v ?_ | ((first | refine o_G ?_ ?_ | refine o_N ?_ ?_) <;> intro hc)))) | ((fail_if_success (with_reducible refine o_s ?_)); go_step))
    rw [Exit.noGoto_ret]
    refine bodyPost_ret (results_cellT (cs := zans) rfl rfl p5.this (by decide +kernel)) rfl ⟨_, rfl, hx4.move p5.mv (by rintro k ⟨⟩; exact z2), ?_⟩
    rw [ret0 _ q1 hE, hE]
    exact ⟨_, rfl, AnsO.zero _ _⟩
  · have q1 : zoneR o l = 0 := by simpa using (by assumption : (!decide (zoneR o l = 0)) = false)
    refine wpl_callV (enters_of Tryz.func83 rfl rfl) rfl rfl (t27 q _) ?_; intro w5 x5; refine gset ?_
    have h5 := x5.at h4
    have hx5 := hx4.trans x5
    have hp5 := hp4.ext x5
    have hq5 := hq4.ext x5
    have hv5 := hv4.ext x5
    have hE : askE o l q = checkE q := by rw [askE, if_neg (by simp [q1])]
    have hCE : (if (labels q).isSome = true then (0 : Int) else 1) = checkE q := rfl
    rw [hCE]
    repeat' (first | ((with_reducible refine o_s ?_); (first | (refine o_1 ?_; refine o_2 ?_) | (refine o_g ?_; first | refine o_u ?_ | refine o_k ?_ | refine o_n ?_ | refine o_v ?_ | ((first | refine o_G ?_ ?_ | refine o_N ?_ ?_) <;> intro hc)))) | ((fail_if_success (with_reducible refine o_s ?_)); go_step))
    · have q2 : ¬ checkE q = 0 := by simpa using (by assumption : (!decide (checkE q = 0)) = true)
      refine wpl_run (v := .agg zans.toArray) rfl (Runs.build0 (by kernel_rfl)) ?_
      refine gset ?_
      repeat' (first | ((with_reducible refine o_s ?_); (first | (refine o_1 ?_; refine o_2 ?_) | (refine o_g ?_; first | refine o_u ?_ | refine o_k ?_ | refine o_n ?_ | refine o_v ?_ | ((first | refine o_G ?_ ?_ | refine o_N ?_ ?_) <;> intro hc)))) | ((fail_if_success (with_reducible refine o_s ?_)); go_step))
      refine wpl_storeB (v := .agg zans.toArray) rfl rfl rfl h5 (by decide +kernel) rfl (by decide +kernel) ?_
      intro w6 p6
      repeat' (first | ((with_reducible refine o_s ?_); (first | (refine o_1 ?_; refine o_2 ?_) | (refine o_g ?_; first | refine o_u ?_ | refine o_k ?_ | refine o_n ?_ | refine o_v ?_ | ((first | refine o_G ?_ ?_ | refine o_N ?_ ?_) <;> intro hc)))) | ((fail_if_success (with_reducible refine o_s ?_)); go_step))
      rw [Exit.noGoto_ret]
      refine bodyPost_ret (results_cellT (cs := zans) rfl rfl p6.this (by decide +kernel)) rfl ⟨_, rfl, hx5.move p6.mv (by rintro k ⟨⟩; exact z2), ?_⟩
      rw [ret0 _ q2 hE, hE]
      exact ⟨_, rfl, AnsO.zero _ _⟩
    · have q2 : checkE q = 0 := by simpa using (by assumption : (!decide (checkE q = 0)) = false)
      have hz := zone_ok q1
      have hl200 := zone_len hz
      have hA : askA o l q k = ⟨(askP o l k 9 0 (fold q)).kind, (askP o l k 9 0 (fold q)).ans, (askP o l k 9 0 (fold q)).auth, extraS l (tellsR (askP o l k 9 0 (fold q)))⟩ := by rw [askA, if_neg (by rw [hE]; simp [q2])]
      have hlq : (labels (fold q)).isSome = true := by
        rw [labels_fold]
        unfold checkE at q2
        split at q2
        · assumption
        · cases q2
      rw [q2] at hE
      clear hCE ret0
      obtain ⟨va, vn, vc, hvs⟩ : ∃ a n c, v = .slice a n c := by obtain ⟨cv, h, _⟩ := hv.sl; exact h.slf
      refine wpl_run (v := .agg (askC o v 0 (.slice none 0 0) (.slice none 0 0) (.slice none 0 0)).toArray) rfl (Runs.build (vals := [(0, .agg #[str o, v])]) rfl (by rw [hvs]; kernel_rfl)) ?_
      refine gset ?_
      refine wpl_boxB (vs := askC o v 0 (.slice none 0 0) (.slice none 0 0) (.slice none 0 0)) rfl rfl ?_
      intro w6 x6 s6 b6
      refine gset ?_
      have h6 := x6.at h5
      have hp6 := hp5.ext x6
      have hq6 := hq5.ext x6
      repeat' (first | ((with_reducible refine o_s ?_); (first | (refine o_1 ?_; refine o_2 ?_) | (refine o_g ?_; first | refine o_u ?_ | refine o_k ?_ | refine o_n ?_ | refine o_v ?_ | ((first | refine o_G ?_ ?_ | refine o_N ?_ ?_) <;> intro hc)))) | ((fail_if_success (with_reducible refine o_s ?_)); go_step))
      refine wpl_callV (enters_of Tryz.func84 rfl rfl) rfl rfl (t17 q _) ?_; intro w7 x7; refine gset ?_
      have b7 := x7.at b6
      have h7 := x7.at h6
      have hx57 := x6.trans x7
      repeat' (first | ((with_reducible refine o_s ?_); (first | (refine o_1 ?_; refine o_2 ?_) | (refine o_g ?_; first | refine o_u ?_ | refine o_k ?_ | refine o_n ?_ | refine o_v ?_ | ((first | refine o_G ?_ ?_ | refine o_N ?_ ?_) <;> intro hc)))) | ((fail_if_success (with_reducible refine o_s ?_)); go_step))
      go_step3
      repeat' (first | ((with_reducible refine o_s ?_); (first | (refine o_1 ?_; refine o_2 ?_) | (refine o_g ?_; first | refine o_u ?_ | refine o_k ?_ | refine o_n ?_ | refine o_v ?_ | ((first | refine o_G ?_ ?_ | refine o_N ?_ ?_) <;> intro hc)))) | ((fail_if_success (with_reducible refine o_s ?_)); go_step))
      have hbk : w5.heap.size ≤ w5.heap.size := Nat.le_refl _
      go_loopw [9, 10, 11] (fun nv _ cv wr => ∃ (c : Nat) (n : List UInt8) (a : Value) (A : List Rec), nv = str n ∧ cv = .int .i64 c ∧ c ≤ 8 ∧ Ext w5 wr ∧ wr.heap[w5.heap.size]? = some (.cells (askC o v 0 a (.slice none 0 0) (.slice none 0 0)).toArray 128 (0, 0)) ∧ Own w5.heap.size 4 75 wr a (rcells A) ∧ (labels n).isSome = true ∧ A.length ≤ 20 * c ∧
        (askP o l k 9 0 (fold q)).kind = (askP o l k (9 - c) c n).kind ∧ (askP o l k 9 0 (fold q)).ans = A ++ (askP o l k (9 - c) c n).ans ∧ (askP o l k 9 0 (fold q)).auth = (askP o l k (9 - c) c n).auth) (fun _ _ c _ => 9 - (intOf c).toNat)
      case atStart => exact ⟨0, fold q, .slice none 0 0, [], rfl, rfl, by omega, hx57, b7, Own.nil _ _ _ _, hlq, by simp, rfl, rfl, rfl⟩
      case round =>
        obtain ⟨c, n, a, A, rfl, rfl, hc, hx, hbr, har, hln, hAl, e1, e2, e3⟩ := hrel
        have hqr := hq5.ext hx
        repeat' (first | ((with_reducible refine o_s ?_); (first | (refine o_1 ?_; refine o_2 ?_) | (refine o_g ?_; first | refine o_u ?_ | refine o_k ?_ | refine o_n ?_ | refine o_v ?_ | ((first | refine o_G ?_ ?_ | refine o_N ?_ ?_) <;> intro hc)))) | ((fail_if_success (with_reducible refine o_s ?_)); go_step))
        refine wpl_callG (enters_of Tryz.func91 rfl rfl) rfl rfl (p_step w5.heap.size o v l n k c a A w5 _ hx hv5 hz hbk hbr har hln (by omega)) ?_
        rintro e w8 ⟨rfl, hx8, a8, u8, b8, oa8, ou8, hn8⟩
        refine ⟨_, rfl, ?_⟩
        refine gset ?_
        have e9 : 9 - c = (8 - c) + 1 := by omega
        have hsl := step_len (o := o) hz.chk hl200 n k c
        have eu : askP o l k (9 - c) c n = if (stepP o l n k c).more = true then
            ⟨(askP o l k (8 - c) (c + 1) (stepP o l n k c).next).kind, (stepP o l n k c).ans ++ (askP o l k (8 - c) (c + 1) (stepP o l n k c).next).ans, (askP o l k (8 - c) (c + 1) (stepP o l n k c).next).auth, [], false⟩
          else stepP o l n k c := by rw [e9, askP]
        rw [eu] at e1 e2 e3
        clear eu e9
        cases hm : (stepP o l n k c).more with
        | true =>
          rw [if_pos hm] at e1 e2 e3
          simp only at e1 e2 e3
          obtain ⟨m1, m2, m3, m4, m5⟩ := step_more hz.chk hm
          have hu8 := hn8 hm
          rw [m1, hu8] at b8
          have hc8 : c ≠ 8 := fun e => m3 (by rw [e]; rfl)
          rw [← List.append_assoc] at e2
          repeat' (first | ((with_reducible refine o_s ?_); (first | (refine o_1 ?_; refine o_2 ?_) | (refine o_g ?_; first | refine o_u ?_ | refine o_k ?_ | refine o_n ?_ | refine o_v ?_ | ((first | refine o_G ?_ ?_ | refine o_N ?_ ?_) <;> intro hc)))) | ((fail_if_success (with_reducible refine o_s ?_)); go_step))
          refine ⟨⟨c + 1, _, a8, A ++ (stepP o l n k c).ans, rfl, by go_num, by omega, hx8, b8, oa8, m4, by rw [List.length_append]; omega, ?_, ?_, ?_⟩, by simp [intOf]; omega⟩
          · rw [e1, show 9 - (c + 1) = 8 - c by omega]; rfl
          · rw [e2, show 9 - (c + 1) = 8 - c by omega]; rfl
          · rw [e3, show 9 - (c + 1) = 8 - c by omega]; rfl
        | false =>
          rw [if_neg (by simp [hm])] at e1 e2 e3
          have hfrom := ask_from (o := o) hz.chk k 9 0 (fold q)
          rw [← e2] at oa8
          rw [← e3] at ou8
          rw [← e1] at b8
          have hal : (askP o l k 9 0 (fold q)).ans.length ≤ 4200 := by rw [e2, List.length_append]; omega
          have hul : (askP o l k 9 0 (fold q)).auth.length ≤ 20 := by rw [e3]; omega
          generalize askP o l k 9 0 (fold q) = R at *
          clear e1 e2 e3 hsl
          obtain ⟨sp, sp0, sp2⟩ := ask_pts b8
          have sa8 := oa8.sl
          have h8 : w8.heap[w2.heap.size]? = some (.cells zans.toArray 61 (0, 0)) := by
            have a1 := (Array.getElem?_eq_some_iff.1 h5).1
            exact hx8.at h5
          repeat' (first | ((with_reducible refine o_s ?_); (first | (refine o_1 ?_; refine o_2 ?_) | (refine o_g ?_; first | refine o_u ?_ | refine o_k ?_ | refine o_n ?_ | refine o_v ?_ | ((first | refine o_G ?_ ?_ | refine o_N ?_ ?_) <;> intro hc)))) | ((fail_if_success (with_reducible refine o_s ?_)); go_step))
          refine wpl_run0 (Runs.fieldA (off := 2) rfl (by decide +kernel)) ?_
          refine gset ?_
          repeat' (first | ((with_reducible refine o_s ?_); (first | (refine o_1 ?_; refine o_2 ?_) | (refine o_g ?_; first | refine o_u ?_ | refine o_k ?_ | refine o_n ?_ | refine o_v ?_ | ((first | refine o_G ?_ ?_ | refine o_N ?_ ?_) <;> intro hc)))) | ((fail_if_success (with_reducible refine o_s ?_)); go_step))
          refine wpl_callR (enters_of Tryz.func82 rfl rfl) rfl rfl (p_CloneR a8 R.ans _ sa8 (by omega)) ?_
          intro v9 w9 x9 o9
          refine gset ?_
          have su9 := (ou8.ext x9).sl
          have hv8 := hv5.ext hx8
          have hp8 := hp5.ext hx8
          have zq : w2.heap.size ≠ w5.heap.size := by
            have a1 := (Array.getElem?_eq_some_iff.1 h5).1
            omega
          repeat' (first | ((with_reducible refine o_s ?_); (first | (refine o_1 ?_; refine o_2 ?_) | (refine o_g ?_; first | refine o_u ?_ | refine o_k ?_ | refine o_n ?_ | refine o_v ?_ | ((first | refine o_G ?_ ?_ | refine o_N ?_ ?_) <;> intro hc)))) | ((fail_if_success (with_reducible refine o_s ?_)); go_step))
          refine wpl_run0 (Runs.fieldA (off := 2) rfl (by decide +kernel)) ?_
          refine gset ?_
          repeat' (first | ((with_reducible refine o_s ?_); (first | (refine o_1 ?_; refine o_2 ?_) | (refine o_g ?_; first | refine o_u ?_ | refine o_k ?_ | refine o_n ?_ | refine o_v ?_ | ((first | refine o_G ?_ ?_ | refine o_N ?_ ?_) <;> intro hc)))) | ((fail_if_success (with_reducible refine o_s ?_)); go_step))
          · have h3k := ‹R.kind = 3›
            refine wpl_run0 (Runs.fieldA (off := 2) rfl (by decide +kernel)) ?_
            refine gset ?_
            repeat' (first | ((with_reducible refine o_s ?_); (first | (refine o_1 ?_; refine o_2 ?_) | (refine o_g ?_; first | refine o_u ?_ | refine o_k ?_ | refine o_n ?_ | refine o_v ?_ | ((first | refine o_G ?_ ?_ | refine o_N ?_ ?_) <;> intro hc)))) | ((fail_if_success (with_reducible refine o_s ?_)); go_step))
            refine wpl_appendO (e := 75) (k := 4) rfl o9 rfl su9 rcells_one x9.size (by rw [rcells_length, rcells_length]; omega) ?_
            intro v10 w10 o10 m10 _
            refine gset ?_
            have xt : Ext w8 w10 := o9.mvx m10 x9 (Nat.le_refl _)
            have hrc : rcells R.ans ++ rcells R.auth = rcells (tellsR R) := by rw [tellsR, if_pos h3k]; simp [rcells]
            rw [hrc] at o10
            have ot := o10.sl
            have hfr : ∀ r ∈ tellsR R, FromL l r := by
              intro r hr
              rw [tellsR, if_pos h3k] at hr
              rcases List.mem_append.1 hr with hr | hr
              · exact hfrom.1 r hr
              · exact hfrom.2 h3k r hr
            clear su9
            repeat' (first | ((with_reducible refine o_s ?_); (first | (refine o_1 ?_; refine o_2 ?_) | (refine o_g ?_; first | refine o_u ?_ | refine o_k ?_ | refine o_n ?_ | refine o_v ?_ | ((first | refine o_G ?_ ?_ | refine o_N ?_ ?_) <;> intro hc)))) | ((fail_if_success (with_reducible refine o_s ?_)); go_step))
            have htl : (tellsR R).length ≤ 10000 := by
              unfold tellsR
              rw [List.length_append]
              split <;> first | omega | (simp; omega)
            have hdat : ∀ r ∈ tellsR R, r.data.length ≤ 9223372036854775807 := fun r hr => by
              obtain ⟨t, ht, hd⟩ := hfr r hr
              have := zone_datum hz t ht _ hd
              omega
            refine wpl_callR (enters_of Tryz.func92 rfl rfl) rfl rfl (p_extra o v _ l (tellsR R) _ (hv8.ext xt) ot hz htl hdat) ?_
            intro r11 w11 x11 o11
            refine gset ?_
            have zt := xt.size
            have xx := xt.trans x11
            have b11 := xx.at b8
            have h11 := xx.at h8
            repeat' (first | ((with_reducible refine o_s ?_); (first | (refine o_1 ?_; refine o_2 ?_) | (refine o_g ?_; first | refine o_u ?_ | refine o_k ?_ | refine o_n ?_ | refine o_v ?_ | ((first | refine o_G ?_ ?_ | refine o_N ?_ ?_) <;> intro hc)))) | ((fail_if_success (with_reducible refine o_s ?_)); go_step))
            refine wpl_run0 (Runs.fieldA (off := 2) rfl (by decide +kernel)) ?_
            refine gset ?_
            repeat' (first | ((with_reducible refine o_s ?_); (first | (refine o_1 ?_; refine o_2 ?_) | (refine o_g ?_; first | refine o_u ?_ | refine o_k ?_ | refine o_n ?_ | refine o_v ?_ | ((first | refine o_G ?_ ?_ | refine o_N ?_ ?_) <;> intro hc)))) | ((fail_if_success (with_reducible refine o_s ?_)); go_step))
            refine wpl_storeF (n := 5) b11 rfl rfl rfl (by simp [askC]) (by decide +kernel) o11.sl.one ?_
            intro w12 p12
            have b12 : w12.heap[w5.heap.size]? = some (.cells (askC o v R.kind a8 u8 r11).toArray 128 (0, 0)) := p12.this
            have h12 := p12.at h11 zq
            have oa12 := (oa8.ext xx).mv p12.mv (.inr ((oa8.ext xx).neBlock b11 (by decide)))
            have ou12 := (ou8.ext xx).mv p12.mv (.inr ((ou8.ext xx).neBlock b11 (by decide)))
            have or12 := o11.mv p12.mv (.inr (o11.neBlock b11 (by decide)))
            obtain ⟨tp, tp0, tp2⟩ := ask_pts b12
            clear sp sp0 sp2
            repeat' (first | ((with_reducible refine o_s ?_); (first | (refine o_1 ?_; refine o_2 ?_) | (refine o_g ?_; first | refine o_u ?_ | refine o_k ?_ | refine o_n ?_ | refine o_v ?_ | ((first | refine o_G ?_ ?_ | refine o_N ?_ ?_) <;> intro hc)))) | ((fail_if_success (with_reducible refine o_s ?_)); go_step))
            refine wpl_run0 (Runs.fieldA (off := 2) rfl (by decide +kernel)) ?_
            refine gset ?_
            repeat' (first | ((with_reducible refine o_s ?_); (first | (refine o_1 ?_; refine o_2 ?_) | (refine o_g ?_; first | refine o_u ?_ | refine o_k ?_ | refine o_n ?_ | refine o_v ?_ | ((first | refine o_G ?_ ?_ | refine o_N ?_ ?_) <;> intro hc)))) | ((fail_if_success (with_reducible refine o_s ?_)); go_step))
            refine wpl_storeB (v := .agg #[.int .i64 R.kind, a8, u8, r11]) rfl rfl rfl h12 (show sizeTy Tryz.prog 61 4 = true by decide +kernel) rfl (all4 rfl oa12.sl.one ou12.sl.one or12.sl.one) ?_
            intro w13 p13
            repeat' (first | ((with_reducible refine o_s ?_); (first | (refine o_1 ?_; refine o_2 ?_) | (refine o_g ?_; first | refine o_u ?_ | refine o_k ?_ | refine o_n ?_ | refine o_v ?_ | ((first | refine o_G ?_ ?_ | refine o_N ?_ ?_) <;> intro hc)))) | ((fail_if_success (with_reducible refine o_s ?_)); go_step))
            rw [Exit.noGoto_ret]
            have zw : w.heap.size ≤ w5.heap.size := hx5.size
            have x12 : Ext w w12 := (hx5.trans (hx8.trans xx)).move p12.mv (by rintro k ⟨⟩; exact zw)
            refine bodyPost_ret (results_cellT (cs := [.int .i64 R.kind, a8, u8, r11]) rfl rfl p13.this (show aggTy Tryz.prog 61 4 = true by decide +kernel)) rfl ⟨_, rfl, x12.move p13.mv (by rintro k ⟨⟩; exact z2), ?_⟩
            rw [hA, hE]
            refine ⟨_, rfl, a8, u8, r11, rfl, (oa12.mv p13.mv (.inr (oa12.neBlock h12 (by decide)))).weaken zw, (ou12.mv p13.mv (.inr (ou12.neBlock h12 (by decide)))).weaken zw, (or12.mv p13.mv (.inr (or12.neBlock h12 (by decide)))).weaken ?_⟩
            have a1 := hx8.size
            omega
          · have h3k := ‹¬ R.kind = 3›
            have xt := x9
            have hrc : R.ans = tellsR R := by rw [tellsR, if_neg h3k]; simp
            have ot := o9.sl
            rw [hrc] at ot
            have hfr : ∀ r ∈ tellsR R, FromL l r := by rw [← hrc]; exact hfrom.1
            clear su9
            have htl : (tellsR R).length ≤ 10000 := by
              unfold tellsR
              rw [List.length_append]
              split <;> first | omega | (simp; omega)
            have hdat : ∀ r ∈ tellsR R, r.data.length ≤ 9223372036854775807 := fun r hr => by
              obtain ⟨t, ht, hd⟩ := hfr r hr
              have := zone_datum hz t ht _ hd
              omega
            refine wpl_callR (enters_of Tryz.func92 rfl rfl) rfl rfl (p_extra o v _ l (tellsR R) _ (hv8.ext xt) ot hz htl hdat) ?_
            intro r11 w11 x11 o11
            refine gset ?_
            have zt := xt.size
            have xx := xt.trans x11
            have b11 := xx.at b8
            have h11 := xx.at h8
            repeat' (first | ((with_reducible refine o_s ?_); (first | (refine o_1 ?_; refine o_2 ?_) | (refine o_g ?_; first | refine o_u ?_ | refine o_k ?_ | refine o_n ?_ | refine o_v ?_ | ((first | refine o_G ?_ ?_ | refine o_N ?_ ?_) <;> intro hc)))) | ((fail_if_success (with_reducible refine o_s ?_)); go_step))
            refine wpl_run0 (Runs.fieldA (off := 2) rfl (by decide +kernel)) ?_
            refine gset ?_
            repeat' (first | ((with_reducible refine o_s ?_); (first | (refine o_1 ?_; refine o_2 ?_) | (refine o_g ?_; first | refine o_u ?_ | refine o_k ?_ | refine o_n ?_ | refine o_v ?_ | ((first | refine o_G ?_ ?_ | refine o_N ?_ ?_) <;> intro hc)))) | ((fail_if_success (with_reducible refine o_s ?_)); go_step))
            refine wpl_storeF (n := 5) b11 rfl rfl rfl (by simp [askC]) (by decide +kernel) o11.sl.one ?_
            intro w12 p12
            have b12 : w12.heap[w5.heap.size]? = some (.cells (askC o v R.kind a8 u8 r11).toArray 128 (0, 0)) := p12.this
            have h12 := p12.at h11 zq
            have oa12 := (oa8.ext xx).mv p12.mv (.inr ((oa8.ext xx).neBlock b11 (by decide)))
            have ou12 := (ou8.ext xx).mv p12.mv (.inr ((ou8.ext xx).neBlock b11 (by decide)))
            have or12 := o11.mv p12.mv (.inr (o11.neBlock b11 (by decide)))
            obtain ⟨tp, tp0, tp2⟩ := ask_pts b12
            clear sp sp0 sp2
            repeat' (first | ((with_reducible refine o_s ?_); (first | (refine o_1 ?_; refine o_2 ?_) | (refine o_g ?_; first | refine o_u ?_ | refine o_k ?_ | refine o_n ?_ | refine o_v ?_ | ((first | refine o_G ?_ ?_ | refine o_N ?_ ?_) <;> intro hc)))) | ((fail_if_success (with_reducible refine o_s ?_)); go_step))
            refine wpl_run0 (Runs.fieldA (off := 2) rfl (by decide +kernel)) ?_
            refine gset ?_
            repeat' (first | ((with_reducible refine o_s ?_); (first | (refine o_1 ?_; refine o_2 ?_) | (refine o_g ?_; first | refine o_u ?_ | refine o_k ?_ | refine o_n ?_ | refine o_v ?_ | ((first | refine o_G ?_ ?_ | refine o_N ?_ ?_) <;> intro hc)))) | ((fail_if_success (with_reducible refine o_s ?_)); go_step))
            refine wpl_storeB (v := .agg #[.int .i64 R.kind, a8, u8, r11]) rfl rfl rfl h12 (show sizeTy Tryz.prog 61 4 = true by decide +kernel) rfl (all4 rfl oa12.sl.one ou12.sl.one or12.sl.one) ?_
            intro w13 p13
            repeat' (first | ((with_reducible refine o_s ?_); (first | (refine o_1 ?_; refine o_2 ?_) | (refine o_g ?_; first | refine o_u ?_ | refine o_k ?_ | refine o_n ?_ | refine o_v ?_ | ((first | refine o_G ?_ ?_ | refine o_N ?_ ?_) <;> intro hc)))) | ((fail_if_success (with_reducible refine o_s ?_)); go_step))
            rw [Exit.noGoto_ret]
            have zw : w.heap.size ≤ w5.heap.size := hx5.size
            have x12 : Ext w w12 := (hx5.trans (hx8.trans xx)).move p12.mv (by rintro k ⟨⟩; exact zw)
            refine bodyPost_ret (results_cellT (cs := [.int .i64 R.kind, a8, u8, r11]) rfl rfl p13.this (show aggTy Tryz.prog 61 4 = true by decide +kernel)) rfl ⟨_, rfl, x12.move p13.mv (by rintro k ⟨⟩; exact z2), ?_⟩
            rw [hA, hE]
            refine ⟨_, rfl, a8, u8, r11, rfl, (oa12.mv p13.mv (.inr (oa12.neBlock h12 (by decide)))).weaken zw, (ou12.mv p13.mv (.inr (ou12.neBlock h12 (by decide)))).weaken zw, (or12.mv p13.mv (.inr (or12.neBlock h12 (by decide)))).weaken ?_⟩
            have a1 := hx8.size
            omega
theorem AnsA.one {a : AnsR} {y : Value} {w : World} (h : AnsA a y w) : y.cells.all (·.oneCell') = true := by
  obtain ⟨u1, u2, u3, rfl, s1, s2, s3⟩ := h
  exact all4 rfl s1.one s2.one s3.one
theorem l9_Told {a : AnsR} {y : Value} (w : World) (h : AnsA a y w) : Calls Tryz.prog 46 #[y] w (RetV w y) := by
  obtain ⟨u1, u2, u3, rfl, s1, s2, s3⟩ := h
  go_enter Tryz.func46, Tryz.ntmps46
  repeat' ((fail_if_success (with_reducible refine o_s ?_)); go_step)
  refine wpl_box (vs := [.int .i64 a.kind, u1, u2, u3]) rfl rfl ?_
  intro p w1 x1 hp
  refine gset ?_
  refine wpl_allocB (z := zans) rfl (by decide +kernel) ?_
  intro w2 x2 s2' h2
  refine gset ?_
  have hx2 := x1.trans x2
  have zz := x1.size
  have hp2 := hp.ext x2
  repeat' (first | ((with_reducible refine o_s ?_); (first | (refine o_1 ?_; refine o_2 ?_) | (refine o_g ?_; first | refine o_u ?_ | refine o_k ?_ | refine o_n ?_ | refine o_v ?_ | ((first | refine o_G ?_ ?_ | refine o_N ?_ ?_) <;> intro hc)))) | ((fail_if_success (with_reducible refine o_s ?_)); go_step))
  refine wpl_run (v := .agg #[.int .i64 a.kind, u1, u2, u3]) rfl (Runs.build rfl (by obtain ⟨_, _, _, rfl⟩ := s1.slf; obtain ⟨_, _, _, rfl⟩ := s2.slf; obtain ⟨_, _, _, rfl⟩ := s3.slf; kernel_rfl)) ?_
  refine gset ?_
  refine wpl_storeB (v := .agg #[.int .i64 a.kind, u1, u2, u3]) rfl rfl rfl h2 (show sizeTy Tryz.prog 71 4 = true by decide +kernel) rfl (all4 rfl s1.one s2.one s3.one) ?_
  intro w3 p3
  have x3 : Ext w w3 := hx2.move p3.mv (by rintro k ⟨⟩; exact zz)
  repeat' (first | ((with_reducible refine o_s ?_); (first | (refine o_1 ?_; refine o_2 ?_) | (refine o_g ?_; first | refine o_u ?_ | refine o_k ?_ | refine o_n ?_ | refine o_v ?_ | ((first | refine o_G ?_ ?_ | refine o_N ?_ ?_) <;> intro hc)))) | ((fail_if_success (with_reducible refine o_s ?_)); go_step))
  exact bodyPost_ret (results_cell1 (cs := [.int .i64 a.kind, u1, u2, u3]) rfl rfl p3.this (show aggTy Tryz.prog 71 4 = true by decide +kernel)) rfl ⟨rfl, x3⟩
set_option maxHeartbeats 4000000 in
theorem r9_Same {a : AnsR} {y z : Value} (w : World) (h : AnsA a y w) (k : AnsA a z w) : Calls Tryz.prog 45 #[y, z] w (RetV w (.bool true)) := by
  obtain ⟨u1, u2, u3, rfl, s1, s2, s3⟩ := h
  obtain ⟨v1, v2, v3, rfl, t1, t2, t3⟩ := k
  have hs : ∀ {u v : Value} {r : List Rec} {w' : World}, Sl 4 w' u (rcells r) → Sl 4 w' v (rcells r) → Calls Tryz.prog 42 #[u, v] w' (RetV w' (.bool true)) := fun {u v r w'} hu hv => by
    have := r3_Same u v r r w' hu hv
    rw [decide_eq_true rfl] at this
    exact this
  go_enter Tryz.func45, Tryz.ntmps45
  repeat' ((fail_if_success (with_reducible refine o_s ?_)); go_step)
  refine wpl_box (vs := [.int .i64 a.kind, u1, u2, u3]) rfl rfl ?_
  intro p w1 x1 hp
  refine gset ?_
  repeat' ((fail_if_success (with_reducible refine o_s ?_)); go_step)
  refine wpl_box (vs := [.int .i64 a.kind, v1, v2, v3]) rfl rfl ?_
  intro q w2 x2 hq
  refine gset ?_
  have x12 := x1.trans x2
  have hp2 := hp.ext x2
  repeat' (first | ((with_reducible refine o_s ?_); (first | (refine o_1 ?_; refine o_2 ?_) | (refine o_g ?_; first | refine o_u ?_ | refine o_k ?_ | refine o_n ?_ | refine o_v ?_ | ((first | refine o_G ?_ ?_ | refine o_N ?_ ?_) <;> intro hc)))) | ((fail_if_success (with_reducible refine o_s ?_)); go_step))
  · refine wpl_callV (enters_of Tryz.func42 rfl rfl) rfl rfl (hs (s1.ext x12) (t1.ext x12)) ?_; intro w3 x3; refine gset ?_
    have x13 := x12.trans x3
    have hp3 := hp2.ext x3
    have hq3 := hq.ext x3
    repeat' (first | ((with_reducible refine o_s ?_); (first | (refine o_1 ?_; refine o_2 ?_) | (refine o_g ?_; first | refine o_u ?_ | refine o_k ?_ | refine o_n ?_ | refine o_v ?_ | ((first | refine o_G ?_ ?_ | refine o_N ?_ ?_) <;> intro hc)))) | ((fail_if_success (with_reducible refine o_s ?_)); go_step))
    refine wpl_callV (enters_of Tryz.func42 rfl rfl) rfl rfl (hs (s2.ext x13) (t2.ext x13)) ?_; intro w4 x4; refine gset ?_
    have x14 := x13.trans x4
    have hp4 := hp3.ext x4
    have hq4 := hq3.ext x4
    repeat' (first | ((with_reducible refine o_s ?_); (first | (refine o_1 ?_; refine o_2 ?_) | (refine o_g ?_; first | refine o_u ?_ | refine o_k ?_ | refine o_n ?_ | refine o_v ?_ | ((first | refine o_G ?_ ?_ | refine o_N ?_ ?_) <;> intro hc)))) | ((fail_if_success (with_reducible refine o_s ?_)); go_step))
    refine wpl_callV (enters_of Tryz.func42 rfl rfl) rfl rfl (hs (s3.ext x14) (t3.ext x14)) ?_; intro w5 x5; refine gset ?_
    repeat' (first | ((with_reducible refine o_s ?_); (first | (refine o_1 ?_; refine o_2 ?_) | (refine o_g ?_; first | refine o_u ?_ | refine o_k ?_ | refine o_n ?_ | refine o_v ?_ | ((first | refine o_G ?_ ?_ | refine o_N ?_ ?_) <;> intro hc)))) | ((fail_if_success (with_reducible refine o_s ?_)); go_step))
    go_ret
    exact ⟨rfl, x14.trans x5⟩
theorem goneF_append : ∀ (g h l : List Rec), goneF l (g ++ h) = (goneF l g).bind fun m => goneF m h
  | [], h, l => by simp [goneF]
  | r :: g, h, l => by
    rw [List.cons_append, goneF, goneF]
    split
    · exact goneF_append g h _
    · rfl
theorem newF_append : ∀ (g h l : List Rec), newF l (g ++ h) = (newF l g).bind fun m => newF m h
  | [], h, l => by simp [newF]
  | r :: g, h, l => by
    rw [List.cons_append, newF, newF]
    split
    · rfl
    · exact newF_append g h _
theorem gone_step {l m g : List Rec} {k : Nat} (hk : k < g.length) (h : goneF l (g.take k) = some m) : goneF l (g.take (k + 1)) = if g[k] ∈ m then some (m.erase g[k]) else none := by
  rw [List.take_succ_eq_append_getElem hk, goneF_append, h]
  simp [goneF]
theorem new_step {l m g : List Rec} {k : Nat} (hk : k < g.length) (h : newF l (g.take k) = some m) : newF l (g.take (k + 1)) = if g[k] ∈ m then none else some (m ++ [g[k]]) := by
  rw [List.take_succ_eq_append_getElem hk, newF_append, h]
  simp [newF]
theorem gone_bad {l m g : List Rec} {k : Nat} (hk : k < g.length) (h : goneF l (g.take k) = some m) (hn : g[k] ∉ m) : goneF l g = none := by
  rw [← List.take_append_drop k g, goneF_append, h, List.drop_eq_getElem_cons hk]
  simp [goneF, hn]
theorem new_bad {l m g : List Rec} {k : Nat} (hk : k < g.length) (h : newF l (g.take k) = some m) (hn : g[k] ∈ m) : newF l g = none := by
  rw [← List.take_append_drop k g, newF_append, h, List.drop_eq_getElem_cons hk]
  simp [newF, hn]
theorem gone_len : ∀ {g l m : List Rec}, goneF l g = some m → m.length ≤ l.length ∧ ∀ r ∈ m, r ∈ l
  | [], l, m, h => by rw [goneF] at h; cases h; exact ⟨Nat.le_refl _, fun _ h => h⟩
  | r :: g, l, m, h => by
    rw [goneF] at h
    split at h
    · obtain ⟨h1, h2⟩ := gone_len h
      exact ⟨Nat.le_trans h1 (List.length_erase_le), fun q hq => List.mem_of_mem_erase (h2 q hq)⟩
    · cases h
theorem new_len : ∀ {g l m : List Rec}, newF l g = some m → m.length = l.length + g.length ∧ ∀ r ∈ m, r ∈ l ∨ r ∈ g
  | [], l, m, h => by rw [newF] at h; cases h; exact ⟨by simp, fun _ h => .inl h⟩
  | r :: g, l, m, h => by
    rw [newF] at h
    split at h
    · cases h
    · obtain ⟨h1, h2⟩ := new_len h
      refine ⟨by rw [h1]; simp; omega, fun q hq => ?_⟩
      rcases h2 q hq with h3 | h3
      · rcases List.mem_append.1 h3 with h4 | h4
        · exact .inl h4
        · exact .inr (by rw [List.mem_singleton.1 h4]; simp)
      · exact .inr (List.mem_cons_of_mem _ h3)
theorem idx_mem {m : List Rec} {r : Rec} (h : r ∈ m) : ∃ i, i < m.length ∧ idxI (fun q => decide (r = q)) m = (i : Nat) ∧ m.eraseIdx i = m.erase r := by
  have hlt := List.idxOf_lt_length_of_mem h
  refine ⟨m.idxOf r, hlt, idx_at hlt ?_ ?_, (List.erase_eq_eraseIdx_of_idxOf rfl).symm⟩
  · rw [any_mem, decide_eq_false_iff_not]
    intro hm
    obtain ⟨j, hj, he⟩ := List.getElem_of_mem hm
    rw [List.length_take] at hj
    rw [List.getElem_take] at he
    have := List.not_of_lt_findIdx (p := (· == r)) (xs := m) (i := j) (by unfold List.idxOf at hj; omega)
    simp [he] at this
  · have := List.getElem_idxOf hlt
    rw [this]; simp
theorem idx_none {m : List Rec} {r : Rec} (h : r ∉ m) : idxI (fun q => decide (r = q)) m = -1 := idx_no (by rw [any_mem, decide_eq_false h])
theorem recs_len {s : RSet} : (recsOf s).length = s.data.length := by simp [recsOf]
theorem putS_recs (r : Rec) : ∀ gs : List RSet, (recordsS (putS r gs)).length ≤ (recordsS gs).length + 1
  | [] => by simp [putS, recordsS, recsOf, recSet]
  | g :: gs => by
    have ih := putS_recs r gs
    unfold recordsS at ih ⊢
    rw [putS]
    split
    · simp only [List.map_cons, List.flatten_cons, List.length_append] at ih ⊢; omega
    · split
      · simp only [List.map_cons, List.flatten_cons, List.length_append]
        have : (recsOf (recSet r)).length = 1 := rfl
        omega
      · simp only [List.map_cons, List.flatten_cons, List.length_append]
        have h1 : (recsOf ⟨fold r.name, r.kind, min r.ttl g.ttl, textS r.data g.data⟩).length ≤ (recsOf g).length + 1 := by
          rw [recs_len, recs_len]
          exact textS_len _ _
        omega
theorem putAll_recs (l : List Rec) : ∀ k, k ≤ l.length → (recordsS (putAll (l.take k))).length ≤ k
  | 0, _ => by simp [putAll, recordsS]
  | k + 1, h => by
    rw [putAll_succ h]
    have := putS_recs l[k] (putAll (l.take k))
    have ih := putAll_recs l k (by omega)
    omega
theorem loadL_bounds {o : List UInt8} {m : List Rec} {n : Nat} (hm : ∀ r ∈ m, r.data.length ≤ n) : (∀ s ∈ loadL o m, s.data.length ≤ m.length) ∧ (∀ s ∈ loadL o m, ∀ d ∈ s.data, d.length ≤ n) ∧ (recordsS (loadL o m)).length ≤ m.length := by
  unfold loadL
  split
  · refine ⟨putAll_len m, fun s hs d hd => ?_, ?_⟩
    · obtain ⟨r, hr, rfl⟩ := putAll_data hs hd
      exact hm r hr
    · have := putAll_recs m m.length (Nat.le_refl _)
      rwa [List.take_length] at this
  · simp [recordsS]
theorem recs_data {l : List RSet} {n : Nat} (h : ∀ s ∈ l, ∀ d ∈ s.data, d.length ≤ n) : ∀ r ∈ recordsS l, r.data.length ≤ n := by
  intro r hr
  unfold recordsS at hr
  obtain ⟨x, hx, hr⟩ := List.mem_flatten.1 hr
  obtain ⟨s, hs, rfl⟩ := List.mem_map.1 hx
  unfold recsOf at hr
  obtain ⟨d, hd, rfl⟩ := List.mem_map.1 hr
  exact h s hs d hd
def AppU (B : Nat) (o : List UInt8) (l : List RSet) (d : DeltaR) (q : Value) (w : World) : Prop := ∃ y, q = .tuple #[.agg #[str (appO o l d), y], .int .i64 (appE o l d)] ∧ SetsO B w y (appL o l d)
theorem AppU.bad {B : Nat} {o : List UInt8} {l : List RSet} {d : DeltaR} {e : Int} {w : World} (h : appE o l d = e) (he : e ≠ 0) : AppU B o l d (.tuple #[.agg zzone.toArray, .int .i64 e]) w := by
  refine ⟨.slice none 0 0, ?_, ?_⟩
  · rw [appO, if_neg (by rw [h]; exact he), h]; rfl
  · rw [appL, if_neg (by rw [h]; exact he)]; exact SetsO.nil _ _
theorem appE_none {o : List UInt8} {l : List RSet} {d : DeltaR} (q0 : zoneR o l = 0) (q1 : (soaZ o l).serial = d.fr) (h : editR (recordsS l) d = none) : appE o l d = 5 := by rw [appE, if_pos q0, if_pos q1, h]
theorem appE_some {o : List UInt8} {l : List RSet} {d : DeltaR} {x : List Rec} (q0 : zoneR o l = 0) (q1 : (soaZ o l).serial = d.fr) (h : editR (recordsS l) d = some x) : appE o l d = endE o x d.to := by rw [appE, if_pos q0, if_pos q1, h]
theorem edit_none1 {l : List Rec} {d : DeltaR} (h : goneF l d.gone = none) : editR l d = none := by rw [editR, h]; rfl
theorem edit_of {l m : List Rec} {d : DeltaR} (h : goneF l d.gone = some m) : editR l d = newF m d.new := by rw [editR, h]; rfl
end Go.Proofs.X
