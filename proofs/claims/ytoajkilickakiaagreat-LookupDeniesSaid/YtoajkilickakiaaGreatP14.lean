/- Laws and walks that the proof of the statement is made of (part 14). -/
import Derived.Test.YtoajkilickakiaaGreatProg
import Derived.OwnWalk
import Derived.Test.YtoajkilickakiaaGreatShelf
import Derived.Shelf.RegionOpenPlain
import Derived.Lib.Strings
import Derived.Lib.Slices
import Derived.Lib.Walk
import Derived.Lib.Builder
import Derived.Lib.AppendStr
import Derived.Lib.UnsafeStr
import Derived.Lib.MakeNoZero
import Derived.WalkKit
import Derived.Laws.Externs
import Derived.Laws.IdiomCopy
import Derived.Laws.BitsLemmas
import GoSem.Claims
import Derived.Shelf.SlSortCmp.NoneTotal
import Derived.Lib.Hide
import Derived.StringKeys
import Derived.Test.YtoajkilickakiaaGreatP1
import Derived.Test.YtoajkilickakiaaGreatP2
import Derived.Test.YtoajkilickakiaaGreatP3
import Derived.Test.YtoajkilickakiaaGreatP4
import Derived.Test.YtoajkilickakiaaGreatP5
import Derived.Test.YtoajkilickakiaaGreatP6
import Derived.Test.YtoajkilickakiaaGreatP7
import Derived.Test.YtoajkilickakiaaGreatP8
import Derived.Test.YtoajkilickakiaaGreatP9
import Derived.Test.YtoajkilickakiaaGreatP10
import Derived.Test.YtoajkilickakiaaGreatP11
import Derived.Test.YtoajkilickakiaaGreatP12
import Derived.Test.YtoajkilickakiaaGreatP13
set_option linter.unusedSimpArgs false
set_option linter.unusedVariables false
namespace Go.Proofs.X
open Go.RowKit
set_option maxRecDepth 100000
theorem same_delT {d : DeltaR} {r q : Value} (w : World) (h : DelA d r w) (k : DelA d q w) : Calls Tryz.prog 23 #[r, q] w (RetV w (.bool true)) := by
  have := r10_Same w h k
  rw [decide_eq_true rfl] at this
  exact this
set_option maxHeartbeats 6000000 in
theorem d3 (oa : List UInt8) (u : Value) (la : List RSet) (ob : List UInt8) (v : Value) (lb : List RSet) (w : World) (hu : SetsAt w u la) (hv : SetsAt w v lb) : Calls Tryz.prog 3 #[.agg #[str oa, u], .agg #[str ob, v]] w (Yes w) := by
  go_enter Tryz.func3, Tryz.ntmps3
  repeat' ((fail_if_success (with_reducible refine o_s ?_)); go_step)
  refine wpl_box (vs := [str oa, u]) rfl rfl ?_
  intro p w1 x1 hp
  refine gset ?_
  refine wpl_box (vs := [str ob, v]) rfl rfl ?_
  intro q w2 x2 hq
  refine gset ?_
  have hx2 := x1.trans x2
  have hp2 := hp.ext x2
  repeat' (first | ((with_reducible refine o_s ?_); (first | (refine o_1 ?_; refine o_2 ?_) | (refine o_g ?_; first | refine o_u ?_ | refine o_k ?_ | refine o_n ?_ | refine o_v ?_ | ((first | refine o_G ?_ ?_ | refine o_N ?_ ?_) <;> intro hc)))) | ((fail_if_success (with_reducible refine o_s ?_)); go_step))
  refine wpl_callV (enters_of Tryz.func19 rfl rfl) rfl rfl (l10_few oa ob u v la lb _ (hu.ext hx2) (hv.ext hx2)) ?_; intro w4 x4; refine gset ?_
  have hx5 := hx2.trans x4
  have hp5 := hp2.ext x4
  have hq5 := hq.ext x4
  cases hf : ((decide ((oa.length : Int) ≤ 300) && fewS la) && (decide ((ob.length : Int) ≤ 300) && fewS lb)) with
  | false =>
    repeat' (first | ((with_reducible refine o_s ?_); (first | (refine o_1 ?_; refine o_2 ?_) | (refine o_g ?_; first | refine o_u ?_ | refine o_k ?_ | refine o_n ?_ | refine o_v ?_ | ((first | refine o_G ?_ ?_ | refine o_N ?_ ?_) <;> intro hc)))) | ((fail_if_success (with_reducible refine o_s ?_)); go_step))
    refine wpl_callV (enters_of Tryz.func20 rfl rfl) rfl rfl (d_liveV _) ?_; intro w5 x5; refine gset ?_
    repeat' (first | ((with_reducible refine o_s ?_); (first | (refine o_1 ?_; refine o_2 ?_) | (refine o_g ?_; first | refine o_u ?_ | refine o_k ?_ | refine o_n ?_ | refine o_v ?_ | ((first | refine o_G ?_ ?_ | refine o_N ?_ ?_) <;> intro hc)))) | ((fail_if_success (with_reducible refine o_s ?_)); go_step))
    go_ret
    exact ⟨rfl, hx5.trans x5⟩
  | true =>
    obtain ⟨fa, fb⟩ := Bool.and_eq_true_iff.1 hf
    obtain ⟨_, ba, da, _⟩ := fewz fa
    obtain ⟨_, bb, db, _⟩ := fewz fb
    obtain ⟨ra, ea, ga⟩ := fewd fa
    obtain ⟨rb, eb, gb⟩ := fewd fb
    obtain ⟨⟨m1, m2⟩, m3, m4⟩ := mkD_bounds (oa := oa) (ob := ob) ra rb ga gb
    repeat' (first | ((with_reducible refine o_s ?_); (first | (refine o_1 ?_; refine o_2 ?_) | (refine o_g ?_; first | refine o_u ?_ | refine o_k ?_ | refine o_n ?_ | refine o_v ?_ | ((first | refine o_G ?_ ?_ | refine o_N ?_ ?_) <;> intro hc)))) | ((fail_if_success (with_reducible refine o_s ?_)); go_step))
    refine wpl_callR (enters_of Tryz.func21 rfl rfl) rfl rfl (p_Make oa u la ob v lb _ (hu.ext hx5) (hv.ext hx5) ba da bb db (by omega) (by omega)) ?_
    rintro _ w6 x6 ⟨_, rfl, g, n, rfl, og, on⟩
    have sg := og.sl
    have sn := on.sl
    refine gset ?_
    repeat' (first | ((with_reducible refine o_s ?_); (first | (refine o_1 ?_; refine o_2 ?_) | (refine o_g ?_; first | refine o_u ?_ | refine o_k ?_ | refine o_n ?_ | refine o_v ?_ | ((first | refine o_G ?_ ?_ | refine o_N ?_ ?_) <;> intro hc)))) | ((fail_if_success (with_reducible refine o_s ?_)); go_step))
    refine wpl_allocB (z := zdel) rfl (by decide +kernel) ?_
    intro w7 x7 s7 h7
    refine gset ?_
    generalize hmd : mkD oa la ob lb = dd at *
    refine wpl_storeB (v := .agg #[.int .i64 dd.fr, .int .i64 dd.to, g, n]) rfl rfl rfl h7 (show sizeTy Tryz.prog 30 4 = true by decide +kernel) rfl (all4 rfl rfl sg.one sn.one) ?_
    intro w8 p8
    have x8 : Ext w6 w8 := x7.move p8.mv (by rintro k ⟨⟩; exact Nat.le_refl _)
    have hd8 := pts_block (cs := [.int .i64 dd.fr, .int .i64 dd.to, g, n]) p8.this
    have x58 := x6.trans x8
    have hp8 := hp5.ext x58
    have hq8 := hq5.ext x58
    have hx8 := hx5.trans x58
    have sg8 := sg.ext x8
    have sn8 := sn.ext x8
    have hD8 : DelA dd (.agg #[.int .i64 dd.fr, .int .i64 dd.to, g, n]) w8 := ⟨g, n, rfl, sg8, sn8⟩
    clear p8 h7 x7
    repeat' (first | ((with_reducible refine o_s ?_); (first | (refine o_1 ?_; refine o_2 ?_) | (refine o_g ?_; first | refine o_u ?_ | refine o_k ?_ | refine o_n ?_ | refine o_v ?_ | ((first | refine o_G ?_ ?_ | refine o_N ?_ ?_) <;> intro hc)))) | ((fail_if_success (with_reducible refine o_s ?_)); go_step))
    refine wpl_callR (enters_of Tryz.func22 rfl rfl) rfl rfl (r10_Make oa u la ob v lb _ (hu.ext hx8) (hv.ext hx8) ba da bb db (by omega) (by omega)) ?_
    rintro _ w9 x9 ⟨_, rfl, g', n', rfl, og', on'⟩
    rw [hmd] at og' on' ⊢
    have sg' := og'.sl
    have sn' := on'.sl
    refine gset ?_
    repeat' (first | ((with_reducible refine o_s ?_); (first | (refine o_1 ?_; refine o_2 ?_) | (refine o_g ?_; first | refine o_u ?_ | refine o_k ?_ | refine o_n ?_ | refine o_v ?_ | ((first | refine o_G ?_ ?_ | refine o_N ?_ ?_) <;> intro hc)))) | ((fail_if_success (with_reducible refine o_s ?_)); go_step))
    refine wpl_allocB (z := zdel) rfl (by decide +kernel) ?_
    intro w10 x10 s10 h10
    refine gset ?_
    refine wpl_storeB (v := .agg #[.int .i64 dd.fr, .int .i64 dd.to, g', n']) rfl rfl rfl h10 (show sizeTy Tryz.prog 34 4 = true by decide +kernel) rfl (all4 rfl rfl sg'.one sn'.one) ?_
    intro w11 p11
    have x11 : Ext w9 w11 := x10.move p11.mv (by rintro k ⟨⟩; exact Nat.le_refl _)
    have he11 := pts_block (cs := [.int .i64 dd.fr, .int .i64 dd.to, g', n']) p11.this
    have x811 := x9.trans x11
    have hd11 := hd8.ext x811
    have hx11 := hx8.trans x811
    have hD11 := hD8.ext x811
    have sg11 := sg8.ext x811
    have sn11 := sn8.ext x811
    have sg'11 := sg'.ext x11
    have sn'11 := sn'.ext x11
    have hE11 : DelA dd (.agg #[.int .i64 dd.fr, .int .i64 dd.to, g', n']) w11 := ⟨g', n', rfl, sg'11, sn'11⟩
    clear p11 h10 x10
    repeat' (first | ((with_reducible refine o_s ?_); (first | (refine o_1 ?_; refine o_2 ?_) | (refine o_g ?_; first | refine o_u ?_ | refine o_k ?_ | refine o_n ?_ | refine o_v ?_ | ((first | refine o_G ?_ ?_ | refine o_N ?_ ?_) <;> intro hc)))) | ((fail_if_success (with_reducible refine o_s ?_)); go_step))
    refine wpq_region (by decide +kernel) (by decide +kernel) ?_
    repeat' (first | ((with_reducible refine q_s ?_); (first | (refine q_1 ?_; refine q_2 ?_) | (refine q_g ?_; first | refine q_u ?_ | refine q_k ?_ | refine q_v ?_))) | (with_reducible refine q_n ?_))
    refine wpq_call (enters_of Tryz.func24 rfl rfl) rfl rfl (fun w' x' => l10_Told w' (hD11.ext x')) ?_
    refine gset ?_
    repeat' (first | ((with_reducible refine q_s ?_); (first | (refine q_1 ?_; refine q_2 ?_) | (refine q_g ?_; first | refine q_u ?_ | refine q_k ?_ | refine q_v ?_))) | (with_reducible refine q_n ?_))
    refine wpq_call (enters_of Tryz.func23 rfl rfl) rfl rfl (fun w' x' => same_delT w' (hD11.ext x') (hE11.ext x')) ?_
    refine gset ?_
    repeat' (first | ((with_reducible refine q_s ?_); (first | (refine q_1 ?_; refine q_2 ?_) | (refine q_g ?_; first | refine q_u ?_ | refine q_k ?_ | refine q_v ?_))) | (with_reducible refine q_n ?_))
    refine wpq_call (enters_of Tryz.func20 rfl rfl) rfl rfl (fun w' x' => d_liveV w') ?_
    refine gset ?_
    repeat' (first | ((with_reducible refine q_s ?_); (first | (refine q_1 ?_; refine q_2 ?_) | (refine q_g ?_; first | refine q_u ?_ | refine q_k ?_ | refine q_v ?_))) | (with_reducible refine q_n ?_))
    intro w12 x12
    repeat' (first | ((with_reducible refine o_s ?_); (first | (refine o_1 ?_; refine o_2 ?_) | (refine o_g ?_; first | refine o_u ?_ | refine o_k ?_ | refine o_n ?_ | refine o_v ?_ | ((first | refine o_G ?_ ?_ | refine o_N ?_ ?_) <;> intro hc)))) | ((fail_if_success (with_reducible refine o_s ?_)); go_step))
    go_ret
    exact ⟨rfl, hx11.trans x12⟩
theorem p_exists1 (pn : Value) (n : List UInt8) (s : RSet) (u : Value) (w : World) (hn : Pts w pn [str n]) : Calls Tryz.prog 192 #[.agg #[str s.name, .int .i64 s.kind, .int .i64 s.ttl, u], pn] w (RetV w (.bool (underN s.name n))) := by
  go_enter Tryz.func192, Tryz.ntmps192
  repeat' ((fail_if_success (with_reducible refine o_s ?_)); go_step)
  refine wpl_box (vs := [str s.name, .int .i64 s.kind, .int .i64 s.ttl, u]) rfl rfl ?_
  intro ps w1 x1 hs
  refine gset ?_
  have hn1 := hn.ext x1
  repeat' (first | ((with_reducible refine o_s ?_); (first | (refine o_1 ?_; refine o_2 ?_) | (refine o_g ?_; first | refine o_u ?_ | refine o_k ?_ | refine o_n ?_ | refine o_v ?_ | ((first | refine o_G ?_ ?_ | refine o_N ?_ ?_) <;> intro hc)))) | ((fail_if_success (with_reducible refine o_s ?_)); go_step))
  refine wpl_callV (enters_of Tryz.func98 rfl rfl) rfl rfl (p_Under s.name n _) ?_; intro w2 x2; refine gset ?_
  repeat' (first | ((with_reducible refine o_s ?_); (first | (refine o_1 ?_; refine o_2 ?_) | (refine o_g ?_; first | refine o_u ?_ | refine o_k ?_ | refine o_n ?_ | refine o_v ?_ | ((first | refine o_G ?_ ?_ | refine o_N ?_ ?_) <;> intro hc)))) | ((fail_if_success (with_reducible refine o_s ?_)); go_step))
  go_ret
  exact ⟨rfl, x1.trans x2⟩
theorem p_exists (o : List UInt8) (v : Value) (l : List RSet) (n : List UInt8) (w : World) (hv : SetsAt w v l) : Calls Tryz.prog 166 #[.agg #[str o, v], str n] w (RetV w (.bool (l.any fun s => underN s.name n))) := by
  go_enter Tryz.func166, Tryz.ntmps166
  repeat' ((fail_if_success (with_reducible refine o_s ?_)); go_step)
  refine wpl_box (vs := [str o, v]) rfl rfl ?_
  intro p w1 x1 hp
  refine gset ?_
  repeat' ((fail_if_success (with_reducible refine o_s ?_)); go_step)
  refine wpl_box (vs := [str n]) rfl rfl ?_
  intro pn w2 x2 hn
  refine gset ?_
  have hx2 := x1.trans x2
  have hp2 := hp.ext x2
  have hv2 := hv.ext hx2
  repeat' (first | ((with_reducible refine o_s ?_); (first | (refine o_1 ?_; refine o_2 ?_) | (refine o_g ?_; first | refine o_u ?_ | refine o_k ?_ | refine o_n ?_ | refine o_v ?_ | ((first | refine o_G ?_ ?_ | refine o_N ?_ ?_) <;> intro hc)))) | ((fail_if_success (with_reducible refine o_s ?_)); go_step))
  have hf : SetFn w2 192 #[pn] l (fun s => underN s.name n) := fun s _ x w' hx' _ => p_exists1 pn n s x w' (hn.ext hx')
  refine wpl_callV (enters_of Tryz.func86 rfl rfl) rfl rfl (p_ContainsFunc v l 192 #[pn] (fun s => underN s.name n) _ hv2 (enters_of Tryz.func192 rfl rfl) hf) ?_; intro w3 x3; refine gset ?_
  repeat' (first | ((with_reducible refine o_s ?_); (first | (refine o_1 ?_; refine o_2 ?_) | (refine o_g ?_; first | refine o_u ?_ | refine o_k ?_ | refine o_n ?_ | refine o_v ?_ | ((first | refine o_G ?_ ?_ | refine o_N ?_ ?_) <;> intro hc)))) | ((fail_if_success (with_reducible refine o_s ?_)); go_step))
  go_ret
  exact ⟨rfl, hx2.trans x3⟩
def atS (l : List RSet) (n a : List UInt8) : List RSet := (l.filter fun s => decide (s.name = n)).map fun s => ⟨a, s.kind, s.ttl, s.data⟩
theorem at_take {l : List RSet} {n a : List UInt8} {k : Nat} (h : k < l.length) : atS (l.take (k + 1)) n a = atS (l.take k) n a ++ (if l[k].name = n then [⟨a, l[k].kind, l[k].ttl, l[k].data⟩] else []) := by
  unfold atS
  rw [List.take_succ_eq_append_getElem h, List.filter_append, List.map_append]
  congr 1
  by_cases hm : l[k].name = n <;> simp [hm]
theorem at_len (l : List RSet) (n a : List UInt8) : (atS l n a).length ≤ l.length := by
  unfold atS; rw [List.length_map]; exact List.length_filter_le _ _
set_option maxHeartbeats 3000000 in
theorem p_at (o : List UInt8) (v : Value) (l : List RSet) (n a : List UInt8) (w0 w : World) (hx0 : Ext w0 w) (hv0 : SetsAt w0 v l) (hl : l.length ≤ 100000) :
    Calls Tryz.prog 167 #[.agg #[str o, v], str n, str a] w (Ret w fun r w' => ∃ css, Own w.heap.size 4 55 w' r css ∧ SetsC w0 css (atS l n a)) := by
  have hv := hv0.ext hx0
  obtain ⟨cv, hv1, hvl⟩ := hv.sl
  go_enter Tryz.func167, Tryz.ntmps167
  repeat' ((fail_if_success (with_reducible refine o_s ?_)); go_step)
  refine wpl_box (vs := [str o, v]) rfl rfl ?_
  intro p w1 x1 hp
  refine gset ?_
  have hv2 := hv1.ext x1
  repeat' (first | ((with_reducible refine o_s ?_); (first | (refine o_1 ?_; refine o_2 ?_) | (refine o_g ?_; first | refine o_u ?_ | refine o_k ?_ | refine o_n ?_ | refine o_v ?_ | ((first | refine o_G ?_ ?_ | refine o_N ?_ ?_) <;> intro hc)))) | ((fail_if_success (with_reducible refine o_s ?_)); go_step))
  go_loopw [7, 9, 13] (fun r _ i wr => ∃ (k : Nat) (css : List (List Value)), k ≤ l.length ∧ i = .int .i64 k ∧ Ext w wr ∧ Own w.heap.size 4 55 wr r css ∧ SetsC w0 css (atS (l.take k) n a)) (fun _ _ i _ => l.length - (intOf i).toNat)
  case atStart => exact ⟨0, [], Nat.zero_le _, rfl, x1, Own.nil _ _ _ _, ⟨rfl, by simp [atS]⟩⟩
  case round =>
    obtain ⟨k, css, hk, rfl, hx, ho, hc⟩ := hrel
    have hvr := hv1.ext hx
    by_cases hlt : k < l.length
    · obtain ⟨x, h4w, h4dw⟩ := hv0.elem (List.getElem?_eq_getElem hlt)
      have h4 := h4w.ext (hx0.trans hx)
      have h4d := h4dw.ext (hx0.trans hx)
      have hst := at_take (n := n) (a := a) hlt
      have hcl := hc.len
      have hal := at_len (l.take k) n a
      rw [List.length_take] at hal
      repeat' (first | ((with_reducible refine o_s ?_); (first | (refine o_1 ?_; refine o_2 ?_) | (refine o_g ?_; first | refine o_u ?_ | refine o_k ?_ | refine o_n ?_ | refine o_v ?_ | ((first | refine o_G ?_ ?_ | refine o_N ?_ ?_) <;> intro hc)))) | ((fail_if_success (with_reducible refine o_s ?_)); go_step))
      refine wpl_allocB (z := zset) rfl (by decide +kernel) ?_
      intro w2 x2 s2 h2
      refine gset ?_
      refine wpl_storeB (v := .agg #[str l[k].name, .int .i64 l[k].kind, .int .i64 l[k].ttl, x]) rfl rfl rfl h2 (show sizeTy Tryz.prog 55 4 = true by decide +kernel) rfl (all4 rfl rfl rfl (h4d.ext x2).one) ?_
      intro w3 p3
      have x3 : Ext wr w3 := x2.move p3.mv (by rintro k ⟨⟩; exact Nat.le_refl _)
      have b3 : w3.heap[wr.heap.size]? = some (.cells [str l[k].name, .int .i64 l[k].kind, .int .i64 l[k].ttl, x].toArray 55 (0, 0)) := p3.this
      have h3 := pts_block b3
      have hx3 := hx.trans x3
      have ho3 := ho.ext x3
      clear p3 h2 x2
      repeat' (first | ((with_reducible refine o_s ?_); (first | (refine o_1 ?_; refine o_2 ?_) | (refine o_g ?_; first | refine o_u ?_ | refine o_k ?_ | refine o_n ?_ | refine o_v ?_ | ((first | refine o_G ?_ ?_ | refine o_N ?_ ?_) <;> intro hc)))) | ((fail_if_success (with_reducible refine o_s ?_)); go_step))
      · have hm : l[k].name = n := by assumption
        rw [if_pos hm] at hst
        refine wpl_storeF (n := 0) b3 rfl rfl rfl (by simp) (by decide +kernel) rfl ?_
        intro w4 p4
        have x4 : Ext wr w4 := x3.move p4.mv (by rintro k ⟨⟩; exact Nat.le_refl _)
        have h5 : Pts w4 (.pointer (some ⟨wr.heap.size, 0, none⟩)) [str a, .int .i64 l[k].kind, .int .i64 l[k].ttl, x] := pts_block p4.this
        have hx4 := hx.trans x4
        have ho4 := ho.ext x4
        have hd4 := h4d.ext x4
        clear p4 b3 h3
        repeat' (first | ((with_reducible refine o_s ?_); (first | (refine o_1 ?_; refine o_2 ?_) | (refine o_g ?_; first | refine o_u ?_ | refine o_k ?_ | refine o_n ?_ | refine o_v ?_ | ((first | refine o_G ?_ ?_ | refine o_N ?_ ?_) <;> intro hc)))) | ((fail_if_success (with_reducible refine o_s ?_)); go_step))
        refine ap1 [str a, .int .i64 l[k].kind, .int .i64 l[k].ttl, x] hx4 ho4 (by omega) ?_ ⟨rfl, rfl, rfl, by intro u hu; simp only [List.mem_cons, List.not_mem_nil, or_false] at hu; rcases hu with rfl | rfl | rfl | rfl <;> first | rfl | exact hd4.one⟩
        intro s5 v5 w5 w6 x5 m6 x6 o6
        refine gset ?_
        repeat' (first | ((with_reducible refine o_s ?_); (first | (refine o_1 ?_; refine o_2 ?_) | (refine o_g ?_; first | refine o_u ?_ | refine o_k ?_ | refine o_n ?_ | refine o_v ?_ | ((first | refine o_G ?_ ?_ | refine o_N ?_ ?_) <;> intro hc)))) | ((fail_if_success (with_reducible refine o_s ?_)); go_step))
        exact ⟨⟨k + 1, _, by omega, by go_num, x6, o6, by rw [hst]; exact hc.append (SetsC.one (s := ⟨a, l[k].kind, l[k].ttl, l[k].data⟩) h4dw)⟩, by simp [intOf]; omega⟩
      · have hm : ¬ l[k].name = n := by assumption
        rw [if_neg hm, List.append_nil] at hst
        exact ⟨⟨k + 1, css, by omega, by go_num, hx3, ho3, by rw [hst]; exact hc⟩, by simp [intOf]; omega⟩
    · have : k = l.length := by omega
      subst this
      rw [List.take_length] at hc
      repeat' (first | ((with_reducible refine o_s ?_); (first | (refine o_1 ?_; refine o_2 ?_) | (refine o_g ?_; first | refine o_u ?_ | refine o_k ?_ | refine o_n ?_ | refine o_v ?_ | ((first | refine o_G ?_ ?_ | refine o_N ?_ ?_) <;> intro hc)))) | ((fail_if_success (with_reducible refine o_s ?_)); go_step))
      go_ret
      exact ⟨_, rfl, hx, _, ho, hc⟩
def recOpt (o : Option RSet) : List Rec := match o with | some s => recsOf s | none => []
theorem records_one (s : RSet) : recordsS [s] = recsOf s := by simp [recordsS]
theorem recOpt_getD (o : Option RSet) : recOpt o = recordsS [o.getD zeroS] := by cases o <;> simp [recOpt, records_one, recsOf, zeroS]
def denZ (o : List UInt8) (l : List RSet) : Rec := ⟨o, 6, min ((findS l o 6).getD zeroS).ttl (soaZ o l).minimum, soaD o l⟩
def isIn (l : List RSet) (n : List UInt8) : Bool := l.any fun s => underN s.name n
def aboveL (l : List RSet) : List (List UInt8) → List (List UInt8)
  | [] => []
  | x :: t => if isIn l (enc (x :: t)) = true then x :: t else aboveL l t
def starN (l : List RSet) (n : List UInt8) : List UInt8 := (join ([42] :: aboveL l ((labels n).getD []))).getD []
def setsP (l : List RSet) (n : List UInt8) : List RSet := if isIn l n = true then atS l n n else atS l (starN l n) n
def setsB (l : List RSet) (n : List UInt8) : Bool := isIn l n || decide (0 < (atS l (starN l n) n).length)
def hostK (k : Int) : Bool := decide (k = 2) || decide (k = 15) || decide (k = 33)
def extraStep (l : List RSet) (b : List (List UInt8) × List Rec) (r : Rec) : List (List UInt8) × List Rec :=
  if (parseHost r.kind r.data).2 ≠ 0 ∨ hostK r.kind = false ∨ fold (parseHost r.kind r.data).1 ∈ b.1 then b
  else (b.1 ++ [fold (parseHost r.kind r.data).1], b.2 ++ recOpt (findS l (fold (parseHost r.kind r.data).1) 1) ++ recOpt (findS l (fold (parseHost r.kind r.data).1) 28))
def extraF (l : List RSet) (rs : List Rec) : List (List UInt8) × List Rec := rs.foldl (extraStep l) ([], [])
def extraS (l : List RSet) (rs : List Rec) : List Rec := (extraF l rs).2
structure StepR where
  kind : Int
  ans : List Rec
  auth : List Rec
  next : List UInt8
  more : Bool
  deriving Inhabited
def isAlias (s : RSet) : Bool := decide (s.kind = 5)
def aliasSet (l : List RSet) (n : List UInt8) : RSet := ((setsP l n).find? isAlias).getD zeroS
def ofKind (k : Int) (s : RSet) : Bool := decide (k = 255) || decide (s.kind = k)
def stepP (o : List UInt8) (l : List RSet) (n : List UInt8) (k c : Int) : StepR :=
  if underN n o = false then ⟨if c = 0 then 4 else 0, [], [], [], false⟩
  else if (cutP o l n).2 = true then ⟨3, [], recOpt (findS l (cutP o l n).1 2), [], false⟩
  else if setsB l n = false then ⟨2, [], [denZ o l], [], false⟩
  else if (setsP l n).any isAlias = true ∧ k ≠ 5 ∧ k ≠ 255 then
    if c = 8 then ⟨0, [], [], [], false⟩
    else ⟨0, recsOf (aliasSet l n), [], fold (parseHost 5 ((aliasSet l n).data.getD 0 [])).1, true⟩
  else if (setsP l n).filter (ofKind k) = [] then ⟨1, [], [denZ o l], [], false⟩
  else ⟨0, recordsS ((setsP l n).filter (ofKind k)), [], [], false⟩
def askP (o : List UInt8) (l : List RSet) (k : Int) : Nat → Int → List UInt8 → StepR
  | 0, _, _ => ⟨0, [], [], [], false⟩
  | f + 1, c, n => if (stepP o l n k c).more = true then
      ⟨(askP o l k f (c + 1) (stepP o l n k c).next).kind, (stepP o l n k c).ans ++ (askP o l k f (c + 1) (stepP o l n k c).next).ans, (askP o l k f (c + 1) (stepP o l n k c).next).auth, [], false⟩
    else stepP o l n k c
structure AnsR where
  kind : Int
  ans : List Rec
  auth : List Rec
  extra : List Rec
  deriving DecidableEq, Inhabited
def zeroA : AnsR := ⟨0, [], [], []⟩
def askE (o : List UInt8) (l : List RSet) (q : List UInt8) : Int := if zoneR o l ≠ 0 then zoneR o l else checkE q
def tellsR (r : StepR) : List Rec := r.ans ++ if r.kind = 3 then r.auth else []
def askA (o : List UInt8) (l : List RSet) (q : List UInt8) (k : Int) : AnsR :=
  if askE o l q ≠ 0 then zeroA else
    ⟨(askP o l k 9 0 (fold q)).kind, (askP o l k 9 0 (fold q)).ans, (askP o l k 9 0 (fold q)).auth, extraS l (tellsR (askP o l k 9 0 (fold q)))⟩

theorem fold_fold (n : List UInt8) : fold (fold n) = fold n := by
  cases h : labels n with
  | none =>
    have : fold n = n := by unfold fold; rw [h]
    rw [this, this]
  | some ls => exact (fold_valid h).2.2
theorem labels_fold (n : List UInt8) : (labels (fold n)).isSome = (labels n).isSome := by
  cases h : labels n with
  | none =>
    have : fold n = n := by unfold fold; rw [h]
    rw [this, h]
  | some ls => rw [(fold_valid h).2.1]; rfl
theorem check_fold (n : List UInt8) : checkE (fold n) = checkE n := by unfold checkE; rw [labels_fold]
theorem turned_fold (n : List UInt8) : turned (fold n) = turned n := by unfold turned; rw [fold_fold]
theorem under_foldL (n t : List UInt8) : underN (fold n) t = underN n t := by unfold underN; rw [turned_fold]
theorem under_foldR (n t : List UInt8) : underN n (fold t) = underN n t := by unfold underN; rw [turned_fold]
theorem cutP_fold (o : List UInt8) (l : List RSet) (n : List UInt8) : cutP o l (fold n) = cutP o l n := by
  have : isCut o (fold n) = isCut o n := by funext s; unfold isCut; rw [under_foldL]
  unfold cutP; rw [this]
theorem isIn_fold (l : List RSet) (n : List UInt8) : isIn l (fold n) = isIn l n := by unfold isIn; simp only [under_foldR]
theorem ask_letters (o : List UInt8) (l : List RSet) (q : List UInt8) (k : Int) : askA o l (fold q) k = askA o l q k ∧ askE o l (fold q) = askE o l q := by
  have h : askE o l (fold q) = askE o l q := by unfold askE; rw [check_fold]
  exact ⟨by unfold askA; rw [h, fold_fold], h⟩
theorem may_data {s : RSet} (h : mayS s = true) : 1 ≤ s.data.length ∧ s.data.length ≤ 20 := by
  simp only [mayS, Bool.and_eq_true, decide_eq_true_eq] at h
  exact ⟨h.1.1.2, h.1.2⟩
def InZ (l : List RSet) (r : Rec) : Prop := (∃ s ∈ l, ∃ d ∈ s.data, r = recOf s d) ∨ isIn l r.name = false
theorem InZ.opt {l : List RSet} {n : List UInt8} {k : Int} : ∀ r ∈ recOpt (findS l n k), InZ l r := by
  intro r hr
  cases hf : findS l n k with
  | none => rw [hf] at hr; cases hr
  | some s =>
    rw [hf] at hr
    obtain ⟨d, hd, rfl⟩ := List.mem_map.1 hr
    exact .inl ⟨s, (findS_mem hf).1, d, hd, rfl⟩
theorem at_mem {l : List RSet} {m n : List UInt8} {s : RSet} (h : s ∈ atS l m n) : ∃ t ∈ l, t.name = m ∧ s = ⟨n, t.kind, t.ttl, t.data⟩ := by
  unfold atS at h
  obtain ⟨t, ht, rfl⟩ := List.mem_map.1 h
  obtain ⟨h1, h2⟩ := List.mem_filter.1 ht
  exact ⟨t, h1, by simpa using h2, rfl⟩
theorem InZ.at {l : List RSet} {n : List UInt8} {s : RSet} (h : s ∈ setsP l n) : ∀ d ∈ s.data, InZ l (recOf s d) := by
  intro d hd
  unfold setsP at h
  split at h
  · obtain ⟨t, ht, h1, rfl⟩ := at_mem h
    exact .inl ⟨t, ht, d, hd, by simp [recOf, h1]⟩
  · rename_i hn
    obtain ⟨t, ht, h1, rfl⟩ := at_mem h
    exact .inr (by simpa [recOf] using hn)
theorem alias_mem {l : List RSet} {n : List UInt8} (h : (setsP l n).any isAlias = true) : aliasSet l n ∈ setsP l n ∧ (aliasSet l n).kind = 5 ∧ (setsP l n).find? isAlias = some (aliasSet l n) := by
  unfold aliasSet
  cases hf : (setsP l n).find? isAlias with
  | none =>
    rw [List.find?_eq_none] at hf
    obtain ⟨s, hs, h1⟩ := List.any_eq_true.1 h
    exact absurd h1 (hf s hs)
  | some s =>
    have := List.find?_some hf
    exact ⟨List.mem_of_find?_eq_some hf, by simpa [isAlias] using this, rfl⟩
theorem setsP_data {l : List RSet} (h : checkS l = 0) {n : List UInt8} {s : RSet} (hs : s ∈ setsP l n) : ∃ t ∈ l, s.kind = t.kind ∧ s.ttl = t.ttl ∧ s.data = t.data ∧ s.name = n := by
  unfold setsP at hs
  split at hs <;> (obtain ⟨t, ht, h1, rfl⟩ := at_mem hs; exact ⟨t, ht, rfl, rfl, rfl, rfl⟩)
theorem check_mem {l : List RSet} (h : checkS l = 0) {s : RSet} (hs : s ∈ l) : mayS s = true := by
  obtain ⟨i, hi, rfl⟩ := List.mem_iff_getElem.1 hs
  exact check_may h hi
theorem setsP_ne {l : List RSet} (h : checkS l = 0) {n : List UInt8} {s : RSet} (hs : s ∈ setsP l n) : recsOf s ≠ [] ∧ s.data.length ≤ 20 ∧ 1 ≤ s.data.length := by
  obtain ⟨t, ht, _, _, h3, _⟩ := setsP_data h hs
  have := may_data (check_mem h ht)
  have h5 : s.data.length = t.data.length := by rw [h3]
  refine ⟨fun e => ?_, by omega, by omega⟩
  unfold recsOf at e
  rw [List.map_eq_nil_iff] at e
  rw [e] at h3
  have h4 := congrArg List.length h3
  simp at h4
  omega
theorem ask_denies {o : List UInt8} {l : List RSet} (h : ZoneOk o l) (k : Int) (n : List UInt8) (ha : (askP o l k 9 0 n).ans = []) :
    ((askP o l k 9 0 n).kind = 4 ↔ underN n o = false) ∧ ((askP o l k 9 0 n).kind = 3 ↔ underN n o = true ∧ (cutP o l n).2 = true) ∧ ((askP o l k 9 0 n).kind = 2 → isIn l n = false) := by
  by_cases h1 : underN n o = false
  · have e : askP o l k 9 0 n = ⟨4, [], [], [], false⟩ := by simp [askP, stepP, h1]
    simp [e, h1]
  · have h1' : underN n o = true := by simpa using h1
    by_cases h2 : (cutP o l n).2 = true
    · have e : askP o l k 9 0 n = ⟨3, [], recOpt (findS l (cutP o l n).1 2), [], false⟩ := by simp [askP, stepP, h1', h2]
      simp [e, h1', h2]
    · have h2' : (cutP o l n).2 = false := by simpa using h2
      by_cases h3 : setsB l n = false
      · have e : askP o l k 9 0 n = ⟨2, [], [denZ o l], [], false⟩ := by simp [askP, stepP, h1', h2', h3]
        have h3' : isIn l n = false := by simp only [setsB, Bool.or_eq_false_iff] at h3; exact h3.1
        simp [e, h1', h2', h3']
      · have h3' : setsB l n = true := by simpa using h3
        by_cases h4 : (setsP l n).any isAlias = true ∧ k ≠ 5 ∧ k ≠ 255
        · exfalso
          have e : stepP o l n k 0 = ⟨0, recsOf (aliasSet l n), [], fold (parseHost 5 ((aliasSet l n).data.getD 0 [])).1, true⟩ := by
            rw [stepP, if_neg h1, if_neg h2, if_neg h3, if_pos h4, if_neg (by decide)]
          have := (setsP_ne h.chk (alias_mem h4.1).1).1
          rw [askP, e] at ha
          simp [this] at ha
        · by_cases h5 : (setsP l n).filter (ofKind k) = []
          · have e : stepP o l n k 0 = ⟨1, [], [denZ o l], [], false⟩ := by
              rw [stepP, if_neg h1, if_neg h2, if_neg h3, if_neg h4, if_pos h5]
            simp [askP, e, h1', h2']
          · have e : stepP o l n k 0 = ⟨0, recordsS ((setsP l n).filter (ofKind k)), [], [], false⟩ := by
              rw [stepP, if_neg h1, if_neg h2, if_neg h3, if_neg h4, if_neg h5]
            simp [askP, e, h1', h2']
/-! ### name.Labels, name.Parent, lookup.Denial, lookup.sets -/
section
variable {P : Program} {a : Act} {w : World} {d : Option Nat} {ty : TypeId} {ps : String} {af : Array Edge} {g : Option (Nat × Bool)}
theorem Runs.dropSU {t : TypeId} {x lo : Operand} {l : List UInt8} {m : Nat} (hx : a.eval x = str l) (h1 : a.eval lo = .int .u8 (m : Nat)) (hm : m ≤ l.length) (ht : strTy P t = true) :
    Runs P (Oper.mk d (.slice t x (some lo) none none) ty ps af g) a w (str (l.drop m)) := by
  constructor
  simp [execOp, hx, h1, str, Instr.sliceAt, Instr.slice, run_underlying (strTy_spec ht), Instr.sliceBounds, Instr.sliceBound, asIntOf, size_mk, -ByteArray.size_data, hm, extract_mk]
end
theorem p_Labels (nm : List UInt8) (w : World) : Calls Tryz.prog 169 #[str nm] w (Ret w fun v w' => Own w.heap.size 1 9 w' v (tcells ((labels nm).getD []))) := by
  go_enter Tryz.func169, Tryz.ntmps169
  repeat' (first | ((with_reducible refine o_s ?_); (first | (refine o_1 ?_; refine o_2 ?_) | (refine o_g ?_; first | refine o_u ?_ | refine o_k ?_ | refine o_n ?_ | refine o_v ?_ | ((first | refine o_G ?_ ?_ | refine o_N ?_ ?_) <;> intro hc)))) | ((fail_if_success (with_reducible refine o_s ?_)); go_step))
  refine wpl_callR (enters_of Tryz.func114 rfl rfl) rfl rfl (t28 nm _) ?_
  intro v w1 x1 hv
  cases hl : labels nm with
  | none =>
    rw [hl] at hv
    subst hv
    repeat' (first | ((with_reducible refine o_s ?_); (first | (refine o_1 ?_; refine o_2 ?_) | (refine o_g ?_; first | refine o_u ?_ | refine o_k ?_ | refine o_n ?_ | refine o_v ?_ | ((first | refine o_G ?_ ?_ | refine o_N ?_ ?_) <;> intro hc)))) | ((fail_if_success (with_reducible refine o_s ?_)); go_step))
    go_ret
    exact ⟨_, rfl, x1, by rw [hl]; exact Own.nil _ _ _ _⟩
  | some ls =>
    rw [hl] at hv
    obtain ⟨s, rfl, hs⟩ := hv
    repeat' (first | ((with_reducible refine o_s ?_); (first | (refine o_1 ?_; refine o_2 ?_) | (refine o_g ?_; first | refine o_u ?_ | refine o_k ?_ | refine o_n ?_ | refine o_v ?_ | ((first | refine o_G ?_ ?_ | refine o_N ?_ ?_) <;> intro hc)))) | ((fail_if_success (with_reducible refine o_s ?_)); go_step))
    go_ret
    exact ⟨_, rfl, x1, by rw [hl]; exact hs⟩
theorem p_Parent {nm x : List UInt8} {t : List (List UInt8)} (w : World) (h : labels nm = some (x :: t)) : Calls Tryz.prog 168 #[str nm] w (RetV w (.tuple #[str (enc t), .int .i64 0])) := by
  obtain ⟨h1, h2, h3⟩ := labels_fit h
  have hx63 : x.length ≤ 63 := by simp [fitL] at h1; omega
  have e : nm = UInt8.ofNat x.length :: (x ++ enc t) := by rw [← h2]; simp [enc]
  have hlen : 0 < nm.length := by rw [e]; simp
  have h0 : nm.getD 0 0 = UInt8.ofNat x.length := by rw [e]; rfl
  have hne : nm ≠ [] := by intro e0; rw [e0] at hlen; cases hlen
  have hn0 : (nm.getD 0 0).toNat = x.length := by rw [h0]; simp; omega
  have hdr : nm.drop (x.length + 1) = enc t := by rw [e]; simp
  have hl : x.length + 1 ≤ nm.length := by rw [e]; simp
  have hsome : (labels nm).isSome = true := by rw [h]; rfl
  go_enter Tryz.func168, Tryz.ntmps168
  repeat' (first | ((with_reducible refine o_s ?_); (first | (refine o_1 ?_; refine o_2 ?_) | (refine o_g ?_; first | refine o_u ?_ | refine o_k ?_ | refine o_n ?_ | refine o_v ?_ | ((first | refine o_G ?_ ?_ | refine o_N ?_ ?_) <;> intro hc)))) | ((fail_if_success (with_reducible refine o_s ?_)); go_step))
  refine wpl_callV (enters_of Tryz.func83 rfl rfl) rfl rfl (t27 nm _) ?_; intro w1 x1; refine gset ?_
  rw [if_pos hsome]
  repeat' (first | ((with_reducible refine o_s ?_); (first | (refine o_1 ?_; refine o_2 ?_) | (refine o_g ?_; first | refine o_u ?_ | refine o_k ?_ | refine o_n ?_ | refine o_v ?_ | ((first | refine o_G ?_ ?_ | refine o_N ?_ ?_) <;> intro hc)))) | ((fail_if_success (with_reducible refine o_s ?_)); go_step))
  refine wpl_run0 (Runs.dropSU (l := nm) (m := x.length + 1) rfl ?_ hl (by decide +kernel)) ?_
  · show Value.int .u8 (IntKind.wrap .u8 (((nm.getD 0 0).toNat : Nat) + 1)) = _
    rw [hn0]
    congr 1
    simp only [IntKind.wrap, IntKind.bits, IntKind.signed]
    simp
    omega
  · refine gset ?_
    rw [hdr]
    repeat' (first | ((with_reducible refine o_s ?_); (first | (refine o_1 ?_; refine o_2 ?_) | (refine o_g ?_; first | refine o_u ?_ | refine o_k ?_ | refine o_n ?_ | refine o_v ?_ | ((first | refine o_G ?_ ?_ | refine o_N ?_ ?_) <;> intro hc)))) | ((fail_if_success (with_reducible refine o_s ?_)); go_step))
    go_ret2
    exact ⟨rfl, x1⟩
def recV (r : Rec) : Value := .agg #[str r.name, .int .i64 r.kind, .int .i64 r.ttl, str r.data]
theorem zone_data {o : List UInt8} {l : List RSet} (h : ZoneOk o l) : ∀ s ∈ l, s.data.length ≤ 1000000 := fun s hs => by
  have := may_data (h.may hs); omega
theorem zone_datum {o : List UInt8} {l : List RSet} (h : ZoneOk o l) : ∀ s ∈ l, ∀ d ∈ s.data, d.length ≤ 4611686018427387904 := fun s hs d hd => by
  obtain ⟨i, hi, rfl⟩ := List.mem_iff_getElem.1 hd
  have := checkR_data (may_at (h.may hs) hi)
  simp only at this
  omega
theorem zone_len {o : List UInt8} {l : List RSet} (h : ZoneOk o l) : l.length ≤ 200 := by
  have := h.chk
  unfold checkS at this
  split at this
  · cases this
  · omega
set_option maxHeartbeats 3000000 in
theorem p_Denial (o : List UInt8) (v : Value) (l : List RSet) (w : World) (hv : SetsAt w v l) (hz : ZoneOk o l) : Calls Tryz.prog 47 #[.agg #[str o, v]] w (RetV w (.tuple #[recV (denZ o l), .int .i64 0])) := by
  have hb := zone_data hz
  have hd := zone_datum hz
  have hzr := zone_ok' hz
  obtain ⟨s, hf, hs, hn, hk, hdat, hpar, hlen⟩ := hz.soaSet
  have hden : denZ o l = ⟨s.name, s.kind, min s.ttl (soaZ o l).minimum, soaD o l⟩ := by rw [denZ, hf, hn, hk]; rfl
  go_enter Tryz.func47, Tryz.ntmps47
  repeat' ((fail_if_success (with_reducible refine o_s ?_)); go_step)
  refine wpl_box (vs := [str o, v]) rfl rfl ?_
  intro p w1 x1 hp
  refine gset ?_
  refine wpl_allocB (z := zrec) rfl (by decide +kernel) ?_
  intro w2 x2 s2 h2
  refine gset ?_
  have hx2 := x1.trans x2
  have hp2 := hp.ext x2
  have hv2 := hv.ext hx2
  repeat' (first | ((with_reducible refine o_s ?_); (first | (refine o_1 ?_; refine o_2 ?_) | (refine o_g ?_; first | refine o_u ?_ | refine o_k ?_ | refine o_n ?_ | refine o_v ?_ | ((first | refine o_G ?_ ?_ | refine o_N ?_ ?_) <;> intro hc)))) | ((fail_if_success (with_reducible refine o_s ?_)); go_step))
  refine wpl_callV (enters_of Tryz.func63 rfl rfl) rfl rfl (p_Soa o v l _ hv2 hb hd) ?_; intro w3 x3; refine gset ?_
  have h3 := x3.at h2
  have hp3 := hp2.ext x3
  have hv3 := hv2.ext x3
  rw [hzr]
  repeat' (first | ((with_reducible refine o_s ?_); (first | (refine o_1 ?_; refine o_2 ?_) | (refine o_g ?_; first | refine o_u ?_ | refine o_k ?_ | refine o_n ?_ | refine o_v ?_ | ((first | refine o_G ?_ ?_ | refine o_N ?_ ?_) <;> intro hc)))) | ((fail_if_success (with_reducible refine o_s ?_)); go_step))
  refine wpl_allocB (z := zeroSoa) rfl (by decide +kernel) ?_
  intro w4 x4 s4 h4
  refine gset ?_
  refine wpl_storeB (v := .agg (soaZ o l).cells.toArray) rfl rfl rfl h4 (show sizeTy Tryz.prog 103 7 = true by decide +kernel) rfl (soaR_one _) ?_
  intro w5 p5
  have x5 : Ext w3 w5 := x4.move p5.mv (by rintro k ⟨⟩; exact Nat.le_refl _)
  have h5 := x5.at h3
  have hs5 := pts_block (cs := (soaZ o l).cells) p5.this
  have hp5 := hp3.ext x5
  have hv5 := hv3.ext x5
  have hx5 := hx2.trans (x3.trans x5)
  clear p5 h4 x4
  repeat' (first | ((with_reducible refine o_s ?_); (first | (refine o_1 ?_; refine o_2 ?_) | (refine o_g ?_; first | refine o_u ?_ | refine o_k ?_ | refine o_n ?_ | refine o_v ?_ | ((first | refine o_G ?_ ?_ | refine o_N ?_ ?_) <;> intro hc)))) | ((fail_if_success (with_reducible refine o_s ?_)); go_step))
  refine wpl_callR (enters_of Tryz.func40 rfl rfl) rfl rfl (t13 v l o 6 _ hv5 (fun s hs => by have := hb s hs; omega)) ?_
  intro r6 w6 x6 hr6
  rw [hf] at hr6
  obtain ⟨y, rfl, oy⟩ := hr6
  have h6 := x6.at h5
  have hs6 := hs5.ext x6
  repeat' (first | ((with_reducible refine o_s ?_); (first | (refine o_1 ?_; refine o_2 ?_) | (refine o_g ?_; first | refine o_u ?_ | refine o_k ?_ | refine o_n ?_ | refine o_v ?_ | ((first | refine o_G ?_ ?_ | refine o_N ?_ ?_) <;> intro hc)))) | ((fail_if_success (with_reducible refine o_s ?_)); go_step))
  refine wpl_allocB (z := zset) rfl (by decide +kernel) ?_
  intro w7 x7 s7 h7
  refine gset ?_
  refine wpl_storeB (v := .agg #[str s.name, .int .i64 s.kind, .int .i64 s.ttl, y]) rfl rfl rfl h7 (show sizeTy Tryz.prog 55 4 = true by decide +kernel) rfl (all4 rfl rfl rfl oy.one) ?_
  intro w8 p8
  have x8 : Ext w6 w8 := x7.move p8.mv (by rintro k ⟨⟩; exact Nat.le_refl _)
  have b8 : w8.heap[w6.heap.size]? = some (.cells [str s.name, .int .i64 s.kind, .int .i64 s.ttl, y].toArray 55 (0, 0)) := p8.this
  have hp8 := pts_block b8
  have h8 := x8.at h6
  have hs8 := hs6.ext x8
  have hy8 := oy.sl.ext x8
  have hx8 := hx5.trans (x6.trans x8)
  clear p8 h7 x7
  repeat' (first | ((with_reducible refine o_s ?_); (first | (refine o_1 ?_; refine o_2 ?_) | (refine o_g ?_; first | refine o_u ?_ | refine o_k ?_ | refine o_n ?_ | refine o_v ?_ | ((first | refine o_G ?_ ?_ | refine o_N ?_ ?_) <;> intro hc)))) | ((fail_if_success (with_reducible refine o_s ?_)); go_step))
  refine wpl_storeF (n := 2) b8 rfl rfl rfl (by simp) (by decide +kernel) rfl ?_
  intro w9 p9
  have b9 : w9.heap[w6.heap.size]? = some (.cells [str s.name, .int .i64 s.kind, .int .i64 (min s.ttl (soaZ o l).minimum), y].toArray 55 (0, 0)) := p9.this
  have z6 : w.heap.size ≤ w6.heap.size := (hx5.trans x6).size
  have x9 : Ext w w9 := hx8.move p9.mv (by rintro k ⟨⟩; exact z6)
  have zlt : w1.heap.size < w6.heap.size := by
    have a1 := (Array.getElem?_eq_some_iff.1 h6).1
    exact a1
  have h9 : w9.heap[w1.heap.size]? = some (.cells zrec.toArray 75 (0, 0)) := (p9.other _ (by omega)).trans h8
  have hy9 := ((oy.ext x8).mv p9.mv (.inr ((oy.ext x8).neBlock b8 (by decide)))).sl
  have hp9 := pts_block b9
  clear p9 b8 hp8 h8 hy8
  repeat' (first | ((with_reducible refine o_s ?_); (first | (refine o_1 ?_; refine o_2 ?_) | (refine o_g ?_; first | refine o_u ?_ | refine o_k ?_ | refine o_n ?_ | refine o_v ?_ | ((first | refine o_G ?_ ?_ | refine o_N ?_ ?_) <;> intro hc)))) | ((fail_if_success (with_reducible refine o_s ?_)); go_step))
  refine wpl_slice (e := 55) (k := 4) (bytes := 56) (xs := [.agg #[str s.name, .int .i64 s.kind, .int .i64 (min s.ttl (soaZ o l).minimum), y]]) rfl rfl rfl (by simp [Value.cells]) (by decide +kernel) (by simp) ?_
  intro v10 w10 x10 _ sl10 _
  refine gset ?_
  have hs10 : SetsAt w10 v10 [⟨s.name, s.kind, min s.ttl (soaZ o l).minimum, s.data⟩] := (SetsC.one (s := ⟨s.name, s.kind, min s.ttl (soaZ o l).minimum, s.data⟩) (hy9.ext x10)).sets sl10
  repeat' (first | ((with_reducible refine o_s ?_); (first | (refine o_1 ?_; refine o_2 ?_) | (refine o_g ?_; first | refine o_u ?_ | refine o_k ?_ | refine o_n ?_ | refine o_v ?_ | ((first | refine o_G ?_ ?_ | refine o_N ?_ ?_) <;> intro hc)))) | ((fail_if_success (with_reducible refine o_s ?_)); go_step))
  have hrec : recordsS [⟨s.name, s.kind, min s.ttl (soaZ o l).minimum, s.data⟩] = [denZ o l] := by rw [records_one, hden, recsOf, hdat]; rfl
  refine wpl_callR (enters_of Tryz.func43 rfl rfl) rfl rfl (t10 v10 _ _ hs10 (by rw [hrec]; simp)) ?_
  intro r11 w11 x11 o11
  rw [hrec] at o11
  refine gset ?_
  have sl11 := o11.sl
  have el11 := sl11.elem (i := 0) (e := [str (denZ o l).name, .int .i64 (denZ o l).kind, .int .i64 (denZ o l).ttl, str (denZ o l).data]) rfl
  have hl11 : (rcells [denZ o l]).length = 1 := rfl
  have h11 := (x10.trans x11).at h9
  have x911 := x9.trans (x10.trans x11)
  repeat' (first | ((with_reducible refine o_s ?_); (first | (refine o_1 ?_; refine o_2 ?_) | (refine o_g ?_; first | refine o_u ?_ | refine o_k ?_ | refine o_n ?_ | refine o_v ?_ | ((first | refine o_G ?_ ?_ | refine o_N ?_ ?_) <;> intro hc)))) | ((fail_if_success (with_reducible refine o_s ?_)); go_step))
  refine wpl_storeB (v := recV (denZ o l)) rfl rfl rfl h11 (show sizeTy Tryz.prog 75 4 = true by decide +kernel) rfl (all4 rfl rfl rfl rfl) ?_
  intro w12 p12
  have x12 : Ext w w12 := x911.move p12.mv (by rintro k ⟨⟩; exact x1.size)
  repeat' (first | ((with_reducible refine o_s ?_); (first | (refine o_1 ?_; refine o_2 ?_) | (refine o_g ?_; first | refine o_u ?_ | refine o_k ?_ | refine o_n ?_ | refine o_v ?_ | ((first | refine o_G ?_ ?_ | refine o_N ?_ ?_) <;> intro hc)))) | ((fail_if_success (with_reducible refine o_s ?_)); go_step))
  refine bodyPost_ret (results_cellT (cs := [str (denZ o l).name, .int .i64 (denZ o l).kind, .int .i64 (denZ o l).ttl, str (denZ o l).data]) rfl rfl p12.this (show aggTy Tryz.prog 75 4 = true by decide +kernel)) rfl ⟨rfl, x12⟩
theorem host_len (k : Int) (d : List UInt8) : (fold (parseHost k d).1).length ≤ 254 := by
  have h0 : (fold []).length ≤ 254 := fold_len [] rfl
  unfold parseHost
  split
  · exact h0
  · split
    · exact h0
    · split
      · exact h0
      · rename_i n hn
        unfold hostN at hn
        split at hn
        · rename_i hh
          cases hn
          exact fold_len _ hh.2
        · cases hn
theorem extra_take {l : List RSet} {rs : List Rec} {k : Nat} (h : k < rs.length) : extraF l (rs.take (k + 1)) = extraStep l (extraF l (rs.take k)) rs[k] := by
  rw [List.take_succ_eq_append_getElem h, extraF, List.foldl_append]; rfl
theorem recOpt_len {l : List RSet} (hb : ∀ s ∈ l, s.data.length ≤ 20) (n : List UInt8) (k : Int) : (recOpt (findS l n k)).length ≤ 20 := by
  cases hf : findS l n k with
  | none => simp [recOpt]
  | some s => simp only [recOpt, recsOf, List.length_map]; exact hb s (findS_mem hf).1
theorem extra_len {l : List RSet} (hb : ∀ s ∈ l, s.data.length ≤ 20) (rs : List Rec) : ∀ k, k ≤ rs.length → (extraF l (rs.take k)).2.length ≤ 40 * k
  | 0, _ => by simp [extraF]
  | k + 1, h => by
    rw [extra_take h]
    have ih := extra_len hb rs k (by omega)
    unfold extraStep
    split
    · omega
    · have a1 := recOpt_len hb (fold (parseHost rs[k].kind rs[k].data).1) 1
      have a2 := recOpt_len hb (fold (parseHost rs[k].kind rs[k].data).1) 28
      simp only [List.length_append]
      omega
def seenV (ns : List (List UInt8)) : List (Value × Value) := ns.map fun n => (str n, .bool true)
theorem seen_yes {ns : List (List UInt8)} {n : List UInt8} {i : Nat} {v : Value} (h : (seenV ns)[i]? = some (str n, v)) : n ∈ ns ∧ v = .bool true := by
  rw [seenV, List.getElem?_map] at h
  cases hi : ns[i]? with
  | none => rw [hi] at h; cases h
  | some m =>
    rw [hi] at h
    simp only [Option.map_some, Option.some.injEq, Prod.mk.injEq, str, Value.string.injEq, ByteArray.mk.injEq] at h
    have : m = n := by simpa using h.1
    exact ⟨this ▸ List.mem_of_getElem? hi, h.2.symm⟩
theorem seen_no {ns : List (List UInt8)} {n : List UInt8} (h : ∀ (i : Nat) (e : Value × Value), (seenV ns)[i]? = some e → e.1 ≠ str n) : n ∉ ns := by
  intro hm
  obtain ⟨i, hi, rfl⟩ := List.mem_iff_getElem.1 hm
  exact h i (str ns[i], .bool true) (by simp [seenV, hi]) rfl
theorem law22 : WideMaps.KeyLaw Tryz.prog 22 := WideMaps.string_law Tryz.underlying22
theorem keyOf22 (n : List UInt8) (hn : n.length ≤ 1000000) : ∃ l, keyOf Tryz.prog 22 (str n) = some l :=
  ⟨_, WideMaps.keyOf_string_mk Tryz.underlying22 (by rw [size_mk]; unfold maxLen; omega)⟩
def famR (l : List RSet) (n : List UInt8) (j : Nat) : List Rec := ((([1, 28] : List Int).take j).map fun k => recOpt (findS l n k)).flatten
theorem famR_two (l : List RSet) (n : List UInt8) : famR l n 2 = recOpt (findS l n 1) ++ recOpt (findS l n 28) := by simp [famR]
set_option maxHeartbeats 8000000 in
theorem p_extra (o : List UInt8) (v u : Value) (l : List RSet) (rs : List Rec) (w : World) (hv : SetsAt w v l) (hu : Sl 4 w u (rcells rs)) (hz : ZoneOk o l) (hr : rs.length ≤ 10000) (hd : ∀ r ∈ rs, r.data.length ≤ 9223372036854775807) :
    Calls Tryz.prog 92 #[.agg #[str o, v], u] w (Ret w fun r w' => Own w.heap.size 4 75 w' r (rcells (extraS l rs))) := by
  have hb20 : ∀ s ∈ l, s.data.length ≤ 20 := fun s hs => (may_data (hz.may hs)).2
  have hb := zone_data hz
  have hle := rcells_length rs
  go_enter Tryz.func92, Tryz.ntmps92
  repeat' ((fail_if_success (with_reducible refine o_s ?_)); go_step)
  refine wpl_box (vs := [str o, v]) rfl rfl ?_
  intro p w1 x1 hp
  refine gset ?_
  repeat' (first | ((with_reducible refine o_s ?_); (first | (refine o_1 ?_; refine o_2 ?_) | (refine o_g ?_; first | refine o_u ?_ | refine o_k ?_ | refine o_n ?_ | refine o_v ?_ | ((first | refine o_G ?_ ?_ | refine o_N ?_ ?_) <;> intro hc)))) | ((fail_if_success (with_reducible refine o_s ?_)); go_step))
  refine wpl_makeMap (kt := 22) rfl ?_
  intro w2 x2 s2 hm2
  refine gset ?_
  repeat' (first | ((with_reducible refine o_s ?_); (first | (refine o_1 ?_; refine o_2 ?_) | (refine o_g ?_; first | refine o_u ?_ | refine o_k ?_ | refine o_n ?_ | refine o_v ?_ | ((first | refine o_G ?_ ?_ | refine o_N ?_ ?_) <;> intro hc)))) | ((fail_if_success (with_reducible refine o_s ?_)); go_step))
  go_loopw [5, 8, 9, 10, 12, 13, 14, 18] (fun out _ _ _ _ _ _ i wr => ∃ k : Nat, k ≤ rs.length ∧ i = .int .i64 k ∧ Ext w1 wr ∧ MapAt Tryz.prog 22 wr w1.heap.size (seenV (extraF l (rs.take k)).1) ∧ Own w1.heap.size 4 75 wr out (rcells (extraF l (rs.take k)).2)) (fun _ _ _ _ _ _ _ i _ => rs.length - (intOf i).toNat)
  case atStart => exact ⟨0, Nat.zero_le _, rfl, x2, hm2, Own.nil _ _ _ _⟩
  case round =>
    obtain ⟨k, hk, rfl, hx, hm, ho⟩ := hrel
    have hur := (hu.ext x1).ext hx
    by_cases hlt : k < rs.length
    · have h4 := hur.elem (rcells_at hlt)
      repeat' (first | ((with_reducible refine o_s ?_); (first | (refine o_1 ?_; refine o_2 ?_) | (refine o_g ?_; first | refine o_u ?_ | refine o_k ?_ | refine o_n ?_ | refine o_v ?_ | ((first | refine o_G ?_ ?_ | refine o_N ?_ ?_) <;> intro hc)))) | ((fail_if_success (with_reducible refine o_s ?_)); go_step))
      refine wpl_allocB (z := zrec) rfl (by decide +kernel) ?_
      intro w3 x3 s3 h3
      refine gset ?_
      refine wpl_storeB (v := .agg #[str rs[k].name, .int .i64 rs[k].kind, .int .i64 rs[k].ttl, str rs[k].data]) rfl rfl rfl h3 (show sizeTy Tryz.prog 75 4 = true by decide +kernel) rfl (all4 rfl rfl rfl rfl) ?_
      intro w4 p4
      have x4 : Ext wr w4 := x3.move p4.mv (by rintro k ⟨⟩; exact Nat.le_refl _)
      have h4' := pts_block (cs := [str rs[k].name, .int .i64 rs[k].kind, .int .i64 rs[k].ttl, str rs[k].data]) p4.this
      have hx4 := hx.trans x4
      have hm4 := hm.at (fun o ho => x4.at ho)
      have ho4 := ho.ext x4
      clear p4 h3 x3
      repeat' (first | ((with_reducible refine o_s ?_); (first | (refine o_1 ?_; refine o_2 ?_) | (refine o_g ?_; first | refine o_u ?_ | refine o_k ?_ | refine o_n ?_ | refine o_v ?_ | ((first | refine o_G ?_ ?_ | refine o_N ?_ ?_) <;> intro hc)))) | ((fail_if_success (with_reducible refine o_s ?_)); go_step))
      refine wpl_callV (enters_of Tryz.func131 rfl rfl) rfl rfl (t39 rs[k].kind rs[k].data _ (hd _ (List.getElem_mem hlt))) ?_; intro w5 x5; refine gset ?_
      have h5 := h4'.ext x5
      repeat' (first | ((with_reducible refine o_s ?_); (first | (refine o_1 ?_; refine o_2 ?_) | (refine o_g ?_; first | refine o_u ?_ | refine o_k ?_ | refine o_n ?_ | refine o_v ?_ | ((first | refine o_G ?_ ?_ | refine o_N ?_ ?_) <;> intro hc)))) | ((fail_if_success (with_reducible refine o_s ?_)); go_step))
      refine wpl_callV (enters_of Tryz.func84 rfl rfl) rfl rfl (t17 (parseHost rs[k].kind rs[k].data).1 _) ?_; intro w6 x6; refine gset ?_
      have h6 := h5.ext x6
      have x46 := x5.trans x6
      have hx6 := hx4.trans x46
      have hm6 := hm4.at (fun o ho => x46.at ho)
      have ho6 := ho4.ext x46
      have hst := extra_take (l := l) hlt
      have hlen := host_len rs[k].kind rs[k].data
      have hol := extra_len hb20 rs k hk
      generalize hnn : fold (parseHost rs[k].kind rs[k].data).1 = n at *
      by_cases hg : (parseHost rs[k].kind rs[k].data).2 = 0 ∧ hostK rs[k].kind = true
      · repeat' (first | ((with_reducible refine o_s ?_); (first | (refine o_1 ?_; refine o_2 ?_) | (refine o_g ?_; first | refine o_u ?_ | refine o_k ?_ | refine o_n ?_ | refine o_v ?_ | ((first | refine o_G ?_ ?_ | refine o_N ?_ ?_) <;> intro hc)))) | ((fail_if_success (with_reducible refine o_s ?_)); go_step))
        all_goals first
          | (exfalso; clear hx hm ho hur h4 h4' h5 h6 hx4 hm4 ho4 hx6 hm6 ho6 hv hu hp hm2 hb hb20 hd hz hst; simp_all [hostK]; done)
          | skip
        all_goals
          obtain ⟨lx, hlx⟩ := keyOf22 n (by omega)
          have hzv : ∀ w, (zeroValue 4).run Tryz.prog w = .ok (.bool false) w := fun w => by kernel_rfl
          obtain ⟨bv, bb, hrl, hcase⟩ := run_lookup_own law22 (show mapTy Tryz.prog 163 22 4 = true by decide +kernel) hzv hm6 hlx false
          simp only [Bool.false_eq_true, if_false] at hrl
          refine wpl_run rfl (Runs.lookup rfl rfl hrl) ?_
          refine gset ?_
          rcases hcase with ⟨i, hie, rfl⟩ | ⟨hno, rfl, rfl⟩
          · obtain ⟨hin, rfl⟩ := seen_yes hie
            have hst' : extraF l (rs.take (k + 1)) = extraF l (rs.take k) := by rw [hst, extraStep, hnn, if_pos (.inr (.inr hin))]
            repeat' (first | ((with_reducible refine o_s ?_); (first | (refine o_1 ?_; refine o_2 ?_) | (refine o_g ?_; first | refine o_u ?_ | refine o_k ?_ | refine o_n ?_ | refine o_v ?_ | ((first | refine o_G ?_ ?_ | refine o_N ?_ ?_) <;> intro hc)))) | ((fail_if_success (with_reducible refine o_s ?_)); go_step))
            exact ⟨⟨k + 1, by omega, by go_num, hx6, by rw [hst']; exact hm6, by rw [hst']; exact ho6⟩, by simp [intOf]; omega⟩
          · have hni := seen_no hno
            have hst' : extraF l (rs.take (k + 1)) = ((extraF l (rs.take k)).1 ++ [n], (extraF l (rs.take k)).2 ++ famR l n 2) := by
              rw [hst, extraStep, hnn, if_neg (by rintro (h | h | h); exact h hg.1; rw [hg.2] at h; cases h; exact hni h), famR_two, List.append_assoc]
            repeat' (first | ((with_reducible refine o_s ?_); (first | (refine o_1 ?_; refine o_2 ?_) | (refine o_g ?_; first | refine o_u ?_ | refine o_k ?_ | refine o_n ?_ | refine o_v ?_ | ((first | refine o_G ?_ ?_ | refine o_N ?_ ?_) <;> intro hc)))) | ((fail_if_success (with_reducible refine o_s ?_)); go_step))
            obtain ⟨w7, o7, hr7, p7, hm7⟩ := run_update_new law22 (show mapTy Tryz.prog 163 22 4 = true by decide +kernel) hm6 hlx (v := .bool true) hno
            refine wpl_mapUpdate rfl rfl rfl rfl hr7 ?_
            have hx7 : Ext w1 w7 := hx6.move p7.mv (by rintro k ⟨⟩; exact Nat.le_refl _)
            obtain ⟨es, ck, hme, _⟩ := hm6.out
            have ho7 := ho6.mv p7.mv (.inr (ho6.neMap hme))
            have hm7' : MapAt Tryz.prog 22 w7 w1.heap.size (seenV ((extraF l (rs.take k)).1 ++ [n])) := by simpa [seenV] using hm7
            repeat' (first | ((with_reducible refine o_s ?_); (first | (refine o_1 ?_; refine o_2 ?_) | (refine o_g ?_; first | refine o_u ?_ | refine o_k ?_ | refine o_n ?_ | refine o_v ?_ | ((first | refine o_G ?_ ?_ | refine o_N ?_ ?_) <;> intro hc)))) | ((fail_if_success (with_reducible refine o_s ?_)); go_step))
            refine wpl_slice (e := 3) (k := 1) (bytes := 8) (xs := [.int .i64 1, .int .i64 28]) rfl rfl rfl (by simp [Value.cells]) (by decide +kernel) (by simp) ?_
            intro v8 w8 x8 _ sl8 o8
            refine gset ?_
            have o8' : Own w1.heap.size 1 3 w8 v8 [[.int .i64 1], [.int .i64 28]] := (show Own _ 1 3 w8 v8 [[.int .i64 1], [.int .i64 28]] from o8).weaken hx7.size
            have hx8 := hx7.trans x8
            have hm8 := hm7'.at (fun o ho => x8.at ho)
            have ho8 := ho7.ext x8
            have sl8' := o8'.sl
            repeat' (first | ((with_reducible refine o_s ?_); (first | (refine o_1 ?_; refine o_2 ?_) | (refine o_g ?_; first | refine o_u ?_ | refine o_k ?_ | refine o_n ?_ | refine o_v ?_ | ((first | refine o_G ?_ ?_ | refine o_N ?_ ?_) <;> intro hc)))) | ((fail_if_success (with_reducible refine o_s ?_)); go_step))
            clear sl8 sl8' hm7 hme o8 hm6 ho6 hx6 hm4 ho4 hm ho h4 h4' h5 h6 hrl hno
            go_loopw [5, 12, 13, 14, 58] (fun out _ _ _ i wr => ∃ j : Nat, j ≤ 2 ∧ i = .int .i64 j ∧ Ext w1 wr ∧ MapAt Tryz.prog 22 wr w1.heap.size (seenV ((extraF l (rs.take k)).1 ++ [n])) ∧ Own w1.heap.size 4 75 wr out (rcells ((extraF l (rs.take k)).2 ++ famR l n j)) ∧ Own w1.heap.size 1 3 wr v8 [[.int .i64 1], [.int .i64 28]]) (fun _ _ _ _ i _ => 2 - (intOf i).toNat)
            case atStart => exact ⟨0, by omega, rfl, hx8, hm8, by simpa [famR] using ho8, o8'⟩
            case round =>
              obtain ⟨j, hj, rfl, hxr, hmr, hor, h8r⟩ := hrel
              have s8r := h8r.sl
              by_cases hj2 : j < 2
              · obtain ⟨K, hK, hfam⟩ : ∃ K : Int, ([[.int .i64 1], [.int .i64 28]] : List (List Value))[j]? = some [.int .i64 K] ∧ famR l n (j + 1) = famR l n j ++ recOpt (findS l n K) := by
                  rcases (show j = 0 ∨ j = 1 by omega) with rfl | rfl
                  · exact ⟨1, rfl, by simp [famR]⟩
                  · exact ⟨28, rfl, by simp [famR]⟩
                have hel := s8r.elem hK
                have hpr := hp.ext hxr
                have hvr := (hv.ext x1).ext hxr
                have hfl := recOpt_len hb20 n 1
                have hfl2 : (famR l n j).length ≤ 40 := by
                  rcases (show j = 0 ∨ j = 1 by omega) with rfl | rfl
                  · simp [famR]
                  · simp [famR]; omega
                have hfl3 := recOpt_len hb20 n K
                repeat' (first | ((with_reducible refine o_s ?_); (first | (refine o_1 ?_; refine o_2 ?_) | (refine o_g ?_; first | refine o_u ?_ | refine o_k ?_ | refine o_n ?_ | refine o_v ?_ | ((first | refine o_G ?_ ?_ | refine o_N ?_ ?_) <;> intro hc)))) | ((fail_if_success (with_reducible refine o_s ?_)); go_step))
                rotate_left 1
                · exfalso
                  have hq : (([[.int .i64 1], [.int .i64 28]] : List (List Value)).length : Int) ≤ j := by assumption
                  simp at hq
                  omega
                refine wpl_callR (enters_of Tryz.func40 rfl rfl) rfl rfl (t13 v l n K _ hvr (fun s hs => by have := hb s hs; omega)) ?_
                intro r9 w9 x9 hr9
                obtain ⟨y9, rfl, hy9⟩ := find_one hr9
                clear hr9
                repeat' (first | ((with_reducible refine o_s ?_); (first | (refine o_1 ?_; refine o_2 ?_) | (refine o_g ?_; first | refine o_u ?_ | refine o_k ?_ | refine o_n ?_ | refine o_v ?_ | ((first | refine o_G ?_ ?_ | refine o_N ?_ ?_) <;> intro hc)))) | ((fail_if_success (with_reducible refine o_s ?_)); go_step))
                refine wpl_allocB (z := zset) rfl (by decide +kernel) ?_
                intro w10 x10 s10 h10
                refine gset ?_
                refine wpl_storeB (v := .agg #[str ((findS l n K).getD zeroS).name, .int .i64 ((findS l n K).getD zeroS).kind, .int .i64 ((findS l n K).getD zeroS).ttl, y9]) rfl rfl rfl h10 (show sizeTy Tryz.prog 55 4 = true by decide +kernel) rfl (all4 rfl rfl rfl hy9.one) ?_
                intro w11 p11
                have x11 : Ext w9 w11 := x10.move p11.mv (by rintro k ⟨⟩; exact Nat.le_refl _)
                have h11 := pts_block (cs := [str ((findS l n K).getD zeroS).name, .int .i64 ((findS l n K).getD zeroS).kind, .int .i64 ((findS l n K).getD zeroS).ttl, y9]) p11.this
                have y11 := hy9.ext x11
                have xr11 := x9.trans x11
                have hx11 := hxr.trans xr11
                have hm11 := hmr.at (fun o ho => xr11.at ho)
                have ho11 := hor.ext xr11
                have h8_11 := h8r.ext xr11
                clear p11 h10 x10
                cases hfs : (findS l n K).isSome with
                | false =>
                  have e0 : recOpt (findS l n K) = [] := by
                    cases hff : findS l n K with
                    | none => rfl
                    | some s => rw [hff] at hfs; cases hfs
                  repeat' (first | ((with_reducible refine o_s ?_); (first | (refine o_1 ?_; refine o_2 ?_) | (refine o_g ?_; first | refine o_u ?_ | refine o_k ?_ | refine o_n ?_ | refine o_v ?_ | ((first | refine o_G ?_ ?_ | refine o_N ?_ ?_) <;> intro hc)))) | ((fail_if_success (with_reducible refine o_s ?_)); go_step))
                  exact ⟨⟨j + 1, by omega, by go_num, hx11, hm11, by rw [hfam, e0, List.append_nil]; exact ho11, h8_11⟩, by simp [intOf]; omega⟩
                | true =>
                  repeat' (first | ((with_reducible refine o_s ?_); (first | (refine o_1 ?_; refine o_2 ?_) | (refine o_g ?_; first | refine o_u ?_ | refine o_k ?_ | refine o_n ?_ | refine o_v ?_ | ((first | refine o_G ?_ ?_ | refine o_N ?_ ?_) <;> intro hc)))) | ((fail_if_success (with_reducible refine o_s ?_)); go_step))
                  refine wpl_slice (e := 55) (k := 4) (bytes := 56) (xs := [.agg #[str ((findS l n K).getD zeroS).name, .int .i64 ((findS l n K).getD zeroS).kind, .int .i64 ((findS l n K).getD zeroS).ttl, y9]]) rfl rfl rfl (by simp [Value.cells]) (by decide +kernel) (by simp) ?_
                  intro v12 w12 x12 _ sl12 _
                  refine gset ?_
                  have hs12 : SetsAt w12 v12 [(findS l n K).getD zeroS] := (SetsC.one (s := (findS l n K).getD zeroS) (y11.ext x12)).sets sl12
                  repeat' (first | ((with_reducible refine o_s ?_); (first | (refine o_1 ?_; refine o_2 ?_) | (refine o_g ?_; first | refine o_u ?_ | refine o_k ?_ | refine o_n ?_ | refine o_v ?_ | ((first | refine o_G ?_ ?_ | refine o_N ?_ ?_) <;> intro hc)))) | ((fail_if_success (with_reducible refine o_s ?_)); go_step))
                  refine wpl_callR (enters_of Tryz.func43 rfl rfl) rfl rfl (t10 v12 _ _ hs12 (by rw [← recOpt_getD]; omega)) ?_
                  intro r13 w13 x13 o13
                  rw [← recOpt_getD] at o13
                  refine gset ?_
                  have x1113 := x12.trans x13
                  have ho13 := ho11.ext x1113
                  have hx13 := hx11.trans x1113
                  refine wpl_appendO (e := 75) (k := 4) rfl ho13 rfl o13.sl rcells_one hx13.size (by rw [rcells_length, rcells_length, List.length_append]; omega) ?_
                  intro v14 w14 o14 m14 _
                  refine gset ?_
                  have hx14 := ho13.mvx m14 hx13 (Nat.le_refl _)
                  have hm13 := hm11.at (fun o ho => x1113.at ho)
                  obtain ⟨es', ck', hme', _⟩ := hm13.out
                  have hm14 := hm13.at (w' := w14) (fun o ho => m14.at ho (fun e => ho13.neMap hme' e.symm))
                  have h8_13 := h8_11.ext x1113
                  have h8_14 := h8_13.mv m14 (h8_13.ne ho13 (by decide))
                  have hrc : rcells ((extraF l (rs.take k)).2 ++ famR l n j) ++ rcells (recOpt (findS l n K)) = rcells ((extraF l (rs.take k)).2 ++ famR l n (j + 1)) := by
                    rw [hfam]; simp [rcells]
                  rw [hrc] at o14
                  repeat' (first | ((with_reducible refine o_s ?_); (first | (refine o_1 ?_; refine o_2 ?_) | (refine o_g ?_; first | refine o_u ?_ | refine o_k ?_ | refine o_n ?_ | refine o_v ?_ | ((first | refine o_G ?_ ?_ | refine o_N ?_ ?_) <;> intro hc)))) | ((fail_if_success (with_reducible refine o_s ?_)); go_step))
                  exact ⟨⟨j + 1, by omega, by go_num, hx14, hm14, o14, h8_14⟩, by simp [intOf]; omega⟩
              · have : j = 2 := by omega
                subst this
                repeat' (first | ((with_reducible refine o_s ?_); (first | (refine o_1 ?_; refine o_2 ?_) | (refine o_g ?_; first | refine o_u ?_ | refine o_k ?_ | refine o_n ?_ | refine o_v ?_ | ((first | refine o_G ?_ ?_ | refine o_N ?_ ?_) <;> intro hc)))) | ((fail_if_success (with_reducible refine o_s ?_)); go_step))
                exact ⟨⟨k + 1, by omega, by go_num, hxr, by rw [hst']; exact hmr, by rw [hst']; exact hor⟩, by simp [intOf]; omega⟩
      · have hst' : extraF l (rs.take (k + 1)) = extraF l (rs.take k) := by
          rw [hst, extraStep]
          rw [if_pos]
          by_cases h0 : (parseHost rs[k].kind rs[k].data).2 = 0
          · exact .inr (.inl (by simpa [h0] using hg))
          · exact .inl h0
        repeat' (first | ((with_reducible refine o_s ?_); (first | (refine o_1 ?_; refine o_2 ?_) | (refine o_g ?_; first | refine o_u ?_ | refine o_k ?_ | refine o_n ?_ | refine o_v ?_ | ((first | refine o_G ?_ ?_ | refine o_N ?_ ?_) <;> intro hc)))) | ((fail_if_success (with_reducible refine o_s ?_)); go_step))
        all_goals first
          | (exfalso; clear hx hm ho hur h4 h4' h5 h6 hx4 hm4 ho4 hx6 hm6 ho6 hv hu hp hm2 hb hb20 hd hz hst hst'; simp_all [hostK]; done)
          | exact ⟨⟨k + 1, by omega, by go_num, hx6, by rw [hst']; exact hm6, by rw [hst']; exact ho6⟩, by simp [intOf]; omega⟩
    · have : k = rs.length := by omega
      subst this
      rw [List.take_length] at ho
      repeat' (first | ((with_reducible refine o_s ?_); (first | (refine o_1 ?_; refine o_2 ?_) | (refine o_g ?_; first | refine o_u ?_ | refine o_k ?_ | refine o_n ?_ | refine o_v ?_ | ((first | refine o_G ?_ ?_ | refine o_N ?_ ?_) <;> intro hc)))) | ((fail_if_success (with_reducible refine o_s ?_)); go_step))
      go_ret
      exact ⟨_, rfl, x1.trans hx, ho.weaken x1.size⟩
theorem p_step1 (s : RSet) (u : Value) (w : World) : Calls Tryz.prog 130 #[.agg #[str s.name, .int .i64 s.kind, .int .i64 s.ttl, u]] w (RetV w (.bool (isAlias s))) := by
  go_enter Tryz.func130, Tryz.ntmps130
  repeat' ((fail_if_success (with_reducible refine o_s ?_)); go_step)
  refine wpl_box (vs := [str s.name, .int .i64 s.kind, .int .i64 s.ttl, u]) rfl rfl ?_
  intro ps w1 x1 hs
  refine gset ?_
  repeat' (first | ((with_reducible refine o_s ?_); (first | (refine o_1 ?_; refine o_2 ?_) | (refine o_g ?_; first | refine o_u ?_ | refine o_k ?_ | refine o_n ?_ | refine o_v ?_ | ((first | refine o_G ?_ ?_ | refine o_N ?_ ?_) <;> intro hc)))) | ((fail_if_success (with_reducible refine o_s ?_)); go_step))
  go_ret
  exact ⟨rfl, x1⟩
theorem p_step2 (pk : Value) (k : Int) (s : RSet) (u : Value) (w : World) (hk : Pts w pk [.int .i64 k]) : Calls Tryz.prog 133 #[.agg #[str s.name, .int .i64 s.kind, .int .i64 s.ttl, u], pk] w (RetV w (.bool (!ofKind k s))) := by
  go_enter Tryz.func133, Tryz.ntmps133
  repeat' ((fail_if_success (with_reducible refine o_s ?_)); go_step)
  refine wpl_box (vs := [str s.name, .int .i64 s.kind, .int .i64 s.ttl, u]) rfl rfl ?_
  intro ps w1 x1 hs
  refine gset ?_
  repeat' (first | ((with_reducible refine o_s ?_); (first | (refine o_1 ?_; refine o_2 ?_) | (refine o_g ?_; first | refine o_u ?_ | refine o_k ?_ | refine o_n ?_ | refine o_v ?_ | ((first | refine o_G ?_ ?_ | refine o_N ?_ ?_) <;> intro hc)))) | ((fail_if_success (with_reducible refine o_s ?_)); go_step))
  all_goals
    go_ret
    refine ⟨?_, x1⟩
    simp_all [ofKind]
theorem Pts.take {w : World} {p : Value} {vs : List Value} (h : Pts w p vs) (n : Nat) : Pts w p (vs.take n) := by
  obtain ⟨b, o, e, hc⟩ := h
  refine ⟨b, o, e, fun j x hx => hc j x ?_⟩
  rw [List.getElem?_take] at hx
  split at hx
  · exact hx
  · cases hx
def askC (o : List UInt8) (v : Value) (k : Int) (a u e : Value) : List Value := [str o, v, .int .i64 k, a, u, e]
theorem ask_pts {w : World} {b : Nat} {o : List UInt8} {v a u e : Value} {k : Int} (h : w.heap[b]? = some (.cells (askC o v k a u e).toArray 128 (0, 0))) :
    Pts w (.pointer (some ⟨b, 0, none⟩)) (askC o v k a u e) ∧ Pts w (partPtr (.pointer (some ⟨b, 0, none⟩)) 0) [str o, v] ∧ Pts w (partPtr (.pointer (some ⟨b, 0, none⟩)) 2) [.int .i64 k, a, u, e] := by
  have hp := pts_block h
  exact ⟨hp, (hp.part 0).take 2, hp.part 2⟩
section
variable {P : Program} {w : World} {ts : List Value} {df : List Deferred} {d : Option Nat} {ty : TypeId} {ps : String} {af : Array Edge} {g : Option (Nat × Bool)}
theorem Runs.fieldA {s : TypeId} {m n off : Nat} {ad : Addr} (hx : ts.getD m undef = .pointer (some ad)) (hf : fieldIs P s n off = true) :
    Runs P (Oper.mk d (.fieldAddr s (.tmp m) n) ty ps af g) (Act.mk ts.toArray df) w (partPtr (.pointer (some ad)) off) := by
  obtain ⟨fs, f, i, ht, hf, ho, hie, hz⟩ := fieldIs_spec hf
  have hx' : (Act.mk ts.toArray df).eval (.tmp m) = .pointer (some ad) := by rw [evalT]; exact hx
  constructor
  simp [execOp, hx', Instr.fieldAt, Instr.sureAddr, run_underlying ht, hf, fieldPlace, sizeOf, typeInfo, hie, hz, partPtr, ho]
end
set_option maxHeartbeats 3000000 in
theorem p_denies (b : Nat) (o : List UInt8) (v : Value) (l : List RSet) (k0 kind : Int) (a : Value) (w0 w : World) (hx : Ext w0 w) (hv : SetsAt w0 v l) (hz : ZoneOk o l) (hbk : w0.heap.size ≤ b)
    (hb : w.heap[b]? = some (.cells (askC o v k0 a (.slice none 0 0) (.slice none 0 0)).toArray 128 (0, 0))) (ha : a.oneCell' = true) :
    Calls Tryz.prog 129 #[.pointer (some ⟨b, 0, none⟩), .int .i64 kind] w fun e w' => e = .returned (.tuple #[]) ∧ Ext w0 w' ∧ Mv (some b) w w' ∧ ∃ u, w'.heap[b]? = some (.cells (askC o v kind a u (.slice none 0 0)).toArray 128 (0, 0)) ∧ Own w.heap.size 4 75 w' u (rcells [denZ o l]) := by
  obtain ⟨hp, hp0, hp2⟩ := ask_pts hb
  have hvw := hv.ext hx
  have hblt := (Array.getElem?_eq_some_iff.1 hb).1
  go_enter Tryz.func129, Tryz.ntmps129
  repeat' (first | ((with_reducible refine o_s ?_); (first | (refine o_1 ?_; refine o_2 ?_) | (refine o_g ?_; first | refine o_u ?_ | refine o_k ?_ | refine o_n ?_ | refine o_v ?_ | ((first | refine o_G ?_ ?_ | refine o_N ?_ ?_) <;> intro hc)))) | ((fail_if_success (with_reducible refine o_s ?_)); go_step))
  refine wpl_callV (enters_of Tryz.func47 rfl rfl) rfl rfl (p_Denial o v l _ hvw hz) ?_; intro w1 x1; refine gset ?_
  repeat' (first | ((with_reducible refine o_s ?_); (first | (refine o_1 ?_; refine o_2 ?_) | (refine o_g ?_; first | refine o_u ?_ | refine o_k ?_ | refine o_n ?_ | refine o_v ?_ | ((first | refine o_G ?_ ?_ | refine o_N ?_ ?_) <;> intro hc)))) | ((fail_if_success (with_reducible refine o_s ?_)); go_step))
  refine wpl_allocB (z := zrec) rfl (by decide +kernel) ?_
  intro w2 x2 s2 h2
  refine gset ?_
  refine wpl_storeB (v := recV (denZ o l)) rfl rfl rfl h2 (show sizeTy Tryz.prog 75 4 = true by decide +kernel) rfl (all4 rfl rfl rfl rfl) ?_
  intro w3 p3
  have x3 : Ext w1 w3 := x2.move p3.mv (by rintro k ⟨⟩; exact Nat.le_refl _)
  have h3 := pts_block (cs := [str (denZ o l).name, .int .i64 (denZ o l).kind, .int .i64 (denZ o l).ttl, str (denZ o l).data]) p3.this
  have x13 := x1.trans x3
  have hb3 := x13.at hb
  have h3b : w3.heap[w1.heap.size]? = some (.cells [str (denZ o l).name, .int .i64 (denZ o l).kind, .int .i64 (denZ o l).ttl, str (denZ o l).data].toArray 75 (0, 0)) := p3.this
  clear p3 h2 x2
  have hzb : b ≠ w1.heap.size := by have := x1.size; omega
  repeat' (first | ((with_reducible refine o_s ?_); (first | (refine o_1 ?_; refine o_2 ?_) | (refine o_g ?_; first | refine o_u ?_ | refine o_k ?_ | refine o_n ?_ | refine o_v ?_ | ((first | refine o_G ?_ ?_ | refine o_N ?_ ?_) <;> intro hc)))) | ((fail_if_success (with_reducible refine o_s ?_)); go_step))
  refine wpi_region 12 (fun w' => Pts w' (.pointer (some ⟨w1.heap.size, 0, none⟩)) [str (denZ o l).name, .int .i64 (denZ o l).kind, .int .i64 (denZ o l).ttl, str (denZ o l).data]) (by decide +kernel) ?_
  intro w4 x4 _
  refine ⟨h3.ext x4, ?_⟩
  ((with_reducible apply wpi_take (i := 0)); (rfl); (rfl); (rfl); (decide +kernel); (decide +kernel); (decide +kernel); (decide +kernel); (rfl); (intro _ _; exact rn); (exact fun _ _ _ h => h); (refine gset ?_)); ((with_reducible apply wpi_take (i := 1)); (rfl); (rfl); (rfl); (decide +kernel); (decide +kernel); (decide +kernel); (decide +kernel); (rfl); (intro _ _; exact rn); (exact fun _ _ _ h => h); (refine gset ?_)); ((with_reducible apply wpi_take (i := 2)); (rfl); (rfl); (rfl); (decide +kernel); (decide +kernel); (decide +kernel); (decide +kernel); (rfl); (intro _ _; exact rn); (exact fun _ _ _ h => h); (refine gset ?_))
  refine wpi_take (i := 3) (v := recV (denZ o l)) rfl rfl (by decide +kernel) (by decide +kernel) (by decide +kernel) (by decide +kernel) (by decide +kernel) rfl (fun w' hF => by exact rn) (fun _ _ _ h => h) ?_
  refine gset ?_
  ((with_reducible apply wpi_pure (i := 5)); (rfl); (rfl); (rfl); (decide +kernel); (decide +kernel); (decide +kernel); (rfl); (intro _; exact rn); (exact fun _ _ _ h => h); (refine gset ?_))
  refine wpi_pure (i := 6) rfl rfl rfl (by decide +kernel) (by decide +kernel) (by decide +kernel) rfl (fun _ => Runs.fieldA (off := 2) rfl (by decide +kernel)) (fun _ _ _ h => h) ?_
  refine gset ?_
  refine wpi_pure (i := 7) rfl rfl rfl (by decide +kernel) (by decide +kernel) (by decide +kernel) rfl (fun _ => Runs.fieldA (off := 0) rfl (by decide +kernel)) (fun _ _ _ h => h) ?_
  refine gset ?_
  have h4 := x4.at h3b
  have hb4 := x4.at hb3
  have x04 := x13.trans x4
  refine wpi_op2 (i := 4) (j := 8) (by decide +kernel) rfl rfl rfl ?_ ?_
  · refine wpl_slice (e := 75) (k := 4) (bytes := 48) (xs := [recV (denZ o l)]) rfl rfl rfl (by simp [Value.cells, recV]) (by decide +kernel) (by simp) ?_
    intro u5 w5 x5 _ sl5 o5
    refine gset ?_
    have h5 := x5.at h4
    have hb5 := x5.at hb4
    refine wph_nil ⟨till_yes (pts_block h5), ?_⟩
    refine wpi_op (i := 8) (by decide +kernel) rfl rfl ?_
    refine wpl_storeF (n := 2) hb5 rfl rfl rfl (by simp [askC]) (by decide +kernel) rfl ?_
    intro w6 p6
    have h6 := p6.at h5 (fun e => hzb e.symm)
    have hb6 : w6.heap[b]? = some (.cells (askC o v kind a (.slice none 0 0) (.slice none 0 0)).toArray 128 (0, 0)) := p6.this
    have o6 := (show Own _ 4 75 w5 u5 (rcells [denZ o l]) from o5).mv p6.mv (.inr (o5.neBlock hb5 (by decide)))
    have m6 : Mv (some b) w w6 := ((x04.trans x5).mv _).trans p6.mv
    have zz := x04.size
    refine wph_nil ⟨till_yes (pts_block h6), ?_⟩
    ((with_reducible apply wpi_pure (i := 9)); (rfl); (rfl); (rfl); (decide +kernel); (decide +kernel); (decide +kernel); (rfl); (intro _; exact rn); (exact fun _ _ _ h => h); (refine gset ?_))
    refine wpi_pure (i := 10) rfl rfl rfl (by decide +kernel) (by decide +kernel) (by decide +kernel) rfl (fun _ => Runs.fieldA (off := 2) rfl (by decide +kernel)) (fun _ _ _ h => h) ?_
    refine gset ?_
    refine wpi_pure (i := 11) rfl rfl rfl (by decide +kernel) (by decide +kernel) (by decide +kernel) rfl (fun _ => Runs.fieldA (off := 2) rfl (by decide +kernel)) (fun _ _ _ h => h) ?_
    refine gset ?_
    refine wpi_op (i := 12) (by decide +kernel) rfl rfl ?_
    refine wpl_storeF (n := 4) hb6 rfl rfl rfl (by simp [askC]) (by decide +kernel) o6.sl.one ?_
    intro w7 p7
    refine wph_nil ⟨till_no rfl, ?_⟩
    refine wpi_done (by decide +kernel) ?_
    repeat' (first | ((with_reducible refine o_s ?_); (first | (refine o_1 ?_; refine o_2 ?_) | (refine o_g ?_; first | refine o_u ?_ | refine o_k ?_ | refine o_n ?_ | refine o_v ?_ | ((first | refine o_G ?_ ?_ | refine o_N ?_ ?_) <;> intro hc)))) | ((fail_if_success (with_reducible refine o_s ?_)); go_step))
    have m7 : Mv (some b) w w7 := m6.trans p7.mv
    refine bodyPost_end (results_none rfl _ _ _) rfl ?_
    exact ⟨rfl, hx.move m7 (by rintro k ⟨⟩; exact hbk), m7, _, p7.this, (o6.mv p7.mv (.inr (o6.neBlock hb6 (by decide)))).weaken zz⟩
  · refine wpl_storeF (n := 2) hb4 rfl rfl rfl (by simp [askC]) (by decide +kernel) rfl ?_
    intro w5 p5
    have h5 := p5.at h4 (fun e => hzb e.symm)
    have hb5 : w5.heap[b]? = some (.cells (askC o v kind a (.slice none 0 0) (.slice none 0 0)).toArray 128 (0, 0)) := p5.this
    refine wph_nil ⟨till_yes (pts_block h5), ?_⟩
    refine wpi_op (i := 4) (by decide +kernel) rfl rfl ?_
    refine wpl_slice (e := 75) (k := 4) (bytes := 48) (xs := [recV (denZ o l)]) rfl rfl rfl (by simp [Value.cells, recV]) (by decide +kernel) (by simp) ?_
    intro u6 w6 x6 _ sl6 o6'
    refine gset ?_
    have h6 := x6.at h5
    have hb6 := x6.at hb5
    have o6 := (show Own _ 4 75 w6 u6 (rcells [denZ o l]) from o6')
    have m6 : Mv (some b) w w6 := ((x04.mv _).trans p5.mv).trans (x6.mv _)
    have zz : w.heap.size ≤ w5.heap.size := Nat.le_trans x04.size (Nat.le_of_eq p5.size.symm)
    refine wph_nil ⟨till_yes (pts_block h6), ?_⟩
    ((with_reducible apply wpi_pure (i := 9)); (rfl); (rfl); (rfl); (decide +kernel); (decide +kernel); (decide +kernel); (rfl); (intro _; exact rn); (exact fun _ _ _ h => h); (refine gset ?_))
    refine wpi_pure (i := 10) rfl rfl rfl (by decide +kernel) (by decide +kernel) (by decide +kernel) rfl (fun _ => Runs.fieldA (off := 2) rfl (by decide +kernel)) (fun _ _ _ h => h) ?_
    refine gset ?_
    refine wpi_pure (i := 11) rfl rfl rfl (by decide +kernel) (by decide +kernel) (by decide +kernel) rfl (fun _ => Runs.fieldA (off := 2) rfl (by decide +kernel)) (fun _ _ _ h => h) ?_
    refine gset ?_
    refine wpi_op (i := 12) (by decide +kernel) rfl rfl ?_
    refine wpl_storeF (n := 4) hb6 rfl rfl rfl (by simp [askC]) (by decide +kernel) o6.sl.one ?_
    intro w7 p7
    refine wph_nil ⟨till_no rfl, ?_⟩
    refine wpi_done (by decide +kernel) ?_
    repeat' (first | ((with_reducible refine o_s ?_); (first | (refine o_1 ?_; refine o_2 ?_) | (refine o_g ?_; first | refine o_u ?_ | refine o_k ?_ | refine o_n ?_ | refine o_v ?_ | ((first | refine o_G ?_ ?_ | refine o_N ?_ ?_) <;> intro hc)))) | ((fail_if_success (with_reducible refine o_s ?_)); go_step))
    have m7 : Mv (some b) w w7 := m6.trans p7.mv
    refine bodyPost_end (results_none rfl _ _ _) rfl ?_
    exact ⟨rfl, hx.move m7 (by rintro k ⟨⟩; exact hbk), m7, _, p7.this, (o6.mv p7.mv (.inr (o6.neBlock hb6 (by decide)))).weaken zz⟩
theorem isIn_root {o : List UInt8} {l : List RSet} (h : ZoneOk o l) : isIn l [] = true := by
  obtain ⟨s, hs, h1, _⟩ := h.soaSet
  have hm := h.small h1
  refine List.any_eq_true.2 ⟨s, h1, ?_⟩
  have ht := turned_some (n := s.name)
  rw [hm.2] at ht
  obtain ⟨a, ha⟩ := Option.isSome_iff_exists.1 ht
  have hr : turned [] = some [] := rfl
  rw [under_iff ha hr]
  simp
theorem above_here {l : List RSet} {ls : List (List UInt8)} (h : isIn l (enc ls) = true) : aboveL l ls = ls := by
  cases ls with
  | nil => rfl
  | cons x t => rw [aboveL, if_pos h]
theorem above_up {l : List RSet} {x : List UInt8} {t : List (List UInt8)} (h : isIn l (enc (x :: t)) = false) : aboveL l (x :: t) = aboveL l t := by
  rw [aboveL, if_neg (by simp [h])]
theorem tcells_one' {l : List (List UInt8)} : ∀ f ∈ tcells l, ∀ u ∈ f, u.oneCell' = true := by
  intro f hf u hu
  obtain ⟨r, _, rfl⟩ := List.mem_map.1 hf
  simp only [List.mem_cons, List.not_mem_nil, or_false] at hu
  subst hu
  rfl
theorem enc_tail (x : List UInt8) (t : List (List UInt8)) : (enc t).length < (enc (x :: t)).length := by simp [enc]; omega
set_option maxHeartbeats 4000000 in
theorem p_sets (o : List UInt8) (v : Value) (l : List RSet) (n : List UInt8) (w0 w : World) (hx0 : Ext w0 w) (hv0 : SetsAt w0 v l) (hz : ZoneOk o l) (hn : (labels n).isSome = true) :
    Calls Tryz.prog 128 #[.agg #[str o, v], str n] w (Ret w fun r w' => ∃ u css, r = .tuple #[u, .bool (setsB l n)] ∧ Own w.heap.size 4 55 w' u css ∧ SetsC w0 css (setsP l n)) := by
  have hv := hv0.ext hx0
  have hl := zone_len hz
  have hex : ∀ (m : List UInt8) (w' : World), SetsAt w' v l → Calls Tryz.prog 166 #[.agg #[str o, v], str m] w' (RetV w' (.bool (isIn l m))) := fun m w' h => p_exists o v l m w' h
  obtain ⟨ls0, hls0⟩ := Option.isSome_iff_exists.1 hn
  obtain ⟨f1, f2, f3⟩ := labels_fit hls0
  go_enter Tryz.func128, Tryz.ntmps128
  repeat' ((fail_if_success (with_reducible refine o_s ?_)); go_step)
  refine wpl_box (vs := [str o, v]) rfl rfl ?_
  intro p w1 x1 hp
  refine gset ?_
  have hv1 := hv.ext x1
  repeat' (first | ((with_reducible refine o_s ?_); (first | (refine o_1 ?_; refine o_2 ?_) | (refine o_g ?_; first | refine o_u ?_ | refine o_k ?_ | refine o_n ?_ | refine o_v ?_ | ((first | refine o_G ?_ ?_ | refine o_N ?_ ?_) <;> intro hc)))) | ((fail_if_success (with_reducible refine o_s ?_)); go_step))
  refine wpl_callV (enters_of Tryz.func166 rfl rfl) rfl rfl (hex n _ hv1) ?_; intro w2 x2; refine gset ?_
  have hx2 := x1.trans x2
  have hp2 := hp.ext x2
  have hv2 := hv.ext hx2
  cases hi : isIn l n with
  | true =>
    repeat' (first | ((with_reducible refine o_s ?_); (first | (refine o_1 ?_; refine o_2 ?_) | (refine o_g ?_; first | refine o_u ?_ | refine o_k ?_ | refine o_n ?_ | refine o_v ?_ | ((first | refine o_G ?_ ?_ | refine o_N ?_ ?_) <;> intro hc)))) | ((fail_if_success (with_reducible refine o_s ?_)); go_step))
    refine wpl_callR (enters_of Tryz.func167 rfl rfl) rfl rfl (p_at o v l n n w0 _ (hx0.trans hx2) hv0 (by omega)) ?_
    intro u w3 x3 ho
    obtain ⟨css, ho, hc⟩ := ho
    repeat' (first | ((with_reducible refine o_s ?_); (first | (refine o_1 ?_; refine o_2 ?_) | (refine o_g ?_; first | refine o_u ?_ | refine o_k ?_ | refine o_n ?_ | refine o_v ?_ | ((first | refine o_G ?_ ?_ | refine o_N ?_ ?_) <;> intro hc)))) | ((fail_if_success (with_reducible refine o_s ?_)); go_step))
    go_ret2
    exact ⟨_, rfl, hx2.trans x3, u, css, by rw [setsB, hi]; rfl, ho.weaken hx2.size, by rw [setsP, if_pos hi]; exact hc⟩
  | false =>
    repeat' (first | ((with_reducible refine o_s ?_); (first | (refine o_1 ?_; refine o_2 ?_) | (refine o_g ?_; first | refine o_u ?_ | refine o_k ?_ | refine o_n ?_ | refine o_v ?_ | ((first | refine o_G ?_ ?_ | refine o_N ?_ ?_) <;> intro hc)))) | ((fail_if_success (with_reducible refine o_s ?_)); go_step))
    go_loopw [6] (fun a wr => ∃ ls : List (List UInt8), a = str (enc ls) ∧ Ext w2 wr ∧ ls.all fitL = true ∧ (enc ls).length ≤ 254 ∧ aboveL l ls = aboveL l ls0) (fun a _ => strLen a)
    case atStart => exact ⟨ls0, by rw [f2], Ext.refl _, f1, by rw [f2]; exact f3, rfl⟩
    case round =>
      obtain ⟨ls, rfl, hx, g1, g2, g3⟩ := hrel
      have hvr := hv2.ext hx
      have hpr := hp2.ext hx
      repeat' (first | ((with_reducible refine o_s ?_); (first | (refine o_1 ?_; refine o_2 ?_) | (refine o_g ?_; first | refine o_u ?_ | refine o_k ?_ | refine o_n ?_ | refine o_v ?_ | ((first | refine o_G ?_ ?_ | refine o_N ?_ ?_) <;> intro hc)))) | ((fail_if_success (with_reducible refine o_s ?_)); go_step))
      refine wpl_callV (enters_of Tryz.func166 rfl rfl) rfl rfl (hex (enc ls) _ hvr) ?_; intro w4 x4; refine gset ?_
      have hx4 := hx.trans x4
      cases hi4 : isIn l (enc ls) with
      | false =>
        cases ls with
        | nil => rw [show enc [] = [] from rfl, isIn_root hz] at hi4; cases hi4
        | cons x t =>
          repeat' (first | ((with_reducible refine o_s ?_); (first | (refine o_1 ?_; refine o_2 ?_) | (refine o_g ?_; first | refine o_u ?_ | refine o_k ?_ | refine o_n ?_ | refine o_v ?_ | ((first | refine o_G ?_ ?_ | refine o_N ?_ ?_) <;> intro hc)))) | ((fail_if_success (with_reducible refine o_s ?_)); go_step))
          refine wpl_callV (enters_of Tryz.func168 rfl rfl) rfl rfl (p_Parent _ (labels_enc g1 g2)) ?_; intro w5 x5; refine gset ?_
          repeat' (first | ((with_reducible refine o_s ?_); (first | (refine o_1 ?_; refine o_2 ?_) | (refine o_g ?_; first | refine o_u ?_ | refine o_k ?_ | refine o_n ?_ | refine o_v ?_ | ((first | refine o_G ?_ ?_ | refine o_N ?_ ?_) <;> intro hc)))) | ((fail_if_success (with_reducible refine o_s ?_)); go_step))
          have ht := enc_tail x t
          exact ⟨⟨t, rfl, hx4.trans x5, by simp at g1; simp; exact g1.2, by omega, by rw [← g3, above_up hi4]⟩, by simp [strLen_str]; omega⟩
      | true =>
        have hab : aboveL l ls = ls := above_here hi4
        rw [hab] at g3
        have hp4 := hpr.ext x4
        repeat' (first | ((with_reducible refine o_s ?_); (first | (refine o_1 ?_; refine o_2 ?_) | (refine o_g ?_; first | refine o_u ?_ | refine o_k ?_ | refine o_n ?_ | refine o_v ?_ | ((first | refine o_G ?_ ?_ | refine o_N ?_ ?_) <;> intro hc)))) | ((fail_if_success (with_reducible refine o_s ?_)); go_step))
        refine wpl_slice (e := 9) (k := 1) (bytes := 16) (xs := [str [42]]) rfl rfl rfl (by simp [str, Value.cells]) (by decide +kernel) (by simp) ?_
        intro v5 w5 x5 _ sl5 o5
        refine gset ?_
        repeat' (first | ((with_reducible refine o_s ?_); (first | (refine o_1 ?_; refine o_2 ?_) | (refine o_g ?_; first | refine o_u ?_ | refine o_k ?_ | refine o_n ?_ | refine o_v ?_ | ((first | refine o_G ?_ ?_ | refine o_N ?_ ?_) <;> intro hc)))) | ((fail_if_success (with_reducible refine o_s ?_)); go_step))
        refine wpl_callR (enters_of Tryz.func169 rfl rfl) rfl rfl (p_Labels (enc ls) _) ?_
        intro v6 w6 x6 o6
        rw [labels_enc g1 g2] at o6
        refine gset ?_
        have o5' := (show Own _ 1 9 w5 v5 (tcells [[42]]) from o5).ext x6
        have hlen : ls.length ≤ 254 := by have := len_le_enc ls; omega
        refine wpl_appendO (e := 9) (k := 1) rfl o5' rfl o6.sl tcells_one' (Nat.le_trans x5.size x6.size) (by simp [tcells]; omega) ?_
        intro v7 w7 o7 m7 _
        refine gset ?_
        have x7 := o5'.mvx m7 (x5.trans x6) (Nat.le_refl _)
        have hst : starN l n = (join ([42] :: ls)).getD [] := by rw [starN, hls0, Option.getD_some, ← g3]
        have hv7 := (hvr.ext x4).ext x7
        have hp7 := hp4.ext x7
        have hx7 := hx2.trans (hx4.trans x7)
        repeat' (first | ((with_reducible refine o_s ?_); (first | (refine o_1 ?_; refine o_2 ?_) | (refine o_g ?_; first | refine o_u ?_ | refine o_k ?_ | refine o_n ?_ | refine o_v ?_ | ((first | refine o_G ?_ ?_ | refine o_N ?_ ?_) <;> intro hc)))) | ((fail_if_success (with_reducible refine o_s ?_)); go_step))
        obtain ⟨e8, c8⟩ : ∃ e : Int, Calls Tryz.prog 116 #[v7] w7 (RetV w7 (.tuple #[str (starN l n), .int .i64 e])) := by
          have h := t30 v7 ([42] :: ls) w7 o7.sl (by simp; omega)
          rw [hst]
          cases hj : join ([42] :: ls) with
          | none => rw [hj] at h; exact ⟨1, h⟩
          | some m => rw [hj] at h; exact ⟨0, h⟩
        refine wpl_callV (enters_of Tryz.func116 rfl rfl) rfl rfl (c8) ?_; intro w8 x8; refine gset ?_
        have hv8 := hv7.ext x8
        have hp8 := hp7.ext x8
        have hx8 := hx7.trans x8
        repeat' (first | ((with_reducible refine o_s ?_); (first | (refine o_1 ?_; refine o_2 ?_) | (refine o_g ?_; first | refine o_u ?_ | refine o_k ?_ | refine o_n ?_ | refine o_v ?_ | ((first | refine o_G ?_ ?_ | refine o_N ?_ ?_) <;> intro hc)))) | ((fail_if_success (with_reducible refine o_s ?_)); go_step))
        refine wpl_callR (enters_of Tryz.func167 rfl rfl) rfl rfl (p_at o v l (starN l n) n w0 _ (hx0.trans hx8) hv0 (by omega)) ?_
        intro u w9 x9 ho
        obtain ⟨css, ho, hc⟩ := ho
        have su := ho.sl
        have hcl := hc.len
        repeat' (first | ((with_reducible refine o_s ?_); (first | (refine o_1 ?_; refine o_2 ?_) | (refine o_g ?_; first | refine o_u ?_ | refine o_k ?_ | refine o_n ?_ | refine o_v ?_ | ((first | refine o_G ?_ ?_ | refine o_N ?_ ?_) <;> intro hc)))) | ((fail_if_success (with_reducible refine o_s ?_)); go_step))
        go_ret2
        refine ⟨_, rfl, hx8.trans x9, u, css, ?_, ho.weaken hx8.size, by rw [setsP, if_neg (by simp [hi])]; exact hc⟩
        rw [setsB, hi, Bool.false_or, ← hcl]
        congr 4
        simp
end Go.Proofs.X
