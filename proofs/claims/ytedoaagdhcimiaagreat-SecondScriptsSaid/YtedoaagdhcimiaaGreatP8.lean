/- Laws and walks that the proof of the statement is made of (part 8). -/
import Derived.Test.YtedoaagdhcimiaaGreatProg
import Derived.Test.YtedoaagdhcimiaaGreatShelf
import Derived.Lib.Hide
import Derived.Shelf.SlSortCmp.NoneTotal
import Derived.OwnWalk
import Derived.Shelf.RegionOpenPlain
import Derived.Lib.Strings
import Derived.Lib.Slices
import Derived.Lib.Walk
import Derived.Lib.Builder
import Derived.Lib.AppendStr
import Derived.Lib.UnsafeStr
import Derived.Lib.MakeNoZero
import Derived.WalkKit
import Derived.Laws.Externs
import Derived.Laws.IdiomCopy
import Derived.Laws.BitsLemmas
import GoSem.Claims
import Derived.Test.YtedoaagdhcimiaaGreatP1
import Derived.Test.YtedoaagdhcimiaaGreatP2
import Derived.Test.YtedoaagdhcimiaaGreatP3
import Derived.Test.YtedoaagdhcimiaaGreatP4
import Derived.Test.YtedoaagdhcimiaaGreatP5
import Derived.Test.YtedoaagdhcimiaaGreatP6
import Derived.Test.YtedoaagdhcimiaaGreatP7
set_option linter.unusedSimpArgs false
set_option linter.unusedVariables false
namespace Go.Proofs.X
open Go.RowKit
set_option maxRecDepth 100000
def labN (n : List UInt8) : Nat := ((labels n).getD []).length
def cutStep (o n : List UInt8) (b : List UInt8 × Bool) (s : RSet) : List UInt8 × Bool :=
 if s.kind = 2 ∧ s.name ≠ o ∧ underN n s.name = true ∧ (b.2 = false ∨ labN s.name < labN b.1) then (s.name, true) else b
def cutR (o : List UInt8) (l : List RSet) (n : List UInt8) : List UInt8 × Bool := l.foldl (cutStep o n) ([], false)
theorem cut_take {o n : List UInt8} {l : List RSet} {k : Nat} (hk : k < l.length) : cutR o (l.take (k + 1)) n = cutStep o n (cutR o (l.take k) n) l[k] := by
 rw [List.take_succ_eq_append_getElem hk, cutR, List.foldl_append]; rfl
set_option maxHeartbeats 3000000 in
theorem r8_cut (o : List UInt8) (v : Value) (l : List RSet) (n : List UInt8) (w : World) (hv : SetsAt w v l) : Calls Tryz.prog 205 #[.agg #[str o, v], str n] w (RetV w (.tuple #[str (cutR o l n).1, .bool (cutR o l n).2])) := by
 obtain ⟨cv, hv1, hvl⟩ := hv.sl
 have hle := hv1.le
 go_enter Tryz.func205, Tryz.ntmps205
 repeat' (first | ((with_reducible refine nx0 ?_); go_step) | fail)
 refine wpl_box (vs := [str o, v]) rfl rfl ?_
 intro p w1 x1 hp
 refine gset ?_
 (repeat' first | ((with_reducible refine nx0 ?_); go_step) | ((with_reducible refine o_s ?_); first | refine wk0 ?_ | (refine wg0 ?_ ?_ <;> intro hc)) | fail)
 go_loopw [6, 7, 8, 9] (fun b f i _ wr => ∃ k : Nat, k ≤ l.length ∧ i = .int .i64 k ∧ b = str (cutR o (l.take k) n).1 ∧ f = .bool (cutR o (l.take k) n).2 ∧ Ext w1 wr) (fun _ _ i _ _ => l.length - (intOf i).toNat)
 case atStart => exact ⟨0, Nat.zero_le _, rfl, rfl, rfl, Ext.refl _⟩
 case round =>
  obtain ⟨k, hk, rfl, rfl, rfl, hx⟩ := hrel
  have hxw : Ext w wr := x1.trans hx
  have hv2 := hv1.ext hxw
  have hp2 := hp.ext hx
  by_cases hlt : k < l.length
  ·obtain ⟨x, h4, h4d⟩ := (hv.ext hxw).elem (List.getElem?_eq_getElem hlt)
   (repeat' first | ((with_reducible refine nx0 ?_); go_step) | ((with_reducible refine o_s ?_); first | refine wk0 ?_ | (refine wg0 ?_ ?_ <;> intro hc)) | fail)
   refine wpl_allocB (z := zset) rfl (by decide +kernel) ?_
   intro w2 x2 s2 h2
   refine gset ?_
   refine wpl_storeB (v := .agg #[str l[k].name, .int .i64 l[k].kind, .int .i64 l[k].ttl, x]) rfl rfl rfl h2 (show sizeTy Tryz.prog 115 4 = true by decide +kernel) rfl (all4 rfl rfl rfl (h4d.ext x2).one) ?_
   intro w3 p3
   have x3 : Ext wr w3 := x2.move p3.mv (by rintro k ⟨⟩; have := hxw.size; omega)
   have h3 : Pts w3 (.pointer (some ⟨wr.heap.size, 0, none⟩)) [str l[k].name, .int .i64 l[k].kind, .int .i64 l[k].ttl, x] := pts_block p3.this
   have hp3 := hp2.ext x3
   have hstep := cut_take (o := o) (n := n) hlt
   generalize hg : cutR o (l.take k) n = g at *
   obtain ⟨best, found⟩ := g
   have hsame : ¬ (l[k].kind = 2 ∧ l[k].name ≠ o ∧ underN n l[k].name = true ∧ (found = false ∨ labN l[k].name < labN best)) → cutR o (l.take (k + 1)) n = (best, found) := fun h => by
    rw [hstep, cutStep, if_neg h]
   have hnew : (l[k].kind = 2 ∧ l[k].name ≠ o ∧ underN n l[k].name = true ∧ (found = false ∨ labN l[k].name < labN best)) → cutR o (l.take (k + 1)) n = (l[k].name, true) := fun h => by
    rw [hstep, cutStep, if_pos h]
   (repeat' first | ((with_reducible refine nx0 ?_); go_step) | ((with_reducible refine o_s ?_); first | refine wk0 ?_ | (refine wg0 ?_ ?_ <;> intro hc)) | fail)
   ·have hne : l[k].name ≠ o := by simpa using hc
    have hk2 : l[k].kind = 2 := by assumption
    refine wpl_callV (enters_of Tryz.func204 rfl rfl) rfl rfl (r1_Under _ _ _) ?_; intro w4 x4; refine gset ?_
    have hx4 := hx.trans (x3.trans x4)
    have h5 := h3.ext x4
    cases hu : underN n l[k].name with
    | false =>
     (repeat' first | ((with_reducible refine nx0 ?_); go_step) | ((with_reducible refine o_s ?_); first | refine wk0 ?_ | (refine wg0 ?_ ?_ <;> intro hc)) | fail)
     have h := hsame (fun h => absurd h.2.2.1 (by rw [hu]; decide))
     exact ⟨⟨k + 1, by omega, by go_num, by rw [h], by rw [h], hx4⟩, by simp [intOf]; omega⟩
    | true =>
     cases found with
     | false =>
      (repeat' first | ((with_reducible refine nx0 ?_); go_step) | ((with_reducible refine o_s ?_); first | refine wk0 ?_ | (refine wg0 ?_ ?_ <;> intro hc)) | fail)
      have h := hnew ⟨hk2, hne, hu, .inl rfl⟩
      exact ⟨⟨k + 1, by omega, by go_num, by rw [h], by rw [h], hx4⟩, by simp [intOf]; omega⟩
     | true =>
      (repeat' first | ((with_reducible refine nx0 ?_); go_step) | ((with_reducible refine o_s ?_); first | refine wk0 ?_ | (refine wg0 ?_ ?_ <;> intro hc)) | fail)
      refine wpl_callR (enters_of Tryz.func252 rfl rfl) rfl rfl (r1_Labels l[k].name _) ?_
      intro v5 w5 x5 o5
      have hl5 := tcells_length ((labels l[k].name).getD [])
      have hs5 := o5.sl
      have h6 := h5.ext x5
      refine gset ?_
      (repeat' first | ((with_reducible refine nx0 ?_); go_step) | ((with_reducible refine o_s ?_); first | refine wk0 ?_ | (refine wg0 ?_ ?_ <;> intro hc)) | fail)
      refine wpl_callR (enters_of Tryz.func252 rfl rfl) rfl rfl (r1_Labels best _) ?_
      intro v6 w6 x6 o6
      have hl6 := tcells_length ((labels best).getD [])
      have hs6 := o6.sl
      have h7 := h6.ext x6
      have hx7 := hx4.trans (x5.trans x6)
      refine gset ?_
      (repeat' first | ((with_reducible refine nx0 ?_); go_step) | ((with_reducible refine o_s ?_); first | refine wk0 ?_ | (refine wg0 ?_ ?_ <;> intro hc)) | fail)
      ·rename_i hh
       have h := hnew ⟨hk2, hne, hu, .inr (by simp only [labN]; omega)⟩
       exact ⟨⟨k + 1, by omega, by go_num, by rw [h], by rw [h], hx7⟩, by simp [intOf]; omega⟩
      ·rename_i hh
       have h := hsame (fun h => by have h8 := h.2.2.2; simp only [labN] at h8; rcases h8 with h8 | h8; cases h8; omega)
       exact ⟨⟨k + 1, by omega, by go_num, by rw [h], by rw [h], hx7⟩, by simp [intOf]; omega⟩
   ·have h := hsame (fun h => by first | exact absurd h.1 hc | exact h.2.1 (by simpa using hc))
    exact ⟨⟨k + 1, by omega, by go_num, by rw [h], by rw [h], hx.trans x3⟩, by simp [intOf]; omega⟩
   ·have h := hsame (fun h => by first | exact absurd h.1 hc | exact h.2.1 (by simpa using hc))
    exact ⟨⟨k + 1, by omega, by go_num, by rw [h], by rw [h], hx.trans x3⟩, by simp [intOf]; omega⟩
  ·have : k = l.length := by omega
   subst this
   rw [List.take_length]
   (repeat' first | ((with_reducible refine nx0 ?_); go_step) | ((with_reducible refine o_s ?_); first | refine wk0 ?_ | (refine wg0 ?_ ?_ <;> intro hc)) | fail)
   go_ret2
   exact ⟨rfl, hxw⟩
def lastR (o : List UInt8) (l : List RSet) (s : RSet) : Bool :=
 !(cutR o l s.name).2 || decide (s.kind = 1) || decide (s.kind = 28) || (decide (s.kind = 2) && decide (s.name = (cutR o l s.name).1))
def clash (s t : RSet) : Bool := decide (t.name = s.name) && decide (t.kind ≠ 5)
def rightR (o : List UInt8) (l : List RSet) (s : RSet) : Bool :=
 underN s.name o && !(decide (s.kind = 6) && (decide (s.name ≠ o) || decide (s.data.length ≠ 1))) && !(decide (s.kind = 5) && (decide (s.data.length ≠ 1) || l.any (clash s))) && lastR o l s
set_option maxHeartbeats 3000000 in
theorem r8_right (o : List UInt8) (v : Value) (l : List RSet) (s : RSet) (u : Value) (w : World) (hv : SetsAt w v l) (hu : Sl 1 w u (tcells s.data)) : Calls Tryz.prog 154 #[.agg #[str o, v], .agg #[str s.name, .int .i64 s.kind, .int .i64 s.ttl, u]] w (RetV w (.bool (rightR o l s))) := by
 obtain ⟨cv, hv1, hvl⟩ := hv.sl
 have hle := hv1.le
 have hlen := tcells_length s.data
 go_enter Tryz.func154, Tryz.ntmps154
 repeat' (first | ((with_reducible refine nx0 ?_); go_step) | fail)
 refine wpl_box (vs := [str o, v]) rfl rfl ?_
 intro p w1 x1 hp
 refine gset ?_
 repeat' (first | ((with_reducible refine nx0 ?_); go_step) | fail)
 refine wpl_box (vs := [str s.name, .int .i64 s.kind, .int .i64 s.ttl, u]) rfl rfl ?_
 intro q w2 x2 hq
 refine gset ?_
 have hp2 := hp.ext x2
 have hx2 := x1.trans x2
 (repeat' first | ((with_reducible refine nx0 ?_); go_step) | ((with_reducible refine o_s ?_); first | refine wk0 ?_ | (refine wg0 ?_ ?_ <;> intro hc)) | fail)
 refine wpl_callV (enters_of Tryz.func204 rfl rfl) rfl rfl (r1_Under _ _ _) ?_; intro w3 x3; refine gset ?_
 have hp3 := hp2.ext x3
 have hq3 := hq.ext x3
 have hx3 := hx2.trans x3
 have hu3 := hu.ext hx3
 have hv3 := hv1.ext hx3
 have hs3 := hv.ext hx3
 cases hn : underN s.name o with
 | false =>
  (repeat' first | ((with_reducible refine nx0 ?_); go_step) | ((with_reducible refine o_s ?_); first | refine wk0 ?_ | (refine wg0 ?_ ?_ <;> intro hc)) | fail)
  go_ret
  exact ⟨by simp [rightR, hn], hx3⟩
 | true =>
  (repeat' first | ((with_reducible refine nx0 ?_); go_step) | ((with_reducible refine o_s ?_); first | refine wk0 ?_ | (refine wg0 ?_ ?_ <;> intro hc)) | fail)
  all_goals try (go_ret; exact ⟨by first | (simp_all [rightR]; done) | (simp_all [rightR]; intro h; omega), hx3⟩)
  ·have hR : rightR o l s = lastR o l s := by
    have : decide (s.data.length ≠ 1) = false := by simp_all; omega
    simp_all [rightR]
   refine wpl_callV (enters_of Tryz.func205 rfl rfl) rfl rfl (r8_cut o v l s.name _ (hs3)) ?_; intro w4 x4; refine gset ?_
   generalize hcut : cutR o l s.name = g at *
   obtain ⟨c, is⟩ := g
   cases is with
   | false =>
    (repeat' first | ((with_reducible refine nx0 ?_); go_step) | ((with_reducible refine o_s ?_); first | refine wk0 ?_ | (refine wg0 ?_ ?_ <;> intro hc)) | fail)
    go_ret
    exact ⟨by rw [hR]; simp [lastR, hcut], (hx3).trans x4⟩
   | true =>
    have hq4 := (hq3).ext x4
    (repeat' first | ((with_reducible refine nx0 ?_); go_step) | ((with_reducible refine o_s ?_); first | refine wk0 ?_ | (refine wg0 ?_ ?_ <;> intro hc)) | fail)
    all_goals (go_ret; exact ⟨by rw [hR]; simp_all [lastR], hx3.trans x4⟩)
  ·have h5 : s.kind = 5 := by assumption
   have hd1 : decide (s.data.length ≠ 1) = false := by simp_all; omega
   go_loopw [5] (fun i wr => ∃ k : Nat, k ≤ l.length ∧ i = .int .i64 k ∧ Ext w3 wr ∧ (l.take k).any (clash s) = false) (fun i _ => l.length - (intOf i).toNat)
   case atStart => exact ⟨0, Nat.zero_le _, rfl, Ext.refl _, rfl⟩
   case round =>
    obtain ⟨k, hk, rfl, hx, hall⟩ := hrel
    have hxw : Ext w wr := hx3.trans hx
    have hv4 := hv1.ext hxw
    have hp4 := hp3.ext hx
    have hq4 := hq3.ext hx
    by_cases hlt : k < l.length
    ·obtain ⟨x, h4, h4d⟩ := (hv.ext hxw).elem (List.getElem?_eq_getElem hlt)
     (repeat' first | ((with_reducible refine nx0 ?_); go_step) | ((with_reducible refine o_s ?_); first | refine wk0 ?_ | (refine wg0 ?_ ?_ <;> intro hc)) | fail)
     refine wpq_region (by decide +kernel) (by decide +kernel) ?_
     (try ((with_reducible refine qh0 ?_); refine qk0 ?_))
     by_cases q1 : l[k].name = s.name
     ·rw [decide_eq_true q1]
      (try ((with_reducible refine qh0 ?_); refine qk0 ?_))
      by_cases q2 : l[k].kind = 5
      ·rw [decide_eq_true q2]
       (try ((with_reducible refine qh0 ?_); refine qk0 ?_))
       intro w5 x5
       (repeat' first | ((with_reducible refine nx0 ?_); go_step) | ((with_reducible refine o_s ?_); first | refine wk0 ?_ | (refine wg0 ?_ ?_ <;> intro hc)) | fail)
       exact ⟨⟨k + 1, by omega, by go_num, hx.trans x5, any_take hlt hall (by simp [clash, q2])⟩, by simp [intOf]; omega⟩
      ·rw [decide_eq_false q2]
       (try ((with_reducible refine qh0 ?_); refine qk0 ?_))
       intro w5 x5
       (repeat' first | ((with_reducible refine nx0 ?_); go_step) | ((with_reducible refine o_s ?_); first | refine wk0 ?_ | (refine wg0 ?_ ?_ <;> intro hc)) | fail)
       have hcl : l.any (clash s) = true := any_at hlt (by simp [clash, q1, q2])
       go_ret
       exact ⟨by rw [show rightR o l s = false by simp [rightR, hcl, h5]]; rfl, hxw.trans x5⟩
     ·rw [decide_eq_false q1]
      (try ((with_reducible refine qh0 ?_); refine qk0 ?_))
      intro w5 x5
      (repeat' first | ((with_reducible refine nx0 ?_); go_step) | ((with_reducible refine o_s ?_); first | refine wk0 ?_ | (refine wg0 ?_ ?_ <;> intro hc)) | fail)
      exact ⟨⟨k + 1, by omega, by go_num, hx.trans x5, any_take hlt hall (by simp [clash, q1])⟩, by simp [intOf]; omega⟩
    ·have : k = l.length := by omega
     subst this
     rw [List.take_length] at hall
     have hR : rightR o l s = lastR o l s := by simp_all [rightR]
     (repeat' first | ((with_reducible refine nx0 ?_); go_step) | ((with_reducible refine o_s ?_); first | refine wk0 ?_ | (refine wg0 ?_ ?_ <;> intro hc)) | fail)
     refine wpl_callV (enters_of Tryz.func205 rfl rfl) rfl rfl (r8_cut o v l s.name _ (hs3.ext hx)) ?_; intro w5 x5; refine gset ?_
     generalize hcut : cutR o l s.name = g at *
     obtain ⟨c, is⟩ := g
     cases is with
     | false =>
      (repeat' first | ((with_reducible refine nx0 ?_); go_step) | ((with_reducible refine o_s ?_); first | refine wk0 ?_ | (refine wg0 ?_ ?_ <;> intro hc)) | fail)
      go_ret
      exact ⟨by rw [hR]; simp [lastR, hcut], hxw.trans x5⟩
     | true =>
      have hq5 := hq4.ext x5
      (repeat' first | ((with_reducible refine nx0 ?_); go_step) | ((with_reducible refine o_s ?_); first | refine wk0 ?_ | (refine wg0 ?_ ?_ <;> intro hc)) | fail)
      all_goals (go_ret; exact ⟨by rw [hR]; simp_all [lastR], hxw.trans x5⟩)
  ·have hR : rightR o l s = lastR o l s := by simp_all [rightR]
   refine wpl_callV (enters_of Tryz.func205 rfl rfl) rfl rfl (r8_cut o v l s.name _ (hs3)) ?_; intro w4 x4; refine gset ?_
   generalize hcut : cutR o l s.name = g at *
   obtain ⟨c, is⟩ := g
   cases is with
   | false =>
    (repeat' first | ((with_reducible refine nx0 ?_); go_step) | ((with_reducible refine o_s ?_); first | refine wk0 ?_ | (refine wg0 ?_ ?_ <;> intro hc)) | fail)
    go_ret
    exact ⟨by rw [hR]; simp [lastR, hcut], (hx3).trans x4⟩
   | true =>
    have hq4 := (hq3).ext x4
    (repeat' first | ((with_reducible refine nx0 ?_); go_step) | ((with_reducible refine o_s ?_); first | refine wk0 ?_ | (refine wg0 ?_ ?_ <;> intro hc)) | fail)
    all_goals (go_ret; exact ⟨by rw [hR]; simp_all [lastR], hx3.trans x4⟩)
def aheadS (a b : RSet) : Bool := decide (cmpN a.name b.name < 0) || (decide (cmpN a.name b.name = 0) && decide (a.kind < b.kind))
set_option maxHeartbeats 6000000 in
theorem r7_ahead (a b : RSet) (u v : Value) (w : World) : Calls Tryz.prog 203 #[.agg #[str a.name, .int .i64 a.kind, .int .i64 a.ttl, u], .agg #[str b.name, .int .i64 b.kind, .int .i64 b.ttl, v]] w (RetV w (.bool (aheadS a b))) := by
 go_enter Tryz.func203, Tryz.ntmps203
 repeat' (first | ((with_reducible refine nx0 ?_); go_step) | fail)
 refine wpl_box (vs := [str a.name, .int .i64 a.kind, .int .i64 a.ttl, u]) rfl rfl ?_
 intro p w1 x1 hp
 refine gset ?_
 refine wpl_box (vs := [str b.name, .int .i64 b.kind, .int .i64 b.ttl, v]) rfl rfl ?_
 intro q w2 x2 hq
 refine gset ?_
 have hp := hp.ext x2
 (repeat' first | ((with_reducible refine nx0 ?_); go_step) | ((with_reducible refine o_s ?_); first | refine wk0 ?_ | (refine wg0 ?_ ?_ <;> intro hc)) | fail)
 refine wpl_callV (enters_of Tryz.func251 rfl rfl) rfl rfl (r1_Compare a.name b.name _) ?_; intro w3 x3; refine gset ?_
 have hp := hp.ext x3
 have hq := hq.ext x3
 have x := (x1.trans x2).trans x3
 (repeat' first | ((with_reducible refine nx0 ?_); go_step) | ((with_reducible refine o_s ?_); first | refine wk0 ?_ | (refine wg0 ?_ ?_ <;> intro hc)) | fail)
 ·have c1 := ‹¬cmpN a.name b.name < 0›
  have c2 := ‹cmpN a.name b.name = 0›
  go_ret
  exact ⟨by simp [aheadS, c2], x⟩
 ·have c1 := ‹¬cmpN a.name b.name < 0›
  have c2 := ‹¬cmpN a.name b.name = 0›
  go_ret
  exact ⟨by rw [aheadS, decide_eq_false c1, decide_eq_false c2]; rfl, x⟩
 ·have c1 := ‹cmpN a.name b.name < 0›
  go_ret
  exact ⟨by rw [aheadS, decide_eq_true c1]; rfl, x⟩
set_option maxHeartbeats 6000000 in
theorem r7_May (s : RSet) (v : Value) (w : World) (hv : Sl 1 w v (tcells s.data)) (hd : ∀ d ∈ s.data, d.length ≤ 4611686018427387904) : Calls Tryz.prog 202 #[.agg #[str s.name, .int .i64 s.kind, .int .i64 s.ttl, v]] w (RetV w (.bool (mayS s))) := by
 have hlen := tcells_length s.data
 have hle := hv.le
 go_enter Tryz.func202, Tryz.ntmps202
 repeat' (first | ((with_reducible refine nx0 ?_); go_step) | fail)
 refine wpl_box (vs := [str s.name, .int .i64 s.kind, .int .i64 s.ttl, v]) rfl rfl ?_
 intro p w1 x1 hp
 refine gset ?_
 have hv1 := hv.ext x1
 (repeat' first | ((with_reducible refine nx0 ?_); go_step) | ((with_reducible refine o_s ?_); first | refine wk0 ?_ | (refine wg0 ?_ ?_ <;> intro hc)) | fail)
 cases hb : decide (fold s.name = s.name) with
 | false =>
  have hno : mayS s = false := by simp [mayS, hb]
  refine wpq_region (by decide +kernel) (by decide +kernel) ?_
  (try ((with_reducible refine qh0 ?_); refine qk0 ?_))
  refine wpq_call (enters_of Tryz.func113 rfl rfl) rfl rfl (fun w' _ => r1_Fold s.name w') ?_
  refine gset ?_
  (try ((with_reducible refine qh0 ?_); refine qk0 ?_))
  simp only [hb, Bool.not_true, Bool.not_false]
  (try ((with_reducible refine qh0 ?_); refine qk0 ?_))
  intro w2 x2
  (repeat' first | ((with_reducible refine nx0 ?_); go_step) | ((with_reducible refine o_s ?_); first | refine wk0 ?_ | (refine wg0 ?_ ?_ <;> intro hc)) | fail)
  go_ret
  exact ⟨by rw [hno]; rfl, x1.trans x2⟩
 | true =>
  have hfo : fold s.name = s.name := by simpa using hb
  refine wpq_region (by decide +kernel) (by decide +kernel) ?_
  (try ((with_reducible refine qh0 ?_); refine qk0 ?_))
  refine wpq_call (enters_of Tryz.func113 rfl rfl) rfl rfl (fun w' _ => r1_Fold s.name w') ?_
  refine gset ?_
  (try ((with_reducible refine qh0 ?_); refine qk0 ?_))
  simp only [hb, Bool.not_true, Bool.not_false]
  (try ((with_reducible refine qh0 ?_); refine qk0 ?_))
  cases hb1 : decide (((tcells s.data).length : Int) < 1) with
  | true =>
   have hno : mayS s = false := by simp at hb1; simp [mayS]; intro _ h; omega
   (try ((with_reducible refine qh0 ?_); refine qk0 ?_))
   intro w2 x2
   (repeat' first | ((with_reducible refine nx0 ?_); go_step) | ((with_reducible refine o_s ?_); first | refine wk0 ?_ | (refine wg0 ?_ ?_ <;> intro hc)) | fail)
   go_ret
   exact ⟨by rw [hno]; rfl, x1.trans x2⟩
  | false =>
   (try ((with_reducible refine qh0 ?_); refine qk0 ?_))
   cases hb2 : decide ((20 : Int) < ((tcells s.data).length : Int)) with
   | true =>
    have hno : mayS s = false := by simp at hb2; simp [mayS]; intro _ _ h; omega
    (try ((with_reducible refine qh0 ?_); refine qk0 ?_))
    intro w2 x2
    (repeat' first | ((with_reducible refine nx0 ?_); go_step) | ((with_reducible refine o_s ?_); first | refine wk0 ?_ | (refine wg0 ?_ ?_ <;> intro hc)) | fail)
    go_ret
    exact ⟨by rw [hno]; rfl, x1.trans x2⟩
   | false =>
    (try ((with_reducible refine qh0 ?_); refine qk0 ?_))
    intro w2 x2
    have hl1 : 1 ≤ s.data.length := by simp at hb1; omega
    have hl2 : s.data.length ≤ 20 := by simp at hb2; omega
    have hp := hp.ext x2
    have hv2 := hv1.ext x2
    have x12 := x1.trans x2
    clear x1 x2 hv1
    (repeat' first | ((with_reducible refine nx0 ?_); go_step) | ((with_reducible refine o_s ?_); first | refine wk0 ?_ | (refine wg0 ?_ ?_ <;> intro hc)) | fail)
    go_loopw [3] (fun i wr => ∃ k : Nat, k ≤ s.data.length ∧ i = .int .i64 k ∧ Ext w2 wr ∧ ∀ j, j < k → badAt s j = false) (fun i _ => s.data.length - (intOf i).toNat)
    case atStart => exact ⟨0, Nat.zero_le _, rfl, Ext.refl _, by omega⟩
    case round =>
     obtain ⟨k, hk, rfl, hx, hall⟩ := hrel
     have hp := hp.ext hx
     have hv3 := hv2.ext hx
     by_cases hlt : k < s.data.length
     ·have hq := hv3.elem (tcells_at hlt)
      have hdk := hd _ (List.getElem_mem hlt)
      have hbad : badAt s k = (decide (checkR ⟨s.name, s.kind, s.ttl, s.data[k]⟩ ≠ 0) || (decide (0 < k) && !Op.bytesLess (s.data.getD (k - 1) []) s.data[k])) := by
       rw [badAt, show s.data.getD k [] = s.data[k] by simp [hlt]]
      have hck : ∀ w', Calls Tryz.prog 112 #[.agg #[str s.name, .int .i64 s.kind, .int .i64 s.ttl, str s.data[k]]] w' (RetV w' (.int .i64 (checkR ⟨s.name, s.kind, s.ttl, s.data[k]⟩))) := fun w' => r3_Check ⟨s.name, s.kind, s.ttl, s.data[k]⟩ w' hdk
      (repeat' first | ((with_reducible refine nx0 ?_); go_step) | ((with_reducible refine o_s ?_); first | refine wk0 ?_ | (refine wg0 ?_ ?_ <;> intro hc)) | fail)
      refine wpq_region (by decide +kernel) (by decide +kernel) ?_
      (try ((with_reducible refine qh0 ?_); refine qk0 ?_))
      refine wpq_run (v := .agg #[str s.name, .int .i64 s.kind, .int .i64 s.ttl, str s.data[k]]) rfl (fun w' _ => Runs.build rfl (by kernel_rfl)) ?_
      refine gset ?_
      (try ((with_reducible refine qh0 ?_); refine qk0 ?_))
      refine wpq_call (enters_of Tryz.func112 rfl rfl) rfl rfl (fun w' _ => hck w') ?_
      refine gset ?_
      (try ((with_reducible refine qh0 ?_); refine qk0 ?_))
      cases hc : decide (checkR ⟨s.name, s.kind, s.ttl, s.data[k]⟩ = 0) with
      | false =>
       have hno : mayS s = false := mayS_bad hlt (by rw [hbad]; simp at hc; simp [hc])
       simp only [Bool.not_false]
       (try ((with_reducible refine qh0 ?_); refine qk0 ?_))
       intro w3 x3
       (repeat' first | ((with_reducible refine nx0 ?_); go_step) | ((with_reducible refine o_s ?_); first | refine wk0 ?_ | (refine wg0 ?_ ?_ <;> intro hc)) | fail)
       go_ret
       exact ⟨by rw [hno]; rfl, x12.trans (hx.trans x3)⟩
      | true =>
       have hc0 : checkR ⟨s.name, s.kind, s.ttl, s.data[k]⟩ = 0 := by simpa using hc
       simp only [Bool.not_true]
       (try ((with_reducible refine qh0 ?_); refine qk0 ?_))
       by_cases hk0 : k = 0
       ·have hb0 : badAt s k = false := by rw [hbad, hc0]; simp [hk0]
        rw [show decide ((0 : Int) < (k : Int)) = false by simp [hk0]]
        (try ((with_reducible refine qh0 ?_); refine qk0 ?_))
        intro w3 x3
        (repeat' first | ((with_reducible refine nx0 ?_); go_step) | ((with_reducible refine o_s ?_); first | refine wk0 ?_ | (refine wg0 ?_ ?_ <;> intro hc)) | fail)
        exact ⟨⟨k + 1, by omega, by go_num, hx.trans x3, fun j hj => by
         rcases Nat.lt_succ_iff_lt_or_eq.1 hj with h | rfl
         ·exact hall j h
         ·exact hb0⟩, by simp [intOf]; omega⟩
       ·rw [show decide ((0 : Int) < (k : Int)) = true by simp; omega]
        have hq2 : Pts wr (elemPtr v (((k : Int) - 1).toNat * 1)) [str (s.data.getD (k - 1) [])] := by
         have := hv3.elem (i := k - 1) (e := [str (s.data.getD (k - 1) [])]) (by rw [tcells_at (show k - 1 < s.data.length by omega)]; simp [show k - 1 < s.data.length by omega])
         rwa [show ((k : Int) - 1).toNat = k - 1 by omega]
        (try ((with_reducible refine qh0 ?_); refine qk0 ?_))
        have hb0 : badAt s k = !Op.bytesLess (s.data.getD (k - 1) []) s.data[k] := by rw [hbad, hc0]; simp; omega
        intro w3 x3
        cases hbl : Op.bytesLess (s.data.getD (k - 1) []) s.data[k] with
        | false =>
         have hno : mayS s = false := mayS_bad hlt (by rw [hb0, hbl]; rfl)
         (repeat' first | ((with_reducible refine nx0 ?_); go_step) | ((with_reducible refine o_s ?_); first | refine wk0 ?_ | (refine wg0 ?_ ?_ <;> intro hc)) | fail)
         go_ret
         exact ⟨by rw [hno]; rfl, x12.trans (hx.trans x3)⟩
        | true =>
         have hb1 : badAt s k = false := by rw [hb0, hbl]; rfl
         (repeat' first | ((with_reducible refine nx0 ?_); go_step) | ((with_reducible refine o_s ?_); first | refine wk0 ?_ | (refine wg0 ?_ ?_ <;> intro hc)) | fail)
         exact ⟨⟨k + 1, by omega, rfl, hx.trans x3, fun j hj => by
          rcases Nat.lt_succ_iff_lt_or_eq.1 hj with h | rfl
          ·exact hall j h
          ·exact hb1⟩, by simp [intOf]; omega⟩
     ·have : k = s.data.length := by omega
      subst this
      have hyes : mayS s = true := by
       simp only [mayS, hb, decide_eq_true hl1, decide_eq_true hl2, Bool.true_and, List.all_eq_true, List.mem_range, Bool.not_eq_true']
       exact hall
      (repeat' first | ((with_reducible refine nx0 ?_); go_step) | ((with_reducible refine o_s ?_); first | refine wk0 ?_ | (refine wg0 ?_ ?_ <;> intro hc)) | fail)
      go_ret
      exact ⟨by rw [hyes]; rfl, x12.trans hx⟩
theorem ahead_cmp (a b : RSet) : aheadS a b = decide (cmpSet a.name b.name a.kind b.kind < 0) := by
 unfold aheadS cmpSet cmpI
 by_cases h1 : cmpN a.name b.name < 0
 ·rw [if_pos (by omega)]; simp [h1]
 ·by_cases h2 : cmpN a.name b.name = 0
  ·simp [h2]
   by_cases h3 : a.kind < b.kind
   ·simp [h3]
   ·simp [h3]; split <;> omega
  ·rw [if_pos h2]; simp [h1, h2]
set_option maxHeartbeats 6000000 in
theorem r7_Check (v : Value) (l : List RSet) (w : World) (hv : SetsAt w v l) (hd : ∀ s ∈ l, ∀ d ∈ s.data, d.length ≤ 4611686018427387904) : Calls Tryz.prog 152 #[v] w (RetV w (.int .i64 (checkS l))) := by
 obtain ⟨cv, hv1, hvl⟩ := hv.sl
 have hle := hv1.le
 go_enter Tryz.func152, Tryz.ntmps152
 (repeat' first | ((with_reducible refine nx0 ?_); go_step) | ((with_reducible refine o_s ?_); first | refine wk0 ?_ | (refine wg0 ?_ ?_ <;> intro hc)) | fail)
 ·go_ret
  refine ⟨?_, Ext.refl _⟩
  rw [checkS, if_pos (by omega)]
  rfl
 go_loopw [3] (fun i wr => ∃ k : Nat, k ≤ l.length ∧ i = .int .i64 k ∧ Ext w wr ∧ ∀ j, j < k → badSet l j = false) (fun i _ => l.length - (intOf i).toNat)
 case atStart => exact ⟨0, Nat.zero_le _, rfl, Ext.refl _, by omega⟩
 case round =>
  obtain ⟨k, hk, rfl, hx, hall⟩ := hrel
  have hv2 := hv1.ext hx
  by_cases hlt : k < l.length
  ·obtain ⟨x, h1, h1d⟩ := (hv.ext hx).elem (List.getElem?_eq_getElem hlt)
   have hdk := hd _ (List.getElem_mem hlt)
   have hbad : badSet l k = (!mayS l[k] || (decide (0 < k) && !aheadS (l.getD (k - 1) default) l[k])) := by
    rw [badSet, List.getElem?_eq_getElem hlt, ahead_cmp]
    simp only []
    congr 2
    by_cases h : cmpSet (l.getD (k - 1) default).name l[k].name (l.getD (k - 1) default).kind l[k].kind < 0
    ·rw [decide_eq_true h, decide_eq_false (by omega)]; rfl
    ·rw [decide_eq_false h, decide_eq_true (by omega)]; rfl
   have hck : ∀ w', Ext wr w' → Calls Tryz.prog 202 #[.agg #[str l[k].name, .int .i64 l[k].kind, .int .i64 l[k].ttl, x]] w' (RetV w' (.bool (mayS l[k]))) := fun w' x' => r7_May l[k] x w' (h1d.ext x') hdk
   (repeat' first | ((with_reducible refine nx0 ?_); go_step) | ((with_reducible refine o_s ?_); first | refine wk0 ?_ | (refine wg0 ?_ ?_ <;> intro hc)) | fail)
   refine wpq_region (by decide +kernel) (by decide +kernel) ?_
   (try ((with_reducible refine qh0 ?_); refine qk0 ?_))
   refine wpq_call (enters_of Tryz.func202 rfl rfl) rfl rfl (fun w' x' => hck w' x') ?_
   refine gset ?_
   (try ((with_reducible refine qh0 ?_); refine qk0 ?_))
   cases hm : mayS l[k] with
   | false =>
    have hno : checkS l = 1 := checkS_bad hlt (by rw [hbad, hm]; rfl)
    simp only [Bool.not_false]
    (try ((with_reducible refine qh0 ?_); refine qk0 ?_))
    intro w3 x3
    (repeat' first | ((with_reducible refine nx0 ?_); go_step) | ((with_reducible refine o_s ?_); first | refine wk0 ?_ | (refine wg0 ?_ ?_ <;> intro hc)) | fail)
    go_ret
    exact ⟨by rw [hno]; rfl, hx.trans x3⟩
   | true =>
    simp only [Bool.not_true]
    (try ((with_reducible refine qh0 ?_); refine qk0 ?_))
    by_cases hk0 : k = 0
    ·have hb0 : badSet l k = false := by rw [hbad, hm]; simp [hk0]
     rw [show decide ((0 : Int) < (k : Int)) = false by simp [hk0]]
     (try ((with_reducible refine qh0 ?_); refine qk0 ?_))
     intro w3 x3
     (repeat' first | ((with_reducible refine nx0 ?_); go_step) | ((with_reducible refine o_s ?_); first | refine wk0 ?_ | (refine wg0 ?_ ?_ <;> intro hc)) | fail)
     exact ⟨⟨k + 1, by omega, by go_num, hx.trans x3, fun j hj => by
      rcases Nat.lt_succ_iff_lt_or_eq.1 hj with h | rfl
      ·exact hall j h
      ·exact hb0⟩, by simp [intOf]; omega⟩
    ·rw [show decide ((0 : Int) < (k : Int)) = true by simp; omega]
     have hlp : k - 1 < l.length := by omega
     obtain ⟨y, h2, h2d⟩ := (hv.ext hx).elem (List.getElem?_eq_getElem hlp)
     have h2 : Pts wr (elemPtr v (((k : Int) - 1).toNat * 4)) [str l[k - 1].name, .int .i64 l[k - 1].kind, .int .i64 l[k - 1].ttl, y] := by
      rwa [show ((k : Int) - 1).toNat = k - 1 by omega]
     have hpr : l.getD (k - 1) default = l[k - 1] := by simp [hlp]
     have hah : ∀ w', Calls Tryz.prog 203 #[.agg #[str l[k - 1].name, .int .i64 l[k - 1].kind, .int .i64 l[k - 1].ttl, y], .agg #[str l[k].name, .int .i64 l[k].kind, .int .i64 l[k].ttl, x]] w' (RetV w' (.bool (aheadS l[k - 1] l[k]))) := fun w' => r7_ahead l[k - 1] l[k] y x w'
     (try ((with_reducible refine qh0 ?_); refine qk0 ?_))
     refine wpq_call (enters_of Tryz.func203 rfl rfl) rfl rfl (fun w' x' => hah w') ?_
     refine gset ?_
     (try ((with_reducible refine qh0 ?_); refine qk0 ?_))
     intro w3 x3
     cases ha : aheadS l[k - 1] l[k] with
     | false =>
      have hno : checkS l = 1 := checkS_bad hlt (by rw [hbad, hm, hpr, ha]; simp; omega)
      (repeat' first | ((with_reducible refine nx0 ?_); go_step) | ((with_reducible refine o_s ?_); first | refine wk0 ?_ | (refine wg0 ?_ ?_ <;> intro hc)) | fail)
      go_ret
      exact ⟨by rw [hno]; rfl, hx.trans x3⟩
     | true =>
      have hb0 : badSet l k = false := by rw [hbad, hm, hpr, ha]; simp
      (repeat' first | ((with_reducible refine nx0 ?_); go_step) | ((with_reducible refine o_s ?_); first | refine wk0 ?_ | (refine wg0 ?_ ?_ <;> intro hc)) | fail)
      exact ⟨⟨k + 1, by omega, by go_num, hx.trans x3, fun j hj => by
       rcases Nat.lt_succ_iff_lt_or_eq.1 hj with h | rfl
       ·exact hall j h
       ·exact hb0⟩, by simp [intOf]; omega⟩
  ·have : k = l.length := by omega
   subst this
   have hyes : checkS l = 0 := by
    rw [checkS, if_neg (by omega), if_pos]
    simp only [List.all_eq_true, List.mem_range, Bool.not_eq_true']
    exact hall
   (repeat' first | ((with_reducible refine nx0 ?_); go_step) | ((with_reducible refine o_s ?_); first | refine wk0 ?_ | (refine wg0 ?_ ?_ <;> intro hc)) | fail)
   go_ret
   exact ⟨by rw [hyes]; rfl, hx⟩
theorem Own.nilE {B k e : Nat} {w : World} : Own B k e w (.slice none 0 0) [] := Own.nil _ _ _ _
set_option maxHeartbeats 6000000 in
theorem r7_Copy (s : RSet) (v : Value) (w : World) (hv : Sl 1 w v (tcells s.data)) (hb : s.data.length ≤ 1000000) : Calls Tryz.prog 164 #[.agg #[str s.name, .int .i64 s.kind, .int .i64 s.ttl, v]] w (Ret w fun r w' => ∃ x, r = .agg #[str s.name, .int .i64 s.kind, .int .i64 s.ttl, x] ∧ Own w.heap.size 1 9 w' x (tcells s.data)) := by
 go_enter Tryz.func164, Tryz.ntmps164
 repeat' (first | ((with_reducible refine nx0 ?_); go_step) | fail)
 refine wpl_box (vs := [str s.name, .int .i64 s.kind, .int .i64 s.ttl, v]) rfl rfl ?_
 intro p w1 x1 hp
 refine gset ?_
 refine wpl_allocB (z := zset) rfl (by decide +kernel) ?_
 intro w2 x2 s2 h2
 refine gset ?_
 have hp := hp.ext x2
 (repeat' first | ((with_reducible refine nx0 ?_); go_step) | ((with_reducible refine o_s ?_); first | refine wk0 ?_ | (refine wg0 ?_ ?_ <;> intro hc)) | fail)
 refine wpl_allocB (z := zset) rfl (by decide +kernel) ?_
 intro w3 x3 s3 h3
 refine gset ?_
 have h2 := x3.at h2
 refine wpl_storeB (v := .agg #[str s.name, .int .i64 s.kind, .int .i64 s.ttl, v]) rfl rfl rfl h3 (show sizeTy Tryz.prog 115 4 = true by decide +kernel) rfl (all4 rfl rfl rfl hv.one) ?_
 intro w4 p4
 have x04 : Ext w w4 := ((x1.trans x2).trans x3).move p4.mv (by have := x1.size; rintro k ⟨⟩; omega)
 have h2 := p4.at h2 (by omega)
 have x24 : Ext w2 w4 := x3.move p4.mv (by rintro k ⟨⟩; omega)
 have hp4 := hp.ext x24
 have h4 : w4.heap[w2.heap.size]? = some (.cells [str s.name, .int .i64 s.kind, .int .i64 s.ttl, v].toArray 115 (0, 0)) := p4.this
 have hz4 := p4.size
 clear p4 h3 x3 hp
 (repeat' first | ((with_reducible refine nx0 ?_); go_step) | ((with_reducible refine o_s ?_); first | refine wk0 ?_ | (refine wg0 ?_ ?_ <;> intro hc)) | fail)
 have s1 := x1.size
 refine wpl_appendO (v0 := .slice none 0 0) (B := w4.heap.size) (e := 9) rfl Own.nilE rfl (hv.ext x04) (by simp [tcells, str, Value.oneCell']) (Nat.le_refl _) (by rw [tcells_length]; simpa using hb) ?_
 intro x w5 o5 m5 k5
 have x45 : Ext w4 w5 := ⟨m5.os, m5.tape, m5.output, m5.size, fun k hk => m5.block k hk (by simp [Value.ownBlock]), m5.drawn⟩
 refine gset ?_
 have h2 := x45.at h2
 have h4 := x45.at h4
 have hp4 := hp4.ext x45
 have hp5 := pts_block h4
 (repeat' first | ((with_reducible refine nx0 ?_); go_step) | ((with_reducible refine o_s ?_); first | refine wk0 ?_ | (refine wg0 ?_ ?_ <;> intro hc)) | fail)
 have o5 : Own w4.heap.size 1 9 w5 x (tcells s.data) := by simpa using o5
 refine wpl_storeF (cs := [str s.name, .int .i64 s.kind, .int .i64 s.ttl, v]) h4 rfl rfl rfl (by simp) (by decide +kernel) o5.one ?_
 intro w6 p6
 have x46 : Ext w w6 := (x04.trans x45).move p6.mv (by have := x2.size; rintro k ⟨⟩; omega)
 have h2 := p6.at h2 (by omega)
 have o6 : Own w4.heap.size 1 9 w6 x (tcells s.data) := o5.put p6 (by omega)
 have hp6 := pts_block (cs := [str s.name, .int .i64 s.kind, .int .i64 s.ttl, x]) p6.this
 clear p6 h4 hp5 hp4
 (repeat' first | ((with_reducible refine nx0 ?_); go_step) | ((with_reducible refine o_s ?_); first | refine wk0 ?_ | (refine wg0 ?_ ?_ <;> intro hc)) | fail)
 refine wpl_storeB (v := .agg #[str s.name, .int .i64 s.kind, .int .i64 s.ttl, x]) rfl rfl rfl h2 (show sizeTy Tryz.prog 115 4 = true by decide +kernel) rfl (all4 rfl rfl rfl o6.sl.one) ?_
 intro w7 p7
 have x7 : Ext w w7 := x46.move p7.mv (by rintro k ⟨⟩; omega)
 have o7 : Own w4.heap.size 1 9 w7 x (tcells s.data) := o6.put p7 (by omega)
 (repeat' first | ((with_reducible refine nx0 ?_); go_step) | ((with_reducible refine o_s ?_); first | refine wk0 ?_ | (refine wg0 ?_ ?_ <;> intro hc)) | fail)
 refine bodyPost_ret (results_cell1 (cs := [str s.name, .int .i64 s.kind, .int .i64 s.ttl, x]) rfl rfl p7.this (show aggTy Tryz.prog 115 4 = true by decide +kernel)) rfl ⟨_, rfl, x7, x, rfl, o7.weaken x04.size⟩
set_option maxHeartbeats 12000000 in
theorem r7_Find (v : Value) (l : List RSet) (n : List UInt8) (kd : Int) (w : World) (hv : SetsAt w v l) (hb : ∀ s ∈ l, s.data.length ≤ 1000000) : Calls Tryz.prog 155 #[v, str n, .int .i64 kd] w (Ret w fun r w' => match findS l n kd with
 | some s => ∃ x, r = .tuple #[.agg #[str s.name, .int .i64 s.kind, .int .i64 s.ttl, x], .bool true] ∧ Own w.heap.size 1 9 w' x (tcells s.data)
 | none => r = .tuple #[.agg zset.toArray, .bool false]) := by
 obtain ⟨cv, hv1, hvl⟩ := hv.sl
 have hle := hv1.le
 go_enter Tryz.func155, Tryz.ntmps155
 repeat' (first | ((with_reducible refine nx0 ?_); go_step) | fail)
 refine wpl_allocB (z := zset) rfl (by decide +kernel) ?_
 intro w2 x2 s2 h2
 refine gset ?_
 (repeat' first | ((with_reducible refine nx0 ?_); go_step) | ((with_reducible refine o_s ?_); first | refine wk0 ?_ | (refine wg0 ?_ ?_ <;> intro hc)) | fail)
 go_loopw [8] (fun i wr => ∃ k : Nat, k ≤ l.length ∧ i = .int .i64 k ∧ Ext w2 wr ∧ (l.take k).find? (hit (fold n) kd) = none) (fun i _ => l.length - (intOf i).toNat)
 case atStart => exact ⟨0, Nat.zero_le _, rfl, Ext.refl _, rfl⟩
 case round =>
  obtain ⟨k, hk, rfl, hx, hall⟩ := hrel
  have hxw : Ext w wr := x2.trans hx
  have hv2 := hv1.ext hxw
  have h3 := hx.at h2
  by_cases hlt : k < l.length
  ·obtain ⟨x, h4, h4d⟩ := (hv.ext hxw).elem (List.getElem?_eq_getElem hlt)
   have hbk := hb _ (List.getElem_mem hlt)
   (repeat' first | ((with_reducible refine nx0 ?_); go_step) | ((with_reducible refine o_s ?_); first | refine wk0 ?_ | (refine wg0 ?_ ?_ <;> intro hc)) | fail)
   refine wpq_region (by decide +kernel) (by decide +kernel) ?_
   (try ((with_reducible refine qh0 ?_); refine qk0 ?_))
   refine wpq_call (enters_of Tryz.func113 rfl rfl) rfl rfl (fun w' _ => r1_Fold n w') ?_
   refine gset ?_
   (try ((with_reducible refine qh0 ?_); refine qk0 ?_))
   by_cases q1 : l[k].name = fold n
   ·rw [decide_eq_true q1]
    (try ((with_reducible refine qh0 ?_); refine qk0 ?_))
    intro w5 x5
    have h5 := x5.at h3
    have hv5 := hv2.ext x5
    have hp5 := h4.ext x5
    by_cases q2 : l[k].kind = kd
    ·have hh : findS l n kd = some l[k] := find_at hlt hall (by simp [hit, q1, q2])
     rw [decide_eq_true q2]
     (repeat' first | ((with_reducible refine nx0 ?_); go_step) | ((with_reducible refine o_s ?_); first | refine wk0 ?_ | (refine wg0 ?_ ?_ <;> intro hc)) | fail)
     refine wpl_callR (enters_of Tryz.func164 rfl rfl) rfl rfl (r7_Copy l[k] x _ (h4d.ext x5) hbk) ?_
     intro r w6 x6 hr
     obtain ⟨y, rfl, oy⟩ := hr
     refine gset ?_
     have h6 := x6.at h5
     have hs5 := hx.size
     have hs6 := x5.size
     refine wpl_storeB (v := .agg #[str l[k].name, .int .i64 l[k].kind, .int .i64 l[k].ttl, y]) rfl rfl rfl h6 (show sizeTy Tryz.prog 115 4 = true by decide +kernel) rfl (all4 rfl rfl rfl oy.sl.one) ?_
     intro w7 p7
     have x7 : Ext w w7 := ((hxw.trans x5).trans x6).move p7.mv (by rintro k ⟨⟩; exact Nat.le_refl _)
     have o7 := oy.put p7 (by omega)
     (repeat' first | ((with_reducible refine nx0 ?_); go_step) | ((with_reducible refine o_s ?_); first | refine wk0 ?_ | (refine wg0 ?_ ?_ <;> intro hc)) | fail)
     refine bodyPost_ret (results_cellT (cs := [str l[k].name, .int .i64 l[k].kind, .int .i64 l[k].ttl, y]) rfl rfl p7.this (show aggTy Tryz.prog 115 4 = true by decide +kernel)) rfl ⟨_, rfl, x7, ?_⟩
     rw [hh]
     exact ⟨y, rfl, o7.weaken (by omega)⟩
    ·rw [decide_eq_false q2]
     (repeat' first | ((with_reducible refine nx0 ?_); go_step) | ((with_reducible refine o_s ?_); first | refine wk0 ?_ | (refine wg0 ?_ ?_ <;> intro hc)) | fail)
     exact ⟨⟨k + 1, by omega, by go_num, hx.trans x5, find_take hlt hall (by simp [hit, q2])⟩, by simp [intOf]; omega⟩
   ·rw [decide_eq_false q1]
    (try ((with_reducible refine qh0 ?_); refine qk0 ?_))
    intro w5 x5
    (repeat' first | ((with_reducible refine nx0 ?_); go_step) | ((with_reducible refine o_s ?_); first | refine wk0 ?_ | (refine wg0 ?_ ?_ <;> intro hc)) | fail)
    exact ⟨⟨k + 1, by omega, by go_num, hx.trans x5, find_take hlt hall (by simp [hit, q1])⟩, by simp [intOf]; omega⟩
  ·have : k = l.length := by omega
   subst this
   have hno : findS l n kd = none := by rw [List.take_length] at hall; exact hall
   (repeat' first | ((with_reducible refine nx0 ?_); go_step) | ((with_reducible refine o_s ?_); first | refine wk0 ?_ | (refine wg0 ?_ ?_ <;> intro hc)) | fail)
   refine wpl_run (v := .agg zset.toArray) rfl (Runs.build0 (by kernel_rfl)) ?_
   refine gset ?_
   refine wpl_storeB (v := .agg zset.toArray) rfl rfl rfl h3 (by decide +kernel) rfl (by decide +kernel) ?_
   intro w7 p7
   have x7 : Ext w w7 := hxw.move p7.mv (by rintro k ⟨⟩; exact Nat.le_refl _)
   (repeat' first | ((with_reducible refine nx0 ?_); go_step) | ((with_reducible refine o_s ?_); first | refine wk0 ?_ | (refine wg0 ?_ ?_ <;> intro hc)) | fail)
   refine bodyPost_ret (results_cellT (cs := zset) rfl rfl p7.this (by decide +kernel)) rfl ⟨_, rfl, x7, ?_⟩
   rw [hno]
   rfl
set_option maxHeartbeats 12000000 in
theorem r8_Has (o : List UInt8) (v : Value) (l : List RSet) (n : List UInt8) (kd : Int) (w : World) (hv : SetsAt w v l) (hb : ∀ s ∈ l, s.data.length ≤ 1000000) : Calls Tryz.prog 153 #[.agg #[str o, v], str n, .int .i64 kd] w (RetV w (.bool (findS l n kd).isSome)) := by
 go_enter Tryz.func153, Tryz.ntmps153
 repeat' (first | ((with_reducible refine nx0 ?_); go_step) | fail)
 refine wpl_box (vs := [str o, v]) rfl rfl ?_
 intro p w0 x0 hp
 refine gset ?_
 have hv1 := hv.ext x0
 (repeat' first | ((with_reducible refine nx0 ?_); go_step) | ((with_reducible refine o_s ?_); first | refine wk0 ?_ | (refine wg0 ?_ ?_ <;> intro hc)) | fail)
 refine wpl_callR (enters_of Tryz.func155 rfl rfl) rfl rfl (r7_Find v l n kd _ hv1 hb) ?_
 intro r w1 x1 hr
 cases hf : findS l n kd with
 | none =>
  rw [hf] at hr
  obtain rfl := hr
  (repeat' first | ((with_reducible refine nx0 ?_); go_step) | ((with_reducible refine o_s ?_); first | refine wk0 ?_ | (refine wg0 ?_ ?_ <;> intro hc)) | fail)
  refine wpl_allocB (z := zset) rfl (by decide +kernel) ?_
  intro w2 x2 s2 h2
  refine gset ?_
  refine wpl_storeB (v := .agg zset.toArray) rfl rfl rfl h2 (by decide +kernel) rfl (by decide +kernel) ?_
  intro w3 p3
  have x3 : Ext w w3 := ((x0.trans x1).trans x2).move p3.mv (by rintro k ⟨⟩; have := x0.size; have := x1.size; omega)
  (repeat' first | ((with_reducible refine nx0 ?_); go_step) | ((with_reducible refine o_s ?_); first | refine wk0 ?_ | (refine wg0 ?_ ?_ <;> intro hc)) | fail)
  go_ret
  exact ⟨by rw [hf]; rfl, x3⟩
 | some s =>
  rw [hf] at hr
  obtain ⟨x, rfl, ho⟩ := hr
  (repeat' first | ((with_reducible refine nx0 ?_); go_step) | ((with_reducible refine o_s ?_); first | refine wk0 ?_ | (refine wg0 ?_ ?_ <;> intro hc)) | fail)
  refine wpl_allocB (z := zset) rfl (by decide +kernel) ?_
  intro w2 x2 s2 h2
  refine gset ?_
  refine wpl_storeB (v := .agg #[str s.name, .int .i64 s.kind, .int .i64 s.ttl, x]) rfl rfl rfl h2 (show sizeTy Tryz.prog 115 4 = true by decide +kernel) rfl (all4 rfl rfl rfl ho.sl.one) ?_
  intro w3 p3
  have x3 : Ext w w3 := ((x0.trans x1).trans x2).move p3.mv (by rintro k ⟨⟩; have := x0.size; have := x1.size; omega)
  (repeat' first | ((with_reducible refine nx0 ?_); go_step) | ((with_reducible refine o_s ?_); first | refine wk0 ?_ | (refine wg0 ?_ ?_ <;> intro hc)) | fail)
  go_ret
  exact ⟨by rw [hf]; rfl, x3⟩
def checkE (o : List UInt8) : Int := if (labels o).isSome then 0 else 1
def zoneR (o : List UInt8) (l : List RSet) : Int :=
 if checkE o ≠ 0 ∨ fold o ≠ o ∨ checkS l ≠ 0 then 1 else
 if (findS l o 6).isSome = false ∨ (findS l o 2).isSome = false then 2 else
 if l.any (fun s => !rightR o l s) = true then 2 else 0
set_option maxHeartbeats 3000000 in
theorem r8_Check (o : List UInt8) (v : Value) (l : List RSet) (w : World) (hv : SetsAt w v l) (hb : ∀ s ∈ l, s.data.length ≤ 1000000) (hd : ∀ s ∈ l, ∀ d ∈ s.data, d.length ≤ 4611686018427387904) : Calls Tryz.prog 91 #[.agg #[str o, v]] w (RetV w (.int .i64 (zoneR o l))) := by
 obtain ⟨cv, hv1, hvl⟩ := hv.sl
 have hle := hv1.le
 go_enter Tryz.func91, Tryz.ntmps91
 repeat' (first | ((with_reducible refine nx0 ?_); go_step) | fail)
 refine wpl_box (vs := [str o, v]) rfl rfl ?_
 intro p w1 x1 hp
 refine gset ?_
 (repeat' first | ((with_reducible refine nx0 ?_); go_step) | ((with_reducible refine o_s ?_); first | refine wk0 ?_ | (refine wg0 ?_ ?_ <;> intro hc)) | fail)
 have c1 : ∀ w', Calls Tryz.prog 73 #[str o] w' (RetV w' (.int .i64 (checkE o))) := fun w' => r1_Check o w'
 have hv2 := hv.ext x1
 have c3 : ∀ w', Ext w1 w' → Calls Tryz.prog 152 #[v] w' (RetV w' (.int .i64 (checkS l))) := fun w' x' => r7_Check v l w' (hv2.ext x') hd
 refine wpq_region (by decide +kernel) (by decide +kernel) ?_
 (try ((with_reducible refine qh0 ?_); refine qk0 ?_))
 refine wpq_call (enters_of Tryz.func73 rfl rfl) rfl rfl (fun w' _ => c1 w') ?_
 refine gset ?_
 (try ((with_reducible refine qh0 ?_); refine qk0 ?_))
 by_cases q1 : checkE o = 0
 ·rw [decide_eq_true q1]
  simp only [Bool.not_true]
  (try ((with_reducible refine qh0 ?_); refine qk0 ?_))
  refine wpq_call (enters_of Tryz.func113 rfl rfl) rfl rfl (fun w' _ => r1_Fold o w') ?_
  refine gset ?_
  (try ((with_reducible refine qh0 ?_); refine qk0 ?_))
  by_cases q2 : fold o = o
  ·rw [decide_eq_true q2]
   simp only [Bool.not_true]
   (try ((with_reducible refine qh0 ?_); refine qk0 ?_))
   refine wpq_call (enters_of Tryz.func152 rfl rfl) rfl rfl (fun w' x' => c3 w' x') ?_
   refine gset ?_
   (try ((with_reducible refine qh0 ?_); refine qk0 ?_))
   intro w2 x2
   by_cases q3 : checkS l = 0
   ·rw [decide_eq_true q3]
    simp only [Bool.not_true]
    (repeat' first | ((with_reducible refine nx0 ?_); go_step) | ((with_reducible refine o_s ?_); first | refine wk0 ?_ | (refine wg0 ?_ ?_ <;> intro hc)) | fail)
    have hx2 := x1.trans x2
    have hp2 := hp.ext x2
    have hs2 := hv.ext hx2
    refine wpl_callV (enters_of Tryz.func153 rfl rfl) rfl rfl (r8_Has o v l o 6 _ hs2 hb) ?_; intro w3 x3; refine gset ?_
    have hx3 := hx2.trans x3
    have hp3 := hp2.ext x3
    have hs3 := hs2.ext x3
    cases f6 : (findS l o 6).isSome with
    | false =>
     (repeat' first | ((with_reducible refine nx0 ?_); go_step) | ((with_reducible refine o_s ?_); first | refine wk0 ?_ | (refine wg0 ?_ ?_ <;> intro hc)) | fail)
     go_ret
     exact ⟨by rw [show zoneR o l = 2 by simp [zoneR, q1, q2, q3, f6]]; rfl, hx3⟩
    | true =>
     (repeat' first | ((with_reducible refine nx0 ?_); go_step) | ((with_reducible refine o_s ?_); first | refine wk0 ?_ | (refine wg0 ?_ ?_ <;> intro hc)) | fail)
     refine wpl_callV (enters_of Tryz.func153 rfl rfl) rfl rfl (r8_Has o v l o 2 _ hs3 hb) ?_; intro w4 x4; refine gset ?_
     have hx4 := hx3.trans x4
     have hp4 := hp3.ext x4
     have hs4 := hs3.ext x4
     cases f2 : (findS l o 2).isSome with
     | false =>
      (repeat' first | ((with_reducible refine nx0 ?_); go_step) | ((with_reducible refine o_s ?_); first | refine wk0 ?_ | (refine wg0 ?_ ?_ <;> intro hc)) | fail)
      go_ret
      exact ⟨by rw [show zoneR o l = 2 by simp [zoneR, q1, q2, q3, f6, f2]]; rfl, hx4⟩
     | true =>
      (repeat' first | ((with_reducible refine nx0 ?_); go_step) | ((with_reducible refine o_s ?_); first | refine wk0 ?_ | (refine wg0 ?_ ?_ <;> intro hc)) | fail)
      go_loopw [3] (fun i wr => ∃ k : Nat, k ≤ l.length ∧ i = .int .i64 k ∧ Ext w4 wr ∧ (l.take k).any (fun s => !rightR o l s) = false) (fun i _ => l.length - (intOf i).toNat)
      case atStart => exact ⟨0, Nat.zero_le _, rfl, Ext.refl _, rfl⟩
      case round =>
       obtain ⟨k, hk, rfl, hx, hall⟩ := hrel
       have hxw : Ext w wr := hx4.trans hx
       have hv5 := hv1.ext hxw
       have hp5 := hp4.ext hx
       have hs5 := hv.ext hxw
       by_cases hlt : k < l.length
       ·obtain ⟨x, h5, h5d⟩ := hs5.elem (List.getElem?_eq_getElem hlt)
        have c5 : ∀ w', Ext wr w' → Calls Tryz.prog 154 #[.agg #[str o, v], .agg #[str l[k].name, .int .i64 l[k].kind, .int .i64 l[k].ttl, x]] w' (RetV w' (.bool (rightR o l l[k]))) := fun w' x' => r8_right o v l l[k] x w' (hs5.ext x') (h5d.ext x')
        (repeat' first | ((with_reducible refine nx0 ?_); go_step) | ((with_reducible refine o_s ?_); first | refine wk0 ?_ | (refine wg0 ?_ ?_ <;> intro hc)) | fail)
        refine wpq_region (by decide +kernel) (by decide +kernel) ?_
        (try ((with_reducible refine qh0 ?_); refine qk0 ?_))
        refine wpq_call (enters_of Tryz.func154 rfl rfl) rfl rfl (fun w' x' => c5 w' x') ?_
        refine gset ?_
        (try ((with_reducible refine qh0 ?_); refine qk0 ?_))
        intro w6 x6
        cases hr : rightR o l l[k] with
        | false =>
         (repeat' first | ((with_reducible refine nx0 ?_); go_step) | ((with_reducible refine o_s ?_); first | refine wk0 ?_ | (refine wg0 ?_ ?_ <;> intro hc)) | fail)
         go_ret
         exact ⟨by rw [show zoneR o l = 2 by simp only [zoneR, q1, q2, q3, f6, f2]; rw [any_at (p := fun s => !rightR o l s) hlt (by simp [hr])]; simp]; rfl, hxw.trans x6⟩
        | true =>
         (repeat' first | ((with_reducible refine nx0 ?_); go_step) | ((with_reducible refine o_s ?_); first | refine wk0 ?_ | (refine wg0 ?_ ?_ <;> intro hc)) | fail)
         exact ⟨⟨k + 1, by omega, by go_num, hx.trans x6, any_take hlt hall (by simp [hr])⟩, by simp [intOf]; omega⟩
       ·have : k = l.length := by omega
        subst this
        rw [List.take_length] at hall
        (repeat' first | ((with_reducible refine nx0 ?_); go_step) | ((with_reducible refine o_s ?_); first | refine wk0 ?_ | (refine wg0 ?_ ?_ <;> intro hc)) | fail)
        go_ret
        exact ⟨by rw [show zoneR o l = 0 by simp only [zoneR, q1, q2, q3, f6, f2]; rw [hall]; simp]; rfl, hxw⟩
   ·rw [decide_eq_false q3]
    simp only [Bool.not_false]
    (repeat' first | ((with_reducible refine nx0 ?_); go_step) | ((with_reducible refine o_s ?_); first | refine wk0 ?_ | (refine wg0 ?_ ?_ <;> intro hc)) | fail)
    go_ret
    exact ⟨by rw [show zoneR o l = 1 by simp [zoneR, q3]]; rfl, x1.trans x2⟩
  ·rw [decide_eq_false q2]
   simp only [Bool.not_false]
   (try ((with_reducible refine qh0 ?_); refine qk0 ?_))
   intro w2 x2
   (repeat' first | ((with_reducible refine nx0 ?_); go_step) | ((with_reducible refine o_s ?_); first | refine wk0 ?_ | (refine wg0 ?_ ?_ <;> intro hc)) | fail)
   go_ret
   exact ⟨by rw [show zoneR o l = 1 by simp [zoneR, q2]]; rfl, x1.trans x2⟩
 ·rw [decide_eq_false q1]
  simp only [Bool.not_false]
  (try ((with_reducible refine qh0 ?_); refine qk0 ?_))
  intro w2 x2
  (repeat' first | ((with_reducible refine nx0 ?_); go_step) | ((with_reducible refine o_s ?_); first | refine wk0 ?_ | (refine wg0 ?_ ?_ <;> intro hc)) | fail)
  go_ret
  exact ⟨by rw [show zoneR o l = 1 by simp [zoneR, q1]]; rfl, x1.trans x2⟩
theorem TPO.ltt {α : Type} {c : α → α → Int} (h : TPO c) {x y z : α} (h1 : c x y < 0) (h2 : c y z < 0) : c x z < 0 := by
 have h3 := h.tr x y z (by omega) (by omega)
 rcases Int.lt_or_eq_of_le h3 with h4 | h4
 ·exact h4
 ·exfalso
  have h5 := (h.eqL h4 (z := y)).1 (by omega)
  have h6 := h.anti y z
  omega
theorem check_ok {l : List RSet} (h : checkS l = 0) : ∀ i, i < l.length → badSet l i = false := by
 unfold checkS at h
 split at h
 ·omega
 ·split at h
  ·rename_i h1
   intro i hi
   rw [List.all_eq_true] at h1
   have := h1 i (by simpa using hi)
   simpa using this
  ·omega
theorem check_may {l : List RSet} (h : checkS l = 0) {i : Nat} (hi : i < l.length) : mayS l[i] = true := by
 have := check_ok h i hi
 rw [badSet, List.getElem?_eq_getElem hi] at this
 simp only [Bool.or_eq_false_iff, Bool.not_eq_false'] at this
 exact this.1
theorem check_lt {l : List RSet} (h : checkS l = 0) {i : Nat} (hi : i + 1 < l.length) : cmpSet l[i].name l[i + 1].name l[i].kind l[i + 1].kind < 0 := by
 have := check_ok h (i + 1) hi
 rw [badSet, List.getElem?_eq_getElem hi] at this
 simp only [Bool.or_eq_false_iff, Bool.and_eq_false_iff, decide_eq_false_iff_not] at this
 have h2 := this.2.resolve_left (by omega)
 have e : l.getD (i + 1 - 1) default = l[i] := by simp [show i < l.length by omega]
 rw [e] at h2
 omega
theorem check_sorted {l : List RSet} (h : checkS l = 0) (i : Nat) : ∀ j (hj : i < j) (hl : j < l.length), cmpSet l[i].name l[j].name l[i].kind l[j].kind < 0
 | 0, hj, _ => by omega
 | j + 1, hj, hl => by
   have h1 := check_lt h hl
   by_cases e : i = j
   ·subst e; exact h1
   ·have h2 := check_sorted h i j (by omega) (by omega)
    exact tpo_cmpSet.ltt (x := (l[i].name, l[i].kind)) (y := (l[j].name, l[j].kind)) (z := (l[j + 1].name, l[j + 1].kind)) h2 h1
theorem may_fold {s : RSet} (h : mayS s = true) : fold s.name = s.name := by
 simp only [mayS, Bool.and_eq_true, decide_eq_true_eq] at h
 exact h.1.1.1
theorem found_all {l : List RSet} (h : checkS l = 0) {i : Nat} (hi : i < l.length) : findS l l[i].name l[i].kind = some l[i] := by
 have hf := may_fold (check_may h hi)
 refine find_at hi ?_ (by simp [hit, hf])
 rw [List.find?_eq_none]
 intro x hx hh
 obtain ⟨j, hj, rfl⟩ := List.getElem_of_mem hx
 have hj' : j < i := by rw [List.length_take] at hj; omega
 rw [List.getElem_take] at hh
 simp only [hit, hf, Bool.and_eq_true, decide_eq_true_eq] at hh
 have h1 := check_sorted h j i hj' hi
 rw [hh.1, hh.2] at h1
 have h2 := tpo_cmpSet.refl (l[i].name, l[i].kind)
 simp only at h2
 omega
theorem meet3 {α β : Type} {F : α → β → World → Prop} {G : α → β → World → Prop} {goal : Prop} (h1 : (∀ x y w', F x y w' → G x y w') → goal) (h2 : ∀ x y w', F x y w' → G x y w') : goal := h1 h2
def isCut (o n : List UInt8) (s : RSet) : Bool := decide (s.kind = 2) && decide (s.name ≠ o) && underN n s.name
def cutP (o : List UInt8) (l : List RSet) (n : List UInt8) : List UInt8 × Bool := match l.find? (isCut o n) with
 | some s => (s.name, true)
 | none => ([], false)
theorem cutStep_no {o n : List UInt8} {b : List UInt8 × Bool} {s : RSet} (h : isCut o n s = false) : cutStep o n b s = b := by
 unfold cutStep
 rw [if_neg]
 rintro ⟨h1, h2, h3, _⟩
 simp [isCut, h1, h2, h3] at h
theorem cutStep_yes {o n : List UInt8} {m : List UInt8} {s : RSet} (h : isCut o n s = true) : cutStep o n (m, false) s = (s.name, true) := by
 simp only [isCut, Bool.and_eq_true, decide_eq_true_eq] at h
 unfold cutStep
 rw [if_pos ⟨h.1.1, h.1.2, h.2, .inl rfl⟩]
theorem cutStep_more {o n : List UInt8} {m : List UInt8} {s : RSet} (h : isCut o n s = true → labN m ≤ labN s.name) : cutStep o n (m, true) s = (m, true) := by
 cases hc : isCut o n s with
 | false => exact cutStep_no hc
 | true =>
  have := h hc
  unfold cutStep
  rw [if_neg]
  rintro ⟨_, _, _, h4⟩
  rcases h4 with h4 | h4
  ·cases h4
  ·simp only at h4; omega
theorem cut_stays {o n m : List UInt8} : ∀ {l : List RSet}, (∀ t ∈ l, isCut o n t = true → labN m ≤ labN t.name) → l.foldl (cutStep o n) (m, true) = (m, true)
 | [], _ => rfl
 | t :: l, h => by
   rw [List.foldl_cons, cutStep_more (h t (by simp)), cut_stays fun u hu => h u (by simp [hu])]
theorem cut_first {o n : List UInt8} : ∀ {l : List RSet}, l.Pairwise (fun s t => isCut o n s = true → isCut o n t = true → labN s.name ≤ labN t.name) → cutR o l n = cutP o l n
 | [], _ => rfl
 | t :: l, h => by
   obtain ⟨h1, h2⟩ := List.pairwise_cons.1 h
   unfold cutR cutP
   rw [List.foldl_cons, List.find?_cons]
   cases hc : isCut o n t with
   | true => simp only [cutStep_yes hc]; exact cut_stays fun u hu => h1 u hu hc
   | false => simp only [cutStep_no hc]; exact cut_first h2
theorem labN_turned {n : List UInt8} {a : List (List UInt8)} (h : turned n = some a) : labN n = a.length := by
 rw [turned_eq] at h
 cases hl : labels n with
 | none => rw [hl] at h; cases h
 | some ls =>
  rw [hl] at h
  cases h
  simp [labN, hl]
theorem under_turned {n t : List UInt8} (h : underN n t = true) : ∃ a b, turned n = some a ∧ turned t = some b ∧ a.take b.length = b := by
 unfold underN at h
 cases ha : turned n with
 | none => rw [ha] at h; cases h
 | some a =>
  cases hb : turned t with
  | none => rw [ha, hb] at h; cases h
  | some b =>
   rw [ha, hb] at h
   exact ⟨a, b, rfl, rfl, by simpa using h⟩
theorem under_iff {n t : List UInt8} {a b : List (List UInt8)} (ha : turned n = some a) (hb : turned t = some b) : underN n t = decide (a.take b.length = b) := by
 unfold underN; rw [ha, hb]
theorem take_len_le {α : Type} {a b : List α} (h : a.take b.length = b) : b.length ≤ a.length := by
 have := congrArg List.length h
 rw [List.length_take] at this
 omega
theorem cmp_prefix {a b c : List (List UInt8)} (hb : a.take b.length = b) (hc : a.take c.length = c) (h : cmpL b c ≤ 0) : b.length ≤ c.length := by
 have e : cmpL b c = if b.length < c.length then -1 else if c.length < b.length then 1 else 0 := by
  rcases Nat.le_total b.length c.length with hl | hl
  ·refine cmpL_end (k := b.length) ?_ (Nat.le_refl _) hl (.inl rfl)
   rw [List.take_length, ← hc, List.take_take, Nat.min_eq_left hl, hb]
  ·refine cmpL_end (k := c.length) ?_ hl (Nat.le_refl _) (.inr rfl)
   rw [List.take_length, ← hb, List.take_take, Nat.min_eq_left hl, hc]
 rw [e] at h
 split at h
 ·omega
 ·split at h <;> omega
theorem cmpSet_N {a b : List UInt8} {j k : Int} (h : cmpSet a b j k < 0) : cmpN a b ≤ 0 := by
 unfold cmpSet at h
 split at h <;> omega
theorem cut_eq {o : List UInt8} {l : List RSet} (h : checkS l = 0) (n : List UInt8) : cutR o l n = cutP o l n := by
 refine cut_first ?_
 rw [List.pairwise_iff_getElem]
 intro i j hi hj hij h1 h2
 have hc := cmpSet_N (check_sorted h i j hij hj)
 simp only [isCut, Bool.and_eq_true] at h1 h2
 obtain ⟨a, b, ha, hb, e1⟩ := under_turned h1.2
 obtain ⟨a', c, ha', hc', e2⟩ := under_turned h2.2
 rw [ha] at ha'
 cases ha'
 rw [labN_turned hb, labN_turned hc']
 refine cmp_prefix e1 e2 ?_
 unfold cmpN at hc
 rw [hb, hc'] at hc
 exact hc
theorem turned_some {n : List UInt8} : (turned n).isSome = (labels n).isSome := by
 rw [turned_eq]; cases labels n <;> rfl
theorem under_refl {n : List UInt8} (h : (labels n).isSome = true) : underN n n = true := by
 rw [← turned_some] at h
 obtain ⟨a, ha⟩ := Option.isSome_iff_exists.1 h
 rw [under_iff ha ha]
 simp
theorem under_trans {a b c : List UInt8} (h : underN a b = true) (k : underN b c = true) : underN a c = true := by
 obtain ⟨x, y, hx, hy, e1⟩ := under_turned h
 obtain ⟨y', z, hy', hz, e2⟩ := under_turned k
 rw [hy] at hy'
 cases hy'
 have hl := take_len_le e2
 rw [under_iff hx hz, decide_eq_true_eq]
 rw [← e1, List.take_take, Nat.min_eq_left hl] at e2
 exact e2
theorem under_labels {a b : List UInt8} (h : underN a b = true) : (labels a).isSome = true ∧ (labels b).isSome = true := by
 obtain ⟨x, y, hx, hy, _⟩ := under_turned h
 rw [← turned_some, ← turned_some, hx, hy]
 exact ⟨rfl, rfl⟩
structure ZoneOk (o : List UInt8) (l : List RSet) : Prop where
 lab : (labels o).isSome = true
 fold : fold o = o
 chk : checkS l = 0
 soa : (findS l o 6).isSome = true
 ns : (findS l o 2).isSome = true
 right : ∀ s ∈ l, rightR o l s = true
theorem zone_ok {o : List UInt8} {l : List RSet} (h : zoneR o l = 0) : ZoneOk o l := by
 unfold zoneR at h
 split at h
 ·cases h
 ·rename_i h1
  split at h
  ·cases h
  ·rename_i h2
   split at h
   ·cases h
   ·rename_i h3
    simp only [not_or, ne_eq, Decidable.not_not, Bool.not_eq_false] at h1 h2
    refine ⟨?_, h1.2.1, h1.2.2, h2.1, h2.2, fun s hs => ?_⟩
    ·have := h1.1
     unfold checkE at this
     split at this
     ·assumption
     ·cases this
    ·cases hr : rightR o l s with
     | true => rfl
     | false => exact absurd (List.any_eq_true.2 ⟨s, hs, by simp [hr]⟩) h3
theorem zone_ok' {o : List UInt8} {l : List RSet} (h : ZoneOk o l) : zoneR o l = 0 := by
 obtain ⟨h1, h2, h3, h4, h5, h6⟩ := h
 have h7 : l.any (fun s => !rightR o l s) = false := by
  rw [List.any_eq_false]
  intro s hs
  simp [h6 s hs]
 unfold zoneR checkE
 simp [h1, h2, h3, h4, h5, h7]
theorem right_under {o : List UInt8} {l : List RSet} {s : RSet} (h : rightR o l s = true) : underN s.name o = true := by
 simp only [rightR, Bool.and_eq_true] at h
 exact h.1.1.1
theorem ZoneOk.may {o : List UInt8} {l : List RSet} (h : ZoneOk o l) {s : RSet} (hs : s ∈ l) : mayS s = true := by
 obtain ⟨i, hi, rfl⟩ := List.getElem_of_mem hs
 exact check_may h.chk hi
theorem ZoneOk.small {o : List UInt8} {l : List RSet} (h : ZoneOk o l) {s : RSet} (hs : s ∈ l) : X.fold s.name = s.name ∧ (labels s.name).isSome = true :=
 ⟨may_fold (h.may hs), (under_labels (right_under (h.right s hs))).1⟩
theorem findS_mem {l : List RSet} {n : List UInt8} {k : Int} {s : RSet} (h : findS l n k = some s) : s ∈ l ∧ s.name = fold n ∧ s.kind = k := by
 have h1 := List.mem_of_find?_eq_some h
 have h2 := List.find?_some h
 simp only [hit, Bool.and_eq_true, decide_eq_true_eq] at h2
 exact ⟨h1, h2⟩
theorem ZoneOk.cut {o : List UInt8} {l : List RSet} (h : ZoneOk o l) {n c : List UInt8} (hc : cutR o l n = (c, true)) : underN n c = true ∧ c ≠ o ∧ cutR o l c = (c, true) := by
 rw [cut_eq h.chk, cutP] at hc
 rw [cut_eq h.chk, cutP]
 cases hf : l.find? (isCut o n) with
 | none => rw [hf] at hc; cases hc
 | some s =>
  rw [hf] at hc
  simp only [Prod.mk.injEq, and_true] at hc
  subst hc
  obtain ⟨h1, la, lb, h2, h3⟩ := List.find?_eq_some_iff_append.1 hf
  have hs : s ∈ l := by rw [h2]; simp
  have h1' := h1
  simp only [isCut, Bool.and_eq_true, decide_eq_true_eq] at h1'
  refine ⟨h1'.2, h1'.1.2, ?_⟩
  have : l.find? (isCut o s.name) = some s := by
   rw [List.find?_eq_some_iff_append]
   refine ⟨?_, la, lb, h2, fun t ht => ?_⟩
   ·simp only [isCut, Bool.and_eq_true, decide_eq_true_eq]
    exact ⟨h1'.1, under_refl (h.small hs).2⟩
   ·have hn := h3 t ht
    cases hq : isCut o s.name t with
    | false => rfl
    | true =>
     simp only [isCut, Bool.and_eq_true, decide_eq_true_eq] at hq
     have : isCut o n t = true := by
      simp only [isCut, Bool.and_eq_true, decide_eq_true_eq]
      exact ⟨hq.1, under_trans h1'.2 hq.2⟩
     rw [this] at hn
     exact hn
  rw [this]
set_option maxHeartbeats 3000000 in
theorem p_Equal (u v : Value) (a b : List (List UInt8)) (w : World) (hu : Sl 1 w u (tcells a)) (hv : Sl 1 w v (tcells b)) : Calls Tryz.prog 196 #[u, v] w (RetV w (.bool (decide (a = b)))) := by
 have hal := hu.le
 have ha := tcells_length a
 have hb := tcells_length b
 go_enter Tryz.func196, Tryz.ntmps196
 (repeat' first | ((with_reducible refine nx0 ?_); go_step) | ((with_reducible refine o_s ?_); first | refine wk0 ?_ | (refine wg0 ?_ ?_ <;> intro hc)) | fail)
 ·have hne := ‹(!decide (((tcells a).length : Int) = ((tcells b).length : Int))) = true›
  go_ret
  refine ⟨?_, Ext.refl _⟩
  have : a ≠ b := by rintro rfl; simp at hne
  simp [this]
 ·have hne := ‹(!decide (((tcells a).length : Int) = ((tcells b).length : Int))) = false›
  have hlen : a.length = b.length := by simp at hne; omega
  go_loopw [5, 13] (fun _ i wr => ∃ k : Nat, k ≤ a.length ∧ i = .int .i64 k ∧ Ext w wr ∧ a.take k = b.take k) (fun _ i _ => a.length - (intOf i).toNat)
  case atStart => exact ⟨0, Nat.zero_le _, rfl, Ext.refl _, rfl⟩
  case round =>
   obtain ⟨k, hk, rfl, hx, hall⟩ := hrel
   by_cases hlt : k < a.length
   ·have hlt2 : k < b.length := by omega
    have h1 := (hu.ext hx).elem (tcells_at hlt)
    have h2 := (hv.ext hx).elem (tcells_at hlt2)
    have hu2 := hu.ext hx
    have hv2 := hv.ext hx
    (repeat' first | ((with_reducible refine nx0 ?_); go_step) | ((with_reducible refine o_s ?_); first | refine wk0 ?_ | (refine wg0 ?_ ?_ <;> intro hc)) | fail)
    refine wph_region (S := Ext wr) (by decide +kernel) ?_
    intro w2 x2 _
    refine tk 0 ?_; refine gset ?_; refine tk 1 ?_; refine gset ?_; refine tk 2 ?_; refine gset ?_; refine tk 3 ?_; refine gset ?_; refine tk 4 ?_; refine gset ?_; refine tk 5 ?_; refine gset ?_; refine tk 6 ?_; refine gset ?_; refine tk 7 ?_; refine gset ?_; refine tk 8 ?_; refine gset ?_
    refine wph_done (by decide +kernel) ?_
    by_cases he : a[k] = b[k]
    ·have e1 : decide (a[k] = b[k]) = true := decide_eq_true he
     simp only [e1, Bool.not_true]
     (repeat' first | ((with_reducible refine nx0 ?_); go_step) | ((with_reducible refine o_s ?_); first | refine wk0 ?_ | (refine wg0 ?_ ?_ <;> intro hc)) | fail)
     exact ⟨⟨k + 1, by omega, by go_num, by exact extc, take_succ_eq hall hlt hlt2 he⟩, by simp [intOf]; omega⟩
    ·have e1 : decide (a[k] = b[k]) = false := decide_eq_false he
     simp only [e1, Bool.not_false]
     (repeat' first | ((with_reducible refine nx0 ?_); go_step) | ((with_reducible refine o_s ?_); first | refine wk0 ?_ | (refine wg0 ?_ ?_ <;> intro hc)) | fail)
     go_ret
     refine ⟨?_, by exact extc⟩
     simp [ne_of_at hlt hlt2 he]
   ·have hk2 : k = a.length := by omega
    subst hk2
    (repeat' first | ((with_reducible refine nx0 ?_); go_step) | ((with_reducible refine o_s ?_); first | refine wk0 ?_ | (refine wg0 ?_ ?_ <;> intro hc)) | fail)
    go_ret
    refine ⟨?_, by exact extc⟩
    rw [List.take_length, hlen, List.take_length] at hall
    simp [hall]
set_option maxHeartbeats 3000000 in
theorem p_Under (n t : List UInt8) (w : World) : Calls Tryz.prog 141 #[str n, str t] w (RetV w (.bool (underN n t))) := by
 go_enter Tryz.func141, Tryz.ntmps141
 (repeat' first | ((with_reducible refine nx0 ?_); go_step) | ((with_reducible refine o_s ?_); first | refine wk0 ?_ | (refine wg0 ?_ ?_ <;> intro hc)) | fail)
 refine wpl_callR (enters_of Tryz.func195 rfl rfl) rfl rfl (t64 n _) ?_
 intro r1 w1 x1 h1
 cases ha : turned n with
 | none =>
  rw [ha] at h1
  obtain ⟨s1, rfl⟩ := h1
  (repeat' first | ((with_reducible refine nx0 ?_); go_step) | ((with_reducible refine o_s ?_); first | refine wk0 ?_ | (refine wg0 ?_ ?_ <;> intro hc)) | fail)
  refine wpl_callR (enters_of Tryz.func195 rfl rfl) rfl rfl (t64 t _) ?_
  intro r2 w2 x2 h2
  obtain ⟨s2, b2, rfl⟩ : ∃ s b, r2 = .tuple #[s, .bool b] := by
   cases hb : turned t with
   | none => rw [hb] at h2; obtain ⟨s, rfl⟩ := h2; exact ⟨s, _, rfl⟩
   | some y => rw [hb] at h2; obtain ⟨s, rfl, _⟩ := h2; exact ⟨s, _, rfl⟩
  (repeat' first | ((with_reducible refine nx0 ?_); go_step) | ((with_reducible refine o_s ?_); first | refine wk0 ?_ | (refine wg0 ?_ ?_ <;> intro hc)) | fail)
  go_ret
  exact ⟨by simp [underN, ha], x1.trans x2⟩
 | some a =>
  rw [ha] at h1
  obtain ⟨s1, rfl, hs1, hl1⟩ := h1
  (repeat' first | ((with_reducible refine nx0 ?_); go_step) | ((with_reducible refine o_s ?_); first | refine wk0 ?_ | (refine wg0 ?_ ?_ <;> intro hc)) | fail)
  refine wpl_callR (enters_of Tryz.func195 rfl rfl) rfl rfl (t64 t _) ?_
  intro r2 w2 x2 h2
  cases hb : turned t with
  | none =>
   rw [hb] at h2
   obtain ⟨s2, rfl⟩ := h2
   (repeat' first | ((with_reducible refine nx0 ?_); go_step) | ((with_reducible refine o_s ?_); first | refine wk0 ?_ | (refine wg0 ?_ ?_ <;> intro hc)) | fail)
   go_ret
   exact ⟨by simp [underN, ha, hb], x1.trans x2⟩
  | some b =>
   rw [hb] at h2
   obtain ⟨s2, rfl, hs2, hl2⟩ := h2
   have hs1 := hs1.ext x2
   have tl1 := tcells_length a
   have tl2 := tcells_length b
   (repeat' first | ((with_reducible refine nx0 ?_); go_step) | ((with_reducible refine o_s ?_); first | refine wk0 ?_ | (refine wg0 ?_ ?_ <;> intro hc)) | fail)
   ·have hle : b.length ≤ a.length := by omega
    have hcut := hs1.cut (m := 0) (n := (tcells b).length) (Nat.zero_le _) (by omega)
    rw [List.drop_zero] at hcut
    have hcut : Sl 1 w2 (cutSl s1 1 0 (tcells b).length) (tcells (a.take b.length)) := by
     rw [tl2] at hcut ⊢
     simpa [tcells, List.map_take] using hcut
    refine wpl_callV (enters_of Tryz.func196 rfl rfl) rfl rfl (p_Equal _ _ _ _ _ hcut hs2) ?_; intro w3 x3; refine gset ?_
    (repeat' first | ((with_reducible refine nx0 ?_); go_step) | ((with_reducible refine o_s ?_); first | refine wk0 ?_ | (refine wg0 ?_ ?_ <;> intro hc)) | fail)
    go_ret
    exact ⟨by rw [under_iff ha hb]; rfl, (x1.trans x2).trans x3⟩
   ·go_ret
    refine ⟨?_, x1.trans x2⟩
    have hlt : a.length < b.length := by omega
    rw [under_iff ha hb, decide_eq_false (fun h => by have := take_len_le h; omega)]
    rfl
end Go.Proofs.X
