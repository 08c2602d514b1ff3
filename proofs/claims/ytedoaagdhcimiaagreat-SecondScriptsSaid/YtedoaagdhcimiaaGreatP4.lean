/- Laws and walks that the proof of the statement is made of (part 4). -/
import Derived.Test.YtedoaagdhcimiaaGreatProg
import Derived.Test.YtedoaagdhcimiaaGreatShelf
import Derived.Lib.Hide
import Derived.Shelf.RegionOpenPlain
import Derived.Lib.Strings
import Derived.Lib.Slices
import Derived.Lib.Walk
import Derived.Lib.Builder
import Derived.Lib.AppendStr
import Derived.Lib.UnsafeStr
import Derived.Lib.MakeNoZero
import Derived.WalkKit
import Derived.Laws.Externs
import Derived.Laws.IdiomCopy
import Derived.Laws.BitsLemmas
import GoSem.Claims
import Derived.OwnWalk
import Derived.Shelf.SlSortCmp.NoneTotal
import Derived.Test.YtedoaagdhcimiaaGreatP1
import Derived.Test.YtedoaagdhcimiaaGreatP2
import Derived.Test.YtedoaagdhcimiaaGreatP3
set_option linter.unusedSimpArgs false
set_option linter.unusedVariables false
namespace Go.Proofs.X
open Go.RowKit
set_option maxRecDepth 100000
theorem t84 {B : Nat} {v : Value} {ls : List (List UInt8)} {w : World} (h : Own B 1 9 w v (tcells ls)) : Calls Tryz.prog 249 #[v] w fun e w' => e = .returned (.tuple #[]) ∧ Own B 1 9 w' v (tcells ls.reverse) ∧ Mv v.ownBlock w w' := by
 rcases h.form with ⟨rfl, h0⟩ | ⟨g, cap, rfl, hg, hB, hc, hm⟩
 ·have : ls = [] := by simpa [tcells] using h0
  subst this
  refine (Tryz.slices_Reverse_string_empty none 0 w).mono ?_
  rintro e w' ⟨rfl, rfl⟩
  exact ⟨rfl, h, Mv.refl _ _⟩
 ·rw [tcells_length] at h hm ⊢
  refine (Tryz.slices_Reverse_string g 0 cap ls w (Own.holds h) hm).mono ?_
  rintro e w' ⟨rfl, n, rfl⟩
  have := Own.putRow (ys := ls.reverse) h (by simp) n #[]
  rw [Sort.grow_empty] at this
  exact ⟨rfl, this.1, this.2⟩
theorem t18 {B : Nat} {v : Value} {ls : List (List UInt8)} {w : World} (h : Own B 1 9 w v (tcells ls)) (hl : ls.length < 4611686018427387904) : Calls Tryz.prog 126 #[v] w fun e w' => e = .returned (.tuple #[]) ∧ Own B 1 9 w' v (tcells (ls.mergeSort fun x y => decide (x ≤ y))) ∧ Mv v.ownBlock w w' := by
 rcases h.form with ⟨rfl, h0⟩ | ⟨g, cap, rfl, hg, hB, hc, hm⟩
 ·have : ls = [] := by simpa [tcells] using h0
  subst this
  refine (Tryz.slices_Sort_string_none none 0 w).mono ?_
  rintro e w' ⟨rfl, rfl⟩
  exact ⟨rfl, by simpa using h, Mv.refl _ _⟩
 ·rw [tcells_length] at h hm ⊢
  refine (Tryz.slices_Sort_string g 0 cap ls w (Own.holds h) hg hl).mono ?_
  rintro e w' ⟨rfl, n, os, rfl⟩
  have := Own.putRow (ys := ls.mergeSort fun x y => decide (x ≤ y)) h (List.length_mergeSort _) n os
  exact ⟨rfl, this.1, this.2⟩
theorem compact_le (ls : List (List UInt8)) : (Lib.compact ls).length ≤ ls.length := by
 unfold Lib.compact Lib.compactUpTo
 rw [List.length_map]
 exact Nat.le_trans (List.length_filter_le _ _) (by simp)
theorem t19 {B : Nat} {v : Value} {ls : List (List UInt8)} {w : World} (h : Own B 1 9 w v (tcells ls)) : Calls Tryz.prog 127 #[v] w fun e w' => ∃ v', e = .returned v' ∧ Own B 1 9 w' v' (tcells (Lib.compact ls)) ∧ Mv v.ownBlock w w' ∧ v'.ownBlock = v.ownBlock := by
 rcases h.form with ⟨rfl, h0⟩ | ⟨g, cap, rfl, hg, hB, hc, hm⟩
 ·have : ls = [] := by simpa [tcells] using h0
  subst this
  refine (Tryz.slices_Compact_string_empty none 0 w).mono ?_
  rintro e w' ⟨rfl, rfl⟩
  exact ⟨_, rfl, h, Mv.refl _ _, rfl⟩
 ·rw [tcells_length] at h hm hc ⊢
  refine (Tryz.slices_Compact_string g 0 cap ls w (Own.holds h) hm hc).mono ?_
  rintro e w' ⟨rfl, n, rfl⟩
  have hle := compact_le ls
  have := Own.putRow (ys := Lib.compact ls ++ List.replicate (ls.length - (Lib.compact ls).length) []) h (by simp; omega) n #[]
  rw [Sort.grow_empty] at this
  refine ⟨_, rfl, ?_, this.2, rfl⟩
  have h2 := this.1.short (m := (Lib.compact ls).length) (by simp)
  rw [List.map_append, List.take_left' (by simp)] at h2
  exact h2
theorem t64 (nm : List UInt8) (w : World) : Calls Tryz.prog 195 #[str nm] w (Ret w fun v w' => match turned nm with
 | some ls => ∃ s, v = .tuple #[s, .bool true] ∧ Sl 1 w' s (tcells ls) ∧ ls.length ≤ 254
 | none => ∃ s, v = .tuple #[s, .bool false]) := by
 go_enter Tryz.func195, Tryz.ntmps195
 (repeat' first | ((with_reducible refine nx0 ?_); go_step) | ((with_reducible refine o_s ?_); first | refine wk0 ?_ | (refine wg0 ?_ ?_ <;> intro hc)) | fail)
 refine wpl_callV (enters_of Tryz.func69 rfl rfl) rfl rfl (t17 nm _) ?_
 intro w1 x1
 refine gset ?_
 refine wpl_callR (enters_of Tryz.func124 rfl rfl) rfl rfl (t28 _ _) ?_
 intro v w2 x2 hv
 cases hl : labels (fold nm) with
 | none =>
  rw [hl] at hv
  subst hv
  (repeat' first | ((with_reducible refine nx0 ?_); go_step) | ((with_reducible refine o_s ?_); first | refine wk0 ?_ | (refine wg0 ?_ ?_ <;> intro hc)) | fail)
  refine wpl_callG (enters_of Tryz.func249 rfl rfl) rfl rfl (t84 (ls := []) (Own.nil w2.heap.size 1 9 w2)) ?_
  rintro e w3 ⟨rfl, _, m3⟩
  refine ⟨_, rfl, ?_⟩
  (repeat' first | ((with_reducible refine nx0 ?_); go_step) | ((with_reducible refine o_s ?_); first | refine wk0 ?_ | (refine wg0 ?_ ?_ <;> intro hc)) | fail)
  go_ret2
  refine ⟨_, rfl, (x1.trans x2).move m3 (by rintro k ⟨⟩), ?_⟩
  simp [turned, hl]
 | some ls =>
  rw [hl] at hv
  obtain ⟨s, rfl, hs⟩ := hv
  (repeat' first | ((with_reducible refine nx0 ?_); go_step) | ((with_reducible refine o_s ?_); first | refine wk0 ?_ | (refine wg0 ?_ ?_ <;> intro hc)) | fail)
  refine wpl_callG (enters_of Tryz.func249 rfl rfl) rfl rfl (t84 hs) ?_
  rintro e w3 ⟨rfl, o3, m3⟩
  refine ⟨_, rfl, ?_⟩
  (repeat' first | ((with_reducible refine nx0 ?_); go_step) | ((with_reducible refine o_s ?_); first | refine wk0 ?_ | (refine wg0 ?_ ?_ <;> intro hc)) | fail)
  go_ret2
  refine ⟨_, rfl, hs.mvx m3 (x1.trans x2) x1.size, ?_⟩
  have := labels_fit hl
  simp only [turned, hl, Option.map_some]
  refine ⟨s, rfl, o3.sl, ?_⟩
  have h2 := len_le_enc ls
  rw [this.2.1] at h2
  simp; omega
theorem t85 (a : List UInt8) (w : World) : Calls Tryz.prog 268 #[str a] w (RetV w (.bool false)) := by
 go_enter Tryz.func268, Tryz.ntmps268
 (repeat' first | ((with_reducible refine nx0 ?_); go_step) | ((with_reducible refine o_s ?_); first | refine wk0 ?_ | (refine wg0 ?_ ?_ <;> intro hc)) | fail)
 go_ret
 exact ⟨by simp, Ext.refl _⟩
theorem t80 (a : List UInt8) (w : World) : Calls Tryz.prog 264 #[str a] w (RetV w (.bool false)) := by
 go_enter Tryz.func264, Tryz.ntmps264
 (repeat' first | ((with_reducible refine nx0 ?_); go_step) | ((with_reducible refine o_s ?_); first | refine wk0 ?_ | (refine wg0 ?_ ?_ <;> intro hc)) | fail)
 go_ret
 exact ⟨by simp, Ext.refl _⟩
theorem t65 (a b : List UInt8) (w : World) : Calls Tryz.prog 243 #[str a, str b] w (RetV w (.int .i64 (cmpB a b))) := by
 go_enter Tryz.func243, Tryz.ntmps243
 (repeat' first | ((with_reducible refine nx0 ?_); go_step) | ((with_reducible refine o_s ?_); first | refine wk0 ?_ | (refine wg0 ?_ ?_ <;> intro hc)) | fail)
 refine wpl_callV (enters_of Tryz.func268 rfl rfl) rfl rfl (t85 _ _) ?_
 intro w1 x1
 (repeat' first | ((with_reducible refine nx0 ?_); go_step) | ((with_reducible refine o_s ?_); first | refine wk0 ?_ | (refine wg0 ?_ ?_ <;> intro hc)) | fail)
 refine wpl_callV (enters_of Tryz.func268 rfl rfl) rfl rfl (t85 _ _) ?_
 intro w2 x2
 (repeat' first | ((with_reducible refine nx0 ?_); go_step) | ((with_reducible refine o_s ?_); first | refine wk0 ?_ | (refine wg0 ?_ ?_ <;> intro hc)) | fail)
 ·rename_i h
  go_ret
  exact ⟨by simp [cmpB, h], x1.trans x2⟩
 ·have h := ‹Op.bytesLess a b = false›
  have h2 := ‹(!(Op.bytesLess a b || a == b)) = true›
  go_ret
  have h3 : a ≠ b := by intro e; subst e; simp at h2
  exact ⟨by simp [cmpB, h, h3], x1.trans x2⟩
 ·have h := ‹Op.bytesLess a b = false›
  have h2 := ‹(!(Op.bytesLess a b || a == b)) = false›
  go_ret
  rw [h] at h2
  have h3 : a = b := by simpa using h2
  subst h3
  exact ⟨by simp [cmpB, h], x1.trans x2⟩
theorem t86 (a b : List UInt8) (w : World) : Calls Tryz.prog 269 #[str a, str b] w (RetV w (.int .i64 (cmpB a b))) := by
 go_enter Tryz.func269, Tryz.ntmps269
 (repeat' first | ((with_reducible refine nx0 ?_); go_step) | ((with_reducible refine o_s ?_); first | refine wk0 ?_ | (refine wg0 ?_ ?_ <;> intro hc)) | fail)
 refine wpl_callV (enters_of Tryz.func264 rfl rfl) rfl rfl (t80 _ _) ?_
 intro w1 x1
 (repeat' first | ((with_reducible refine nx0 ?_); go_step) | ((with_reducible refine o_s ?_); first | refine wk0 ?_ | (refine wg0 ?_ ?_ <;> intro hc)) | fail)
 refine wpl_callV (enters_of Tryz.func264 rfl rfl) rfl rfl (t80 _ _) ?_
 intro w2 x2
 (repeat' first | ((with_reducible refine nx0 ?_); go_step) | ((with_reducible refine o_s ?_); first | refine wk0 ?_ | (refine wg0 ?_ ?_ <;> intro hc)) | fail)
 ·rename_i h
  go_ret
  exact ⟨by simp [cmpB, h], x1.trans x2⟩
 ·have h := ‹Op.bytesLess a b = false›
  have h2 := ‹(!(Op.bytesLess a b || a == b)) = true›
  go_ret
  have h3 : a ≠ b := by intro e; subst e; simp at h2
  exact ⟨by simp [cmpB, h, h3], x1.trans x2⟩
 ·have h := ‹Op.bytesLess a b = false›
  have h2 := ‹(!(Op.bytesLess a b || a == b)) = false›
  go_ret
  rw [h] at h2
  have h3 : a = b := by simpa using h2
  subst h3
  exact ⟨by simp [cmpB, h], x1.trans x2⟩
theorem tcells_at {l : List (List UInt8)} {k : Nat} (h : k < l.length) : (tcells l)[k]? = some [str l[k]] := tcells_get l k _ (List.getElem?_eq_getElem h)
theorem t66 (u v : Value) (xs ys : List (List UInt8)) (w : World) (hu : Sl 1 w u (tcells xs)) (hv : Sl 1 w v (tcells ys)) : Calls Tryz.prog 244 #[u, v] w (RetV w (.int .i64 (cmpL xs ys))) := by
 have hxl := hu.le
 have hyl := hv.le
 have hxe := tcells_length xs
 have hye := tcells_length ys
 go_enter Tryz.func244, Tryz.ntmps244
 (repeat' first | ((with_reducible refine nx0 ?_); go_step) | ((with_reducible refine o_s ?_); first | refine wk0 ?_ | (refine wg0 ?_ ?_ <;> intro hc)) | fail)
 rw [hxe]
 go_loopw [11] (fun i wr => ∃ k : Nat, k ≤ xs.length ∧ k ≤ ys.length ∧ i = .int .i64 k ∧ Ext w wr ∧ cmpL xs ys = cmpL (xs.drop k) (ys.drop k)) (fun i _ => xs.length - (intOf i).toNat)
 case atStart => exact ⟨0, Nat.zero_le _, Nat.zero_le _, rfl, Ext.refl _, rfl⟩
 case round =>
  obtain ⟨k, hk, hk2, rfl, hx, hrec⟩ := hrel
  have hul := hu.ext hx
  have hvl := hv.ext hx
  by_cases hlt : k < xs.length
  ·have hp := hul.elem (tcells_at hlt)
   have hd := List.drop_eq_getElem_cons hlt
   by_cases hlt2 : k < ys.length
   ·have hp2 := hvl.elem (tcells_at hlt2)
    have hd2 := List.drop_eq_getElem_cons hlt2
    (repeat' first | ((with_reducible refine nx0 ?_); go_step) | ((with_reducible refine o_s ?_); first | refine wk0 ?_ | (refine wg0 ?_ ?_ <;> intro hc)) | fail)
    refine wpl_callV (enters_of Tryz.func269 rfl rfl) rfl rfl (t86 _ _ _) ?_
    intro w2 x2
    have hx2 := hx.trans x2
    clear hx hul hvl hp hp2
    (repeat' first | ((with_reducible refine nx0 ?_); go_step) | ((with_reducible refine o_s ?_); first | refine wk0 ?_ | (refine wg0 ?_ ?_ <;> intro hc)) | fail)
    ·rename_i hc
     go_ret
     refine ⟨?_, hx2⟩
     rw [hrec, hd, hd2, cmpL, if_pos (by simpa using hc)]
     rfl
    ·rename_i hc
     refine ⟨⟨k + 1, by omega, by omega, rfl, hx2, ?_⟩, by simp [intOf]; omega⟩
     rw [hrec, hd, hd2, cmpL, if_neg (by simpa using hc)]
   ·have : k = ys.length := by omega
    subst this
    (repeat' first | ((with_reducible refine nx0 ?_); go_step) | ((with_reducible refine o_s ?_); first | refine wk0 ?_ | (refine wg0 ?_ ?_ <;> intro hc)) | fail)
    go_ret
    refine ⟨?_, hx⟩
    rw [hrec, hd, List.drop_length, cmpL]
    rfl
  ·have : k = xs.length := by omega
   subst this
   (repeat' first | ((with_reducible refine nx0 ?_); go_step) | ((with_reducible refine o_s ?_); first | refine wk0 ?_ | (refine wg0 ?_ ?_ <;> intro hc)) | fail)
   ·rename_i hc
    go_ret
    refine ⟨?_, hx⟩
    have hlt2 : xs.length < ys.length := by rw [hxe, hye] at hc; omega
    rw [hrec, List.drop_length, List.drop_eq_getElem_cons hlt2, cmpL]
    rfl
   ·rename_i hc
    go_ret
    refine ⟨?_, hx⟩
    have hlt2 : xs.length = ys.length := by rw [hxe, hye] at hc; omega
    rw [hrec, List.drop_length, hlt2, List.drop_length, cmpL]
    rfl
theorem t35 (a b : List UInt8) (w : World) : Calls Tryz.prog 187 #[str a, str b] w (RetV w (.int .i64 (cmpN a b))) := by
 go_enter Tryz.func187, Tryz.ntmps187
 (repeat' first | ((with_reducible refine nx0 ?_); go_step) | ((with_reducible refine o_s ?_); first | refine wk0 ?_ | (refine wg0 ?_ ?_ <;> intro hc)) | fail)
 refine wpl_callR (enters_of Tryz.func195 rfl rfl) rfl rfl (t64 a _) ?_
 intro v w1 x1 hv
 cases ha : turned a with
 | none =>
  rw [ha] at hv
  obtain ⟨s, rfl⟩ := hv
  (repeat' first | ((with_reducible refine nx0 ?_); go_step) | ((with_reducible refine o_s ?_); first | refine wk0 ?_ | (refine wg0 ?_ ?_ <;> intro hc)) | fail)
  refine wpl_callR (enters_of Tryz.func195 rfl rfl) rfl rfl (t64 b _) ?_
  intro v w2 x2 hv
  cases hb : turned b with
  | none =>
   rw [hb] at hv
   obtain ⟨s2, rfl⟩ := hv
   (repeat' first | ((with_reducible refine nx0 ?_); go_step) | ((with_reducible refine o_s ?_); first | refine wk0 ?_ | (refine wg0 ?_ ?_ <;> intro hc)) | fail)
   refine wpl_callV (enters_of Tryz.func243 rfl rfl) rfl rfl (t65 _ _ _) ?_
   intro w3 x3
   (repeat' first | ((with_reducible refine nx0 ?_); go_step) | ((with_reducible refine o_s ?_); first | refine wk0 ?_ | (refine wg0 ?_ ?_ <;> intro hc)) | fail)
   go_ret
   exact ⟨by simp [cmpN, ha, hb], (x1.trans x2).trans x3⟩
  | some ys =>
   rw [hb] at hv
   obtain ⟨s2, rfl, hs2, _⟩ := hv
   (repeat' first | ((with_reducible refine nx0 ?_); go_step) | ((with_reducible refine o_s ?_); first | refine wk0 ?_ | (refine wg0 ?_ ?_ <;> intro hc)) | fail)
   go_ret
   exact ⟨by simp [cmpN, ha, hb], x1.trans x2⟩
 | some xs =>
  rw [ha] at hv
  obtain ⟨s, rfl, hs, _⟩ := hv
  (repeat' first | ((with_reducible refine nx0 ?_); go_step) | ((with_reducible refine o_s ?_); first | refine wk0 ?_ | (refine wg0 ?_ ?_ <;> intro hc)) | fail)
  refine wpl_callR (enters_of Tryz.func195 rfl rfl) rfl rfl (t64 b _) ?_
  intro v w2 x2 hv
  cases hb : turned b with
  | none =>
   rw [hb] at hv
   obtain ⟨s2, rfl⟩ := hv
   (repeat' first | ((with_reducible refine nx0 ?_); go_step) | ((with_reducible refine o_s ?_); first | refine wk0 ?_ | (refine wg0 ?_ ?_ <;> intro hc)) | fail)
   go_ret
   exact ⟨by simp [cmpN, ha, hb], x1.trans x2⟩
  | some ys =>
   rw [hb] at hv
   obtain ⟨s2, rfl, hs2, _⟩ := hv
   have hs := hs.ext x2
   (repeat' first | ((with_reducible refine nx0 ?_); go_step) | ((with_reducible refine o_s ?_); first | refine wk0 ?_ | (refine wg0 ?_ ?_ <;> intro hc)) | fail)
   refine wpl_callV (enters_of Tryz.func244 rfl rfl) rfl rfl (t66 _ _ _ _ _ hs hs2) ?_
   intro w3 x3
   (repeat' first | ((with_reducible refine nx0 ?_); go_step) | ((with_reducible refine o_s ?_); first | refine wk0 ?_ | (refine wg0 ?_ ?_ <;> intro hc)) | fail)
   go_ret
   exact ⟨by simp [cmpN, ha, hb], (x1.trans x2).trans x3⟩
theorem t27 (nm : List UInt8) (w : World) : Calls Tryz.prog 63 #[str nm] w (RetV w (.int .i64 (if (labels nm).isSome then 0 else 1))) := by
 go_enter Tryz.func63, Tryz.ntmps63
 (repeat' first | ((with_reducible refine nx0 ?_); go_step) | ((with_reducible refine o_s ?_); first | refine wk0 ?_ | (refine wg0 ?_ ?_ <;> intro hc)) | fail)
 refine wpl_callR (enters_of Tryz.func124 rfl rfl) rfl rfl (t28 nm _) ?_
 intro v w1 x1 hv
 cases hl : labels nm with
 | none =>
  rw [hl] at hv
  subst hv
  (repeat' first | ((with_reducible refine nx0 ?_); go_step) | ((with_reducible refine o_s ?_); first | refine wk0 ?_ | (refine wg0 ?_ ?_ <;> intro hc)) | fail)
  go_ret
  exact ⟨by simp [hl], x1⟩
 | some ls =>
  rw [hl] at hv
  obtain ⟨s, rfl, _⟩ := hv
  (repeat' first | ((with_reducible refine nx0 ?_); go_step) | ((with_reducible refine o_s ?_); first | refine wk0 ?_ | (refine wg0 ?_ ?_ <;> intro hc)) | fail)
  go_ret
  exact ⟨by simp [hl], x1⟩
theorem t87 (nm : List UInt8) (w : World) (hl : nm.length ≤ 9223372036854775806) : Calls Tryz.prog 200 #[str nm] w (RetV w (if (labels nm).isSome = true then .tuple #[str (nm ++ [0]), .int .i64 0] else .tuple #[str [], .int .i64 1])) := by
 have h27 := fun w => t27 nm w
 cases hls : labels nm with
 | none =>
  simp only [hls, Option.isSome_none, Bool.false_eq_true, if_false] at h27 ⊢
  go_enter Tryz.func200, Tryz.ntmps200
  (repeat' first | ((with_reducible refine nx0 ?_); go_step) | ((with_reducible refine o_s ?_); first | refine wk0 ?_ | (refine wg0 ?_ ?_ <;> intro hc)) | fail)
  refine wpl_callV (enters_of Tryz.func63 rfl rfl) rfl rfl (h27 _) ?_
  intro w1 x1
  (repeat' first | ((with_reducible refine nx0 ?_); go_step) | ((with_reducible refine o_s ?_); first | refine wk0 ?_ | (refine wg0 ?_ ?_ <;> intro hc)) | fail)
  go_ret2
  exact ⟨rfl, x1⟩
 | some ls =>
  simp only [hls, Option.isSome_some, if_true] at h27 ⊢
  go_enter Tryz.func200, Tryz.ntmps200
  (repeat' first | ((with_reducible refine nx0 ?_); go_step) | ((with_reducible refine o_s ?_); first | refine wk0 ?_ | (refine wg0 ?_ ?_ <;> intro hc)) | fail)
  refine wpl_callV (enters_of Tryz.func63 rfl rfl) rfl rfl (h27 _) ?_
  intro w1 x1
  (repeat' first | ((with_reducible refine nx0 ?_); go_step) | ((with_reducible refine o_s ?_); first | refine wk0 ?_ | (refine wg0 ?_ ?_ <;> intro hc)) | fail)
  go_ret2
  exact ⟨rfl, x1⟩
theorem t72 (s : List UInt8) (w : World) (hl : s.length ≤ 9223372036854775807) : Calls Tryz.prog 199 #[str s] w (RetV w (.tuple #[str ((hostN s).getD []), .bool (hostN s).isSome])) := by
 have h27 := fun w => t27 (Lib.trimSuffix s [0]) w
 go_enter Tryz.func199, Tryz.ntmps199
 (repeat' first | ((with_reducible refine nx0 ?_); go_step) | ((with_reducible refine o_s ?_); first | refine wk0 ?_ | (refine wg0 ?_ ?_ <;> intro hc)) | fail)
 refine wpl_callG (vs := [str s, str [0]]) (enters_of Tryz.func250 rfl rfl) rfl rfl (Tryz.strings_CutSuffix ⟨s.toArray⟩ ⟨[0].toArray⟩ _ (by rw [size_mk]; exact hl)) ?_
 rintro e w1 ⟨rfl, rfl⟩
 refine ⟨_, rfl, ?_⟩
 refine gset ?_
 cases hh : Lib.hasSuffix s [0] with
 | false =>
  (repeat' first | ((with_reducible refine nx0 ?_); go_step) | ((with_reducible refine o_s ?_); first | refine wk0 ?_ | (refine wg0 ?_ ?_ <;> intro hc)) | fail)
  go_ret2
  refine ⟨?_, Ext.refl _⟩
  simp only [hostN, hh, Bool.false_eq_true, false_and, if_false]
  rfl
 | true =>
  cases hls : labels (Lib.trimSuffix s [0]) with
  | none =>
   simp only [hls, Option.isSome_none, Bool.false_eq_true, if_false] at h27
   (repeat' first | ((with_reducible refine nx0 ?_); go_step) | ((with_reducible refine o_s ?_); first | refine wk0 ?_ | (refine wg0 ?_ ?_ <;> intro hc)) | fail)
   all_goals try (exact absurd ‹false = true› Bool.false_ne_true)
   refine wpl_callV (enters_of Tryz.func63 rfl rfl) rfl rfl (h27 _) ?_
   intro w2 x2
   (repeat' first | ((with_reducible refine nx0 ?_); go_step) | ((with_reducible refine o_s ?_); first | refine wk0 ?_ | (refine wg0 ?_ ?_ <;> intro hc)) | fail)
   go_ret2
   refine ⟨?_, x2⟩
   simp only [hostN, hh, hls, Option.isSome_none, Bool.false_eq_true, and_false, if_false]
   rfl
  | some ls =>
   simp only [hls, Option.isSome_some, if_true] at h27
   (repeat' first | ((with_reducible refine nx0 ?_); go_step) | ((with_reducible refine o_s ?_); first | refine wk0 ?_ | (refine wg0 ?_ ?_ <;> intro hc)) | fail)
   all_goals try (exact absurd ‹false = true› Bool.false_ne_true)
   refine wpl_callV (enters_of Tryz.func63 rfl rfl) rfl rfl (h27 _) ?_
   intro w2 x2
   (repeat' first | ((with_reducible refine nx0 ?_); go_step) | ((with_reducible refine o_s ?_); first | refine wk0 ?_ | (refine wg0 ?_ ?_ <;> intro hc)) | fail)
   go_ret2
   refine ⟨?_, x2⟩
   simp only [hostN, hh, hls, Option.isSome_some, and_self, if_true]
   rfl
theorem t71 (k : Int) (w : World) : Calls Tryz.prog 256 #[.int .i64 k] w (RetV w (.int .i64 (ahead k))) := by
 go_enter Tryz.func256, Tryz.ntmps256
 (repeat' first | ((with_reducible refine nx0 ?_); go_step) | ((with_reducible refine o_s ?_); first | refine wk0 ?_ | (refine wg0 ?_ ?_ <;> intro hc)) | fail)
 all_goals
  go_ret
  refine ⟨?_, Ext.refl _⟩
  simp [ahead, *]
theorem t37 (s : List UInt8) (w : World) (hl : s.length ≤ 4611686018427387904) : Calls Tryz.prog 212 #[str s] w (RetV w (.bool (textsB s))) := by
 go_enter Tryz.func212, Tryz.ntmps212
 (repeat' first | ((with_reducible refine nx0 ?_); go_step) | ((with_reducible refine o_s ?_); first | refine wk0 ?_ | (refine wg0 ?_ ?_ <;> intro hc)) | fail)
 go_loopw [0] (fun s2 wr => wr = w ∧ ∃ r : List UInt8, s2 = str r ∧ r.length ≤ s.length ∧ textsN s = textsN r) (fun s2 _ => strLen s2)
 case atStart => exact ⟨rfl, s, rfl, Nat.le_refl _, rfl⟩
 case round =>
  obtain ⟨rfl, r, rfl, hr, hrec⟩ := hrel
  cases r with
  | nil =>
   (repeat' first | ((with_reducible refine nx0 ?_); go_step) | ((with_reducible refine o_s ?_); first | refine wk0 ?_ | (refine wg0 ?_ ?_ <;> intro hc)) | fail)
   go_ret
   refine ⟨?_, Ext.refl _⟩
   rw [textsB, hrec]
   simp [textsN, textsF]
  | cons k t =>
   have hk : k.toNat < 256 := k.toNat_lt
   have hne : s ≠ [] := by intro e; subst e; simp at hr
   (repeat' first | ((with_reducible refine nx0 ?_); go_step) | ((with_reducible refine o_s ?_); first | refine wk0 ?_ | (refine wg0 ?_ ?_ <;> intro hc)) | fail)
   ·have hc := ‹((k :: t).length : Int) < 1 + (k.toNat : Int)›
    go_ret
    refine ⟨?_, Ext.refl _⟩
    rw [textsB, hrec, textsN_cons, if_pos (by simp at hc; omega)]
    simp
   ·have hc := ‹1 + (k.toNat : Int) ≤ ((k :: t).length : Int)›
    have e : (1 + (k.toNat : Int)).toNat = k.toNat + 1 := by omega
    rw [e, List.drop_succ_cons]
    refine ⟨⟨trivial, _, rfl, by simp at hr ⊢; omega, ?_⟩, by simp [strLen_str]; omega⟩
    rw [hrec, textsN_cons, if_neg (by simp at hc; omega)]
theorem t39 (k : Int) (d : List UInt8) (w : World) (hl : d.length ≤ 9223372036854775807) : Calls Tryz.prog 213 #[.int .i64 k, str d] w (RetV w (.tuple #[str (parseHost k d).1, .int .i64 (parseHost k d).2])) := by
 go_enter Tryz.func213, Tryz.ntmps213
 (repeat' first | ((with_reducible refine nx0 ?_); go_step) | ((with_reducible refine o_s ?_); first | refine wk0 ?_ | (refine wg0 ?_ ?_ <;> intro hc)) | fail)
 refine wpl_callV (enters_of Tryz.func256 rfl rfl) rfl rfl (t71 _ _) ?_
 intro w1 x1
 (repeat' first | ((with_reducible refine nx0 ?_); go_step) | ((with_reducible refine o_s ?_); first | refine wk0 ?_ | (refine wg0 ?_ ?_ <;> intro hc)) | fail)
 ·have hc := ‹ahead k < 0›
  go_ret2
  refine ⟨?_, x1⟩
  rw [parseHost, if_pos hc]
  rfl
 ·have hc : ¬ ahead k < 0 := by have := ‹0 ≤ ahead k›; omega
  have hc2 := ‹(d.length : Int) < ahead k›
  go_ret2
  refine ⟨?_, x1⟩
  rw [parseHost, if_neg hc, if_pos hc2]
  rfl
 ·have hc : ¬ ahead k < 0 := by have := ‹0 ≤ ahead k›; omega
  have hc2 : ¬ (d.length : Int) < ahead k := by have := ‹ahead k ≤ (d.length : Int)›; omega
  refine wpl_callV (enters_of Tryz.func199 rfl rfl) rfl rfl (t72 (d.drop (ahead k).toNat) _ (by simp; omega)) ?_
  intro w2 x2
  cases hh : hostN (d.drop (ahead k).toNat) with
  | none =>
   simp only [hh, Option.isSome_none, Option.getD_none]
   (repeat' first | ((with_reducible refine nx0 ?_); go_step) | ((with_reducible refine o_s ?_); first | refine wk0 ?_ | (refine wg0 ?_ ?_ <;> intro hc)) | fail)
   go_ret2
   refine ⟨?_, x1.trans x2⟩
   rw [parseHost, if_neg hc, if_neg hc2, hh]
   rfl
  | some n =>
   simp only [hh, Option.isSome_some, Option.getD_some]
   (repeat' first | ((with_reducible refine nx0 ?_); go_step) | ((with_reducible refine o_s ?_); first | refine wk0 ?_ | (refine wg0 ?_ ?_ <;> intro hc)) | fail)
   go_ret2
   refine ⟨?_, x1.trans x2⟩
   rw [parseHost, if_neg hc, if_neg hc2, hh]
   rfl
theorem getD_eq {s : List UInt8} {k : Nat} (h : k < s.length) : s.getD k 0 = s[k] := by simp [h]
theorem t68 (s : List UInt8) (w : World) (hl : s.length ≤ 4611686018427387904) : Calls Tryz.prog 149 #[str s] w (RetV w (.tuple #[str (firstN s).1, str (firstN s).2.1, .bool (firstN s).2.2])) := by
 go_enter Tryz.func149, Tryz.ntmps149
 (repeat' first | ((with_reducible refine nx0 ?_); go_step) | ((with_reducible refine o_s ?_); first | refine wk0 ?_ | (refine wg0 ?_ ?_ <;> intro hc)) | fail)
 go_loopw [5] (fun i wr => wr = w ∧ ∃ k : Nat, i = .int .i64 k ∧ k ≤ s.length + 256 ∧ walkN s = k + walkN (s.drop k)) (fun i _ => s.length + 256 - (intOf i).toNat)
 case atStart => exact ⟨rfl, 0, rfl, by omega, by simp⟩
 case round =>
  obtain ⟨rfl, k, rfl, hk, hrec⟩ := hrel
  by_cases hlt : k < s.length
  ·have hd := List.drop_eq_getElem_cons hlt
   have hb : (s.getD k 0).toNat < 256 := UInt8.toNat_lt _
   have hg := getD_eq hlt
   (repeat' first | ((with_reducible refine nx0 ?_); go_step) | ((with_reducible refine o_s ?_); first | refine wk0 ?_ | (refine wg0 ?_ ?_ <;> intro hc)) | fail)
   ·have hc := ‹(!decide (((s.getD k 0).toNat : Int) = 0)) = true›
    have hne : (s.getD k 0).toNat ≠ 0 := by simpa using hc
    go_roundw
    case rel =>
     refine ⟨trivial, k + (1 + (s.getD k 0).toNat), by congr 1, by omega, ?_⟩
     rw [hrec, hd, walkN_cons, ← hg, if_neg hne, List.drop_drop]
     rw [show k + 1 + (s.getD k 0).toNat = k + (1 + (s.getD k 0).toNat) by omega]
     omega
    case measure => simp only [intOf]; omega
   ·have hc := ‹(!decide (((s.getD k 0).toNat : Int) = 0)) = false›
    have hz : (s.getD k 0).toNat = 0 := by simpa using hc
    have hw : walkN s = k := by rw [hrec, hd, walkN_cons, ← hg, if_pos hz]; rfl
    have hf : firstN s = ((hostN (s.take (k + 1))).getD [], s.drop (k + 1), (hostN (s.take (k + 1))).isSome) := by
     rw [firstN, hw, if_neg (by omega)]
    refine wpl_callV (enters_of Tryz.func199 rfl rfl) rfl rfl (t72 _ _ (by simp; omega)) ?_
    intro w2 x2
    refine gset ?_
    (repeat' first | ((with_reducible refine nx0 ?_); go_step) | ((with_reducible refine o_s ?_); first | refine wk0 ?_ | (refine wg0 ?_ ?_ <;> intro hc)) | fail)
    refine wpq_region (by decide +kernel) (by decide +kernel) ?_
    repeat' (first | ((first | (with_reducible apply wpq_run0) | ((with_reducible apply wpq_runG); (rfl); (rfl); (with_reducible rfl))); (intro _ _; exact rn); (refine gset ?_)) | ((with_reducible apply wpq_skipG); (rfl); (rfl); (first | (with_reducible exact (rfl : true = !false)) | (with_reducible exact (rfl : false = !true)) | (exact Bool.not_false.symm) | (exact Bool.not_true.symm)); (refine gset ?_)) | (with_reducible (apply wpq_nil)))
    intro w3 x3
    (repeat' first | ((with_reducible refine nx0 ?_); go_step) | ((with_reducible refine o_s ?_); first | refine wk0 ?_ | (refine wg0 ?_ ?_ <;> intro hc)) | fail)
    refine bodyPost_ret (results_tmp3 rfl _ _ _) rfl ⟨?_, x2.trans x3⟩
    rw [hf]
    rfl
  ·(repeat' first | ((with_reducible refine nx0 ?_); go_step) | ((with_reducible refine o_s ?_); first | refine wk0 ?_ | (refine wg0 ?_ ?_ <;> intro hc)) | fail)
   refine bodyPost_ret (results_tmp3 rfl _ _ _) rfl ⟨?_, Ext.refl _⟩
   have hw : s.length ≤ walkN s := by omega
   rw [firstN, if_pos hw]
   rfl
theorem t69 (r : List UInt8) (i : Nat) (p : Value) (w : World) (hp : Pts w p [str r]) (hr : r.length = 20) (hi : i < 5) : Calls Tryz.prog 150 #[.int .i64 i, p] w (RetV w (.int .i64 (numP r i 4 : Nat))) := by
 go_enter Tryz.func150, Tryz.ntmps150
 (repeat' first | ((with_reducible refine nx0 ?_); go_step) | ((with_reducible refine o_s ?_); first | refine wk0 ?_ | (refine wg0 ?_ ?_ <;> intro hc)) | fail)
 go_loopw [4, 6] (fun n j wr => wr = w ∧ ∃ k : Nat, k ≤ 4 ∧ j = .int .i64 k ∧ n = .int .i64 (numP r i k : Nat)) (fun _ j _ => 4 - (intOf j).toNat)
 case atStart => exact ⟨rfl, 0, by omega, rfl, rfl⟩
 case round =>
  obtain ⟨rfl, k, hk, rfl, rfl⟩ := hrel
  by_cases hlt : k < 4
  ·have hn := numP_lt r i k
   have hn2 : numP r i k * 256 < 4294967296 := by
    have : 256 ^ k ≤ 256 ^ 3 := Nat.pow_le_pow_right (by omega) (by omega)
    omega
   have hb : (r.getD (4 * i + k) 0).toNat < 256 := UInt8.toNat_lt _
   have hb2 : (r.getD (4 * (i : Int) + (k : Int)).toNat 0).toNat < 256 := UInt8.toNat_lt _
   have e3 : (4 * (i : Int) + (k : Int)).toNat = 4 * i + k := by omega
   (repeat' first | ((with_reducible refine nx0 ?_); go_step) | ((with_reducible refine o_s ?_); first | refine wk0 ?_ | (refine wg0 ?_ ?_ <;> intro hc)) | fail)
   refine ⟨⟨trivial, k + 1, by omega, rfl, ?_⟩, by simp [intOf]; omega⟩
   rw [numP]
  ·have : k = 4 := by omega
   subst this
   (repeat' first | ((with_reducible refine nx0 ?_); go_step) | ((with_reducible refine o_s ?_); first | refine wk0 ?_ | (refine wg0 ?_ ?_ <;> intro hc)) | fail)
   go_ret
   exact ⟨rfl, Ext.refl _⟩
theorem wrapU (n : Nat) : IntKind.wrap .u8 (n : Int) = ((UInt8.ofNat n).toNat : Nat) := by
 simp only [IntKind.wrap, IntKind.bits, IntKind.signed, UInt8.toNat_ofNat']
 simp
theorem t88 {B : Nat} {v : Value} {l : List UInt8} {w : World} (n : Nat) (h : Own B 1 5 w v (bcells l)) (hB : B ≤ w.heap.size) (hn : n < 4294967296) (hl : l.length ≤ 1000000) : Calls Tryz.prog 201 #[v, .int .i64 n] w fun e w' => ∃ v', e = .returned v' ∧ Own B 1 5 w' v' (bcells (l ++ be4 n)) ∧ Mv v.ownBlock w w' := by
 go_enter Tryz.func201, Tryz.ntmps201
 (repeat' first | ((with_reducible refine nx0 ?_); go_step) | ((with_reducible refine o_s ?_); first | refine wk0 ?_ | (refine wg0 ?_ ?_ <;> intro hc)) | fail)
 have e1 : IntKind.wrap .u8 ((n : Int) / 2 ^ Int.toNat 24) = ((UInt8.ofNat (n / 16777216)).toNat : Nat) := by
  rw [← wrapU]; congr 1
 have e2 : IntKind.wrap .u8 ((n : Int) / 2 ^ Int.toNat 16) = ((UInt8.ofNat (n / 65536)).toNat : Nat) := by
  rw [← wrapU]; congr 1
 have e3 : IntKind.wrap .u8 ((n : Int) / 2 ^ Int.toNat 8) = ((UInt8.ofNat (n / 256)).toNat : Nat) := by
  rw [← wrapU]; congr 1
 have e4 : IntKind.wrap .u8 (n : Int) = ((UInt8.ofNat n).toNat : Nat) := wrapU n
 rw [e1, e2, e3, e4]
 refine wpl_slice (xs := [.int .u8 ((UInt8.ofNat (n / 16777216)).toNat : Nat), .int .u8 ((UInt8.ofNat (n / 65536)).toNat : Nat), .int .u8 ((UInt8.ofNat (n / 256)).toNat : Nat), .int .u8 ((UInt8.ofNat n).toNat : Nat)]) (k := 1) (e := 5) (bytes := 1) rfl rfl rfl (by intro y hy; simp at hy; rcases hy with rfl | rfl | rfl | rfl <;> rfl) (by decide +kernel) (by simp) ?_
 intro v1 w1 x1 s1 sl1 _
 refine gset ?_
 have hll : (bcells l).length = l.length := by simp [bcells]
 refine wpl_append (B := B) (k := 1) (e := 5) (bytes := 1) (x := v1) rfl (h.ext x1) rfl sl1 (by decide +kernel) (by simp [Value.cells, Value.oneCell']) (Nat.le_trans hB x1.size) (by rw [hll]; simp; omega) (by rw [hll]; simp; omega) ?_
 intro v2 w2 o2 m2
 refine gset ?_
 (repeat' first | ((with_reducible refine nx0 ?_); go_step) | ((with_reducible refine o_s ?_); first | refine wk0 ?_ | (refine wg0 ?_ ?_ <;> intro hc)) | fail)
 go_ret
 refine ⟨v2, rfl, ?_, (x1.mv _).trans m2⟩
 have : bcells (l ++ be4 n) = bcells l ++ bcells (be4 n) := by simp [bcells]
 rw [this]
 exact o2
structure RSet where
 name : List UInt8
 kind : Int
 ttl : Int
 data : List (List UInt8)
 deriving DecidableEq, Inhabited
structure SetAt (w : World) (cs : List Value) (s : RSet) : Prop where
 out : ∃ v, cs = [str s.name, .int .i64 s.kind, .int .i64 s.ttl, v] ∧ Sl 1 w v (tcells s.data)
theorem SetAt.ext {w w' : World} {cs : List Value} {s : RSet} (h : SetAt w cs s) (hx : Ext w w') : SetAt w' cs s := by
 obtain ⟨v, h1, h2⟩ := h
 exact ⟨v, h1, h2.ext hx⟩
theorem t34 (v : Value) (a b : Int) (w : World) (h : Sl 1 w v [[.int .i64 a], [.int .i64 b]]) : Calls Tryz.prog 186 #[v] w (RetV w (.int .i64 (if a ≠ 0 then a else b))) := by
 have h0 := h.elem (i := 0) rfl
 have h1 := h.elem (i := 1) rfl
 go_enter Tryz.func186, Tryz.ntmps186
 (repeat' first | ((with_reducible refine nx0 ?_); go_step) | ((with_reducible refine o_s ?_); first | refine wk0 ?_ | (refine wg0 ?_ ?_ <;> intro hc)) | fail)
 go_loopw [8] (fun i wr => wr = w ∧ ∃ k : Nat, i = .int .i64 k ∧ k ≤ 2 ∧ (1 ≤ k → a = 0) ∧ (2 ≤ k → b = 0)) (fun i _ => 2 - (intOf i).toNat)
 case atStart => exact ⟨rfl, 0, rfl, by omega, by omega, by omega⟩
 case round =>
  obtain ⟨rfl, k, rfl, hk, ha, hb⟩ := hrel
  have hk3 : k = 0 ∨ k = 1 ∨ k = 2 := by omega
  rcases hk3 with rfl | rfl | rfl
  ·(repeat' first | ((with_reducible refine nx0 ?_); go_step) | ((with_reducible refine o_s ?_); first | refine wk0 ?_ | (refine wg0 ?_ ?_ <;> intro hc)) | fail)
   ·go_ret
    refine ⟨?_, Ext.refl _⟩
    have hne : a ≠ 0 := by simp at *; assumption
    rw [if_pos hne]
    rfl
   ·have h0 : a = 0 := by simp at *; assumption
    exact ⟨⟨trivial, 1, rfl, by omega, fun _ => h0, by omega⟩, by simp [intOf]⟩
  ·have ha := ha (by omega)
   (repeat' first | ((with_reducible refine nx0 ?_); go_step) | ((with_reducible refine o_s ?_); first | refine wk0 ?_ | (refine wg0 ?_ ?_ <;> intro hc)) | fail)
   ·go_ret
    refine ⟨?_, Ext.refl _⟩
    rw [if_neg (by simpa using ha)]
    rfl
   ·have h0 : b = 0 := by simp at *; assumption
    exact ⟨⟨trivial, 2, rfl, by omega, fun _ => ha, fun _ => h0⟩, by simp [intOf]⟩
  ·have ha := ha (by omega)
   have hb := hb (by omega)
   (repeat' first | ((with_reducible refine nx0 ?_); go_step) | ((with_reducible refine o_s ?_); first | refine wk0 ?_ | (refine wg0 ?_ ?_ <;> intro hc)) | fail)
   go_ret
   refine ⟨?_, Ext.refl _⟩
   rw [if_neg (by simpa using ha), hb]
   rfl
theorem t22 (s : RSet) (v : Value) (d : List UInt8) (w : World) : Calls Tryz.prog 134 #[.agg #[str s.name, .int .i64 s.kind, .int .i64 s.ttl, v], str d] w (RetV w (.agg #[str s.name, .int .i64 s.kind, .int .i64 s.ttl, str d])) := by
 go_enter Tryz.func134, Tryz.ntmps134
 repeat' (first | ((with_reducible refine nx0 ?_); go_step) | fail)
 refine wpl_box (vs := [str s.name, .int .i64 s.kind, .int .i64 s.ttl, v]) rfl rfl ?_
 intro p w1 x1 hp
 refine gset ?_
 refine wpl_allocB (z := [str [], .int .i64 0, .int .i64 0, str []]) rfl (by decide +kernel) ?_
 intro w2 x2 s2 h2
 have hp := hp.ext x2
 (repeat' first | ((with_reducible refine nx0 ?_); go_step) | ((with_reducible refine o_s ?_); first | refine wk0 ?_ | (refine wg0 ?_ ?_ <;> intro hc)) | fail)
 refine wpl_run (v := .agg #[str s.name, .int .i64 s.kind, .int .i64 s.ttl, str d]) rfl (Runs.build rfl (by kernel_rfl)) ?_
 refine gset ?_
 refine wpl_storeB (v := .agg #[str s.name, .int .i64 s.kind, .int .i64 s.ttl, str d]) rfl rfl rfl h2 (show sizeTy Tryz.prog 81 4 = true by decide +kernel) rfl (by simp [Value.cells, Value.oneCell', str]) ?_
 intro w3 p3
 have x13 : Ext w w3 := (x1.trans x2).move p3.mv (by rintro k ⟨⟩; exact x1.size)
 have h3 := p3.this
 (repeat' first | ((with_reducible refine nx0 ?_); go_step) | ((with_reducible refine o_s ?_); first | refine wk0 ?_ | (refine wg0 ?_ ?_ <;> intro hc)) | fail)
 exact bodyPost_ret (results_cell1 (cs := [str s.name, .int .i64 s.kind, .int .i64 s.ttl, str d]) rfl rfl h3 (show aggTy Tryz.prog 81 4 = true by decide +kernel)) rfl ⟨rfl, x13⟩
structure SetsAt (w : World) (v : Value) (l : List RSet) : Prop where
 out : ∃ css, Sl 4 w v css ∧ css.length = l.length ∧ ∀ (i : Nat) (s : RSet), l[i]? = some s → ∃ x, css[i]? = some [str s.name, .int .i64 s.kind, .int .i64 s.ttl, x] ∧ Sl 1 w x (tcells s.data)
theorem SetsAt.ext {w w' : World} {v : Value} {l : List RSet} (h : SetsAt w v l) (hx : Ext w w') : SetsAt w' v l := by
 obtain ⟨css, h1, h2, h3⟩ := h
 exact ⟨css, h1.ext hx, h2, fun i s hi => let ⟨x, a, b⟩ := h3 i s hi; ⟨x, a, b.ext hx⟩⟩
theorem SetsAt.elem {w : World} {v : Value} {l : List RSet} (h : SetsAt w v l) {i : Nat} {s : RSet} (hi : l[i]? = some s) : ∃ x, Pts w (elemPtr v (i * 4)) [str s.name, .int .i64 s.kind, .int .i64 s.ttl, x] ∧ Sl 1 w x (tcells s.data) := by
 obtain ⟨css, h1, h2, h3⟩ := h
 obtain ⟨x, a, b⟩ := h3 i s hi
 exact ⟨x, h1.elem a, b⟩
theorem SetsAt.sl {w : World} {v : Value} {l : List RSet} (h : SetsAt w v l) : ∃ css : List (List Value), Sl 4 w v css ∧ css.length = l.length := by
 obtain ⟨css, h1, h2, h3⟩ := h
 exact ⟨css, h1, h2⟩
def Rec.cells (r : Rec) : List Value := [str r.name, .int .i64 r.kind, .int .i64 r.ttl, str r.data]
def rcells (l : List Rec) : List (List Value) := l.map Rec.cells
theorem rcells_length (l : List Rec) : (rcells l).length = l.length := by simp [rcells]
theorem rcells_at {l : List Rec} {k : Nat} (h : k < l.length) : (rcells l)[k]? = some [str l[k].name, .int .i64 l[k].kind, .int .i64 l[k].ttl, str l[k].data] := by simp [rcells, h, Rec.cells]
theorem take_succ_eq {α : Type} {a b : List α} {k : Nat} (h : a.take k = b.take k) (ha : k < a.length) (hb : k < b.length) (he : a[k] = b[k]) : a.take (k + 1) = b.take (k + 1) := by
 rw [List.take_add_one, List.take_add_one, List.getElem?_eq_getElem ha, List.getElem?_eq_getElem hb, h, he]
theorem ne_of_at {α : Type} {a b : List α} {k : Nat} (ha : k < a.length) (hb : k < b.length) (he : a[k] ≠ b[k]) : a ≠ b := by
 rintro rfl; exact he rfl
theorem t25 (u v : Value) (a b : List (List UInt8)) (w : World) (hu : Sl 1 w u (tcells a)) (hv : Sl 1 w v (tcells b)) : Calls Tryz.prog 194 #[u, v] w (RetV w (.bool (decide (a = b)))) := by
 have hal := hu.le
 have ha := tcells_length a
 have hb := tcells_length b
 go_enter Tryz.func194, Tryz.ntmps194
 (repeat' first | ((with_reducible refine nx0 ?_); go_step) | ((with_reducible refine o_s ?_); first | refine wk0 ?_ | (refine wg0 ?_ ?_ <;> intro hc)) | fail)
 ·have hne := ‹(!decide (((tcells a).length : Int) = ((tcells b).length : Int))) = true›
  go_ret
  refine ⟨?_, Ext.refl _⟩
  have : a ≠ b := by rintro rfl; simp at hne
  simp [this]
 ·have hne := ‹(!decide (((tcells a).length : Int) = ((tcells b).length : Int))) = false›
  have hlen : a.length = b.length := by simp at hne; omega
  go_loopw [5] (fun i wr => ∃ k : Nat, k ≤ a.length ∧ i = .int .i64 k ∧ Ext w wr ∧ a.take k = b.take k) (fun i _ => a.length - (intOf i).toNat)
  case atStart => exact ⟨0, Nat.zero_le _, rfl, Ext.refl _, rfl⟩
  case round =>
   obtain ⟨k, hk, rfl, hx, hall⟩ := hrel
   by_cases hlt : k < a.length
   ·have hlt2 : k < b.length := by omega
    have h1 := (hu.ext hx).elem (tcells_at hlt)
    have h2 := (hv.ext hx).elem (tcells_at hlt2)
    have hu2 := hu.ext hx
    have hv2 := hv.ext hx
    (repeat' first | ((with_reducible refine nx0 ?_); go_step) | ((with_reducible refine o_s ?_); first | refine wk0 ?_ | (refine wg0 ?_ ?_ <;> intro hc)) | fail)
    refine wph_region (S := Ext wr) (by decide +kernel) ?_
    intro w2 x2 _
    refine tk 0 ?_; refine gset ?_; refine tk 1 ?_; refine gset ?_; refine tk 2 ?_; refine gset ?_; refine tk 3 ?_; refine gset ?_; refine tk 4 ?_; refine gset ?_; refine tk 5 ?_; refine gset ?_; refine tk 6 ?_; refine gset ?_; refine tk 7 ?_; refine gset ?_; refine tk 8 ?_; refine gset ?_
    refine wph_done (by decide +kernel) ?_
    by_cases he : a[k] = b[k]
    ·have e1 : decide (a[k] = b[k]) = true := decide_eq_true he
     simp only [e1, Bool.not_true]
     (repeat' first | ((with_reducible refine nx0 ?_); go_step) | ((with_reducible refine o_s ?_); first | refine wk0 ?_ | (refine wg0 ?_ ?_ <;> intro hc)) | fail)
     exact ⟨⟨k + 1, by omega, rfl, by exact extc, take_succ_eq hall hlt hlt2 he⟩, by simp [intOf]; omega⟩
    ·have e1 : decide (a[k] = b[k]) = false := decide_eq_false he
     simp only [e1, Bool.not_false]
     (repeat' first | ((with_reducible refine nx0 ?_); go_step) | ((with_reducible refine o_s ?_); first | refine wk0 ?_ | (refine wg0 ?_ ?_ <;> intro hc)) | fail)
     go_ret
     refine ⟨?_, by exact extc⟩
     simp [ne_of_at hlt hlt2 he]
   ·have hk2 : k = a.length := by omega
    subst hk2
    (repeat' first | ((with_reducible refine nx0 ?_); go_step) | ((with_reducible refine o_s ?_); first | refine wk0 ?_ | (refine wg0 ?_ ?_ <;> intro hc)) | fail)
    go_ret
    refine ⟨?_, by exact extc⟩
    rw [List.take_length, hlen, List.take_length] at hall
    simp [hall]
def cmpI (a b : Int) : Int := if a < b then -1 else if b < a then 1 else 0
def cmpSet (na nb : List UInt8) (ka kb : Int) : Int := if cmpN na nb ≠ 0 then cmpN na nb else cmpI ka kb
theorem t36 (a b : Int) (w : World) : Calls Tryz.prog 188 #[.int .i64 a, .int .i64 b] w (RetV w (.int .i64 (cmpI a b))) := by
 refine (Tryz.cmp_Compare_int a b w).mono ?_
 rintro e w' ⟨rfl, rfl⟩
 refine ⟨?_, Ext.refl _⟩
 unfold cmpI Lib.compareInt
 rfl
set_option maxHeartbeats 1000000 in
theorem t21 (na nb : List UInt8) (ka kb ta tb : Int) (va vb : Value) (w : World) : Calls Tryz.prog 129 #[.agg #[str na, .int .i64 ka, .int .i64 ta, va], .agg #[str nb, .int .i64 kb, .int .i64 tb, vb]] w (RetV w (.int .i64 (cmpSet na nb ka kb))) := by
 go_enter Tryz.func129, Tryz.ntmps129
 repeat' (first | ((with_reducible refine nx0 ?_); go_step) | fail)
 refine wpl_box (vs := [str na, .int .i64 ka, .int .i64 ta, va]) rfl rfl ?_
 intro p w1 x1 hp
 refine gset ?_
 refine wpl_box (vs := [str nb, .int .i64 kb, .int .i64 tb, vb]) rfl rfl ?_
 intro q w2 x2 hq
 refine gset ?_
 (repeat' first | ((with_reducible refine nx0 ?_); go_step) | ((with_reducible refine o_s ?_); first | refine wk0 ?_ | (refine wg0 ?_ ?_ <;> intro hc)) | fail)
 refine wph_region (S := Ext w2) (by decide +kernel) ?_
 intro w3 x3 _
 refine tk 0 ?_; refine gset ?_; refine tk 1 ?_; refine gset ?_; refine tk 2 ?_; refine gset ?_; refine tk 3 ?_; refine gset ?_; refine tk 5 ?_; refine gset ?_; refine tk 6 ?_; refine gset ?_; refine tk 7 ?_; refine gset ?_; refine tk 8 ?_; refine gset ?_
 refine wph_one (i := 4) (by decide +kernel) rfl rfl ?_
 refine wpl_callV (enters_of Tryz.func187 rfl rfl) rfl rfl (t35 _ _ _) ?_; intro w4 x4; refine gset ?_
 refine wph_nil ⟨by exact extc, ?_⟩
 refine wph_one (i := 9) (by decide +kernel) rfl rfl ?_
 refine wpl_callV (enters_of Tryz.func188 rfl rfl) rfl rfl (t36 _ _ _) ?_; intro w5 x5; refine gset ?_
 refine wph_nil ⟨by exact extc, ?_⟩
 refine wph_one (i := 10) (by decide +kernel) rfl rfl ?_
 refine wpl_slice (e := 3) (k := 1) (bytes := 8) (xs := [.int .i64 (cmpN na nb), .int .i64 (cmpI ka kb)]) rfl rfl rfl (by simp [Value.cells]) (by decide +kernel) (by simp) ?_
 intro v w6 x6 _ h6 _
 refine gset ?_
 refine wph_nil ⟨by exact extc, ?_⟩
 refine wph_one (i := 11) (by decide +kernel) rfl rfl ?_
 refine wpl_callV (enters_of Tryz.func186 rfl rfl) rfl rfl (t34 _ _ _ _ h6) ?_; intro w7 x7; refine gset ?_
 refine wph_nil ⟨by exact extc, ?_⟩
 refine tk 12 ?_; refine gset ?_
 refine wph_done (by decide +kernel) ?_
 (repeat' first | ((with_reducible refine nx0 ?_); go_step) | ((with_reducible refine o_s ?_); first | refine wk0 ?_ | (refine wg0 ?_ ?_ <;> intro hc)) | fail)
 go_ret
 exact ⟨rfl, by exact extc⟩
structure SetC where
 name : List UInt8
 kind : Int
 ttl : Int
 a : Option Addr
 n : Nat
 c : Nat
 d : List (List UInt8)
 deriving Inhabited
def SetC.v (s : SetC) : Value := .slice s.a s.n s.c
def SetC.cells (s : SetC) : List Value := [str s.name, .int .i64 s.kind, .int .i64 s.ttl, s.v]
def cmpC (x y : SetC) : Int := cmpSet x.name y.name x.kind y.kind
theorem tpo_cmpSet : TPO (fun x y : List UInt8 × Int => cmpSet x.1 y.1 x.2 y.2) :=
 (tpo_cmpN.comap Prod.fst).lex (tpo_int.comap Prod.snd)
theorem tpo_cmpC : TPO cmpC := tpo_cmpSet.comap fun s : SetC => (s.name, s.kind)
theorem t20 {B g cap : Nat} (l : List SetC) (w : World) (h : Own B 4 115 w (.slice (some ⟨g, 0, none⟩) l.length cap) (l.map SetC.cells)) (hl : l.length < 4611686018427387904) :
 Calls Tryz.prog 128 #[.slice (some ⟨g, 0, none⟩) l.length cap, .func (.func 129) #[] #[]] w fun e w' => e = .returned (.tuple #[]) ∧ ∃ l' : List SetC, l'.Perm l ∧ (∀ i j (hi : i < j) (hj : j < l'.length), 0 ≤ cmpC l'[j] l'[i]) ∧ Own B 4 115 w' (.slice (some ⟨g, 0, none⟩) l'.length cap) (l'.map SetC.cells) ∧ Mv (some g) w w' := by
 have hlen : (l.map SetC.cells).length = l.length := by simp
 have h0 := h
 rw [← hlen] at h0
 have eg : ∀ args w, (callFunc 129 args).run Tryz.prog w = .ok (.enter 129 args) w := enters_of Tryz.func129 (by kernel_rfl) rfl
 have hk : ∀ x, (SetC.cells x).length = 4 := fun _ => rfl
 have hfl := flatK_toList SetC.cells 4 hk l
 have hH : Sort.HoldsK SetC.cells 4 w g 0 l.toArray := by
  unfold Sort.HoldsK
  have := h.holdsF
  rw [← hfl] at this
  simpa using this
 have hcmp : Go.Proofs.CmpLays Tryz.prog 129 #[] SetC.cells 4 cmpC g 0 l.toArray.size w := by
  intro m os dk hdk x y
  refine (t21 x.name y.name x.kind y.kind x.ttl y.ttl x.v y.v _).mono ?_
  rintro e w' ⟨rfl, hx⟩
  exact ⟨rfl, hx.grown⟩
 have hc := Go.Proofs.AnyQ.slices_SortFunc Tryz.sortSet 4 (fun w => isAgg_yes (u := (Tryz.prog.underlying 115).getD (.struct #[])) (by rfl) (by rfl)) (fun w => by obtain ⟨i, hq, hz⟩ := info_of (sizeTy_spec (show sizeTy Tryz.prog 115 4 = true by decide +kernel)); exact (by simp [sizeOf, typeInfo, hq, hz] : (Go.sizeOf 115).run Tryz.prog w = .ok 4 w)) SetC.cells hk (fun x v hv => by
  simp only [SetC.cells, List.mem_cons, List.not_mem_nil, or_false] at hv
  rcases hv with rfl | rfl | rfl | rfl <;> rfl) cmpC tpo_cmpC.swo 129 #[] g 0 cap l.toArray w eg hcmp hH (h.block g rfl).2 (by simpa using hl)
 change Calls Tryz.prog 128 _ _ _ at hc
 refine hc.mono ?_
 rintro e w' ⟨rfl, d', n, os, hp, hs, rfl⟩
 obtain ⟨p1, p2, p3⟩ := hp
 have hd : d'.toList.length = l.length := by simpa using p1
 have hfl2 := flatK_toList SetC.cells 4 hk d'.toList
 have hperm : d'.toList.Perm l := by
  have e1 : d'.extract 0 l.toArray.size = d' := by rw [← p1]; simp
  have e2 : l.toArray.extract 0 l.toArray.size = l.toArray := by simp
  rw [e1, e2] at p3
  simpa using p3
 have hput := h0.putRowF (fs := d'.toList.map SetC.cells) (by simpa using hd) (by intro x hx; obtain ⟨y, _, rfl⟩ := List.mem_map.1 hx; rfl) n os
 have hrow : Go.Proofs.sortWorldK SetC.cells 4 w g 0 n d' os = Sort.grow (Sort.putRow id (Sort.ahead w n) g 0 (d'.toList.map SetC.cells).flatten.toArray) os := by
  unfold Go.Proofs.sortWorldK Sort.putRowK
  rw [← hfl2]
 rw [hrow]
 refine ⟨rfl, d'.toList, hperm, ?_, ?_, hput.2⟩
 ·intro i j hi hj
  have hjs : j < d'.size := by simpa using hj
  have := hs i j (Nat.zero_le _) hi (by rw [← p1]; exact hjs)
  rw [getElem!_pos d' j hjs, getElem!_pos d' i (by omega)] at this
  simp only [Go.Proofs.ltOf, decide_eq_false_iff_not] at this
  simp only [Array.getElem_toList]
  omega
 ·have := hput.1
  rw [hlen] at this
  rw [hd]
  exact this
theorem t20nil (v : Value) (w : World) : Calls Tryz.prog 128 #[.slice none 0 0, v] w fun e w' => e = .returned (.tuple #[]) ∧ w' = w := by
 have h := Go.Proofs.AnyF.slices_SortFunc_none Tryz.sortSet none 0 v w
 change Calls Tryz.prog 128 _ _ _ at h
 exact h
def match1 (s : RSet) (r : Rec) : Bool := decide (s.name = fold r.name) && decide (s.kind = r.kind)
def bump (s : RSet) (r : Rec) : RSet := ⟨s.name, s.kind, min s.ttl r.ttl, s.data ++ [r.data]⟩
def addTo : List RSet → Rec → List RSet
 | [], r => [⟨fold r.name, r.kind, r.ttl, [r.data]⟩]
 | s :: l, r => if match1 s r = true then bump s r :: l else s :: addTo l r
def Apart (gs : List RSet) : Prop := ∀ (i j : Nat) s t, gs[i]? = some s → gs[j]? = some t → i ≠ j → ¬ (s.name = t.name ∧ s.kind = t.kind)
theorem addTo_hit {r : Rec} : ∀ {gs : List RSet} {i : Nat} {s : RSet}, gs[i]? = some s → match1 s r = true → Apart gs → addTo gs r = gs.set i (bump s r)
 | [], i, s, h, _, _ => by simp at h
 | a :: l, 0, s, h, hm, _ => by
   cases h
   simp [addTo, hm]
 | a :: l, i + 1, s, h, hm, hd => by
   have ha : match1 a r = false := by
    cases hx : match1 a r with
    | false => rfl
    | true =>
     exfalso
     simp only [match1, Bool.and_eq_true, decide_eq_true_eq] at hm hx
     exact hd 0 (i + 1) a s rfl h (by omega) ⟨by rw [hx.1, hm.1], by rw [hx.2, hm.2]⟩
   have := addTo_hit (gs := l) (i := i) (by simpa using h) hm (fun p q s t hp hq hpq => hd (p + 1) (q + 1) s t (by simpa using hp) (by simpa using hq) (by omega))
   simp [addTo, ha, this]
theorem addTo_miss {r : Rec} : ∀ {gs : List RSet}, (∀ s ∈ gs, match1 s r = false) → addTo gs r = gs ++ [⟨fold r.name, r.kind, r.ttl, [r.data]⟩]
 | [], _ => rfl
 | a :: l, h => by
   have := addTo_miss (gs := l) (fun s hs => h s (by simp [hs]))
   simp [addTo, h a (by simp), this]
theorem addTo_keys {r : Rec} : ∀ {gs : List RSet} {s : RSet}, s ∈ addTo gs r → (∃ t ∈ gs, t.name = s.name ∧ t.kind = s.kind) ∨ (s.name = fold r.name ∧ s.kind = r.kind)
 | [], s, h => by
   simp only [addTo, List.mem_singleton] at h
   subst h; exact .inr ⟨rfl, rfl⟩
 | a :: l, s, h => by
   unfold addTo at h
   split at h
   ·rename_i hm
    simp only [match1, Bool.and_eq_true, decide_eq_true_eq] at hm
    rcases List.mem_cons.1 h with rfl | h
    ·exact .inr ⟨hm.1, hm.2⟩
    ·exact .inl ⟨s, by simp [h], rfl, rfl⟩
   ·rcases List.mem_cons.1 h with rfl | h
    ·exact .inl ⟨s, by simp, rfl, rfl⟩
    ·rcases addTo_keys h with ⟨t, ht, h2⟩ | h2
     ·exact .inl ⟨t, by simp [ht], h2⟩
     ·exact .inr h2
theorem apart_pw {gs : List RSet} : Apart gs ↔ gs.Pairwise fun s t => ¬ (s.name = t.name ∧ s.kind = t.kind) := by
 rw [List.pairwise_iff_getElem]
 constructor
 ·intro h i j hi hj hij
  exact h i j _ _ (List.getElem?_eq_getElem hi) (List.getElem?_eq_getElem hj) (by omega)
 ·intro h i j s t hs ht hij
  obtain ⟨hi, rfl⟩ := List.getElem?_eq_some_iff.1 hs
  obtain ⟨hj, rfl⟩ := List.getElem?_eq_some_iff.1 ht
  rcases Nat.lt_or_ge i j with h1 | h1
  ·exact h i j hi hj h1
  ·have := h j i hj hi (by omega)
   exact fun ⟨a, b⟩ => this ⟨a.symm, b.symm⟩
theorem addTo_apart {r : Rec} : ∀ {gs : List RSet}, Apart gs → Apart (addTo gs r)
 | [], _ => by rw [apart_pw]; simp [addTo]
 | a :: l, h => by
   rw [apart_pw] at h ⊢
   obtain ⟨h1, h2⟩ := List.pairwise_cons.1 h
   unfold addTo
   split
   ·rename_i hm
    exact List.pairwise_cons.2 ⟨fun t ht => h1 t ht, h2⟩
   ·rename_i hm
    refine List.pairwise_cons.2 ⟨fun t ht => ?_, apart_pw.1 (addTo_apart (apart_pw.2 h2))⟩
    rcases addTo_keys ht with ⟨u, hu, e1, e2⟩ | ⟨e1, e2⟩
    ·have := h1 u hu
     rw [e1, e2] at this
     exact this
    ·rintro ⟨f1, f2⟩
     exact hm (by simp [match1, f1, f2, e1, e2])
def gather (l : List Rec) : List RSet := l.foldl addTo []
theorem gather_apart (l : List Rec) : Apart (gather l) := by
 unfold gather
 suffices ∀ (l : List Rec) gs, Apart gs → Apart (l.foldl addTo gs) from this l [] (by intro i j s t h; simp at h)
 intro l
 induction l with
 | nil => exact fun _ h => h
 | cons r l ih => exact fun gs h => ih _ (addTo_apart h)
theorem gather_snoc {l : List Rec} {k : Nat} (h : k < l.length) : gather (l.take (k + 1)) = addTo (gather (l.take k)) l[k] := by
 unfold gather
 rw [List.take_add_one, List.getElem?_eq_getElem h, List.foldl_append]
 rfl
theorem addTo_len {r : Rec} : ∀ {gs : List RSet}, (addTo gs r).length ≤ gs.length + 1
 | [] => by simp [addTo]
 | a :: l => by
   have := addTo_len (r := r) (gs := l)
   unfold addTo
   split <;> simp <;> omega
def total (gs : List RSet) : Nat := (gs.map fun s => s.data.length).sum
theorem addTo_total {r : Rec} : ∀ {gs : List RSet}, total (addTo gs r) = total gs + 1
 | [] => by simp [addTo, total]
 | a :: l => by
   have := addTo_total (r := r) (gs := l)
   unfold total at this
   unfold addTo
   split
   ·simp [total, bump]; omega
   ·simp [total, this]; omega
theorem gather_total (l : List Rec) : total (gather l) = l.length := by
 unfold gather
 suffices ∀ (l : List Rec) gs, total (l.foldl addTo gs) = total gs + l.length from by simpa [total] using this l []
 intro l
 induction l with
 | nil => intro gs; simp
 | cons r l ih => intro gs; rw [List.foldl_cons, ih, addTo_total]; simp; omega
theorem gather_len (l : List Rec) : (gather l).length ≤ l.length := by
 unfold gather
 suffices ∀ (l : List Rec) gs, (l.foldl addTo gs).length ≤ gs.length + l.length from by simpa using this l []
 intro l
 induction l with
 | nil => intro gs; simp
 | cons r l ih => intro gs; rw [List.foldl_cons]; have := ih (addTo gs r); have := addTo_len (r := r) (gs := gs); simp; omega
theorem total_le {gs : List RSet} {s : RSet} (h : s ∈ gs) : s.data.length ≤ total gs := by
 induction gs with
 | nil => simp at h
 | cons a l ih =>
  unfold total at *
  rcases List.mem_cons.1 h with rfl | h
  ·simp
  ·have := ih h; simp; omega
structure GC where
 b : Nat
 v : Value
 s : RSet
def GC.cells (c : GC) : List Value := [str c.s.name, .int .i64 c.s.kind, .int .i64 c.s.ttl, c.v]
def GC.key (c : GC) : Value × Value := (.agg #[str c.s.name, .int .i64 c.s.kind], .pointer (some ⟨c.b, 0, none⟩))
def GC.kcells (c : GC) : List Value := [str c.s.name, .int .i64 c.s.kind]
structure GOK (w : World) (B : Nat) (c : GC) : Prop where
 blk : w.heap[c.b]? = some (.cells c.cells.toArray 115 (0, 0))
 ge : B ≤ c.b
 own : Own B 1 9 w c.v (tcells c.s.data)
structure GS (w : World) (B : Nat) (gcs : List GC) : Prop where
 each : ∀ c ∈ gcs, GOK w B c
 apart : gcs.Pairwise fun c c' => c.b ≠ c'.b ∧ (c.v.ownBlock = none ∨ c'.v.ownBlock = none ∨ c.v.ownBlock ≠ c'.v.ownBlock)
theorem Own.type {B k e : Nat} {w : World} {v : Value} {es : List (List Value)} (h : Own B k e w v es) {r : Nat} (hr : v.ownBlock = some r) : ∃ cur fz, w.heap[r]? = some (.cells cur e fz) := by
 rcases h.row.2 with ⟨rfl, _⟩ | ⟨g, cap, cur, fz, rfl, hb, hg, _⟩
 ·simp [Value.ownBlock] at hr
 ·simp [Value.ownBlock] at hr; subst hr; exact ⟨cur, fz, hg⟩
theorem Own.neBlock {B k e t b : Nat} {w : World} {v : Value} {es : List (List Value)} {cs : Array Value} {fz : Nat × Nat} (h : Own B k e w v es) (hb : w.heap[b]? = some (.cells cs t fz)) (ht : t ≠ e) : v.ownBlock ≠ some b := fun e' => by
 obtain ⟨cur, fz', h'⟩ := h.type e'
 rw [hb] at h'
 simp only [Option.some.injEq, Obj.cells.injEq] at h'
 exact ht h'.2.1
theorem Own.neMap {B k e m c : Nat} {es' : Array MapEntry} {w : World} {v : Value} {es : List (List Value)} (h : Own B k e w v es) (hb : w.heap[m]? = some (.map es' c)) : v.ownBlock ≠ some m := fun e' => by
 obtain ⟨cur, fz', h'⟩ := h.type e'
 rw [hb] at h'
 cases h'
theorem Own.ne {B k e B' k' e' : Nat} {w : World} {v v' : Value} {es es' : List (List Value)} (h : Own B k e w v es) (h' : Own B' k' e' w v' es') (he : e ≠ e') : v.ownBlock = none ∨ v.ownBlock ≠ v'.ownBlock := by
 cases hv : v.ownBlock with
 | none => exact .inl rfl
 | some r =>
  refine .inr fun e2 => ?_
  obtain ⟨cur, fz, h1⟩ := h.type hv
  exact h'.neBlock h1 he e2.symm
theorem GOK.mv {w w' : World} {B : Nat} {c : GC} {row : Option Nat} (h : GOK w B c) (hm : Mv row w w') (h1 : some c.b ≠ row) (h2 : c.v.ownBlock = none ∨ c.v.ownBlock ≠ row) : GOK w' B c :=
 ⟨hm.at h.blk h1, h.ge, h.own.mv hm h2⟩
theorem GS.ext {w w' : World} {B : Nat} {gcs : List GC} (h : GS w B gcs) (hx : Ext w w') : GS w' B gcs :=
 ⟨fun c hc => (h.each c hc).mv (hx.mv none) (by simp) (by cases c.v.ownBlock <;> simp), h.apart⟩
theorem Sl.slf {k : Nat} {w : World} {v : Value} {es : List (List Value)} (h : Sl k w v es) : ∃ a n c, v = .slice a n c := by
 obtain ⟨a, c, h1, _⟩ := h
 exact ⟨a, _, c, h1⟩
structure SetsC (w : World) (css : List (List Value)) (l : List RSet) : Prop where
 len : css.length = l.length
 at' : ∀ (i : Nat) (s : RSet), l[i]? = some s → ∃ x, css[i]? = some [str s.name, .int .i64 s.kind, .int .i64 s.ttl, x] ∧ Sl 1 w x (tcells s.data)
theorem SetsAt.rows {w : World} {v : Value} {l : List RSet} (h : SetsAt w v l) : ∃ css, Sl 4 w v css ∧ SetsC w css l := by
 obtain ⟨css, h1, h2, h3⟩ := h.out
 exact ⟨css, h1, h2, h3⟩
theorem SetsC.sets {w : World} {v : Value} {l : List RSet} {css : List (List Value)} (h : SetsC w css l) (hv : Sl 4 w v css) : SetsAt w v l := ⟨css, hv, h.len, h.at'⟩
theorem SetsC.ext {w w' : World} {l : List RSet} {css : List (List Value)} (h : SetsC w css l) (hx : Ext w w') : SetsC w' css l :=
 ⟨h.len, fun i s hi => let ⟨x, a, b⟩ := h.at' i s hi; ⟨x, a, b.ext hx⟩⟩
theorem SetsC.append {w : World} {l m : List RSet} {c d : List (List Value)} (h : SetsC w c l) (k : SetsC w d m) : SetsC w (c ++ d) (l ++ m) := by
 refine ⟨by rw [List.length_append, List.length_append, h.len, k.len], fun i s hi => ?_⟩
 rw [List.getElem?_append] at hi ⊢
 rw [h.len]
 split at hi
 ·rw [if_pos ‹_›]; exact h.at' i s hi
 ·rw [if_neg ‹_›]; exact k.at' _ s hi
theorem SetsC.take {w : World} {l : List RSet} {c : List (List Value)} (h : SetsC w c l) (n : Nat) : SetsC w (c.take n) (l.take n) := by
 refine ⟨by simp [h.len], fun i s hi => ?_⟩
 rw [List.getElem?_take] at hi ⊢
 split at hi
 ·rw [if_pos ‹_›]; exact h.at' i s hi
 ·cases hi
theorem SetsC.drop {w : World} {l : List RSet} {c : List (List Value)} (h : SetsC w c l) (n : Nat) : SetsC w (c.drop n) (l.drop n) := by
 refine ⟨by simp [h.len], fun i s hi => ?_⟩
 rw [List.getElem?_drop] at hi ⊢
 exact h.at' _ s hi
theorem SetsC.one {w : World} {s : RSet} {x : Value} (h : Sl 1 w x (tcells s.data)) : SetsC w [[str s.name, .int .i64 s.kind, .int .i64 s.ttl, x]] [s] :=
 ⟨rfl, fun i t hi => by
  match i, hi with
  | 0, hi => cases hi; exact ⟨x, rfl, h⟩⟩
theorem SetsC.cell {w : World} {l : List RSet} {c : List (List Value)} (h : SetsC w c l) : ∀ f ∈ c, ∀ u ∈ f, u.oneCell' = true := by
 intro f hf u hu
 obtain ⟨i, hi, rfl⟩ := List.mem_iff_getElem.1 hf
 obtain ⟨x, h1, h2⟩ := h.at' i _ (List.getElem?_eq_getElem (by rw [← h.len]; exact hi))
 rw [List.getElem?_eq_getElem hi] at h1
 rw [Option.some.inj h1] at hu
 simp only [List.mem_cons, List.not_mem_nil, or_false] at hu
 rcases hu with rfl | rfl | rfl | rfl
 ·rfl
 ·rfl
 ·rfl
 ·exact h2.one
def From (B : Nat) (v : Value) : Prop := ∀ b o s n c, v = .slice (some ⟨b, o, s⟩) n c → B ≤ b
theorem From.weaken {B C : Nat} {v : Value} (h : From B v) (hc : C ≤ B) : From C v := fun b o s n c e => Nat.le_trans hc (h b o s n c e)
theorem Own.from' {B C k e : Nat} {w : World} {v : Value} {es : List (List Value)} (h : Own B k e w v es) (hc : C ≤ B) : From C v := by
 intro b o s n c hv
 rcases h.form with ⟨rfl, _⟩ | ⟨g, cap, rfl, _, hg, _⟩
 ·cases hv
 ·simp only [Value.slice.injEq, Option.some.injEq, Addr.mk.injEq] at hv
  obtain ⟨⟨rfl, _⟩, _⟩ := hv
  exact Nat.le_trans hc hg
def FromC (B : Nat) (css : List (List Value)) : Prop := ∀ f ∈ css, ∀ u ∈ f, From B u
theorem FromC.append {B : Nat} {c d : List (List Value)} (h : FromC B c) (k : FromC B d) : FromC B (c ++ d) := fun f hf => by
 rcases List.mem_append.1 hf with hf | hf
 ·exact h f hf
 ·exact k f hf
theorem FromC.take {B : Nat} {c : List (List Value)} (h : FromC B c) (n : Nat) : FromC B (c.take n) := fun f hf => h f (List.mem_of_mem_take hf)
theorem FromC.drop {B : Nat} {c : List (List Value)} (h : FromC B c) (n : Nat) : FromC B (c.drop n) := fun f hf => h f (List.mem_of_mem_drop hf)
theorem FromC.one {B : Nat} {n : List UInt8} {k t : Int} {x : Value} (h : From B x) : FromC B [[str n, .int .i64 k, .int .i64 t, x]] := by
 intro f hf u hu
 simp only [List.mem_cons, List.not_mem_nil, or_false] at hf
 subst hf
 simp only [List.mem_cons, List.not_mem_nil, or_false] at hu
 rcases hu with rfl | rfl | rfl | rfl
 ·intro b o s n c e; cases e
 ·intro b o s n c e; cases e
 ·intro b o s n c e; cases e
 ·exact h
structure SetsO (B : Nat) (w : World) (v : Value) (l : List RSet) : Prop where
 out : ∃ css, Sl 4 w v css ∧ From B v ∧ SetsC w css l ∧ FromC B css
theorem SetsO.sets {B : Nat} {w : World} {v : Value} {l : List RSet} (h : SetsO B w v l) : SetsAt w v l := by
 obtain ⟨css, h1, _, h2, _⟩ := h
 exact h2.sets h1
theorem SetsO.ext {B : Nat} {w w' : World} {v : Value} {l : List RSet} (h : SetsO B w v l) (hx : Ext w w') : SetsO B w' v l := by
 obtain ⟨css, h1, h2, h3, h4⟩ := h
 exact ⟨css, h1.ext hx, h2, h3.ext hx, h4⟩
theorem SetsO.weaken {B C : Nat} {w : World} {v : Value} {l : List RSet} (h : SetsO B w v l) (hc : C ≤ B) : SetsO C w v l := by
 obtain ⟨css, h1, h2, h3, h4⟩ := h
 exact ⟨css, h1, h2.weaken hc, h3, fun f hf u hu => (h4 f hf u hu).weaken hc⟩
theorem Sl.put {B k b : Nat} {w w' : World} {v : Value} {es : List (List Value)} {o : Obj} (h : Sl k w v es) (hf : From B v) (hp : Put w w' b o) (hb : b < B) : Sl k w' v es := by
 obtain ⟨a, cap, h1, h2, h3, h4, h5, h6⟩ := h
 refine ⟨a, cap, h1, h2, h3, h4, h5, fun hn => ?_⟩
 obtain ⟨g, o, e, hc⟩ := h6 hn
 have hg : B ≤ g := hf g o none _ _ (by rw [h1, e])
 exact ⟨g, o, e, fun i e j x h1 h2 => (World.cell?_of_block (hp.other g (by omega))).trans (hc i e j x h1 h2)⟩
theorem SetsO.put {B b : Nat} {w w' : World} {v : Value} {l : List RSet} {o : Obj} (h : SetsO B w v l) (hp : Put w w' b o) (hb : b < B) : SetsO B w' v l := by
 obtain ⟨css, h1, h2, h3, h4⟩ := h
 refine ⟨css, h1.put h2 hp hb, h2, ⟨h3.len, fun i s hi => ?_⟩, h4⟩
 obtain ⟨x, e, hx⟩ := h3.at' i s hi
 exact ⟨x, e, hx.put (h4 _ (List.mem_of_getElem? e) x (by simp)) hp hb⟩
theorem SetsO.nil (B : Nat) (w : World) : SetsO B w (.slice none 0 0) [] := ⟨[], Sl.nil _ _, (by intro b o s n c e; cases e), ⟨rfl, by simp⟩, by intro f hf; cases hf⟩
theorem r1_order (a b : List UInt8) (w : World) : Calls Tryz.prog 273 #[str a, str b] w (RetV w (.int .i64 (cmpB a b))) := by
 go_enter Tryz.func273, Tryz.ntmps273
 (repeat' first | ((with_reducible refine nx0 ?_); go_step) | ((with_reducible refine o_s ?_); first | refine wk0 ?_ | (refine wg0 ?_ ?_ <;> intro hc)) | fail)
 ·have h := ‹Op.bytesLess a b = true›
  go_ret
  exact ⟨by simp [cmpB, h], Ext.refl _⟩
 ·have h := ‹Op.bytesLess a b = false›
  have h2 := ‹(!(Op.bytesLess a b || a == b)) = true›
  go_ret
  exact ⟨by simp [h] at h2; simp [cmpB, h, h2], Ext.refl _⟩
 ·have h := ‹Op.bytesLess a b = false›
  have h2 := ‹(!(Op.bytesLess a b || a == b)) = false›
  go_ret
  exact ⟨by simp [h] at h2; subst h2; simp [cmpB, h], Ext.refl _⟩
theorem r1_Labels (nm : List UInt8) (w : World) : Calls Tryz.prog 252 #[str nm] w (Ret w fun v w' => Own w.heap.size 1 9 w' v (tcells ((labels nm).getD []))) := by
 go_enter Tryz.func252, Tryz.ntmps252
 (repeat' first | ((with_reducible refine nx0 ?_); go_step) | ((with_reducible refine o_s ?_); first | refine wk0 ?_ | (refine wg0 ?_ ?_ <;> intro hc)) | fail)
 refine wpl_callR (enters_of Tryz.func136 rfl rfl) rfl rfl (r1_cut nm _) ?_
 intro v w1 x1 hv
 cases hl : labels nm with
 | none =>
  rw [hl] at hv
  subst hv
  (repeat' first | ((with_reducible refine nx0 ?_); go_step) | ((with_reducible refine o_s ?_); first | refine wk0 ?_ | (refine wg0 ?_ ?_ <;> intro hc)) | fail)
  go_ret
  refine ⟨_, rfl, x1, ?_⟩
  simp only [hl, Option.getD_none]
  exact Own.nil _ _ _ _
 | some ls =>
  rw [hl] at hv
  obtain ⟨s, rfl, o⟩ := hv
  (repeat' first | ((with_reducible refine nx0 ?_); go_step) | ((with_reducible refine o_s ?_); first | refine wk0 ?_ | (refine wg0 ?_ ?_ <;> intro hc)) | fail)
  go_ret
  refine ⟨_, rfl, x1, ?_⟩
  simp only [hl, Option.getD_some]
  exact o
theorem enc_ge {ls : List (List UInt8)} (h : ls.all fitL = true) : 2 * ls.length ≤ (enc ls).length := by
 induction ls with
 | nil => simp [enc]
 | cons x ls ih =>
  simp only [List.all_cons, Bool.and_eq_true] at h
  have := ih h.2
  have e : enc (x :: ls) = UInt8.ofNat x.length :: x ++ enc ls := by simp [enc]
  have hx : 1 ≤ x.length := by have := h.1; simp [fitL] at this; omega
  rw [e]; simp; omega
theorem join_many {ls : List (List UInt8)} (h : 127 < ls.length) : join ls = none := by
 rw [join, if_neg]
 rintro ⟨h1, h2⟩
 have := enc_ge h1
 omega
set_option maxHeartbeats 1000000 in
theorem r1_Join (v : Value) (ls : List (List UInt8)) (w : World) (h : Sl 1 w v (tcells ls)) : Calls Tryz.prog 170 #[v] w (RetV w (match join ls with | some n => .tuple #[str n, .int .i64 0] | none => .tuple #[str [], .int .i64 1])) := by
 have hlt0 : (tcells ls).length = ls.length := tcells_length ls
 by_cases h127 : 127 < ls.length
 ·go_enter Tryz.func170, Tryz.ntmps170
  (repeat' first | ((with_reducible refine nx0 ?_); go_step) | ((with_reducible refine o_s ?_); first | refine wk0 ?_ | (refine wg0 ?_ ?_ <;> intro hc)) | fail)
  go_ret2
  exact ⟨by rw [join_many h127]; rfl, Ext.refl _⟩
 ·go_enter Tryz.func170, Tryz.ntmps170
  (repeat' first | ((with_reducible refine nx0 ?_); go_step) | ((with_reducible refine o_s ?_); first | refine wk0 ?_ | (refine wg0 ?_ ?_ <;> intro hc)) | fail)
  go_loopw [4, 5] (fun s i wr => ∃ k : Nat, k ≤ ls.length ∧ i = .int .i64 k ∧ s = str (enc (ls.take k)) ∧ Ext w wr ∧ (ls.take k).all fitL = true ∧ (enc (ls.take k)).length ≤ 64 * k) (fun _ i _ => ls.length - (intOf i).toNat)
  case atStart => exact ⟨0, Nat.zero_le _, rfl, rfl, Ext.refl _, rfl, by simp [enc]⟩
  case round =>
   obtain ⟨k, hk, rfl, rfl, hx, hall, hlen⟩ := hrel
   have hsl := h.ext hx
   by_cases hlt : k < ls.length
   ·have hp := hsl.elem (tcells_at hlt)
    (repeat' first | ((with_reducible refine nx0 ?_); go_step) | ((with_reducible refine o_s ?_); first | refine wk0 ?_ | (refine wg0 ?_ ?_ <;> intro hc)) | fail)
    rotate_left
    ·have h63 : ls[k].length ≤ 63 := by omega
     have h1 : 1 ≤ ls[k].length := by omega
     refine wph_region (S := fun w' => Ext wr w') (by decide +kernel) ?_
     intro w1 x1 hh1
     refine tk 0 ?_; refine gset ?_; refine tk 1 ?_; refine gset ?_; refine tk 2 ?_; refine gset ?_; refine tk 3 ?_; refine gset ?_; refine tk 4 ?_; refine gset ?_; refine tk 5 ?_; refine gset ?_; refine tk 6 ?_; refine gset ?_; refine tk 10 ?_; refine gset ?_; refine tk 11 ?_; refine gset ?_; refine tk 12 ?_; refine gset ?_; refine tk 13 ?_; refine gset ?_
     refine wph_one (i := 7) (by decide +kernel) rfl rfl ?_
     refine wpl_slice (e := 5) (k := 1) (bytes := 1) (xs := [.int .u8 (IntKind.wrap .u8 (ls[k].length : Nat))]) rfl rfl rfl (by simp [Value.cells]) (by decide +kernel) (by simp) ?_
     intro v2 w2 x2 _ s2 _
     have s2 : Sl 1 w2 v2 (bcells [UInt8.ofNat ls[k].length]) := by simpa [bcells, Value.cells, wrapU] using s2
     refine gset ?_
     refine wph_nil ⟨by exact extc, ?_⟩
     refine wph_one (i := 8) (by decide +kernel) rfl rfl ?_
     (repeat' first | ((with_reducible refine nx0 ?_); go_step) | ((with_reducible refine o_s ?_); first | refine wk0 ?_ | (refine wg0 ?_ ?_ <;> intro hc)) | fail)
     refine ⟨by exact extc, ?_⟩
     refine wph_one (i := 9) (by decide +kernel) rfl rfl ?_
     (repeat' first | ((with_reducible refine nx0 ?_); go_step) | ((with_reducible refine o_s ?_); first | refine wk0 ?_ | (refine wg0 ?_ ?_ <;> intro hc)) | fail)
     refine ⟨by exact extc, ?_⟩
     refine wph_one (i := 14) (by decide +kernel) rfl rfl ?_
     (repeat' first | ((with_reducible refine nx0 ?_); go_step) | ((with_reducible refine o_s ?_); first | refine wk0 ?_ | (refine wg0 ?_ ?_ <;> intro hc)) | fail)
     refine ⟨by exact extc, ?_⟩
     refine wph_one (i := 15) (by decide +kernel) rfl rfl ?_
     (repeat' first | ((with_reducible refine nx0 ?_); go_step) | ((with_reducible refine o_s ?_); first | refine wk0 ?_ | (refine wg0 ?_ ?_ <;> intro hc)) | fail)
     refine ⟨by exact extc, ?_⟩
     refine wph_done (by decide +kernel) ?_
     have e : enc (ls.take k) ++ [UInt8.ofNat ls[k].length] ++ ls[k] = enc (ls.take (k + 1)) := by
      rw [List.take_add_one, List.getElem?_eq_getElem hlt, Option.toList_some, enc_append, enc_one]; simp
     rw [e]
     (repeat' first | ((with_reducible refine nx0 ?_); go_step) | ((with_reducible refine o_s ?_); first | refine wk0 ?_ | (refine wg0 ?_ ?_ <;> intro hc)) | fail)
     refine ⟨⟨k + 1, by omega, by go_num, rfl, by exact extc, ?_, ?_⟩, by simp [intOf]; omega⟩
     ·rw [List.take_add_one, List.getElem?_eq_getElem hlt, Option.toList_some, List.all_append, hall]
      simp [fitL]; omega
     ·rw [← e]; simp; omega
    all_goals
     go_ret2
     refine ⟨?_, hx⟩
     rw [join_bad (List.getElem_mem hlt) (by simp [fitL]; omega)]
     rfl
   ·have : k = ls.length := by omega
    subst this
    rw [List.take_length] at hall hlen ⊢
    (repeat' first | ((with_reducible refine nx0 ?_); go_step) | ((with_reducible refine o_s ?_); first | refine wk0 ?_ | (refine wg0 ?_ ?_ <;> intro hc)) | fail)
    ·go_ret2
     refine ⟨?_, hx⟩
     rw [join, if_neg (by omega)]
     rfl
    ·go_ret2
     refine ⟨?_, hx⟩
     rw [join, if_pos ⟨hall, by omega⟩]
     rfl
theorem pw_set {α : Type} {R : α → α → Prop} {l : List α} {i : Nat} {c : α} (h : l.Pairwise R) (hi : i < l.length) (h1 : ∀ j (hj : j < i), R l[j] c) (h2 : ∀ j (hj : i < j) (hl : j < l.length), R c l[j]) : (l.set i c).Pairwise R := by
 rw [List.pairwise_iff_getElem] at *
 intro p q hp hq hpq
 simp only [List.length_set] at hp hq
 simp only [List.getElem_set]
 by_cases e1 : i = p
 ·subst e1
  rw [if_pos rfl, if_neg (by omega)]
  exact h2 q hpq hq
 ·by_cases e2 : i = q
  ·subst e2
   rw [if_neg e1, if_pos rfl]
   exact h1 p hpq
  ·rw [if_neg e1, if_neg e2]
   exact h p q hp hq hpq
theorem GS.split {w : World} {B : Nat} {gcs : List GC} (h : GS w B gcs) {i j : Nat} {c c' : GC} (hi : gcs[i]? = some c) (hj : gcs[j]? = some c') (hij : i ≠ j) : c.b ≠ c'.b ∧ (c.v.ownBlock = none ∨ c'.v.ownBlock = none ∨ c.v.ownBlock ≠ c'.v.ownBlock) := by
 have := List.pairwise_iff_getElem.1 h.apart
 obtain ⟨hi2, e1⟩ := List.getElem?_eq_some_iff.1 hi
 obtain ⟨hj2, e2⟩ := List.getElem?_eq_some_iff.1 hj
 subst e1 e2
 rcases Nat.lt_or_ge i j with h1 | h1
 ·exact this i j hi2 hj2 h1
 ·obtain ⟨a, b⟩ := this j i hj2 hi2 (by omega)
  exact ⟨fun e => a e.symm, by rcases b with b | b | b; exact .inr (.inl b); exact .inl b; exact .inr (.inr fun e => b e.symm)⟩
theorem mem_set_at {α : Type} {l : List α} {i : Nat} {c x : α} (h : x ∈ l.set i c) : x = c ∨ ∃ j, j ≠ i ∧ l[j]? = some x := by
 obtain ⟨j, hj⟩ := List.mem_iff_getElem?.1 h
 by_cases e : j = i
 ·subst e
  have hl : j < l.length := by simpa using (List.getElem?_eq_some_iff.1 hj).1
  rw [List.getElem?_set_self hl] at hj
  exact .inl (Option.some.inj hj).symm
 ·rw [List.getElem?_set_ne (Ne.symm e)] at hj
  exact .inr ⟨j, e, hj⟩
theorem GS.turn {w w1 w2 : World} {B : Nat} {gcs : List GC} {i : Nat} {c c' : GC} (h : GS w B gcs) (hi : gcs[i]? = some c) (hb : c'.b = c.b) (m : Mv c.v.ownBlock w w1) (o : Own B 1 9 w1 c'.v (tcells c'.s.data))
 (kin : c'.v.ownBlock = c.v.ownBlock ∨ c'.v.ownBlock = some w.heap.size) (hp : Put w1 w2 c.b (.cells c'.cells.toArray 115 (0, 0))) : GS w2 B (gcs.set i c') := by
 have hc := h.each c (List.mem_of_getElem? hi)
 have hil := (List.getElem?_eq_some_iff.1 hi).1
 have hcb : c.v.ownBlock ≠ some c.b := hc.own.neBlock hc.blk (by omega)
 have ho : Own B 1 9 w2 c'.v (tcells c'.s.data) := o.mv hp.mv (.inr (o.neBlock (cs := c.cells.toArray) (fz := (0, 0)) (m.at hc.blk (fun e => hcb e.symm)) (by omega)))
 have hother : ∀ j x, j ≠ i → gcs[j]? = some x → GOK w2 B x ∧ x.b ≠ c.b ∧ (x.v.ownBlock = none ∨ x.v.ownBlock ≠ c'.v.ownBlock) := by
  intro j x hj hx
  have hxo := h.each x (List.mem_of_getElem? hx)
  obtain ⟨s1, s2⟩ := h.split hx hi hj
  have n1 : some x.b ≠ c.v.ownBlock := fun e => (hc.own.neBlock hxo.blk (by omega)) e.symm
  have n2 : x.v.ownBlock = none ∨ x.v.ownBlock ≠ c.v.ownBlock := by
   rcases s2 with s2 | s2 | s2
   ·exact .inl s2
   ·cases hv : x.v.ownBlock with
    | none => exact .inl rfl
    | some r => rw [s2]; exact .inr (by simp)
   ·exact .inr s2
  have g1 := hxo.mv m n1 n2
  refine ⟨g1.mv hp.mv (fun e => s1 (Option.some.inj e)) (.inr (hxo.own.neBlock hc.blk (by omega))), s1, ?_⟩
  rcases kin with k | k
  ·rw [k]; exact n2
  ·rw [k]
   cases hv : x.v.ownBlock with
   | none => exact .inl rfl
   | some r => exact .inr fun e => by have := (hxo.own.block r hv).2; have := Option.some.inj e; omega
 refine ⟨fun x hx => ?_, pw_set h.apart hil (fun j hj => ?_) (fun j hj hl => ?_)⟩
 ·rcases mem_set_at hx with rfl | ⟨j, hj, hx⟩
  ·exact ⟨by rw [hb]; exact hp.this, by rw [hb]; exact hc.ge, ho⟩
  ·exact (hother j x hj hx).1
 ·obtain ⟨_, a, b⟩ := hother j gcs[j] (by omega) (List.getElem?_eq_getElem (by omega))
  exact ⟨by rw [hb]; exact a, by rcases b with b | b; exact .inl b; exact .inr (.inr b)⟩
 ·obtain ⟨_, a, b⟩ := hother j gcs[j] (by omega) (List.getElem?_eq_getElem hl)
  exact ⟨by rw [hb]; exact fun e => a e.symm, by rcases b with b | b; exact .inr (.inl b); exact .inr (.inr fun e => b e.symm)⟩
theorem GS.push {w : World} {B : Nat} {gcs : List GC} {c : GC} (h : GS w B gcs) (hc : GOK w B c) (hn : ∀ x ∈ gcs, x.b ≠ c.b) (hv : c.v.ownBlock = none) : GS w B (gcs ++ [c]) := by
 refine ⟨fun x hx => ?_, ?_⟩
 ·rcases List.mem_append.1 hx with hx | hx
  ·exact h.each x hx
  ·rw [List.mem_singleton.1 hx]; exact hc
 ·rw [List.pairwise_append]
  refine ⟨h.apart, by simp, fun x hx y hy => ?_⟩
  rw [List.mem_singleton.1 hy]
  exact ⟨hn x hx, .inr (.inl hv)⟩
theorem GS.mv {w w' : World} {B : Nat} {gcs : List GC} {row : Option Nat} (h : GS w B gcs) (hm : Mv row w w') (h1 : ∀ c ∈ gcs, some c.b ≠ row ∧ (c.v.ownBlock = none ∨ c.v.ownBlock ≠ row)) : GS w' B gcs :=
 ⟨fun c hc => (h.each c hc).mv hm (h1 c hc).1 (h1 c hc).2, h.apart⟩
theorem kt48 : Tryz.prog.keyTypeAt 2 165 = true := by kernel_rfl
theorem ktiled48 : Tryz.prog.tiled 2 165 = true := by kernel_rfl
theorem law48 : WideMaps.KeyLaw Tryz.prog 165 := deep_law (m := 2) (by omega) kt48 ktiled48 (by kernel_rfl)
theorem keyOf48 (n : List UInt8) (k : Int) (hn : n.length ≤ 1000000) (hk : 0 ≤ k ∧ k ≤ 65535) : ∃ l, keyOf Tryz.prog 165 (.agg #[str n, .int .i64 k]) = some l := by
 unfold keyOf
 rw [Tryz.underlying165]
 have kt2 : Tryz.prog.keyType 165 = true := by kernel_rfl
 simp only [kt2]
 rw [show Tryz.prog.types.size = 303 from by kernel_rfl]
 have c48 : Tryz.prog.cellsOf 165 = 2 := by kernel_rfl
 have c30 : Tryz.prog.cellsOf 27 = 1 := by kernel_rfl
 have c3 : Tryz.prog.cellsOf 3 = 1 := by kernel_rfl
 have f : Value.formed Tryz.prog 165 (Value.agg #[str n, Value.int IntKind.i64 k]) = true := by simp [Value.formed, Tryz.underlying165, c48]
 have hs : (ByteArray.mk n.toArray).size ≤ maxLen := by rw [size_mk]; unfold maxLen; omega
 have hw : (Lit.int .i64 k).wf = true := by simp [Lit.wf, IntKind.min, IntKind.max, IntKind.bits, IntKind.signed]; omega
 have l30 : Tryz.prog.keyLits 303 27 [str n] = some [.string n] := by simp [Program.keyLits, Tryz.underlying27, str, -ByteArray.size_data, hs]
 have l3 : Tryz.prog.keyLits 303 3 [Value.int .i64 k] = some [.int .i64 k] := by simp [Program.keyLits, Tryz.underlying3, hw]
 rw [f]
 simp only [Bool.and_self, if_true]
 unfold Program.keyLits
 simp [Tryz.underlying165, c48, c30, c3, Value.cells, l30, l3]
structure L1 (w0 w : World) (kv : Value) (gcs : List GC) : Prop where
 ext : Ext w0 w
 map : MapAt Tryz.prog 165 w w0.heap.size (gcs.map GC.key)
 keys : Own (w0.heap.size + 1) 2 165 w kv (gcs.map GC.kcells)
 sets : GS w (w0.heap.size + 1) gcs
theorem L1.grow {w0 w w' : World} {kv : Value} {gcs : List GC} (h : L1 w0 w kv gcs) (hx : Ext w w') : L1 w0 w' kv gcs :=
 ⟨h.ext.trans hx, h.map.at (fun o ho => hx.at ho), h.keys.ext hx, h.sets.ext hx⟩
end Go.Proofs.X
