/- Laws and walks that the proof of the statement is made of (part 7). -/
import Derived.Test.YtedoaagdhcimiaaGreatProg
import Derived.Test.YtedoaagdhcimiaaGreatShelf
import Derived.Lib.Hide
import Derived.Shelf.SlSortCmp.NoneTotal
import Derived.OwnWalk
import Derived.Shelf.RegionOpenPlain
import Derived.Lib.Strings
import Derived.Lib.Slices
import Derived.Lib.Walk
import Derived.Lib.Builder
import Derived.Lib.AppendStr
import Derived.Lib.UnsafeStr
import Derived.Lib.MakeNoZero
import Derived.WalkKit
import Derived.Laws.Externs
import Derived.Laws.IdiomCopy
import Derived.Laws.BitsLemmas
import GoSem.Claims
import Derived.Test.YtedoaagdhcimiaaGreatP1
import Derived.Test.YtedoaagdhcimiaaGreatP2
import Derived.Test.YtedoaagdhcimiaaGreatP3
import Derived.Test.YtedoaagdhcimiaaGreatP4
import Derived.Test.YtedoaagdhcimiaaGreatP5
import Derived.Test.YtedoaagdhcimiaaGreatP6
set_option linter.unusedSimpArgs false
set_option linter.unusedVariables false
namespace Go.Proofs.X
open Go.RowKit
set_option maxRecDepth 100000
theorem turned_eq (n : List UInt8) : turned n = (labels n).map fun ls => (ls.map low).reverse := by
 cases h : labels n with
 | none => simp [turned, fold, h]
 | some ls => simp [turned, (fold_valid h).2.1]
set_option maxHeartbeats 6000000 in
theorem r1_Fold (nm : List UInt8) (w : World) : Calls Tryz.prog 113 #[str nm] w (RetV w (str (fold nm))) := by
 go_enter Tryz.func113, Tryz.ntmps113
 (repeat' first | ((with_reducible refine nx0 ?_); go_step) | ((with_reducible refine o_s ?_); first | refine wk0 ?_ | (refine wg0 ?_ ?_ <;> intro hc)) | fail)
 refine wpl_callR (enters_of Tryz.func136 rfl rfl) rfl rfl (r1_cut nm _) ?_
 intro v w1 x1 hv
 cases hl : labels nm with
 | none =>
  rw [hl] at hv
  subst hv
  (repeat' first | ((with_reducible refine nx0 ?_); go_step) | ((with_reducible refine o_s ?_); first | refine wk0 ?_ | (refine wg0 ?_ ?_ <;> intro hc)) | fail)
  go_ret
  exact ⟨by simp [fold, hl], x1⟩
 | some ls =>
  rw [hl] at hv
  obtain ⟨s, rfl, hs⟩ := hv
  have hfit := labels_fit hl
  have hlen := len_le_enc ls
  rw [hfit.2.1] at hlen
  (repeat' first | ((with_reducible refine nx0 ?_); go_step) | ((with_reducible refine o_s ?_); first | refine wk0 ?_ | (refine wg0 ?_ ?_ <;> intro hc)) | fail)
  go_loopw [5] (fun i wr => ∃ k : Nat, k ≤ ls.length ∧ i = .int .i64 k ∧ Ext w wr ∧ Own w.heap.size 1 9 wr s (tcells (mapP low ls k))) (fun i _ => ls.length - (intOf i).toNat)
  case atStart => exact ⟨0, Nat.zero_le _, rfl, x1, by simpa [mapP_zero] using hs⟩
  case round =>
   obtain ⟨k, hk, rfl, hx, ho⟩ := hrel
   have hsl := ho.sl
   have hlen2 : (tcells (mapP low ls k)).length = ls.length := by rw [tcells_length, mapP_length]
   by_cases hlt : k < ls.length
   ·have hp := hsl.elem (tcells_get _ _ _ (mapP_get low ls k hlt))
    have h254 : ls[k].length ≤ 254 := by have := mem_enc_le (List.getElem_mem hlt); rw [hfit.2.1] at this; omega
    (repeat' first | ((with_reducible refine nx0 ?_); go_step) | ((with_reducible refine o_s ?_); first | refine wk0 ?_ | (refine wg0 ?_ ?_ <;> intro hc)) | fail)
    refine wpl_callV (enters_of Tryz.func169 rfl rfl) rfl rfl (r1_Small _ _ (by omega)) ?_; intro w2 x2; refine gset ?_
    have hsl := hsl.ext x2
    have ho := ho.ext x2
    have hx := hx.trans x2
    clear hp
    (repeat' first | ((with_reducible refine nx0 ?_); go_step) | ((with_reducible refine o_s ?_); first | refine wk0 ?_ | (refine wg0 ?_ ?_ <;> intro hc)) | fail)
    refine wpl_storeE1 (c := str (low ls[k])) (i := k) rfl rfl rfl ho (by omega) (by decide +kernel) rfl ?_
    intro w3 o3 m3
    have hx3 := ho.mvx m3 hx (Nat.le_refl _)
    rw [tcells_set, ← mapP_succ low ls k hlt] at o3
    clear hx ho hsl
    (repeat' first | ((with_reducible refine nx0 ?_); go_step) | ((with_reducible refine o_s ?_); first | refine wk0 ?_ | (refine wg0 ?_ ?_ <;> intro hc)) | fail)
    exact ⟨⟨k + 1, by omega, by go_num, hx3, o3⟩, by simp [intOf]; omega⟩
   ·have : k = ls.length := by omega
    subst this
    rw [mapP_all] at hsl hlen2
    (repeat' first | ((with_reducible refine nx0 ?_); go_step) | ((with_reducible refine o_s ?_); first | refine wk0 ?_ | (refine wg0 ?_ ?_ <;> intro hc)) | fail)
    refine wpl_callV (enters_of Tryz.func170 rfl rfl) rfl rfl (r1_Join _ _ _ hsl) ?_; intro w2 x2; refine gset ?_
    cases hj : join (ls.map low) with
    | none =>
     (repeat' first | ((with_reducible refine nx0 ?_); go_step) | ((with_reducible refine o_s ?_); first | refine wk0 ?_ | (refine wg0 ?_ ?_ <;> intro hc)) | fail)
     go_ret
     exact ⟨by simp [fold, hl, hj], hx.trans x2⟩
    | some n =>
     (repeat' first | ((with_reducible refine nx0 ?_); go_step) | ((with_reducible refine o_s ?_); first | refine wk0 ?_ | (refine wg0 ?_ ?_ <;> intro hc)) | fail)
     go_ret
     exact ⟨by simp [fold, hl, hj], hx.trans x2⟩
def underN (n t : List UInt8) : Bool := match turned n with
 | none => false
 | some a => match turned t with
   | none => false
   | some b => decide (a.take b.length = b)
def rlow (ls : List (List UInt8)) : List (List UInt8) := (ls.map low).reverse
theorem rlow_length (ls : List (List UInt8)) : (rlow ls).length = ls.length := by simp [rlow]
theorem rlow_get {ls : List (List UInt8)} {k : Nat} (h : k < ls.length) : (rlow ls)[k]'(by rw [rlow_length]; exact h) = low (ls[ls.length - 1 - k]'(by omega)) := by
 simp [rlow]
theorem back_at {w : World} {v : Value} {ls : List (List UInt8)} (h : Sl 1 w v (tcells ls)) {k : Nat} (hk : k < ls.length) : Pts w (elemPtr v ((((tcells ls).length : Int) - 1 - k).toNat * 1)) [str (ls[ls.length - 1 - k]'(by omega))] := by
 have := h.elem (i := ls.length - 1 - k) (e := [str (ls[ls.length - 1 - k]'(by omega))]) (tcells_at (by omega))
 rwa [show (((tcells ls).length : Int) - 1 - k).toNat = ls.length - 1 - k by rw [tcells_length]; omega]
theorem take_len_eq {α : Type} {a b : List α} {k : Nat} (h : a.take b.length = b) (hk : k < b.length) (ha : k < a.length) : a[k] = b[k] := by
 have h1 : (a.take b.length)[k]? = b[k]? := by rw [h]
 rw [List.getElem?_take, if_pos hk, List.getElem?_eq_getElem ha, List.getElem?_eq_getElem hk] at h1
 exact Option.some.inj h1
set_option maxHeartbeats 12000000 in
theorem r1_Under (a b : List UInt8) (w : World) : Calls Tryz.prog 204 #[str a, str b] w (RetV w (.bool (underN a b))) := by
 go_enter Tryz.func204, Tryz.ntmps204
 (repeat' first | ((with_reducible refine nx0 ?_); go_step) | ((with_reducible refine o_s ?_); first | refine wk0 ?_ | (refine wg0 ?_ ?_ <;> intro hc)) | fail)
 refine wpl_callR (enters_of Tryz.func136 rfl rfl) rfl rfl (r1_cut a _) ?_
 intro v w1 x1 hv
 cases hl : labels a with
 | none =>
  rw [hl] at hv
  subst hv
  (repeat' first | ((with_reducible refine nx0 ?_); go_step) | ((with_reducible refine o_s ?_); first | refine wk0 ?_ | (refine wg0 ?_ ?_ <;> intro hc)) | fail)
  refine wpl_callR (enters_of Tryz.func136 rfl rfl) rfl rfl (r1_cut b _) ?_
  intro v2 w2 x2 hv2
  have hu : underN a b = false := by simp [underN, turned_eq, hl]
  cases hm : labels b with
  | none =>
   rw [hm] at hv2
   subst hv2
   (repeat' first | ((with_reducible refine nx0 ?_); go_step) | ((with_reducible refine o_s ?_); first | refine wk0 ?_ | (refine wg0 ?_ ?_ <;> intro hc)) | fail)
   go_ret
   exact ⟨by rw [hu]; rfl, x1.trans x2⟩
  | some ms =>
   rw [hm] at hv2
   obtain ⟨s2, rfl, o2⟩ := hv2
   (repeat' first | ((with_reducible refine nx0 ?_); go_step) | ((with_reducible refine o_s ?_); first | refine wk0 ?_ | (refine wg0 ?_ ?_ <;> intro hc)) | fail)
   go_ret
   exact ⟨by rw [hu]; rfl, x1.trans x2⟩
 | some ls =>
  rw [hl] at hv
  obtain ⟨s1, rfl, o1⟩ := hv
  (repeat' first | ((with_reducible refine nx0 ?_); go_step) | ((with_reducible refine o_s ?_); first | refine wk0 ?_ | (refine wg0 ?_ ?_ <;> intro hc)) | fail)
  refine wpl_callR (enters_of Tryz.func136 rfl rfl) rfl rfl (r1_cut b _) ?_
  intro v2 w2 x2 hv2
  cases hm : labels b with
  | none =>
   have hu : underN a b = false := by simp [underN, turned_eq, hm, hl]
   rw [hm] at hv2
   subst hv2
   (repeat' first | ((with_reducible refine nx0 ?_); go_step) | ((with_reducible refine o_s ?_); first | refine wk0 ?_ | (refine wg0 ?_ ?_ <;> intro hc)) | fail)
   go_ret
   exact ⟨by rw [hu]; rfl, x1.trans x2⟩
  | some ms =>
   rw [hm] at hv2
   obtain ⟨s2, rfl, o2⟩ := hv2
   have hu : underN a b = true ↔ (rlow ls).take ms.length = rlow ms := by
    simp only [underN, turned_eq, hm, hl, Option.map_some, decide_eq_true_eq]
    rw [show ((ms.map low).reverse).length = ms.length by simp]; rfl
   have hA := o1.sl.ext x2
   have hB := o2.sl
   have tl := tcells_length ls
   have tm := tcells_length ms
   have fl := labels_fit hl
   have fm := labels_fit hm
   have ll := len_le_enc ls
   have lm := len_le_enc ms
   rw [fl.2.1] at ll
   rw [fm.2.1] at lm
   by_cases hlt : ls.length < ms.length
   ·have hno : (rlow ls).take ms.length ≠ rlow ms := fun h => by
     have := congrArg List.length h
     simp [rlow_length] at this; omega
    (repeat' first | ((with_reducible refine nx0 ?_); go_step) | ((with_reducible refine o_s ?_); first | refine wk0 ?_ | (refine wg0 ?_ ?_ <;> intro hc)) | fail)
    go_ret
    have hno' : underN a b = false := by cases h : underN a b with | false => rfl | true => exact absurd (hu.1 h) hno
    exact ⟨by rw [hno']; rfl, x1.trans x2⟩
   ·have x12 := x1.trans x2
    (repeat' first | ((with_reducible refine nx0 ?_); go_step) | ((with_reducible refine o_s ?_); first | refine wk0 ?_ | (refine wg0 ?_ ?_ <;> intro hc)) | fail)
    go_loopw [9] (fun i wr => ∃ k : Nat, k ≤ ms.length ∧ i = .int .i64 k ∧ Ext w2 wr ∧ (rlow ls).take k = (rlow ms).take k) (fun i _ => ms.length - (intOf i).toNat)
    case atStart => exact ⟨0, Nat.zero_le _, rfl, Ext.refl _, rfl⟩
    case round =>
     obtain ⟨k, hk, rfl, hx, hall⟩ := hrel
     by_cases hk2 : k < ms.length
     ·have hA := hA.ext hx
      have hB := hB.ext hx
      have hkl : k < ls.length := by omega
      have hpA := back_at hA hkl
      have hpB := back_at hB hk2
      have lA : (ls[ls.length - 1 - k]'(by omega)).length ≤ 254 := by have := mem_enc_le (List.getElem_mem (l := ls) (n := ls.length - 1 - k) (by omega)); rw [fl.2.1] at this; omega
      have lB : (ms[ms.length - 1 - k]'(by omega)).length ≤ 254 := by have := mem_enc_le (List.getElem_mem (l := ms) (n := ms.length - 1 - k) (by omega)); rw [fm.2.1] at this; omega
      have gA := rlow_get hkl
      have gB := rlow_get hk2
      generalize hx1 : ls[ls.length - 1 - k]'(by omega) = x at *
      generalize hy1 : ms[ms.length - 1 - k]'(by omega) = y at *
      (repeat' first | ((with_reducible refine nx0 ?_); go_step) | ((with_reducible refine o_s ?_); first | refine wk0 ?_ | (refine wg0 ?_ ?_ <;> intro hc)) | fail)
      refine wpq_region (by decide +kernel) (by decide +kernel) ?_
      (try ((with_reducible refine qh0 ?_); refine qk0 ?_))
      refine wpq_call (enters_of Tryz.func169 rfl rfl) rfl rfl (fun w' _ => r1_Small x w' (by omega)) ?_
      refine gset ?_
      (try ((with_reducible refine qh0 ?_); refine qk0 ?_))
      refine wpq_call (enters_of Tryz.func169 rfl rfl) rfl rfl (fun w' _ => r1_Small y w' (by omega)) ?_
      refine gset ?_
      (try ((with_reducible refine qh0 ?_); refine qk0 ?_))
      intro w3 x3
      (repeat' first | ((with_reducible refine nx0 ?_); go_step) | ((with_reducible refine o_s ?_); first | refine wk0 ?_ | (refine wg0 ?_ ?_ <;> intro hc)) | fail)
      ·have hne := ‹(!decide (low x = low y)) = true›
       have hno : underN a b = false := by
        cases h : underN a b with
        | false => rfl
        | true =>
         have h2 := hu.1 h
         rw [← rlow_length ms] at h2
         have := take_len_eq h2 (by rw [rlow_length]; exact hk2) (by rw [rlow_length]; exact hkl)
         rw [gA, gB] at this
         simp [this] at hne
       go_ret
       exact ⟨by rw [hno]; rfl, x12.trans (hx.trans x3)⟩
      ·have heq := ‹(!decide (low x = low y)) = false›
       refine ⟨⟨k + 1, by omega, by go_num, hx.trans x3, ?_⟩, by simp [intOf]; omega⟩
       refine take_succ_eq hall (by rw [rlow_length]; exact hkl) (by rw [rlow_length]; exact hk2) ?_
       rw [gA, gB]
       simpa using heq
     ·have : k = ms.length := by omega
      subst this
      have hyes : underN a b = true := hu.2 (by rw [hall, ← rlow_length, List.take_length])
      (repeat' first | ((with_reducible refine nx0 ?_); go_step) | ((with_reducible refine o_s ?_); first | refine wk0 ?_ | (refine wg0 ?_ ?_ <;> intro hc)) | fail)
      go_ret
      exact ⟨by rw [hyes]; rfl, x12.trans hx⟩
theorem cmpL_take : ∀ (k : Nat) (a b : List (List UInt8)), a.take k = b.take k → k ≤ a.length → k ≤ b.length → cmpL a b = cmpL (a.drop k) (b.drop k)
 | 0, a, b, _, _, _ => by simp
 | k + 1, x :: a, y :: b, h, h1, h2 => by
   simp only [List.take_succ_cons, List.cons.injEq] at h
   obtain ⟨rfl, h⟩ := h
   have e : cmpB x x = 0 := tpo_cmpB.refl x
   rw [cmpL, e]
   simp only [ne_eq, not_true_eq_false, if_false, List.drop_succ_cons]
   exact cmpL_take k a b h (by simpa using h1) (by simpa using h2)
 | k + 1, [], _, _, h1, _ => by simp at h1
 | k + 1, _ :: _, [], _, _, h2 => by simp at h2
theorem cmpL_at {k : Nat} {a b : List (List UInt8)} (h : a.take k = b.take k) (ha : k < a.length) (hb : k < b.length) (hne : cmpB a[k] b[k] ≠ 0) : cmpL a b = cmpB a[k] b[k] := by
 rw [cmpL_take k a b h (by omega) (by omega), List.drop_eq_getElem_cons ha, List.drop_eq_getElem_cons hb, cmpL, if_pos hne]
theorem cmpL_end {k : Nat} {a b : List (List UInt8)} (h : a.take k = b.take k) (h1 : k ≤ a.length) (h2 : k ≤ b.length) (he : k = a.length ∨ k = b.length) : cmpL a b = if a.length < b.length then -1 else if b.length < a.length then 1 else 0 := by
 rw [cmpL_take k a b h h1 h2]
 rcases he with rfl | rfl
 ·rw [List.drop_length]
  cases hd : b.drop a.length with
  | nil =>
   have := List.drop_eq_nil_iff.1 hd
   rw [cmpL, if_neg (by omega), if_neg (by omega)]
  | cons y l =>
   have : a.length < b.length := by
    rcases Nat.lt_or_ge a.length b.length with h | h
    ·exact h
    ·rw [List.drop_eq_nil_iff.2 h] at hd; cases hd
   rw [cmpL, if_pos this]
 ·rw [List.drop_length]
  cases hd : a.drop b.length with
  | nil =>
   have := List.drop_eq_nil_iff.1 hd
   rw [cmpL, if_neg (by omega), if_neg (by omega)]
  | cons y l =>
   have : b.length < a.length := by
    rcases Nat.lt_or_ge b.length a.length with h | h
    ·exact h
    ·rw [List.drop_eq_nil_iff.2 h] at hd; cases hd
   rw [cmpL, if_neg (by omega), if_pos this]
set_option maxHeartbeats 24000000 in
theorem r1_Compare (a b : List UInt8) (w : World) : Calls Tryz.prog 251 #[str a, str b] w (RetV w (.int .i64 (cmpN a b))) := by
 go_enter Tryz.func251, Tryz.ntmps251
 (repeat' first | ((with_reducible refine nx0 ?_); go_step) | ((with_reducible refine o_s ?_); first | refine wk0 ?_ | (refine wg0 ?_ ?_ <;> intro hc)) | fail)
 refine wpl_callR (enters_of Tryz.func136 rfl rfl) rfl rfl (r1_cut a _) ?_
 intro v w1 x1 hv
 cases hl : labels a with
 | none =>
  rw [hl] at hv
  subst hv
  (repeat' first | ((with_reducible refine nx0 ?_); go_step) | ((with_reducible refine o_s ?_); first | refine wk0 ?_ | (refine wg0 ?_ ?_ <;> intro hc)) | fail)
  refine wpl_callR (enters_of Tryz.func136 rfl rfl) rfl rfl (r1_cut b _) ?_
  intro v2 w2 x2 hv2
  cases hm : labels b with
  | none =>
   rw [hm] at hv2
   subst hv2
   (repeat' first | ((with_reducible refine nx0 ?_); go_step) | ((with_reducible refine o_s ?_); first | refine wk0 ?_ | (refine wg0 ?_ ?_ <;> intro hc)) | fail)
   refine wpl_callV (enters_of Tryz.func273 rfl rfl) rfl rfl (r1_order a b _) ?_; intro w3 x3; refine gset ?_
   (repeat' first | ((with_reducible refine nx0 ?_); go_step) | ((with_reducible refine o_s ?_); first | refine wk0 ?_ | (refine wg0 ?_ ?_ <;> intro hc)) | fail)
   go_ret
   exact ⟨by simp [cmpN, turned_eq, hl, hm], (x1.trans x2).trans x3⟩
  | some ms =>
   rw [hm] at hv2
   obtain ⟨s2, rfl, o2⟩ := hv2
   (repeat' first | ((with_reducible refine nx0 ?_); go_step) | ((with_reducible refine o_s ?_); first | refine wk0 ?_ | (refine wg0 ?_ ?_ <;> intro hc)) | fail)
   go_ret
   exact ⟨by simp [cmpN, turned_eq, hl, hm], x1.trans x2⟩
 | some ls =>
  rw [hl] at hv
  obtain ⟨s1, rfl, o1⟩ := hv
  (repeat' first | ((with_reducible refine nx0 ?_); go_step) | ((with_reducible refine o_s ?_); first | refine wk0 ?_ | (refine wg0 ?_ ?_ <;> intro hc)) | fail)
  refine wpl_callR (enters_of Tryz.func136 rfl rfl) rfl rfl (r1_cut b _) ?_
  intro v2 w2 x2 hv2
  cases hm : labels b with
  | none =>
   rw [hm] at hv2
   subst hv2
   (repeat' first | ((with_reducible refine nx0 ?_); go_step) | ((with_reducible refine o_s ?_); first | refine wk0 ?_ | (refine wg0 ?_ ?_ <;> intro hc)) | fail)
   go_ret
   exact ⟨by simp [cmpN, turned_eq, hl, hm], x1.trans x2⟩
  | some ms =>
   rw [hm] at hv2
   obtain ⟨s2, rfl, o2⟩ := hv2
   have hu : cmpN a b = cmpL (rlow ls) (rlow ms) := by simp [cmpN, turned_eq, hm, hl, rlow]
   have hA := o1.sl.ext x2
   have hB := o2.sl
   have tl := tcells_length ls
   have tm := tcells_length ms
   have fl := labels_fit hl
   have fm := labels_fit hm
   have ll := len_le_enc ls
   have lm := len_le_enc ms
   rw [fl.2.1] at ll
   rw [fm.2.1] at lm
   have x12 := x1.trans x2
   have rl := rlow_length ls
   have rm := rlow_length ms
   (repeat' first | ((with_reducible refine nx0 ?_); go_step) | ((with_reducible refine o_s ?_); first | refine wk0 ?_ | (refine wg0 ?_ ?_ <;> intro hc)) | fail)
   go_loopw [9, 10] (fun i _ wr => ∃ k : Nat, k ≤ ls.length ∧ k ≤ ms.length ∧ i = .int .i64 k ∧ Ext w2 wr ∧ (rlow ls).take k = (rlow ms).take k) (fun i _ _ => ms.length - (intOf i).toNat)
   case atStart => exact ⟨0, Nat.zero_le _, Nat.zero_le _, rfl, Ext.refl _, rfl⟩
   case round =>
    obtain ⟨k, hk, hk2, rfl, hx, hall⟩ := hrel
    have hA := hA.ext hx
    have hB := hB.ext hx
    by_cases hin : k < ls.length ∧ k < ms.length
    ·obtain ⟨hkl, hkm⟩ := hin
     have hpA := back_at hA hkl
     have hpB := back_at hB hkm
     have lA : (ls[ls.length - 1 - k]'(by omega)).length ≤ 254 := by have := mem_enc_le (List.getElem_mem (l := ls) (n := ls.length - 1 - k) (by omega)); rw [fl.2.1] at this; omega
     have lB : (ms[ms.length - 1 - k]'(by omega)).length ≤ 254 := by have := mem_enc_le (List.getElem_mem (l := ms) (n := ms.length - 1 - k) (by omega)); rw [fm.2.1] at this; omega
     have gA := rlow_get hkl
     have gB := rlow_get hkm
     generalize hx1 : ls[ls.length - 1 - k]'(by omega) = x at *
     generalize hy1 : ms[ms.length - 1 - k]'(by omega) = y at *
     (repeat' first | ((with_reducible refine nx0 ?_); go_step) | ((with_reducible refine o_s ?_); first | refine wk0 ?_ | (refine wg0 ?_ ?_ <;> intro hc)) | fail)
     refine wpq_region (by decide +kernel) (by decide +kernel) ?_
     (try ((with_reducible refine qh0 ?_); refine qk0 ?_))
     refine wpq_call (enters_of Tryz.func169 rfl rfl) rfl rfl (fun w' _ => r1_Small x w' (by omega)) ?_
     refine gset ?_
     (try ((with_reducible refine qh0 ?_); refine qk0 ?_))
     refine wpq_call (enters_of Tryz.func169 rfl rfl) rfl rfl (fun w' _ => r1_Small y w' (by omega)) ?_
     refine gset ?_
     (try ((with_reducible refine qh0 ?_); refine qk0 ?_))
     refine wpq_call (enters_of Tryz.func273 rfl rfl) rfl rfl (fun w' _ => r1_order (low x) (low y) w') ?_
     refine gset ?_
     (try ((with_reducible refine qh0 ?_); refine qk0 ?_))
     intro w3 x3
     (repeat' first | ((with_reducible refine nx0 ?_); go_step) | ((with_reducible refine o_s ?_); first | refine wk0 ?_ | (refine wg0 ?_ ?_ <;> intro hc)) | fail)
     ·have hne := ‹(!decide (cmpB (low x) (low y) = 0)) = true›
      go_ret
      refine ⟨?_, x12.trans (hx.trans x3)⟩
      rw [hu, cmpL_at hall (by omega) (by omega) (by rw [gA, gB]; simpa using hne), gA, gB]
      rfl
     ·have heq := ‹(!decide (cmpB (low x) (low y) = 0)) = false›
      refine ⟨⟨k + 1, by omega, by omega, by go_num, hx.trans x3, ?_⟩, by simp [intOf]; omega⟩
      refine take_succ_eq hall (by omega) (by omega) ?_
      rw [gA, gB]
      exact cmpB_zero (by simpa using heq)
    ·have he : cmpN a b = if ls.length < ms.length then -1 else if ms.length < ls.length then 1 else 0 := by
      rw [hu, cmpL_end hall (by omega) (by omega) (by omega), rl, rm]
     (repeat' first | ((with_reducible refine nx0 ?_); go_step) | ((with_reducible refine o_s ?_); first | refine wk0 ?_ | (refine wg0 ?_ ?_ <;> intro hc)) | fail)
     all_goals
      go_ret
      refine ⟨?_, x12.trans hx⟩
      rw [he]
      first
       | (rw [if_pos (by omega)]; rfl)
       | (rw [if_neg (by omega), if_pos (by omega)]; rfl)
       | (rw [if_neg (by omega), if_neg (by omega)]; rfl)
theorem any_take {α : Type} {p : α → Bool} {l : List α} {k : Nat} (hk : k < l.length) (h : (l.take k).any p = false) (hp : p l[k] = false) : (l.take (k + 1)).any p = false := by
 rw [List.take_succ_eq_append_getElem hk, List.any_append, h]; simp [hp]
theorem any_at {α : Type} {p : α → Bool} {l : List α} {k : Nat} (hk : k < l.length) (hp : p l[k] = true) : l.any p = true :=
 List.any_eq_true.mpr ⟨_, List.getElem_mem hk, hp⟩
theorem suf_concat (l : List UInt8) (a : UInt8) : Lib.hasSuffix (l ++ [a]) [0] = decide (a = 0) := by
 have h : Lib.hasSuffix (l ++ [a]) [0] = true ↔ a = 0 := by
  unfold Lib.hasSuffix
  rw [List.isSuffixOf_iff_suffix]
  constructor
  ·rintro ⟨t, ht⟩
   have := congrArg List.reverse ht
   simp at this
   exact this.1.symm
  ·rintro rfl; exact ⟨l, rfl⟩
 by_cases ha : a = 0
 ·rw [h.2 ha, decide_eq_true ha]
 ·cases hh : Lib.hasSuffix (l ++ [a]) [0] with
  | true => exact absurd (h.1 hh) ha
  | false => rw [decide_eq_false ha]
theorem hostN_nil : hostN [] = none := by simp [hostN, Lib.hasSuffix]
theorem hostN_concat (l : List UInt8) (a : UInt8) : hostN (l ++ [a]) = if a = 0 ∧ (labels l).isSome = true then some l else none := by
 have hs := suf_concat l a
 by_cases ha : a = 0
 ·subst ha
  have ht : Lib.trimSuffix (l ++ [0]) [0] = l := by simp [Lib.trimSuffix, hs]
  simp [hostN, hs, ht]
 ·simp [hostN, hs, ha]
theorem host_take {s n : List UInt8} (h : hostN s = some n) : n = s.take (s.length - 1) := by
 rcases List.eq_nil_or_concat s with rfl | ⟨l, a, rfl⟩
 ·rw [hostN_nil] at h; cases h
 ·rw [List.concat_eq_append, hostN_concat] at h
  split at h
  ·cases h; simp
  ·cases h
set_option maxHeartbeats 1000000 in
theorem r3_isHost (s : List UInt8) (w : World) (hl : s.length ≤ 4611686018427387904) : Calls Tryz.prog 218 #[str s] w (RetV w (.bool (hostN s).isSome)) := by
 rcases List.eq_nil_or_concat s with rfl | ⟨l, a, rfl⟩
 ·rw [hostN_nil]
  go_enter Tryz.func218, Tryz.ntmps218
  (repeat' first | ((with_reducible refine nx0 ?_); go_step) | ((with_reducible refine o_s ?_); first | refine wk0 ?_ | (refine wg0 ?_ ?_ <;> intro hc)) | fail)
  go_ret
  exact ⟨rfl, Ext.refl _⟩
 ·rw [List.concat_eq_append] at *
  have hlen : (l ++ [a]).length = l.length + 1 := by simp
  have hn : (((l ++ [a]).length : Int) - 1).toNat = l.length := by rw [hlen]; omega
  have e1 : (l ++ [a]).getD (((l ++ [a]).length : Int) - 1).toNat 0 = a := by rw [hn]; simp
  have e2 : (l ++ [a]).take (((l ++ [a]).length : Int) - 1).toNat = l := by rw [hn]; simp
  have hh : (hostN (l ++ [a])).isSome = (decide (a = 0) && (labels l).isSome) := by
   rw [hostN_concat]; by_cases h1 : a = 0 <;> cases h2 : (labels l).isSome <;> simp [h1]
  generalize l ++ [a] = s at *
  rw [hh]
  go_enter Tryz.func218, Tryz.ntmps218
  (repeat' first | ((with_reducible refine nx0 ?_); go_step) | ((with_reducible refine o_s ?_); first | refine wk0 ?_ | (refine wg0 ?_ ?_ <;> intro hc)) | fail)
  ·have hz := ‹((s.getD ((s.length : Int) - 1).toNat 0).toNat : Int) = 0›
   rw [e1] at hz
   have ha : a = 0 := by apply UInt8.toNat_inj.1; simpa using hz
   rw [e2]
   refine wpl_callV (enters_of Tryz.func73 rfl rfl) rfl rfl (r1_Check l _) ?_; intro w1 x1; refine gset ?_
   cases hls : (labels l).isSome with
   | true =>
    (repeat' first | ((with_reducible refine nx0 ?_); go_step) | ((with_reducible refine o_s ?_); first | refine wk0 ?_ | (refine wg0 ?_ ?_ <;> intro hc)) | fail)
    go_ret
    exact ⟨by simp [ha, hls], x1⟩
   | false =>
    (repeat' first | ((with_reducible refine nx0 ?_); go_step) | ((with_reducible refine o_s ?_); first | refine wk0 ?_ | (refine wg0 ?_ ?_ <;> intro hc)) | fail)
    go_ret
    exact ⟨by simp [ha, hls], x1⟩
  ·have hz := ‹¬((s.getD ((s.length : Int) - 1).toNat 0).toNat : Int) = 0›
   rw [e1] at hz
   have ha : ¬ a = 0 := by rintro rfl; simp at hz
   go_ret
   exact ⟨by simp [ha], Ext.refl _⟩
  ·omega
theorem r3_ahead (k : Int) (w : World) : Calls Tryz.prog 217 #[.int .i64 k] w (RetV w (.int .i64 (ahead k))) := by
 go_enter Tryz.func217, Tryz.ntmps217
 (repeat' first | ((with_reducible refine nx0 ?_); go_step) | ((with_reducible refine o_s ?_); first | refine wk0 ?_ | (refine wg0 ?_ ?_ <;> intro hc)) | fail)
 all_goals
  go_ret
  exact ⟨by unfold ahead; simp_all, Ext.refl _⟩
theorem r3_Host (nm : List UInt8) (w : World) (hl : nm.length ≤ 9223372036854775806) : Calls Tryz.prog 254 #[str nm] w (RetV w (if (labels nm).isSome = true then .tuple #[str (nm ++ [0]), .int .i64 0] else .tuple #[str [], .int .i64 1])) := by
 go_enter Tryz.func254, Tryz.ntmps254
 (repeat' first | ((with_reducible refine nx0 ?_); go_step) | ((with_reducible refine o_s ?_); first | refine wk0 ?_ | (refine wg0 ?_ ?_ <;> intro hc)) | fail)
 refine wpl_callV (enters_of Tryz.func73 rfl rfl) rfl rfl (r1_Check nm _) ?_; intro w1 x1; refine gset ?_
 cases hls : (labels nm).isSome with
 | true =>
  simp only [↓reduceIte]
  (repeat' first | ((with_reducible refine nx0 ?_); go_step) | ((with_reducible refine o_s ?_); first | refine wk0 ?_ | (refine wg0 ?_ ?_ <;> intro hc)) | fail)
  go_ret2
  exact ⟨by rw [hls]; rfl, x1⟩
 | false =>
  simp only [↓reduceIte, Bool.false_eq_true]
  (repeat' first | ((with_reducible refine nx0 ?_); go_step) | ((with_reducible refine o_s ?_); first | refine wk0 ?_ | (refine wg0 ?_ ?_ <;> intro hc)) | fail)
  go_ret2
  exact ⟨by rw [hls]; rfl, x1⟩
def textsAt (s : List UInt8) (i : Nat) : Bool := if s.length < i then false else textsN (s.drop i)
theorem textsAt_step {s : List UInt8} {i : Nat} (h : i < s.length) : textsAt s i = textsAt s (i + 1 + (s.getD i 0).toNat) := by
 unfold textsAt
 rw [if_neg (by omega), drop_get h, textsN_cons, getD_get h, List.drop_drop]
 simp only [List.length_drop]
 by_cases hc : s.length - (i + 1) < s[i].toNat
 ·rw [if_pos hc, if_pos (by omega)]
 ·rw [if_neg hc, if_neg (by omega)]
set_option maxHeartbeats 1000000 in
theorem r3_texts (s : List UInt8) (w : World) (hl : s.length ≤ 4611686018427387904) : Calls Tryz.prog 216 #[str s] w (RetV w (.bool (textsB s))) := by
 go_enter Tryz.func216, Tryz.ntmps216
 (repeat' first | ((with_reducible refine nx0 ?_); go_step) | ((with_reducible refine o_s ?_); first | refine wk0 ?_ | (refine wg0 ?_ ?_ <;> intro hc)) | fail)
 go_loopw [3] (fun a wr => ∃ i : Nat, i ≤ s.length + 256 ∧ a = .int .i64 i ∧ Ext w wr ∧ textsN s = textsAt s i ∧ (s.length < i → i ≤ s.length + 256)) (fun a _ => s.length - (intOf a).toNat)
 case atStart => exact ⟨0, by omega, rfl, Ext.refl _, by simp [textsAt], by omega⟩
 case round =>
  obtain ⟨i, hi, rfl, hx, ht, _⟩ := hrel
  by_cases hlt : i < s.length
  ·rw [textsAt_step hlt] at ht
   have hb : (s.getD i 0).toNat < 256 := UInt8.toNat_lt _
   (repeat' first | ((with_reducible refine nx0 ?_); go_step) | ((with_reducible refine o_s ?_); first | refine wk0 ?_ | (refine wg0 ?_ ?_ <;> intro hc)) | fail)
   exact ⟨⟨i + 1 + (s.getD i 0).toNat, by omega, by go_num, hx, ht, by omega⟩, by simp [intOf]; omega⟩
  ·have hv : textsB s = (decide (s ≠ []) && decide (i = s.length)) := by
    unfold textsB
    rw [ht, textsAt]
    by_cases he : s.length < i
    ·rw [if_pos he, decide_eq_false (show ¬ i = s.length by omega)]; simp
    ·have : i = s.length := by omega
     subst this
     rw [if_neg he, List.drop_length]
     simp [textsN, textsF]
   (repeat' first | ((with_reducible refine nx0 ?_); go_step) | ((with_reducible refine o_s ?_); first | refine wk0 ?_ | (refine wg0 ?_ ?_ <;> intro hc)) | fail)
   ·have h0 := ‹(!decide (s = [])) = true›
    go_ret
    exact ⟨by simp [hv] at h0 ⊢; simp [h0]; omega, hx⟩
   ·have h0 := ‹(!decide (s = [])) = false›
    go_ret
    exact ⟨by simp [hv] at h0 ⊢; simp [h0], hx⟩
def numU (s : List UInt8) (k : Nat) : Nat := (s.take k).foldl (fun n c => 256 * n + c.toNat) 0
theorem numU_succ {s : List UInt8} {k : Nat} (h : k < s.length) : numU s (k + 1) = 256 * numU s k + (s.getD k 0).toNat := by
 rw [numU, List.take_add_one, List.getElem?_eq_getElem h, Option.toList_some, List.foldl_append, getD_get h]
 rfl
theorem numU_lt (s : List UInt8) : ∀ k, k ≤ s.length → numU s k < 256 ^ k
 | 0, _ => by simp [numU]
 | k + 1, h => by
   have h1 := numU_lt s k (by omega)
   have h2 : (s.getD k 0).toNat < 256 := UInt8.toNat_lt _
   rw [numU_succ (by omega), Nat.pow_succ]
   omega
set_option maxHeartbeats 1000000 in
theorem r3_Number (s : List UInt8) (w : World) (hl : s.length ≤ 4) : Calls Tryz.prog 208 #[str s] w (RetV w (.int .i64 (numU s s.length : Nat))) := by
 go_enter Tryz.func208, Tryz.ntmps208
 (repeat' first | ((with_reducible refine nx0 ?_); go_step) | ((with_reducible refine o_s ?_); first | refine wk0 ?_ | (refine wg0 ?_ ?_ <;> intro hc)) | fail)
 go_loopw [3, 4] (fun n i wr => ∃ k : Nat, k ≤ s.length ∧ i = .int .i64 k ∧ Ext w wr ∧ n = .int .i64 (numU s k : Nat)) (fun _ i _ => s.length - (intOf i).toNat)
 case atStart => exact ⟨0, by omega, rfl, Ext.refl _, rfl⟩
 case round =>
  obtain ⟨k, hk, rfl, hx, rfl⟩ := hrel
  by_cases hlt : k < s.length
  ·have hb : (s.getD k 0).toNat < 256 := UInt8.toNat_lt _
   have hn : numU s k < 4294967296 := Nat.lt_of_lt_of_le (numU_lt s k hk) (by calc 256 ^ k ≤ 256 ^ 4 := Nat.pow_le_pow_right (by omega) (by omega)
                                                                                   _ = _ := by decide)
   (repeat' first | ((with_reducible refine nx0 ?_); go_step) | ((with_reducible refine o_s ?_); first | refine wk0 ?_ | (refine wg0 ?_ ?_ <;> intro hc)) | fail)
   refine ⟨⟨k + 1, by omega, by go_num, hx, ?_⟩, by simp [intOf]; omega⟩
   rw [numU_succ hlt]
   go_num
  ·have : k = s.length := by omega
   subst this
   (repeat' first | ((with_reducible refine nx0 ?_); go_step) | ((with_reducible refine o_s ?_); first | refine wk0 ?_ | (refine wg0 ?_ ?_ <;> intro hc)) | fail)
   go_ret
   exact ⟨rfl, hx⟩
def wideP (n j : Nat) : List UInt8 := [if 4 ≤ j then UInt8.ofNat (n / 16777216) else 0, if 3 ≤ j then UInt8.ofNat (n / 65536) else 0, if 2 ≤ j then UInt8.ofNat (n / 256) else 0, if 1 ≤ j then UInt8.ofNat n else 0]
theorem wideP_zero (n : Nat) : bcells (wideP n 0) = List.replicate 4 [.int .u8 0] := by simp [wideP, bcells, List.replicate]
theorem wideP_four (n : Nat) : wideP n 4 = be4 n := by simp [wideP, be4]
theorem wideP_succ (n j : Nat) (h : j < 4) : (bcells (wideP n j)).set (3 - j) [.int .u8 ((UInt8.ofNat (n / 256 ^ j)).toNat : Nat)] = bcells (wideP n (j + 1)) := by
 have : j = 0 ∨ j = 1 ∨ j = 2 ∨ j = 3 := by omega
 rcases this with rfl | rfl | rfl | rfl <;> simp [wideP, bcells]
set_option maxHeartbeats 2000000 in
theorem r3_Wide (n : Nat) (w : World) (hn : n < 4294967296) : Calls Tryz.prog 255 #[.int .i64 (n : Nat), .int .i64 4] w (RetV w (str (be4 n))) := by
 go_enter Tryz.func255, Tryz.ntmps255
 (repeat' first | ((with_reducible refine nx0 ?_); go_step) | ((with_reducible refine o_s ?_); first | refine wk0 ?_ | (refine wg0 ?_ ?_ <;> intro hc)) | fail)
 refine wpl_makeZ (e := 5) (n := 4) (z := .int .u8 0) ?_ rfl rfl (by omega)
 intro v w1 x1 o1
 refine gset ?_
 (repeat' first | ((with_reducible refine nx0 ?_); go_step) | ((with_reducible refine o_s ?_); first | refine wk0 ?_ | (refine wg0 ?_ ?_ <;> intro hc)) | fail)
 rw [← wideP_zero n] at o1
 go_loopw [0, 6] (fun m i wr => ∃ j : Nat, j ≤ 4 ∧ i = .int .i64 (3 - (j : Int)) ∧ m = .int .i64 (n / 256 ^ j : Nat) ∧ Ext w wr ∧ Own w.heap.size 1 5 wr v (bcells (wideP n j))) (fun _ i _ => (intOf i + 1).toNat)
 case atStart => exact ⟨0, by omega, rfl, by simp, x1, o1⟩
 case round =>
  obtain ⟨j, hj, rfl, rfl, hx, ho⟩ := hrel
  have hsl := ho.sl
  have hle : n / 256 ^ j ≤ n := Nat.div_le_self _ _
  have hbl : (bcells (wideP n j)).length = 4 := by simp [bcells, wideP]
  by_cases hlt : j < 4
  ·generalize hq : n / 256 ^ j = q at *
   (repeat' first | ((with_reducible refine nx0 ?_); go_step) | ((with_reducible refine o_s ?_); first | refine wk0 ?_ | (refine wg0 ?_ ?_ <;> intro hc)) | fail)
   refine wpl_run rfl (Runs.remN (n := 256) rfl rfl (by omega) (by omega)) ?_
   refine gset ?_
   (repeat' first | ((with_reducible refine nx0 ?_); go_step) | ((with_reducible refine o_s ?_); first | refine wk0 ?_ | (refine wg0 ?_ ?_ <;> intro hc)) | fail)
   refine wpl_storeE1 (c := .int .u8 _) (i := (3 - (j : Int)).toNat) rfl rfl rfl ho (by omega) (by decide +kernel) rfl ?_
   intro w2 o2 m2
   have hx2 := ho.mvx m2 hx (Nat.le_refl _)
   have e2 : (bcells (wideP n j)).set (3 - (j : Int)).toNat [Value.int .u8 (IntKind.wrap .u8 ((q % 256 : Nat) : Int))] = bcells (wideP n (j + 1)) := by
    rw [show (3 - (j : Int)).toNat = 3 - j by omega, wrapU, ← wideP_succ n j hlt, hq]
    congr 4
    simp
   rw [e2] at o2
   clear ho hsl
   (repeat' first | ((with_reducible refine nx0 ?_); go_step) | ((with_reducible refine o_s ?_); first | refine wk0 ?_ | (refine wg0 ?_ ?_ <;> intro hc)) | fail)
   refine wpl_run rfl (Runs.quoN (n := 256) rfl rfl (by omega) (by omega)) ?_
   refine gset ?_
   (repeat' first | ((with_reducible refine nx0 ?_); go_step) | ((with_reducible refine o_s ?_); first | refine wk0 ?_ | (refine wg0 ?_ ?_ <;> intro hc)) | fail)
   refine ⟨⟨j + 1, by omega, by go_num, ?_, hx2, o2⟩, by simp [intOf]; omega⟩
   rw [← hq, Nat.div_div_eq_div_mul, Nat.pow_succ]
  ·have : j = 4 := by omega
   subst this
   rw [wideP_four] at hsl
   (repeat' first | ((with_reducible refine nx0 ?_); go_step) | ((with_reducible refine o_s ?_); first | refine wk0 ?_ | (refine wg0 ?_ ?_ <;> intro hc)) | fail)
   go_ret
   exact ⟨rfl, hx⟩
theorem walkN_at {s : List UInt8} {i : Nat} (h : i < s.length) : walkN (s.drop i) = if (s.getD i 0).toNat = 0 then 0 else 1 + (s.getD i 0).toNat + walkN (s.drop (i + 1 + (s.getD i 0).toNat)) := by
 rw [drop_get h, walkN_cons, getD_get h, List.drop_drop]
def firstR (s : List UInt8) : Nat := if s.length ≤ walkN s then 0 else if (hostN (s.take (walkN s + 1))).isSome = true then walkN s + 1 else 0
theorem firstR_firstN (s : List UInt8) : firstN s = if firstR s = 0 then (if s.length ≤ walkN s then ([], [], false) else ([], s.drop (walkN s + 1), false)) else (s.take (firstR s - 1), s.drop (firstR s), true) := by
 unfold firstR firstN
 by_cases h : s.length ≤ walkN s
 ·simp [h]
 ·simp only [h, if_false]
  cases hh : hostN (s.take (walkN s + 1)) with
  | none => simp
  | some n =>
   have := host_take hh
   simp only [Option.isSome_some, if_true, Option.getD_some]
   rw [if_neg (by omega), this]
   rw [List.length_take, List.take_take]
   congr 2
   omega
theorem firstR_le (s : List UInt8) : firstR s ≤ s.length := by
 unfold firstR; split
 ·omega
 ·split <;> omega
set_option maxHeartbeats 1000000 in
theorem r3_first (s : List UInt8) (w : World) (hl : s.length ≤ 4611686018427387904) : Calls Tryz.prog 207 #[str s] w (RetV w (.int .i64 (firstR s : Nat))) := by
 go_enter Tryz.func207, Tryz.ntmps207
 (repeat' first | ((with_reducible refine nx0 ?_); go_step) | ((with_reducible refine o_s ?_); first | refine wk0 ?_ | (refine wg0 ?_ ?_ <;> intro hc)) | fail)
 go_loopw [3] (fun a wr => ∃ i : Nat, a = .int .i64 i ∧ i ≤ s.length + 256 ∧ Ext w wr ∧ walkN s = i + walkN (s.drop i)) (fun a _ => s.length - (intOf a).toNat)
 case atStart => exact ⟨0, rfl, by omega, Ext.refl _, by simp⟩
 case round =>
  obtain ⟨i, rfl, hi, hx, hw⟩ := hrel
  by_cases hlt : i < s.length
  ·rw [walkN_at hlt] at hw
   have hb : (s.getD i 0).toNat < 256 := UInt8.toNat_lt _
   by_cases hz : (s.getD i 0).toNat = 0
   ·rw [if_pos hz] at hw
    (repeat' first | ((with_reducible refine nx0 ?_); go_step) | ((with_reducible refine o_s ?_); first | refine wk0 ?_ | (refine wg0 ?_ ?_ <;> intro hc)) | fail)
    refine wpl_callV (enters_of Tryz.func218 rfl rfl) rfl rfl (r3_isHost (s.take (i + 1)) _ (by simp; omega)) ?_; intro w2 x2; refine gset ?_
    cases hh : (hostN (s.take (i + 1))).isSome with
    | true =>
     (repeat' first | ((with_reducible refine nx0 ?_); go_step) | ((with_reducible refine o_s ?_); first | refine wk0 ?_ | (refine wg0 ?_ ?_ <;> intro hc)) | fail)
     go_ret
     exact ⟨by rw [firstR, hw, if_neg (by omega), Nat.add_zero, hh]; rfl, hx.trans x2⟩
    | false =>
     (repeat' first | ((with_reducible refine nx0 ?_); go_step) | ((with_reducible refine o_s ?_); first | refine wk0 ?_ | (refine wg0 ?_ ?_ <;> intro hc)) | fail)
     go_ret
     exact ⟨by rw [firstR, hw, if_neg (by omega), Nat.add_zero, hh]; rfl, hx.trans x2⟩
   ·rw [if_neg hz] at hw
    (repeat' first | ((with_reducible refine nx0 ?_); go_step) | ((with_reducible refine o_s ?_); first | refine wk0 ?_ | (refine wg0 ?_ ?_ <;> intro hc)) | fail)
    exact ⟨⟨i + 1 + (s.getD i 0).toNat, by go_num, by omega, hx, by omega⟩, by simp [intOf]; omega⟩
  ·(repeat' first | ((with_reducible refine nx0 ?_); go_step) | ((with_reducible refine o_s ?_); first | refine wk0 ?_ | (refine wg0 ?_ ?_ <;> intro hc)) | fail)
   go_ret
   exact ⟨by rw [firstR, if_pos (by omega)]; rfl, hx⟩
def icells (l : List Int) : List (List Value) := l.map fun n => [.int .i64 n]
theorem icells_at {l : List Int} {k : Nat} (h : k < l.length) : (icells l)[k]? = some [.int .i64 l[k]] := by simp [icells, h]
theorem r3_WideI (m : Int) (w : World) (h0 : 0 ≤ m) (h1 : m < 4294967296) : Calls Tryz.prog 255 #[.int .i64 m, .int .i64 4] w (RetV w (str (be4 m.toNat))) := by
 obtain ⟨n, rfl⟩ := Int.eq_ofNat_of_zero_le h0
 rw [Int.toNat_natCast]
 exact r3_Wide n w (by omega)
theorem be4_len (n : Nat) : (be4 n).length = 4 := rfl
set_option maxHeartbeats 4000000 in
theorem r3_Soa (s : SoaR) (w : World) (h1 : s.main.length ≤ 4611686018427387904) (h2 : s.mail.length ≤ 4611686018427387904) : Calls Tryz.prog 209 #[.agg s.cells.toArray] w (RetV w (if s.ok = true then .tuple #[str s.data, .int .i64 0] else .tuple #[str [], .int .i64 1])) := by
 have hA := fun w => r3_Host s.main w (by omega)
 have hB := fun w => r3_Host s.mail w (by omega)
 rw [soa_ok]
 cases hm : (labels s.main).isSome with
 | false =>
  simp only [hm, Bool.false_eq_true, ↓reduceIte] at hA
  go_enter Tryz.func209, Tryz.ntmps209
  repeat' (first | ((with_reducible refine nx0 ?_); go_step) | fail)
  refine wpl_box (vs := s.cells) rfl rfl ?_
  intro p w1 x1 hp
  refine gset ?_
  have hp' : Pts w1 p [str s.main, str s.mail, .int .i64 s.serial, .int .i64 s.refresh, .int .i64 s.retry, .int .i64 s.expire, .int .i64 s.minimum] := hp
  (repeat' first | ((with_reducible refine nx0 ?_); go_step) | ((with_reducible refine o_s ?_); first | refine wk0 ?_ | (refine wg0 ?_ ?_ <;> intro hc)) | fail)
  refine wpl_callV (enters_of Tryz.func254 rfl rfl) rfl rfl (hA _) ?_; intro w2 x2; refine gset ?_
  have hp' := hp'.ext x2
  (repeat' first | ((with_reducible refine nx0 ?_); go_step) | ((with_reducible refine o_s ?_); first | refine wk0 ?_ | (refine wg0 ?_ ?_ <;> intro hc)) | fail)
  refine wpl_callV (enters_of Tryz.func254 rfl rfl) rfl rfl (hB _) ?_; intro w3 x3; refine gset ?_
  cases hl : (labels s.mail).isSome
  all_goals
   have hp' := hp'.ext x3
   simp only [↓reduceIte, Bool.false_eq_true]
   (repeat' first | ((with_reducible refine nx0 ?_); go_step) | ((with_reducible refine o_s ?_); first | refine wk0 ?_ | (refine wg0 ?_ ?_ <;> intro hc)) | fail)
   go_ret2
   exact ⟨rfl, (x1.trans x2).trans x3⟩
 | true =>
  simp only [hm, ↓reduceIte] at hA
  cases hl : (labels s.mail).isSome with
  | false =>
   simp only [hl, Bool.false_eq_true, ↓reduceIte] at hB
   go_enter Tryz.func209, Tryz.ntmps209
   repeat' (first | ((with_reducible refine nx0 ?_); go_step) | fail)
   refine wpl_box (vs := s.cells) rfl rfl ?_
   intro p w1 x1 hp
   refine gset ?_
   have hp' : Pts w1 p [str s.main, str s.mail, .int .i64 s.serial, .int .i64 s.refresh, .int .i64 s.retry, .int .i64 s.expire, .int .i64 s.minimum] := hp
   (repeat' first | ((with_reducible refine nx0 ?_); go_step) | ((with_reducible refine o_s ?_); first | refine wk0 ?_ | (refine wg0 ?_ ?_ <;> intro hc)) | fail)
   refine wpl_callV (enters_of Tryz.func254 rfl rfl) rfl rfl (hA _) ?_; intro w2 x2; refine gset ?_
   have hp' := hp'.ext x2
   (repeat' first | ((with_reducible refine nx0 ?_); go_step) | ((with_reducible refine o_s ?_); first | refine wk0 ?_ | (refine wg0 ?_ ?_ <;> intro hc)) | fail)
   refine wpl_callV (enters_of Tryz.func254 rfl rfl) rfl rfl (hB _) ?_; intro w3 x3; refine gset ?_
   have hp' := hp'.ext x3
   (repeat' first | ((with_reducible refine nx0 ?_); go_step) | ((with_reducible refine o_s ?_); first | refine wk0 ?_ | (refine wg0 ?_ ?_ <;> intro hc)) | fail)
   go_ret2
   exact ⟨rfl, (x1.trans x2).trans x3⟩
  | true =>
   simp only [hl, ↓reduceIte] at hB
   obtain ⟨ls, hls⟩ := Option.isSome_iff_exists.1 hm
   obtain ⟨ms, hms⟩ := Option.isSome_iff_exists.1 hl
   have hfm := labels_fit hls
   have hfm2 := labels_fit hms
   simp only [Bool.true_and]
   go_enter Tryz.func209, Tryz.ntmps209
   repeat' (first | ((with_reducible refine nx0 ?_); go_step) | fail)
   refine wpl_box (vs := s.cells) rfl rfl ?_
   intro p w1 x1 hp
   refine gset ?_
   have hp' : Pts w1 p [str s.main, str s.mail, .int .i64 s.serial, .int .i64 s.refresh, .int .i64 s.retry, .int .i64 s.expire, .int .i64 s.minimum] := hp
   (repeat' first | ((with_reducible refine nx0 ?_); go_step) | ((with_reducible refine o_s ?_); first | refine wk0 ?_ | (refine wg0 ?_ ?_ <;> intro hc)) | fail)
   refine wpl_callV (enters_of Tryz.func254 rfl rfl) rfl rfl (hA _) ?_; intro w2 x2; refine gset ?_
   have hp' := hp'.ext x2
   (repeat' first | ((with_reducible refine nx0 ?_); go_step) | ((with_reducible refine o_s ?_); first | refine wk0 ?_ | (refine wg0 ?_ ?_ <;> intro hc)) | fail)
   refine wpl_callV (enters_of Tryz.func254 rfl rfl) rfl rfl (hB _) ?_; intro w3 x3; refine gset ?_
   have hp' := hp'.ext x3
   have x13 := (x1.trans x2).trans x3
   clear x1 x2 x3 hp hA hB
   (repeat' first | ((with_reducible refine nx0 ?_); go_step) | ((with_reducible refine o_s ?_); first | refine wk0 ?_ | (refine wg0 ?_ ?_ <;> intro hc)) | fail)
   rotate_left
   ·have hc := ‹s.serial ≤ 4294967295›
    have hc0 := ‹¬s.serial < 0›
    have hser : (decide (0 ≤ s.serial) && decide (s.serial ≤ 4294967295)) = true := by simp; omega
    refine wpl_slice (e := 3) (k := 1) (bytes := 8) (xs := (soaNums s).map (.int .i64)) rfl rfl rfl (by intro x hx; obtain ⟨n, _, rfl⟩ := List.mem_map.1 hx; rfl) (by decide +kernel) (by simp [soaNums]) ?_
    intro v4 w4 x4 _ s4 _
    have s4 : Sl 1 w4 v4 (icells (soaNums s)) := by simpa [icells, soaNums, Value.cells] using s4
    refine gset ?_
    have hp' := hp'.ext x4
    (repeat' first | ((with_reducible refine nx0 ?_); go_step) | ((with_reducible refine o_s ?_); first | refine wk0 ?_ | (refine wg0 ?_ ?_ <;> intro hc)) | fail)
    refine wpl_callV (enters_of Tryz.func255 rfl rfl) rfl rfl (r3_WideI s.serial _ (by omega) (by omega)) ?_; intro w5 x5; refine gset ?_
    refine wpl_run rfl (Runs.addS rfl rfl (by simp [be4_len]; omega)) ?_
    refine gset ?_
    (repeat' first | ((with_reducible refine nx0 ?_); go_step) | ((with_reducible refine o_s ?_); first | refine wk0 ?_ | (refine wg0 ?_ ?_ <;> intro hc)) | fail)
    have x15 := (x13.trans x4).trans x5
    have s5 := s4.ext x5
    have hb0 : (soaBase s).length ≤ 600 := by simp [soaBase, be4_len]; omega
    rw [show s.main ++ [0] ++ (s.mail ++ [0]) ++ be4 s.serial.toNat = soaBase s from rfl]
    have hlen : (soaNums s).length = 4 := rfl
    have hlen2 : (icells (soaNums s)).length = 4 := rfl
    clear s4 x4 hp' x5
    go_loopw [9, 10] (fun o i wr => ∃ k : Nat, k ≤ 4 ∧ i = .int .i64 k ∧ Ext w5 wr ∧ o = str (soaBase s ++ be4s ((soaNums s).take k)) ∧ ((soaNums s).take k).all ttlOk = true) (fun _ i _ => 4 - (intOf i).toNat)
    case atStart => exact ⟨0, by omega, rfl, Ext.refl _, by simp [be4s], rfl⟩
    case round =>
     obtain ⟨k, hk, rfl, hx, rfl, hall⟩ := hrel
     have hsl := s5.ext hx
     by_cases hlt : k < 4
     ·have hlt2 : k < (soaNums s).length := hlt
      have hp := hsl.elem (icells_at hlt2)
      have hsplit : (soaNums s).all ttlOk = true → ttlOk (soaNums s)[k] = true := fun h => List.all_eq_true.1 h _ (List.getElem_mem hlt2)
      have hbs : (be4s ((soaNums s).take k)).length ≤ 16 := by rw [be4s_len]; simp; omega
      (repeat' first | ((with_reducible refine nx0 ?_); go_step) | ((with_reducible refine o_s ?_); first | refine wk0 ?_ | (refine wg0 ?_ ?_ <;> intro hc)) | fail)
      rotate_left
      ·refine wpl_callV (enters_of Tryz.func255 rfl rfl) rfl rfl (r3_WideI (soaNums s)[k] _ (by omega) (by omega)) ?_; intro w6 x6; refine gset ?_
       refine wpl_run rfl (Runs.addS rfl rfl (by simp [be4_len]; omega)) ?_
       refine gset ?_
       rw [show soaBase s ++ be4s ((soaNums s).take k) ++ be4 (soaNums s)[k].toNat = soaBase s ++ be4s ((soaNums s).take (k + 1)) by rw [be4s_succ _ _ hlt2, List.append_assoc]]
       (repeat' first | ((with_reducible refine nx0 ?_); go_step) | ((with_reducible refine o_s ?_); first | refine wk0 ?_ | (refine wg0 ?_ ?_ <;> intro hc)) | fail)
       refine ⟨⟨k + 1, by omega, by go_num, hx.trans x6, rfl, ?_⟩, by simp [intOf]; omega⟩
       rw [List.take_add_one, List.getElem?_eq_getElem hlt2, Option.toList_some, List.all_append, hall]
       simp only [List.all_cons, List.all_nil, ttlOk, Bool.true_and, Bool.and_true, Bool.and_eq_true, decide_eq_true_eq]
       omega
      all_goals
       have hno : (soaNums s).all ttlOk = false := by
        cases h : (soaNums s).all ttlOk with
        | false => rfl
        | true => have := hsplit h; simp [ttlOk] at this; omega
       go_ret2
       refine ⟨?_, x15.trans hx⟩
       simp only [hser, hno, Bool.and_false, Bool.false_eq_true, if_false]
       rfl
     ·have : k = 4 := by omega
      subst this
      rw [show (soaNums s).take 4 = soaNums s from rfl] at hall ⊢
      (repeat' first | ((with_reducible refine nx0 ?_); go_step) | ((with_reducible refine o_s ?_); first | refine wk0 ?_ | (refine wg0 ?_ ?_ <;> intro hc)) | fail)
      go_ret2
      refine ⟨?_, x15.trans hx⟩
      simp only [hser, hall, Bool.and_self, if_true]
      rw [soa_data]
      rfl
   all_goals
    have hno : (decide (0 ≤ s.serial) && decide (s.serial ≤ 4294967295)) = false := by simp only [Bool.and_eq_false_iff, decide_eq_false_iff_not]; omega
    go_ret2
    refine ⟨?_, x13⟩
    simp only [hno, Bool.false_and, Bool.false_eq_true, if_false]
    rfl
theorem numU4 {r : List UInt8} {i : Nat} (hr : r.length = 20) (hi : i < 5) : (numU ((r.take (4 * i + 4)).drop (4 * i)) 4 : Nat) = numP r i 4 := by
 have hl : ((r.take (4 * i + 4)).drop (4 * i)).length = 4 := by simp; omega
 have hg : ∀ k, k < 4 → ((r.take (4 * i + 4)).drop (4 * i)).getD k 0 = r.getD (4 * i + k) 0 := by
  intro k hk
  simp only [List.getD_eq_getElem?_getD, List.getElem?_drop, List.getElem?_take]
  rw [if_pos (by omega)]
 have h0 : numU ((r.take (4 * i + 4)).drop (4 * i)) 0 = 0 := rfl
 rw [numU_succ (by omega), numU_succ (by omega), numU_succ (by omega), numU_succ (by omega), h0, hg 0 (by omega), hg 1 (by omega), hg 2 (by omega), hg 3 (by omega)]
 simp only [numP]
 omega
theorem r3_Num4 (s : List UInt8) (w : World) (hl : s.length = 4) : Calls Tryz.prog 208 #[str s] w (RetV w (.int .i64 (numU s 4 : Nat))) := by
 have := r3_Number s w (by omega)
 rwa [hl] at this
theorem parseSoa_ref (d : List UInt8) : parseSoa d = if firstR d = 0 then none else if firstR (d.drop (firstR d)) = 0 ∨ d.length ≠ firstR d + firstR (d.drop (firstR d)) + 20 then none
 else if (soaOf d).ok = true then some (soaOf d) else none := by
 have hd := firstR_firstN d
 have he := firstR_firstN (d.drop (firstR d))
 by_cases h0 : firstR d = 0
 ·rw [if_pos h0] at hd ⊢
  have : (firstN d).2.2 = false := by rw [hd]; split <;> rfl
  simp [parseSoa, this]
 ·rw [if_neg h0] at hd ⊢
  have h1 : (firstN d).2.2 = true := by rw [hd]
  have h2 : (firstN d).2.1 = d.drop (firstR d) := by rw [hd]
  unfold parseSoa
  simp only [h1, h2, true_and]
  by_cases hm : firstR (d.drop (firstR d)) = 0
  ·rw [if_pos hm] at he
   have : (firstN (d.drop (firstR d))).2.2 = false := by rw [he]; split <;> rfl
   simp [this, hm]
  ·rw [if_neg hm] at he
   have h3 : (firstN (d.drop (firstR d))).2.2 = true := by rw [he]
   have h4 : (firstN (d.drop (firstR d))).2.1 = (d.drop (firstR d)).drop (firstR (d.drop (firstR d))) := by rw [he]
   have l1 := firstR_le d
   have l2 := firstR_le (d.drop (firstR d))
   rw [List.length_drop] at l2
   simp only [h3, h4, true_and, hm, false_or, List.length_drop]
   by_cases hl : d.length = firstR d + firstR (d.drop (firstR d)) + 20
   ·have : d.length - firstR d - firstR (d.drop (firstR d)) = 20 := by omega
    simp [hl, this]
    rw [← hl]
    simp [this]
   ·have : ¬ d.length - firstR d - firstR (d.drop (firstR d)) = 20 := by omega
    simp [hl, this]
theorem r3_NumAt (r : List UInt8) (i : Nat) (w : World) (hr : r.length = 20) (hi : i < 5) : Calls Tryz.prog 208 #[str ((r.take (4 * i + 4)).drop (4 * i))] w (RetV w (.int .i64 (numP r i 4 : Nat))) := by
 rw [← numU4 hr hi]
 exact r3_Num4 _ w (by simp; omega)
set_option maxHeartbeats 24000000 in
theorem r3_ParseSoa (d : List UInt8) (w : World) (hl : d.length ≤ 4611686018427387904) : Calls Tryz.prog 157 #[str d] w (RetV w (match parseSoa d with | some s => .tuple #[.agg s.cells.toArray, .int .i64 0] | none => .tuple #[.agg zeroSoa.toArray, .int .i64 2])) := by
 have hps := parseSoa_ref d
 have l1 := firstR_le d
 have l2 := firstR_le (d.drop (firstR d))
 rw [List.length_drop] at l2
 have hd := firstR_firstN d
 have he := firstR_firstN (d.drop (firstR d))
 go_enter Tryz.func157, Tryz.ntmps157
 repeat' (first | ((with_reducible refine nx0 ?_); go_step) | fail)
 refine wpl_allocB (z := zeroSoa) rfl (by decide +kernel) ?_
 intro w1 x1 s1 h1
 refine gset ?_
 (repeat' first | ((with_reducible refine nx0 ?_); go_step) | ((with_reducible refine o_s ?_); first | refine wk0 ?_ | (refine wg0 ?_ ?_ <;> intro hc)) | fail)
 refine wpl_callV (enters_of Tryz.func207 rfl rfl) rfl rfl (r3_first d _ hl) ?_; intro w2 x2; refine gset ?_
 have h1 := x2.at h1
 have x12 := x1.trans x2
 (repeat' first | ((with_reducible refine nx0 ?_); go_step) | ((with_reducible refine o_s ?_); first | refine wk0 ?_ | (refine wg0 ?_ ?_ <;> intro hc)) | fail)
 ·have hz := ‹((firstR d : Nat) : Int) = 0›
  refine wpl_run (v := .agg zeroSoa.toArray) rfl (Runs.build (parts := []) (vals := []) rfl (by kernel_rfl)) ?_
  refine gset ?_
  refine wpl_storeB (v := .agg zeroSoa.toArray) rfl rfl rfl h1 (by decide +kernel) rfl (by decide +kernel) ?_
  intro w7 p7
  have x7 : Ext w w7 := x12.move p7.mv (by rintro k ⟨⟩; omega)
  have h17 : w7.heap[w.heap.size]? = some (.cells zeroSoa.toArray 61 (0, 0)) := p7.this
  (repeat' first | ((with_reducible refine nx0 ?_); go_step) | ((with_reducible refine o_s ?_); first | refine wk0 ?_ | (refine wg0 ?_ ?_ <;> intro hc)) | fail)
  refine bodyPost_ret (results_cellT (cs := zeroSoa) rfl rfl h17 (by decide +kernel)) rfl ⟨?_, x7⟩
  rw [hps, if_pos (by omega)]
  rfl
 ·have hz := ‹¬((firstR d : Nat) : Int) = 0›
  rw [if_neg (by omega)] at hps
  refine wpl_callV (enters_of Tryz.func207 rfl rfl) rfl rfl (r3_first (d.drop (firstR d)) _ (by simp; omega)) ?_; intro w3 x3; refine gset ?_
  have h1 := x3.at h1
  have x13 := x12.trans x3
  clear x1 x2 x3 x12
  have hsoa : (soaOf d).cells = [str (d.take (firstR d - 1)), str ((d.drop (firstR d)).take (firstR (d.drop (firstR d)) - 1)), .int .i64 (numP ((d.drop (firstR d)).drop (firstR (d.drop (firstR d)))) 0 4 : Nat), .int .i64 (numP ((d.drop (firstR d)).drop (firstR (d.drop (firstR d)))) 1 4 : Nat), .int .i64 (numP ((d.drop (firstR d)).drop (firstR (d.drop (firstR d)))) 2 4 : Nat), .int .i64 (numP ((d.drop (firstR d)).drop (firstR (d.drop (firstR d)))) 3 4 : Nat), .int .i64 (numP ((d.drop (firstR d)).drop (firstR (d.drop (firstR d)))) 4 4 : Nat)] ∨ firstR (d.drop (firstR d)) = 0 := by
   by_cases hm : firstR (d.drop (firstR d)) = 0
   ·exact .inr hm
   ·rw [if_neg (by omega)] at hd
    rw [if_neg hm] at he
    left
    simp only [SoaR.cells, soaOf, hd, he]
  (repeat' first | ((with_reducible refine nx0 ?_); go_step) | ((with_reducible refine o_s ?_); first | refine wk0 ?_ | (refine wg0 ?_ ?_ <;> intro hc)) | fail)
  rotate_left
  ·have hm := ‹¬((firstR (d.drop (firstR d)) : Nat) : Int) = 0›
   have hlen := ‹(!decide ((d.length : Int) = ((firstR d : Nat) : Int) + ((firstR (d.drop (firstR d)) : Nat) : Int) + 20)) = false›
   have hlen : d.length = firstR d + firstR (d.drop (firstR d)) + 20 := by simp at hlen; omega
   rw [if_neg (by omega)] at hps
   have hsoa := hsoa.resolve_right (by omega)
   generalize hn : firstR d = n at *
   generalize hmm : firstR (d.drop n) = m at *
   have ht : (d.drop ((n : Int) + (m : Int)).toNat) = (d.drop n).drop m := by rw [List.drop_drop]; congr 1
   rw [ht]
   have htl : ((d.drop n).drop m).length = 20 := by simp; omega
   generalize hr : (d.drop n).drop m = r at *
   refine wph_region (S := fun w' => Ext w3 w') (by decide +kernel) ?_
   intro w4 x4 hh4
   refine tk 0 ?_; refine gset ?_; refine tk 1 ?_; refine gset ?_; refine tk 2 ?_; refine gset ?_; refine tk 3 ?_; refine gset ?_; refine tk 4 ?_; refine gset ?_; refine tk 5 ?_; refine gset ?_; refine tk 6 ?_; refine gset ?_; refine tk 7 ?_; refine gset ?_; refine tk 8 ?_; refine gset ?_; refine tk 9 ?_; refine gset ?_; refine tk 10 ?_; refine gset ?_; refine tk 11 ?_; refine gset ?_; refine tk 12 ?_; refine gset ?_; refine tk 14 ?_; refine gset ?_; refine tk 15 ?_; refine gset ?_; refine tk 17 ?_; refine gset ?_; refine tk 18 ?_; refine gset ?_; refine tk 20 ?_; refine gset ?_; refine tk 21 ?_; refine gset ?_; refine tk 23 ?_; refine gset ?_; refine tk 24 ?_; refine gset ?_
   have hx := x4
   have hA : d.take ((n : Int) - 1).toNat = d.take (n - 1) := by congr 1; omega
   rw [hA]
   have hB : (d.take ((n : Int) + (m : Int) - 1).toNat).drop n = (d.drop n).take (m - 1) := by
    rw [List.drop_take]; congr 1; omega
   rw [hB]
   apply meet2 (F := fun (b : Nat) w' => Ext w3 w' ∧ w4.heap.size ≤ b ∧ w'.heap[b]? = some (.cells zeroSoa.toArray 61 (0, 0)))
   ·intro hG
    have hx0 := hx
    have hx : Ext w4 w4 := Ext.refl _
    refine wph_two (i := 13) (j := 27) (by decide +kernel) rfl rfl rfl ?_ ?_
    ·refine wpl_callV (enters_of Tryz.func208 rfl rfl) rfl rfl (r3_NumAt r 0 _ htl (by omega)) ?_
     intro w_1 x_1
     have hx := hx.trans x_1
     refine gset ?_
     refine wph_nil ⟨hx0.trans hx, ?_⟩
     refine wph_two (i := 16) (j := 27) (by decide +kernel) rfl rfl rfl ?_ ?_
     ·refine wpl_callV (enters_of Tryz.func208 rfl rfl) rfl rfl (r3_NumAt r 1 _ htl (by omega)) ?_
      intro w_2 x_2
      have hx := hx.trans x_2
      refine gset ?_
      refine wph_nil ⟨hx0.trans hx, ?_⟩
      refine wph_two (i := 19) (j := 27) (by decide +kernel) rfl rfl rfl ?_ ?_
      ·refine wpl_callV (enters_of Tryz.func208 rfl rfl) rfl rfl (r3_NumAt r 2 _ htl (by omega)) ?_
       intro w_3 x_3
       have hx := hx.trans x_3
       refine gset ?_
       refine wph_nil ⟨hx0.trans hx, ?_⟩
       refine wph_two (i := 22) (j := 27) (by decide +kernel) rfl rfl rfl ?_ ?_
       ·refine wpl_callV (enters_of Tryz.func208 rfl rfl) rfl rfl (r3_NumAt r 3 _ htl (by omega)) ?_
        intro w_4 x_4
        have hx := hx.trans x_4
        refine gset ?_
        refine wph_nil ⟨hx0.trans hx, ?_⟩
        refine wph_two (i := 25) (j := 27) (by decide +kernel) rfl rfl rfl ?_ ?_
        ·refine wpl_callV (enters_of Tryz.func208 rfl rfl) rfl rfl (r3_NumAt r 4 _ htl (by omega)) ?_
         intro w_5 x_5
         have hx := hx.trans x_5
         refine gset ?_
         refine wph_nil ⟨hx0.trans hx, ?_⟩
         refine wph_take (i := 26) (v := .agg (soaOf d).cells.toArray) rfl rfl (by decide +kernel) (by decide +kernel) (by decide +kernel) rfl (hx0.trans hx) (fun w' _ => by rw [hsoa]; exact Runs.build rfl (by kernel_rfl)) (fun _ _ _ h => h) ?_; refine gset ?_
         refine wph_one (i := 27) (by decide +kernel) rfl rfl ?_
         refine wpl_allocB (z := zeroSoa) rfl (by decide +kernel) ?_
         intro w_6 x_6 s_6 ha
         have hb := hx.size
         have hx := hx.trans x_6
         generalize w_5.heap.size = b at *
         refine gset ?_
         refine wph_nil ⟨hx0.trans hx, ?_⟩
         exact hG _ _ ⟨hx0.trans hx, hb, ha⟩
        ·refine wpl_allocB (z := zeroSoa) rfl (by decide +kernel) ?_
         intro w_7 x_7 s_7 ha
         have hb := hx.size
         have hx := hx.trans x_7
         generalize w_4.heap.size = b at *
         refine gset ?_
         refine wph_nil ⟨hx0.trans hx, ?_⟩
         refine wph_one (i := 25) (by decide +kernel) rfl rfl ?_
         refine wpl_callV (enters_of Tryz.func208 rfl rfl) rfl rfl (r3_NumAt r 4 _ htl (by omega)) ?_
         intro w_8 x_8
         have hx := hx.trans x_8
         have ha := x_8.at ha
         refine gset ?_
         refine wph_nil ⟨hx0.trans hx, ?_⟩
         refine wph_take (i := 26) (v := .agg (soaOf d).cells.toArray) rfl rfl (by decide +kernel) (by decide +kernel) (by decide +kernel) rfl (hx0.trans hx) (fun w' _ => by rw [hsoa]; exact Runs.build rfl (by kernel_rfl)) (fun _ _ _ h => h) ?_; refine gset ?_
         exact hG _ _ ⟨hx0.trans hx, hb, ha⟩
       ·refine wpl_allocB (z := zeroSoa) rfl (by decide +kernel) ?_
        intro w_9 x_9 s_9 ha
        have hb := hx.size
        have hx := hx.trans x_9
        generalize w_3.heap.size = b at *
        refine gset ?_
        refine wph_nil ⟨hx0.trans hx, ?_⟩
        refine wph_one (i := 22) (by decide +kernel) rfl rfl ?_
        refine wpl_callV (enters_of Tryz.func208 rfl rfl) rfl rfl (r3_NumAt r 3 _ htl (by omega)) ?_
        intro w_10 x_10
        have hx := hx.trans x_10
        have ha := x_10.at ha
        refine gset ?_
        refine wph_nil ⟨hx0.trans hx, ?_⟩
        refine wph_one (i := 25) (by decide +kernel) rfl rfl ?_
        refine wpl_callV (enters_of Tryz.func208 rfl rfl) rfl rfl (r3_NumAt r 4 _ htl (by omega)) ?_
        intro w_11 x_11
        have hx := hx.trans x_11
        have ha := x_11.at ha
        refine gset ?_
        refine wph_nil ⟨hx0.trans hx, ?_⟩
        refine wph_take (i := 26) (v := .agg (soaOf d).cells.toArray) rfl rfl (by decide +kernel) (by decide +kernel) (by decide +kernel) rfl (hx0.trans hx) (fun w' _ => by rw [hsoa]; exact Runs.build rfl (by kernel_rfl)) (fun _ _ _ h => h) ?_; refine gset ?_
        exact hG _ _ ⟨hx0.trans hx, hb, ha⟩
      ·refine wpl_allocB (z := zeroSoa) rfl (by decide +kernel) ?_
       intro w_12 x_12 s_12 ha
       have hb := hx.size
       have hx := hx.trans x_12
       generalize w_2.heap.size = b at *
       refine gset ?_
       refine wph_nil ⟨hx0.trans hx, ?_⟩
       refine wph_one (i := 19) (by decide +kernel) rfl rfl ?_
       refine wpl_callV (enters_of Tryz.func208 rfl rfl) rfl rfl (r3_NumAt r 2 _ htl (by omega)) ?_
       intro w_13 x_13
       have hx := hx.trans x_13
       have ha := x_13.at ha
       refine gset ?_
       refine wph_nil ⟨hx0.trans hx, ?_⟩
       refine wph_one (i := 22) (by decide +kernel) rfl rfl ?_
       refine wpl_callV (enters_of Tryz.func208 rfl rfl) rfl rfl (r3_NumAt r 3 _ htl (by omega)) ?_
       intro w_14 x_14
       have hx := hx.trans x_14
       have ha := x_14.at ha
       refine gset ?_
       refine wph_nil ⟨hx0.trans hx, ?_⟩
       refine wph_one (i := 25) (by decide +kernel) rfl rfl ?_
       refine wpl_callV (enters_of Tryz.func208 rfl rfl) rfl rfl (r3_NumAt r 4 _ htl (by omega)) ?_
       intro w_15 x_15
       have hx := hx.trans x_15
       have ha := x_15.at ha
       refine gset ?_
       refine wph_nil ⟨hx0.trans hx, ?_⟩
       refine wph_take (i := 26) (v := .agg (soaOf d).cells.toArray) rfl rfl (by decide +kernel) (by decide +kernel) (by decide +kernel) rfl (hx0.trans hx) (fun w' _ => by rw [hsoa]; exact Runs.build rfl (by kernel_rfl)) (fun _ _ _ h => h) ?_; refine gset ?_
       exact hG _ _ ⟨hx0.trans hx, hb, ha⟩
     ·refine wpl_allocB (z := zeroSoa) rfl (by decide +kernel) ?_
      intro w_16 x_16 s_16 ha
      have hb := hx.size
      have hx := hx.trans x_16
      generalize w_1.heap.size = b at *
      refine gset ?_
      refine wph_nil ⟨hx0.trans hx, ?_⟩
      refine wph_one (i := 16) (by decide +kernel) rfl rfl ?_
      refine wpl_callV (enters_of Tryz.func208 rfl rfl) rfl rfl (r3_NumAt r 1 _ htl (by omega)) ?_
      intro w_17 x_17
      have hx := hx.trans x_17
      have ha := x_17.at ha
      refine gset ?_
      refine wph_nil ⟨hx0.trans hx, ?_⟩
      refine wph_one (i := 19) (by decide +kernel) rfl rfl ?_
      refine wpl_callV (enters_of Tryz.func208 rfl rfl) rfl rfl (r3_NumAt r 2 _ htl (by omega)) ?_
      intro w_18 x_18
      have hx := hx.trans x_18
      have ha := x_18.at ha
      refine gset ?_
      refine wph_nil ⟨hx0.trans hx, ?_⟩
      refine wph_one (i := 22) (by decide +kernel) rfl rfl ?_
      refine wpl_callV (enters_of Tryz.func208 rfl rfl) rfl rfl (r3_NumAt r 3 _ htl (by omega)) ?_
      intro w_19 x_19
      have hx := hx.trans x_19
      have ha := x_19.at ha
      refine gset ?_
      refine wph_nil ⟨hx0.trans hx, ?_⟩
      refine wph_one (i := 25) (by decide +kernel) rfl rfl ?_
      refine wpl_callV (enters_of Tryz.func208 rfl rfl) rfl rfl (r3_NumAt r 4 _ htl (by omega)) ?_
      intro w_20 x_20
      have hx := hx.trans x_20
      have ha := x_20.at ha
      refine gset ?_
      refine wph_nil ⟨hx0.trans hx, ?_⟩
      refine wph_take (i := 26) (v := .agg (soaOf d).cells.toArray) rfl rfl (by decide +kernel) (by decide +kernel) (by decide +kernel) rfl (hx0.trans hx) (fun w' _ => by rw [hsoa]; exact Runs.build rfl (by kernel_rfl)) (fun _ _ _ h => h) ?_; refine gset ?_
      exact hG _ _ ⟨hx0.trans hx, hb, ha⟩
    ·refine wpl_allocB (z := zeroSoa) rfl (by decide +kernel) ?_
     intro w_21 x_21 s_21 ha
     have hb := hx.size
     have hx := hx.trans x_21
     generalize w4.heap.size = b at *
     refine gset ?_
     refine wph_nil ⟨hx0.trans hx, ?_⟩
     refine wph_one (i := 13) (by decide +kernel) rfl rfl ?_
     refine wpl_callV (enters_of Tryz.func208 rfl rfl) rfl rfl (r3_NumAt r 0 _ htl (by omega)) ?_
     intro w_22 x_22
     have hx := hx.trans x_22
     have ha := x_22.at ha
     refine gset ?_
     refine wph_nil ⟨hx0.trans hx, ?_⟩
     refine wph_one (i := 16) (by decide +kernel) rfl rfl ?_
     refine wpl_callV (enters_of Tryz.func208 rfl rfl) rfl rfl (r3_NumAt r 1 _ htl (by omega)) ?_
     intro w_23 x_23
     have hx := hx.trans x_23
     have ha := x_23.at ha
     refine gset ?_
     refine wph_nil ⟨hx0.trans hx, ?_⟩
     refine wph_one (i := 19) (by decide +kernel) rfl rfl ?_
     refine wpl_callV (enters_of Tryz.func208 rfl rfl) rfl rfl (r3_NumAt r 2 _ htl (by omega)) ?_
     intro w_24 x_24
     have hx := hx.trans x_24
     have ha := x_24.at ha
     refine gset ?_
     refine wph_nil ⟨hx0.trans hx, ?_⟩
     refine wph_one (i := 22) (by decide +kernel) rfl rfl ?_
     refine wpl_callV (enters_of Tryz.func208 rfl rfl) rfl rfl (r3_NumAt r 3 _ htl (by omega)) ?_
     intro w_25 x_25
     have hx := hx.trans x_25
     have ha := x_25.at ha
     refine gset ?_
     refine wph_nil ⟨hx0.trans hx, ?_⟩
     refine wph_one (i := 25) (by decide +kernel) rfl rfl ?_
     refine wpl_callV (enters_of Tryz.func208 rfl rfl) rfl rfl (r3_NumAt r 4 _ htl (by omega)) ?_
     intro w_26 x_26
     have hx := hx.trans x_26
     have ha := x_26.at ha
     refine gset ?_
     refine wph_nil ⟨hx0.trans hx, ?_⟩
     refine wph_take (i := 26) (v := .agg (soaOf d).cells.toArray) rfl rfl (by decide +kernel) (by decide +kernel) (by decide +kernel) rfl (hx0.trans hx) (fun w' _ => by rw [hsoa]; exact Runs.build rfl (by kernel_rfl)) (fun _ _ _ h => h) ?_; refine gset ?_
     exact hG _ _ ⟨hx0.trans hx, hb, ha⟩
   ·intro b w5 hF
    obtain ⟨x5, hbb, h5⟩ := hF
    have hsz := x4.size
    have hs1 : w.heap.size < w3.heap.size := (Array.getElem?_eq_some_iff.1 h1).1
    refine wph_one (i := 28) (by decide +kernel) rfl rfl ?_
    refine wpl_storeB (v := .agg (soaOf d).cells.toArray) rfl rfl rfl h5 (show sizeTy Tryz.prog 61 7 = true by decide +kernel) rfl (by rw [hsoa]; simp [Value.cells, Value.oneCell', str]) ?_
    intro w6 p6
    have h16 := p6.at (x5.at h1) (by omega)
    have x36 : Ext w3 w6 := x5.move p6.mv (by rintro k ⟨⟩; omega)
    have x6 := x13.trans x36
    have hb6 : w6.heap[b]? = some (.cells (soaOf d).cells.toArray 61 (0, 0)) := p6.this
    refine wph_nil ⟨x36, ?_⟩
    refine wph_done (by decide +kernel) ?_
    have hp6 := pts_block hb6
    clear p6 h5 x5 hx x4 h1
    (repeat' first | ((with_reducible refine nx0 ?_); go_step) | ((with_reducible refine o_s ?_); first | refine wk0 ?_ | (refine wg0 ?_ ?_ <;> intro hc)) | fail)
    refine wpl_run (v := .agg (soaOf d).cells.toArray) rfl (Runs.loadN (n := 7) hp6 rfl (by decide +kernel)) ?_
    refine gset ?_
    have hm1 : (soaOf d).main.length ≤ 4611686018427387904 := by
     have := congrArg (fun c : List Value => strLen (c.getD 0 undef)) hsoa
     simp only [SoaR.cells, List.getD_cons_zero, strLen_str] at this
     rw [this]; simp; omega
    have hm2 : (soaOf d).mail.length ≤ 4611686018427387904 := by
     have := congrArg (fun c : List Value => strLen (c.getD 1 undef)) hsoa
     simp only [SoaR.cells, List.getD_cons_zero, List.getD_cons_succ, strLen_str] at this
     rw [this]; simp; omega
    refine wpl_callV (enters_of Tryz.func209 rfl rfl) rfl rfl (r3_Soa (soaOf d) _ hm1 hm2) ?_; intro w7 x7; refine gset ?_
    have h16 := x7.at h16
    have hb6 := x7.at hb6
    have x6 := x6.trans x7
    have hp6 := hp6.ext x7
    cases hok : (soaOf d).ok with
    | false =>
     simp only [hok, Bool.false_eq_true, if_false] at hps ⊢
     (repeat' first | ((with_reducible refine nx0 ?_); go_step) | ((with_reducible refine o_s ?_); first | refine wk0 ?_ | (refine wg0 ?_ ?_ <;> intro hc)) | fail)
     refine wpl_run (v := .agg zeroSoa.toArray) rfl (Runs.build (parts := []) (vals := []) rfl (by kernel_rfl)) ?_
     refine gset ?_
     refine wpl_storeB (v := .agg zeroSoa.toArray) rfl rfl rfl h16 (by decide +kernel) rfl (by decide +kernel) ?_
     intro w8 p8
     have x8 : Ext w w8 := x6.move p8.mv (by rintro k ⟨⟩; omega)
     have h18 : w8.heap[w.heap.size]? = some (.cells zeroSoa.toArray 61 (0, 0)) := p8.this
     (repeat' first | ((with_reducible refine nx0 ?_); go_step) | ((with_reducible refine o_s ?_); first | refine wk0 ?_ | (refine wg0 ?_ ?_ <;> intro hc)) | fail)
     refine bodyPost_ret (results_cellT (cs := zeroSoa) rfl rfl h18 (by decide +kernel)) rfl ⟨?_, x8⟩
     rw [hps]
     rfl
    | true =>
     simp only [hok, if_true] at hps ⊢
     (repeat' first | ((with_reducible refine nx0 ?_); go_step) | ((with_reducible refine o_s ?_); first | refine wk0 ?_ | (refine wg0 ?_ ?_ <;> intro hc)) | fail)
     refine wpl_run (v := .agg (soaOf d).cells.toArray) rfl (Runs.loadN (n := 7) hp6 rfl (by decide +kernel)) ?_
     refine gset ?_
     refine wpl_storeB (v := .agg (soaOf d).cells.toArray) rfl rfl rfl h16 (show sizeTy Tryz.prog 61 7 = true by decide +kernel) rfl (by rw [hsoa]; simp [Value.cells, Value.oneCell', str]) ?_
     intro w8 p8
     have x8 : Ext w w8 := x6.move p8.mv (by rintro k ⟨⟩; omega)
     have h18 : w8.heap[w.heap.size]? = some (.cells (soaOf d).cells.toArray 61 (0, 0)) := p8.this
     (repeat' first | ((with_reducible refine nx0 ?_); go_step) | ((with_reducible refine o_s ?_); first | refine wk0 ?_ | (refine wg0 ?_ ?_ <;> intro hc)) | fail)
     refine bodyPost_ret (results_cellT (cs := (soaOf d).cells) rfl rfl h18 (show aggTy Tryz.prog 61 7 = true by decide +kernel)) rfl ⟨?_, x8⟩
     rw [hps]
     rfl
  all_goals
   refine wpl_run (v := .agg zeroSoa.toArray) rfl (Runs.build (parts := []) (vals := []) rfl (by kernel_rfl)) ?_
   refine gset ?_
   refine wpl_storeB (v := .agg zeroSoa.toArray) rfl rfl rfl h1 (by decide +kernel) rfl (by decide +kernel) ?_
   intro w7 p7
   have x7 : Ext w w7 := x13.move p7.mv (by rintro k ⟨⟩; omega)
   have h17 : w7.heap[w.heap.size]? = some (.cells zeroSoa.toArray 61 (0, 0)) := p7.this
   (repeat' first | ((with_reducible refine nx0 ?_); go_step) | ((with_reducible refine o_s ?_); first | refine wk0 ?_ | (refine wg0 ?_ ?_ <;> intro hc)) | fail)
   refine bodyPost_ret (results_cellT (cs := zeroSoa) rfl rfl h17 (by decide +kernel)) rfl ⟨?_, x7⟩
   have hbad : firstR (d.drop (firstR d)) = 0 ∨ d.length ≠ firstR d + firstR (d.drop (firstR d)) + 20 := by
    first
     | exact .inl (by omega)
     | exact .inr (by have hq := ‹(!decide ((d.length : Int) = ((firstR d : Nat) : Int) + ((firstR (d.drop (firstR d)) : Nat) : Int) + 20)) = true›; simp at hq; omega)
   rw [hps, if_pos hbad]
   rfl
theorem fits_host (k : Int) (d : List UInt8) : decide ((parseHost k d).2 ≠ 2) = (decide (ahead k < 0) || (decide (ahead k ≤ (d.length : Int)) && (hostN (d.drop (ahead k).toNat)).isSome)) := by
 unfold parseHost
 by_cases h1 : ahead k < 0
 ·simp [h1]
 ·by_cases h2 : (d.length : Int) < ahead k
  ·simp [h1, h2]; omega
  ·rw [if_neg h1, if_neg h2]
   cases hh : hostN (d.drop (ahead k).toNat) with
   | none => simp [h1]
   | some n => simp [h1]; omega
set_option maxHeartbeats 12000000 in
theorem r3_data (k : Int) (d : List UInt8) (w : World) (hl : d.length ≤ 4611686018427387904) : Calls Tryz.prog 168 #[.int .i64 k, str d] w (RetV w (.bool (decide (d.length ≤ 4000) && fits k d))) := by
 go_enter Tryz.func168, Tryz.ntmps168
 (repeat' first | ((with_reducible refine nx0 ?_); go_step) | ((with_reducible refine o_s ?_); first | refine wk0 ?_ | (refine wg0 ?_ ?_ <;> intro hc)) | fail)
 ·have h4 := ‹4000 < (d.length : Int)›
  go_ret
  exact ⟨by rw [decide_eq_false (show ¬ d.length ≤ 4000 by omega)]; rfl, Ext.refl _⟩
 ·have h4 := ‹(d.length : Int) ≤ 4000›
  have hk := ‹k = 1›
  go_ret
  refine ⟨?_, Ext.refl _⟩
  rw [decide_eq_true (show d.length ≤ 4000 by omega), fits, if_pos hk]
  simp; omega
 ·have h4 := ‹(d.length : Int) ≤ 4000›
  have hk := ‹k = 28›
  subst hk
  go_ret
  refine ⟨?_, Ext.refl _⟩
  rw [decide_eq_true (show d.length ≤ 4000 by omega)]
  simp [fits]; omega
 ·have h4 := ‹(d.length : Int) ≤ 4000›
  have hk := ‹k = 6›
  subst hk
  have hf : (decide (d.length ≤ 4000) && fits 6 d) = (parseSoa d).isSome := by
   rw [decide_eq_true (show d.length ≤ 4000 by omega)]; simp [fits]
  refine wpl_callV (enters_of Tryz.func157 rfl rfl) rfl rfl (r3_ParseSoa d _ hl) ?_; intro w1 x1; refine gset ?_
  cases hps : parseSoa d with
  | none =>
   (repeat' first | ((with_reducible refine nx0 ?_); go_step) | ((with_reducible refine o_s ?_); first | refine wk0 ?_ | (refine wg0 ?_ ?_ <;> intro hc)) | fail)
   refine wpl_allocB (z := zeroSoa) rfl (by decide +kernel) ?_
   intro w2 x2 s2 h2
   refine gset ?_
   refine wpl_storeB (v := .agg zeroSoa.toArray) rfl rfl rfl h2 (by decide +kernel) rfl (by decide +kernel) ?_
   intro w3 p3
   have x3 : Ext w w3 := (x1.trans x2).move p3.mv (by rintro k ⟨⟩; exact x1.size)
   (repeat' first | ((with_reducible refine nx0 ?_); go_step) | ((with_reducible refine o_s ?_); first | refine wk0 ?_ | (refine wg0 ?_ ?_ <;> intro hc)) | fail)
   go_ret
   exact ⟨by rw [hf, hps]; simp, x3⟩
  | some s =>
   (repeat' first | ((with_reducible refine nx0 ?_); go_step) | ((with_reducible refine o_s ?_); first | refine wk0 ?_ | (refine wg0 ?_ ?_ <;> intro hc)) | fail)
   refine wpl_allocB (z := zeroSoa) rfl (by decide +kernel) ?_
   intro w2 x2 s2 h2
   refine gset ?_
   refine wpl_storeB (v := .agg s.cells.toArray) rfl rfl rfl h2 (show sizeTy Tryz.prog 61 7 = true by decide +kernel) rfl (by simp [SoaR.cells, Value.cells, Value.oneCell', str]) ?_
   intro w3 p3
   have x3 : Ext w w3 := (x1.trans x2).move p3.mv (by rintro k ⟨⟩; exact x1.size)
   (repeat' first | ((with_reducible refine nx0 ?_); go_step) | ((with_reducible refine o_s ?_); first | refine wk0 ?_ | (refine wg0 ?_ ?_ <;> intro hc)) | fail)
   go_ret
   exact ⟨by rw [hf, hps]; simp, x3⟩
 ·have h4 := ‹(d.length : Int) ≤ 4000›
  have hk := ‹k = 16›
  subst hk
  refine wpl_callV (enters_of Tryz.func216 rfl rfl) rfl rfl (r3_texts d _ hl) ?_; intro w1 x1; refine gset ?_
  (repeat' first | ((with_reducible refine nx0 ?_); go_step) | ((with_reducible refine o_s ?_); first | refine wk0 ?_ | (refine wg0 ?_ ?_ <;> intro hc)) | fail)
  go_ret
  refine ⟨?_, x1⟩
  rw [decide_eq_true (show d.length ≤ 4000 by omega)]
  simp [fits]
 ·have h4 := ‹(d.length : Int) ≤ 4000›
  have q1 := ‹¬k = 1›
  have q2 := ‹¬k = 28›
  have q3 := ‹¬k = 6›
  have q4 := ‹¬k = 16›
  have hf : (decide (d.length ≤ 4000) && fits k d) = (decide (ahead k < 0) || (decide (ahead k ≤ (d.length : Int)) && (hostN (d.drop (ahead k).toNat)).isSome)) := by
   rw [decide_eq_true (show d.length ≤ 4000 by omega), ← fits_host]
   simp [fits, q1, q2, q3, q4]
  refine wpl_callV (enters_of Tryz.func217 rfl rfl) rfl rfl (r3_ahead k _) ?_; intro w1 x1; refine gset ?_
  generalize ahead k = a at *
  (repeat' first | ((with_reducible refine nx0 ?_); go_step) | ((with_reducible refine o_s ?_); first | refine wk0 ?_ | (refine wg0 ?_ ?_ <;> intro hc)) | fail)
  ·have c1 := ‹¬a < 0›
   have c2 := ‹a ≤ (d.length : Int)›
   refine wpl_callV (enters_of Tryz.func218 rfl rfl) rfl rfl (r3_isHost (d.drop a.toNat) _ (by simp; omega)) ?_; intro w2 x2; refine gset ?_
   (repeat' first | ((with_reducible refine nx0 ?_); go_step) | ((with_reducible refine o_s ?_); first | refine wk0 ?_ | (refine wg0 ?_ ?_ <;> intro hc)) | fail)
   go_ret
   exact ⟨by rw [hf, decide_eq_false c1, decide_eq_true c2]; simp, x1.trans x2⟩
  ·have c1 := ‹¬a < 0›
   have c2 := ‹¬a ≤ (d.length : Int)›
   go_ret
   exact ⟨by rw [hf, decide_eq_false c1, decide_eq_false c2]; simp, x1⟩
  ·have c1 := ‹a < 0›
   go_ret
   exact ⟨by rw [hf, decide_eq_true c1]; simp, x1⟩
set_option maxHeartbeats 24000000 in
theorem r3_Check (r : Rec) (w : World) (hl : r.data.length ≤ 4611686018427387904) : Calls Tryz.prog 112 #[.agg #[str r.name, .int .i64 r.kind, .int .i64 r.ttl, str r.data]] w (RetV w (.int .i64 (checkR r))) := by
 go_enter Tryz.func112, Tryz.ntmps112
 repeat' (first | ((with_reducible refine nx0 ?_); go_step) | fail)
 refine wpl_box (vs := Rec.cells r) rfl rfl ?_
 intro p w1 x1 hp
 refine gset ?_
 have hp : Pts w1 p [str r.name, .int .i64 r.kind, .int .i64 r.ttl, str r.data] := hp
 (repeat' first | ((with_reducible refine nx0 ?_); go_step) | ((with_reducible refine o_s ?_); first | refine wk0 ?_ | (refine wg0 ?_ ?_ <;> intro hc)) | fail)
 refine wpl_callV (enters_of Tryz.func73 rfl rfl) rfl rfl (r1_Check r.name _) ?_; intro w2 x2; refine gset ?_
 have hp := hp.ext x2
 have x2 := x1.trans x2
 cases hlab : (labels r.name).isSome with
 | false =>
  simp only [Bool.false_eq_true, ↓reduceIte]
  (repeat' first | ((with_reducible refine nx0 ?_); go_step) | ((with_reducible refine o_s ?_); first | refine wk0 ?_ | (refine wg0 ?_ ?_ <;> intro hc)) | fail)
  go_ret
  refine ⟨?_, x2⟩
  have : checkR r = 1 := by unfold checkR; simp [hlab]
  rw [this]; rfl
 | true =>
  simp only [↓reduceIte]
  (repeat' first | ((with_reducible refine nx0 ?_); go_step) | ((with_reducible refine o_s ?_); first | refine wk0 ?_ | (refine wg0 ?_ ?_ <;> intro hc)) | fail)
  rotate_left
  ·have : checkR r = 1 := by simp [checkR, hc]
   go_ret
   exact ⟨by rw [this]; rfl, x2⟩
  ·have : checkR r = 1 := by simp [checkR, hc]
   go_ret
   exact ⟨by rw [this]; rfl, x2⟩
  ·have : checkR r = 1 := by simp [checkR, hc]
   go_ret
   exact ⟨by rw [this]; rfl, x2⟩
  ·have : checkR r = 1 := by simp [checkR, hc]
   go_ret
   exact ⟨by rw [this]; rfl, x2⟩
  ·have : checkR r = 1 := by simp [checkR, hc]
   go_ret
   exact ⟨by rw [this]; rfl, x2⟩
  ·have : checkR r = 1 := by simp [checkR, hc]
   go_ret
   exact ⟨by rw [this]; rfl, x2⟩
  ·have : checkR r = 1 := by simp [checkR, hc]
   go_ret
   exact ⟨by rw [this]; rfl, x2⟩
  ·have : checkR r = 1 := by simp [checkR, hc]
   go_ret
   exact ⟨by rw [this]; rfl, x2⟩
  ·have q1 := ‹¬r.kind < 1›
   have q2 := ‹¬65535 < r.kind›
   have q3 := ‹¬r.kind = 41›
   have q4 := ‹¬r.kind = 251›
   have q5 := ‹¬r.kind = 252›
   have q6 := ‹¬r.kind = 255›
   have q7 := ‹¬r.ttl < 0›
   have q8 := ‹¬2147483647 < r.ttl›
   refine wpl_callV (enters_of Tryz.func168 rfl rfl) rfl rfl (r3_data r.kind r.data _ hl) ?_; intro w3 x3; refine gset ?_
   cases hf : (decide (r.data.length ≤ 4000) && fits r.kind r.data) with
   | true =>
    simp only [Bool.and_eq_true, decide_eq_true_eq] at hf
    have : checkR r = 0 := by simp [checkR, q1, q2, q3, q4, q5, q6, q7, q8, hf.2, hlab]; omega
    (repeat' first | ((with_reducible refine nx0 ?_); go_step) | ((with_reducible refine o_s ?_); first | refine wk0 ?_ | (refine wg0 ?_ ?_ <;> intro hc)) | fail)
    go_ret
    exact ⟨by rw [this]; rfl, x2.trans x3⟩
   | false =>
    have : checkR r = 1 := by
     simp only [Bool.and_eq_false_iff, decide_eq_false_iff_not] at hf
     rcases hf with hf | hf
     ·simp [checkR, show 4000 < r.data.length by omega]
     ·simp [checkR, hf]
    (repeat' first | ((with_reducible refine nx0 ?_); go_step) | ((with_reducible refine o_s ?_); first | refine wk0 ?_ | (refine wg0 ?_ ?_ <;> intro hc)) | fail)
    go_ret
    exact ⟨by rw [this]; rfl, x2.trans x3⟩
theorem run_eqRec {r q : Rec} {w : World} : (Op.equalIn 10000 81 (.agg #[str r.name, .int .i64 r.kind, .int .i64 r.ttl, str r.data]) (.agg #[str q.name, .int .i64 q.kind, .int .i64 q.ttl, str q.data])).run Tryz.prog w = .ok (decide (r = q)) w := by
 have hS : Tryz.prog.underlying 81 = some (.struct (Tryz.prog.fieldsOf 81)) := by kernel_rfl
 rw [show (10000 : Nat) = 9999 + 1 from rfl, run_equalIn_agg w 9999 81 _ _ hS (by kernel_rfl)]
 simp only [Program.fieldsOf, Tryz.underlying81]
 have u3 := Tryz.underlying3
 have u9 := Tryz.underlying9
 have u31 := Tryz.underlying27
 have a3 := Tryz.isAgg3
 have a9 := Tryz.isAgg9
 have a31 := Tryz.isAgg27
 have z3 := Tryz.sizeOf3
 have z9 := Tryz.sizeOf9
 have z31 := Tryz.sizeOf27
 unfold str
 go_simp
 obtain ⟨a1, a2, a3, a4⟩ := r
 obtain ⟨b1, b2, b3, b4⟩ := q
 simp only [Rec.mk.injEq]
 by_cases h1 : a1 = b1 <;> by_cases h2 : a2 = b2 <;> by_cases h3 : a3 = b3 <;> by_cases h4 : a4 = b4 <;> simp [h1, h2, h3, h4]
theorem Runs.neqRec {r q : Rec} {x y : Operand} {a : Act} {w : World} {d : Option Nat} {u ty : TypeId} {ps : String} {af : Array Edge} {g : Option (Nat × Bool)}
 (hx : a.eval x = .agg #[str r.name, .int .i64 r.kind, .int .i64 r.ttl, str r.data]) (hy : a.eval y = .agg #[str q.name, .int .i64 q.kind, .int .i64 q.ttl, str q.data]) :
 Runs Tryz.prog (Oper.mk d (.binOp .neq 81 x y u) ty ps af g) a w (.bool (!decide (r = q))) := by
 constructor
 have hg := run_eqGuard_agg (P := Tryz.prog) w .neq 81 x y #[str r.name, .int .i64 r.kind, .int .i64 r.ttl, str r.data] #[str q.name, .int .i64 q.kind, .int .i64 q.ttl, str q.data] (by kernel_rfl)
 simp only [execOp, hx, hy, Sem.run_bind, hg, Result.andThen_ok, run_neq_struct, run_eqRec, Sem.run_pure]
end Go.Proofs.X
