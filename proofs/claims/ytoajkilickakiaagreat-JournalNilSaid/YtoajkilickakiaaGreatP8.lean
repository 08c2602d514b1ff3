/- Laws and walks that the proof of the statement is made of (part 8). -/
import Derived.Test.YtoajkilickakiaaGreatProg
import Derived.Lib.Hide
import Derived.Test.YtoajkilickakiaaGreatShelf
import Derived.Shelf.SlSortCmp.NoneTotal
import Derived.OwnWalk
import Derived.Shelf.RegionOpenPlain
import Derived.Lib.Strings
import Derived.Lib.Slices
import Derived.Lib.Walk
import Derived.Lib.Builder
import Derived.Lib.AppendStr
import Derived.Lib.UnsafeStr
import Derived.Lib.MakeNoZero
import Derived.WalkKit
import Derived.Laws.Externs
import Derived.Laws.IdiomCopy
import Derived.Laws.BitsLemmas
import GoSem.Claims
import Derived.Test.YtoajkilickakiaaGreatP1
import Derived.Test.YtoajkilickakiaaGreatP2
import Derived.Test.YtoajkilickakiaaGreatP3
import Derived.Test.YtoajkilickakiaaGreatP4
import Derived.Test.YtoajkilickakiaaGreatP5
import Derived.Test.YtoajkilickakiaaGreatP6
import Derived.Test.YtoajkilickakiaaGreatP7
set_option linter.unusedSimpArgs false
set_option linter.unusedVariables false
namespace Go.Proofs.X
open Go.RowKit
set_option maxRecDepth 100000
theorem turned_eq (n : List UInt8) : turned n = (labels n).map fun ls => (ls.map low).reverse := by
  cases h : labels n with
  | none => simp [turned, fold, h]
  | some ls => simp [turned, (fold_valid h).2.1]
set_option maxHeartbeats 6000000 in
theorem r1_Fold (nm : List UInt8) (w : World) : Calls Tryz.prog 44 #[str nm] w (RetV w (str (fold nm))) := by
  go_enter Tryz.func44, Tryz.ntmps44
  repeat' (first | ((with_reducible refine o_s ?_); (first | (refine o_1 ?_; refine o_2 ?_) | (refine o_g ?_; first | refine o_u ?_ | refine o_k ?_ | refine o_n ?_ | refine o_v ?_ | ((first | refine o_G ?_ ?_ | refine o_N ?_ ?_) <;> intro hc)))) | ((fail_if_success (with_reducible refine o_s ?_)); go_step))
  refine wpl_callR (enters_of Tryz.func94 rfl rfl) rfl rfl (r1_cut nm _) ?_
  intro v w1 x1 hv
  cases hl : labels nm with
  | none =>
    rw [hl] at hv
    subst hv
    repeat' (first | ((with_reducible refine o_s ?_); (first | (refine o_1 ?_; refine o_2 ?_) | (refine o_g ?_; first | refine o_u ?_ | refine o_k ?_ | refine o_n ?_ | refine o_v ?_ | ((first | refine o_G ?_ ?_ | refine o_N ?_ ?_) <;> intro hc)))) | ((fail_if_success (with_reducible refine o_s ?_)); go_step))
    go_ret
    exact ⟨by simp [fold, hl], x1⟩
  | some ls =>
    rw [hl] at hv
    obtain ⟨s, rfl, hs⟩ := hv
    have hfit := labels_fit hl
    have hlen := len_le_enc ls
    rw [hfit.2.1] at hlen
    repeat' (first | ((with_reducible refine o_s ?_); (first | (refine o_1 ?_; refine o_2 ?_) | (refine o_g ?_; first | refine o_u ?_ | refine o_k ?_ | refine o_n ?_ | refine o_v ?_ | ((first | refine o_G ?_ ?_ | refine o_N ?_ ?_) <;> intro hc)))) | ((fail_if_success (with_reducible refine o_s ?_)); go_step))
    go_loopw [5] (fun i wr => ∃ k : Nat, k ≤ ls.length ∧ i = .int .i64 k ∧ Ext w wr ∧ Own w.heap.size 1 9 wr s (tcells (mapP low ls k))) (fun i _ => ls.length - (intOf i).toNat)
    case atStart => exact ⟨0, Nat.zero_le _, rfl, x1, by simpa [mapP_zero] using hs⟩
    case round =>
      obtain ⟨k, hk, rfl, hx, ho⟩ := hrel
      have hsl := ho.sl
      have hlen2 : (tcells (mapP low ls k)).length = ls.length := by rw [tcells_length, mapP_length]
      by_cases hlt : k < ls.length
      · have hp := hsl.elem (tcells_get _ _ _ (mapP_get low ls k hlt))
        have h254 : ls[k].length ≤ 254 := by have := mem_enc_le (List.getElem_mem hlt); rw [hfit.2.1] at this; omega
        repeat' (first | ((with_reducible refine o_s ?_); (first | (refine o_1 ?_; refine o_2 ?_) | (refine o_g ?_; first | refine o_u ?_ | refine o_k ?_ | refine o_n ?_ | refine o_v ?_ | ((first | refine o_G ?_ ?_ | refine o_N ?_ ?_) <;> intro hc)))) | ((fail_if_success (with_reducible refine o_s ?_)); go_step))
        refine wpl_callV (enters_of Tryz.func95 rfl rfl) rfl rfl (r1_Small _ _ (by omega)) ?_; intro w2 x2; refine gset ?_
        have hsl := hsl.ext x2
        have ho := ho.ext x2
        have hx := hx.trans x2
        clear hp
        repeat' (first | ((with_reducible refine o_s ?_); (first | (refine o_1 ?_; refine o_2 ?_) | (refine o_g ?_; first | refine o_u ?_ | refine o_k ?_ | refine o_n ?_ | refine o_v ?_ | ((first | refine o_G ?_ ?_ | refine o_N ?_ ?_) <;> intro hc)))) | ((fail_if_success (with_reducible refine o_s ?_)); go_step))
        refine wpl_storeE1 (c := str (low ls[k])) (i := k) rfl rfl rfl ho (by omega) (by decide +kernel) rfl ?_
        intro w3 o3 m3
        have hx3 := ho.mvx m3 hx (Nat.le_refl _)
        rw [tcells_set, ← mapP_succ low ls k hlt] at o3
        clear hx ho hsl
        repeat' (first | ((with_reducible refine o_s ?_); (first | (refine o_1 ?_; refine o_2 ?_) | (refine o_g ?_; first | refine o_u ?_ | refine o_k ?_ | refine o_n ?_ | refine o_v ?_ | ((first | refine o_G ?_ ?_ | refine o_N ?_ ?_) <;> intro hc)))) | ((fail_if_success (with_reducible refine o_s ?_)); go_step))
        exact ⟨⟨k + 1, by omega, by go_num, hx3, o3⟩, by simp [intOf]; omega⟩
      · have : k = ls.length := by omega
        subst this
        rw [mapP_all] at hsl hlen2
        repeat' (first | ((with_reducible refine o_s ?_); (first | (refine o_1 ?_; refine o_2 ?_) | (refine o_g ?_; first | refine o_u ?_ | refine o_k ?_ | refine o_n ?_ | refine o_v ?_ | ((first | refine o_G ?_ ?_ | refine o_N ?_ ?_) <;> intro hc)))) | ((fail_if_success (with_reducible refine o_s ?_)); go_step))
        refine wpl_callV (enters_of Tryz.func96 rfl rfl) rfl rfl (r1_Join _ _ _ hsl) ?_; intro w2 x2; refine gset ?_
        cases hj : join (ls.map low) with
        | none =>
          repeat' (first | ((with_reducible refine o_s ?_); (first | (refine o_1 ?_; refine o_2 ?_) | (refine o_g ?_; first | refine o_u ?_ | refine o_k ?_ | refine o_n ?_ | refine o_v ?_ | ((first | refine o_G ?_ ?_ | refine o_N ?_ ?_) <;> intro hc)))) | ((fail_if_success (with_reducible refine o_s ?_)); go_step))
          go_ret
          exact ⟨by simp [fold, hl, hj], hx.trans x2⟩
        | some n =>
          repeat' (first | ((with_reducible refine o_s ?_); (first | (refine o_1 ?_; refine o_2 ?_) | (refine o_g ?_; first | refine o_u ?_ | refine o_k ?_ | refine o_n ?_ | refine o_v ?_ | ((first | refine o_G ?_ ?_ | refine o_N ?_ ?_) <;> intro hc)))) | ((fail_if_success (with_reducible refine o_s ?_)); go_step))
          go_ret
          exact ⟨by simp [fold, hl, hj], hx.trans x2⟩
def underN (n t : List UInt8) : Bool := match turned n with
  | none => false
  | some a => match turned t with
    | none => false
    | some b => decide (a.take b.length = b)
def rlow (ls : List (List UInt8)) : List (List UInt8) := (ls.map low).reverse
theorem rlow_length (ls : List (List UInt8)) : (rlow ls).length = ls.length := by simp [rlow]
theorem rlow_get {ls : List (List UInt8)} {k : Nat} (h : k < ls.length) : (rlow ls)[k]'(by rw [rlow_length]; exact h) = low (ls[ls.length - 1 - k]'(by omega)) := by
  simp [rlow]
theorem back_at {w : World} {v : Value} {ls : List (List UInt8)} (h : Sl 1 w v (tcells ls)) {k : Nat} (hk : k < ls.length) : Pts w (elemPtr v ((((tcells ls).length : Int) - 1 - k).toNat * 1)) [str (ls[ls.length - 1 - k]'(by omega))] := by
  have := h.elem (i := ls.length - 1 - k) (e := [str (ls[ls.length - 1 - k]'(by omega))]) (tcells_at (by omega))
  rwa [show (((tcells ls).length : Int) - 1 - k).toNat = ls.length - 1 - k by rw [tcells_length]; omega]
theorem take_len_eq {α : Type} {a b : List α} {k : Nat} (h : a.take b.length = b) (hk : k < b.length) (ha : k < a.length) : a[k] = b[k] := by
  have h1 : (a.take b.length)[k]? = b[k]? := by rw [h]
  rw [List.getElem?_take, if_pos hk, List.getElem?_eq_getElem ha, List.getElem?_eq_getElem hk] at h1
  exact Option.some.inj h1
set_option maxHeartbeats 12000000 in
theorem r1_Under (a b : List UInt8) (w : World) : Calls Tryz.prog 50 #[str a, str b] w (RetV w (.bool (underN a b))) := by
  go_enter Tryz.func50, Tryz.ntmps50
  repeat' (first | ((with_reducible refine o_s ?_); (first | (refine o_1 ?_; refine o_2 ?_) | (refine o_g ?_; first | refine o_u ?_ | refine o_k ?_ | refine o_n ?_ | refine o_v ?_ | ((first | refine o_G ?_ ?_ | refine o_N ?_ ?_) <;> intro hc)))) | ((fail_if_success (with_reducible refine o_s ?_)); go_step))
  refine wpl_callR (enters_of Tryz.func94 rfl rfl) rfl rfl (r1_cut a _) ?_
  intro v w1 x1 hv
  cases hl : labels a with
  | none =>
    rw [hl] at hv
    subst hv
    repeat' (first | ((with_reducible refine o_s ?_); (first | (refine o_1 ?_; refine o_2 ?_) | (refine o_g ?_; first | refine o_u ?_ | refine o_k ?_ | refine o_n ?_ | refine o_v ?_ | ((first | refine o_G ?_ ?_ | refine o_N ?_ ?_) <;> intro hc)))) | ((fail_if_success (with_reducible refine o_s ?_)); go_step))
    refine wpl_callR (enters_of Tryz.func94 rfl rfl) rfl rfl (r1_cut b _) ?_
    intro v2 w2 x2 hv2
    have hu : underN a b = false := by simp [underN, turned_eq, hl]
    cases hm : labels b with
    | none =>
      rw [hm] at hv2
      subst hv2
      repeat' (first | ((with_reducible refine o_s ?_); (first | (refine o_1 ?_; refine o_2 ?_) | (refine o_g ?_; first | refine o_u ?_ | refine o_k ?_ | refine o_n ?_ | refine o_v ?_ | ((first | refine o_G ?_ ?_ | refine o_N ?_ ?_) <;> intro hc)))) | ((fail_if_success (with_reducible refine o_s ?_)); go_step))
      go_ret
      exact ⟨by rw [hu]; rfl, x1.trans x2⟩
    | some ms =>
      rw [hm] at hv2
      obtain ⟨s2, rfl, o2⟩ := hv2
      repeat' (first | ((with_reducible refine o_s ?_); (first | (refine o_1 ?_; refine o_2 ?_) | (refine o_g ?_; first | refine o_u ?_ | refine o_k ?_ | refine o_n ?_ | refine o_v ?_ | ((first | refine o_G ?_ ?_ | refine o_N ?_ ?_) <;> intro hc)))) | ((fail_if_success (with_reducible refine o_s ?_)); go_step))
      go_ret
      exact ⟨by rw [hu]; rfl, x1.trans x2⟩
  | some ls =>
    rw [hl] at hv
    obtain ⟨s1, rfl, o1⟩ := hv
    repeat' (first | ((with_reducible refine o_s ?_); (first | (refine o_1 ?_; refine o_2 ?_) | (refine o_g ?_; first | refine o_u ?_ | refine o_k ?_ | refine o_n ?_ | refine o_v ?_ | ((first | refine o_G ?_ ?_ | refine o_N ?_ ?_) <;> intro hc)))) | ((fail_if_success (with_reducible refine o_s ?_)); go_step))
    refine wpl_callR (enters_of Tryz.func94 rfl rfl) rfl rfl (r1_cut b _) ?_
    intro v2 w2 x2 hv2
    cases hm : labels b with
    | none =>
      have hu : underN a b = false := by simp [underN, turned_eq, hm, hl]
      rw [hm] at hv2
      subst hv2
      repeat' (first | ((with_reducible refine o_s ?_); (first | (refine o_1 ?_; refine o_2 ?_) | (refine o_g ?_; first | refine o_u ?_ | refine o_k ?_ | refine o_n ?_ | refine o_v ?_ | ((first | refine o_G ?_ ?_ | refine o_N ?_ ?_) <;> intro hc)))) | ((fail_if_success (with_reducible refine o_s ?_)); go_step))
      go_ret
      exact ⟨by rw [hu]; rfl, x1.trans x2⟩
    | some ms =>
      rw [hm] at hv2
      obtain ⟨s2, rfl, o2⟩ := hv2
      have hu : underN a b = true ↔ (rlow ls).take ms.length = rlow ms := by
        simp only [underN, turned_eq, hm, hl, Option.map_some, decide_eq_true_eq]
        rw [show ((ms.map low).reverse).length = ms.length by simp]; rfl
      have hA := o1.sl.ext x2
      have hB := o2.sl
      have tl := tcells_length ls
      have tm := tcells_length ms
      have fl := labels_fit hl
      have fm := labels_fit hm
      have ll := len_le_enc ls
      have lm := len_le_enc ms
      rw [fl.2.1] at ll
      rw [fm.2.1] at lm
      by_cases hlt : ls.length < ms.length
      · have hno : (rlow ls).take ms.length ≠ rlow ms := fun h => by
          have := congrArg List.length h
          simp [rlow_length] at this; omega
        repeat' (first | ((with_reducible refine o_s ?_); (first | (refine o_1 ?_; refine o_2 ?_) | (refine o_g ?_; first | refine o_u ?_ | refine o_k ?_ | refine o_n ?_ | refine o_v ?_ | ((first | refine o_G ?_ ?_ | refine o_N ?_ ?_) <;> intro hc)))) | ((fail_if_success (with_reducible refine o_s ?_)); go_step))
        go_ret
        have hno' : underN a b = false := by cases h : underN a b with | false => rfl | true => exact absurd (hu.1 h) hno
        exact ⟨by rw [hno']; rfl, x1.trans x2⟩
      · have x12 := x1.trans x2
        repeat' (first | ((with_reducible refine o_s ?_); (first | (refine o_1 ?_; refine o_2 ?_) | (refine o_g ?_; first | refine o_u ?_ | refine o_k ?_ | refine o_n ?_ | refine o_v ?_ | ((first | refine o_G ?_ ?_ | refine o_N ?_ ?_) <;> intro hc)))) | ((fail_if_success (with_reducible refine o_s ?_)); go_step))
        go_loopw [9] (fun i wr => ∃ k : Nat, k ≤ ms.length ∧ i = .int .i64 k ∧ Ext w2 wr ∧ (rlow ls).take k = (rlow ms).take k) (fun i _ => ms.length - (intOf i).toNat)
        case atStart => exact ⟨0, Nat.zero_le _, rfl, Ext.refl _, rfl⟩
        case round =>
          obtain ⟨k, hk, rfl, hx, hall⟩ := hrel
          by_cases hk2 : k < ms.length
          · have hA := hA.ext hx
            have hB := hB.ext hx
            have hkl : k < ls.length := by omega
            have hpA := back_at hA hkl
            have hpB := back_at hB hk2
            have lA : (ls[ls.length - 1 - k]'(by omega)).length ≤ 254 := by have := mem_enc_le (List.getElem_mem (l := ls) (n := ls.length - 1 - k) (by omega)); rw [fl.2.1] at this; omega
            have lB : (ms[ms.length - 1 - k]'(by omega)).length ≤ 254 := by have := mem_enc_le (List.getElem_mem (l := ms) (n := ms.length - 1 - k) (by omega)); rw [fm.2.1] at this; omega
            have gA := rlow_get hkl
            have gB := rlow_get hk2
            generalize hx1 : ls[ls.length - 1 - k]'(by omega) = x at *
            generalize hy1 : ms[ms.length - 1 - k]'(by omega) = y at *
            repeat' (first | ((with_reducible refine o_s ?_); (first | (refine o_1 ?_; refine o_2 ?_) | (refine o_g ?_; first | refine o_u ?_ | refine o_k ?_ | refine o_n ?_ | refine o_v ?_ | ((first | refine o_G ?_ ?_ | refine o_N ?_ ?_) <;> intro hc)))) | ((fail_if_success (with_reducible refine o_s ?_)); go_step))
            refine wpq_region (by decide +kernel) (by decide +kernel) ?_
            repeat' (first | ((with_reducible refine q_s ?_); (first | (refine q_1 ?_; refine q_2 ?_) | (refine q_g ?_; first | refine q_u ?_ | refine q_k ?_ | refine q_v ?_))) | (with_reducible refine q_n ?_))
            refine wpq_call (enters_of Tryz.func95 rfl rfl) rfl rfl (fun w' _ => r1_Small x w' (by omega)) ?_
            refine gset ?_
            repeat' (first | ((with_reducible refine q_s ?_); (first | (refine q_1 ?_; refine q_2 ?_) | (refine q_g ?_; first | refine q_u ?_ | refine q_k ?_ | refine q_v ?_))) | (with_reducible refine q_n ?_))
            refine wpq_call (enters_of Tryz.func95 rfl rfl) rfl rfl (fun w' _ => r1_Small y w' (by omega)) ?_
            refine gset ?_
            repeat' (first | ((with_reducible refine q_s ?_); (first | (refine q_1 ?_; refine q_2 ?_) | (refine q_g ?_; first | refine q_u ?_ | refine q_k ?_ | refine q_v ?_))) | (with_reducible refine q_n ?_))
            intro w3 x3
            repeat' (first | ((with_reducible refine o_s ?_); (first | (refine o_1 ?_; refine o_2 ?_) | (refine o_g ?_; first | refine o_u ?_ | refine o_k ?_ | refine o_n ?_ | refine o_v ?_ | ((first | refine o_G ?_ ?_ | refine o_N ?_ ?_) <;> intro hc)))) | ((fail_if_success (with_reducible refine o_s ?_)); go_step))
            · have hne := ‹(!decide (low x = low y)) = true›
              have hno : underN a b = false := by
                cases h : underN a b with
                | false => rfl
                | true =>
                  have h2 := hu.1 h
                  rw [← rlow_length ms] at h2
                  have := take_len_eq h2 (by rw [rlow_length]; exact hk2) (by rw [rlow_length]; exact hkl)
                  rw [gA, gB] at this
                  simp [this] at hne
              go_ret
              exact ⟨by rw [hno]; rfl, x12.trans (hx.trans x3)⟩
            · have heq := ‹(!decide (low x = low y)) = false›
              refine ⟨⟨k + 1, by omega, by go_num, hx.trans x3, ?_⟩, by simp [intOf]; omega⟩
              refine take_succ_eq hall (by rw [rlow_length]; exact hkl) (by rw [rlow_length]; exact hk2) ?_
              rw [gA, gB]
              simpa using heq
          · have : k = ms.length := by omega
            subst this
            have hyes : underN a b = true := hu.2 (by rw [hall, ← rlow_length, List.take_length])
            repeat' (first | ((with_reducible refine o_s ?_); (first | (refine o_1 ?_; refine o_2 ?_) | (refine o_g ?_; first | refine o_u ?_ | refine o_k ?_ | refine o_n ?_ | refine o_v ?_ | ((first | refine o_G ?_ ?_ | refine o_N ?_ ?_) <;> intro hc)))) | ((fail_if_success (with_reducible refine o_s ?_)); go_step))
            go_ret
            exact ⟨by rw [hyes]; rfl, x12.trans hx⟩

theorem cmpL_take : ∀ (k : Nat) (a b : List (List UInt8)), a.take k = b.take k → k ≤ a.length → k ≤ b.length → cmpL a b = cmpL (a.drop k) (b.drop k)
  | 0, a, b, _, _, _ => by simp
  | k + 1, x :: a, y :: b, h, h1, h2 => by
    simp only [List.take_succ_cons, List.cons.injEq] at h
    obtain ⟨rfl, h⟩ := h
    have e : cmpB x x = 0 := tpo_cmpB.refl x
    rw [cmpL, e]
    simp only [ne_eq, not_true_eq_false, if_false, List.drop_succ_cons]
    exact cmpL_take k a b h (by simpa using h1) (by simpa using h2)
  | k + 1, [], _, _, h1, _ => by simp at h1
  | k + 1, _ :: _, [], _, _, h2 => by simp at h2
theorem cmpL_at {k : Nat} {a b : List (List UInt8)} (h : a.take k = b.take k) (ha : k < a.length) (hb : k < b.length) (hne : cmpB a[k] b[k] ≠ 0) : cmpL a b = cmpB a[k] b[k] := by
  rw [cmpL_take k a b h (by omega) (by omega), List.drop_eq_getElem_cons ha, List.drop_eq_getElem_cons hb, cmpL, if_pos hne]
theorem cmpL_end {k : Nat} {a b : List (List UInt8)} (h : a.take k = b.take k) (h1 : k ≤ a.length) (h2 : k ≤ b.length) (he : k = a.length ∨ k = b.length) : cmpL a b = if a.length < b.length then -1 else if b.length < a.length then 1 else 0 := by
  rw [cmpL_take k a b h h1 h2]
  rcases he with rfl | rfl
  · rw [List.drop_length]
    cases hd : b.drop a.length with
    | nil =>
      have := List.drop_eq_nil_iff.1 hd
      rw [cmpL, if_neg (by omega), if_neg (by omega)]
    | cons y l =>
      have : a.length < b.length := by
        rcases Nat.lt_or_ge a.length b.length with h | h
        · exact h
        · rw [List.drop_eq_nil_iff.2 h] at hd; cases hd
      rw [cmpL, if_pos this]
  · rw [List.drop_length]
    cases hd : a.drop b.length with
    | nil =>
      have := List.drop_eq_nil_iff.1 hd
      rw [cmpL, if_neg (by omega), if_neg (by omega)]
    | cons y l =>
      have : b.length < a.length := by
        rcases Nat.lt_or_ge b.length a.length with h | h
        · exact h
        · rw [List.drop_eq_nil_iff.2 h] at hd; cases hd
      rw [cmpL, if_neg (by omega), if_pos this]
set_option maxHeartbeats 24000000 in
theorem r1_Compare (a b : List UInt8) (w : World) : Calls Tryz.prog 194 #[str a, str b] w (RetV w (.int .i64 (cmpN a b))) := by
  go_enter Tryz.func194, Tryz.ntmps194
  repeat' (first | ((with_reducible refine o_s ?_); (first | (refine o_1 ?_; refine o_2 ?_) | (refine o_g ?_; first | refine o_u ?_ | refine o_k ?_ | refine o_n ?_ | refine o_v ?_ | ((first | refine o_G ?_ ?_ | refine o_N ?_ ?_) <;> intro hc)))) | ((fail_if_success (with_reducible refine o_s ?_)); go_step))
  refine wpl_callR (enters_of Tryz.func94 rfl rfl) rfl rfl (r1_cut a _) ?_
  intro v w1 x1 hv
  cases hl : labels a with
  | none =>
    rw [hl] at hv
    subst hv
    repeat' (first | ((with_reducible refine o_s ?_); (first | (refine o_1 ?_; refine o_2 ?_) | (refine o_g ?_; first | refine o_u ?_ | refine o_k ?_ | refine o_n ?_ | refine o_v ?_ | ((first | refine o_G ?_ ?_ | refine o_N ?_ ?_) <;> intro hc)))) | ((fail_if_success (with_reducible refine o_s ?_)); go_step))
    refine wpl_callR (enters_of Tryz.func94 rfl rfl) rfl rfl (r1_cut b _) ?_
    intro v2 w2 x2 hv2
    cases hm : labels b with
    | none =>
      rw [hm] at hv2
      subst hv2
      repeat' (first | ((with_reducible refine o_s ?_); (first | (refine o_1 ?_; refine o_2 ?_) | (refine o_g ?_; first | refine o_u ?_ | refine o_k ?_ | refine o_n ?_ | refine o_v ?_ | ((first | refine o_G ?_ ?_ | refine o_N ?_ ?_) <;> intro hc)))) | ((fail_if_success (with_reducible refine o_s ?_)); go_step))
      refine wpl_callV (enters_of Tryz.func222 rfl rfl) rfl rfl (r1_order a b _) ?_; intro w3 x3; refine gset ?_
      repeat' (first | ((with_reducible refine o_s ?_); (first | (refine o_1 ?_; refine o_2 ?_) | (refine o_g ?_; first | refine o_u ?_ | refine o_k ?_ | refine o_n ?_ | refine o_v ?_ | ((first | refine o_G ?_ ?_ | refine o_N ?_ ?_) <;> intro hc)))) | ((fail_if_success (with_reducible refine o_s ?_)); go_step))
      go_ret
      exact ⟨by simp [cmpN, turned_eq, hl, hm], (x1.trans x2).trans x3⟩
    | some ms =>
      rw [hm] at hv2
      obtain ⟨s2, rfl, o2⟩ := hv2
      repeat' (first | ((with_reducible refine o_s ?_); (first | (refine o_1 ?_; refine o_2 ?_) | (refine o_g ?_; first | refine o_u ?_ | refine o_k ?_ | refine o_n ?_ | refine o_v ?_ | ((first | refine o_G ?_ ?_ | refine o_N ?_ ?_) <;> intro hc)))) | ((fail_if_success (with_reducible refine o_s ?_)); go_step))
      go_ret
      exact ⟨by simp [cmpN, turned_eq, hl, hm], x1.trans x2⟩
  | some ls =>
    rw [hl] at hv
    obtain ⟨s1, rfl, o1⟩ := hv
    repeat' (first | ((with_reducible refine o_s ?_); (first | (refine o_1 ?_; refine o_2 ?_) | (refine o_g ?_; first | refine o_u ?_ | refine o_k ?_ | refine o_n ?_ | refine o_v ?_ | ((first | refine o_G ?_ ?_ | refine o_N ?_ ?_) <;> intro hc)))) | ((fail_if_success (with_reducible refine o_s ?_)); go_step))
    refine wpl_callR (enters_of Tryz.func94 rfl rfl) rfl rfl (r1_cut b _) ?_
    intro v2 w2 x2 hv2
    cases hm : labels b with
    | none =>
      rw [hm] at hv2
      subst hv2
      repeat' (first | ((with_reducible refine o_s ?_); (first | (refine o_1 ?_; refine o_2 ?_) | (refine o_g ?_; first | refine o_u ?_ | refine o_k ?_ | refine o_n ?_ | refine o_v ?_ | ((first | refine o_G ?_ ?_ | refine o_N ?_ ?_) <;> intro hc)))) | ((fail_if_success (with_reducible refine o_s ?_)); go_step))
      go_ret
      exact ⟨by simp [cmpN, turned_eq, hl, hm], x1.trans x2⟩
    | some ms =>
      rw [hm] at hv2
      obtain ⟨s2, rfl, o2⟩ := hv2
      have hu : cmpN a b = cmpL (rlow ls) (rlow ms) := by simp [cmpN, turned_eq, hm, hl, rlow]
      have hA := o1.sl.ext x2
      have hB := o2.sl
      have tl := tcells_length ls
      have tm := tcells_length ms
      have fl := labels_fit hl
      have fm := labels_fit hm
      have ll := len_le_enc ls
      have lm := len_le_enc ms
      rw [fl.2.1] at ll
      rw [fm.2.1] at lm
      have x12 := x1.trans x2
      have rl := rlow_length ls
      have rm := rlow_length ms
      repeat' (first | ((with_reducible refine o_s ?_); (first | (refine o_1 ?_; refine o_2 ?_) | (refine o_g ?_; first | refine o_u ?_ | refine o_k ?_ | refine o_n ?_ | refine o_v ?_ | ((first | refine o_G ?_ ?_ | refine o_N ?_ ?_) <;> intro hc)))) | ((fail_if_success (with_reducible refine o_s ?_)); go_step))
      go_loopw [9, 10] (fun i _ wr => ∃ k : Nat, k ≤ ls.length ∧ k ≤ ms.length ∧ i = .int .i64 k ∧ Ext w2 wr ∧ (rlow ls).take k = (rlow ms).take k) (fun i _ _ => ms.length - (intOf i).toNat)
      case atStart => exact ⟨0, Nat.zero_le _, Nat.zero_le _, rfl, Ext.refl _, rfl⟩
      case round =>
        obtain ⟨k, hk, hk2, rfl, hx, hall⟩ := hrel
        have hA := hA.ext hx
        have hB := hB.ext hx
        by_cases hin : k < ls.length ∧ k < ms.length
        · obtain ⟨hkl, hkm⟩ := hin
          have hpA := back_at hA hkl
          have hpB := back_at hB hkm
          have lA : (ls[ls.length - 1 - k]'(by omega)).length ≤ 254 := by have := mem_enc_le (List.getElem_mem (l := ls) (n := ls.length - 1 - k) (by omega)); rw [fl.2.1] at this; omega
          have lB : (ms[ms.length - 1 - k]'(by omega)).length ≤ 254 := by have := mem_enc_le (List.getElem_mem (l := ms) (n := ms.length - 1 - k) (by omega)); rw [fm.2.1] at this; omega
          have gA := rlow_get hkl
          have gB := rlow_get hkm
          generalize hx1 : ls[ls.length - 1 - k]'(by omega) = x at *
          generalize hy1 : ms[ms.length - 1 - k]'(by omega) = y at *
          repeat' (first | ((with_reducible refine o_s ?_); (first | (refine o_1 ?_; refine o_2 ?_) | (refine o_g ?_; first | refine o_u ?_ | refine o_k ?_ | refine o_n ?_ | refine o_v ?_ | ((first | refine o_G ?_ ?_ | refine o_N ?_ ?_) <;> intro hc)))) | ((fail_if_success (with_reducible refine o_s ?_)); go_step))
          refine wpq_region (by decide +kernel) (by decide +kernel) ?_
          repeat' (first | ((with_reducible refine q_s ?_); (first | (refine q_1 ?_; refine q_2 ?_) | (refine q_g ?_; first | refine q_u ?_ | refine q_k ?_ | refine q_v ?_))) | (with_reducible refine q_n ?_))
          refine wpq_call (enters_of Tryz.func95 rfl rfl) rfl rfl (fun w' _ => r1_Small x w' (by omega)) ?_
          refine gset ?_
          repeat' (first | ((with_reducible refine q_s ?_); (first | (refine q_1 ?_; refine q_2 ?_) | (refine q_g ?_; first | refine q_u ?_ | refine q_k ?_ | refine q_v ?_))) | (with_reducible refine q_n ?_))
          refine wpq_call (enters_of Tryz.func95 rfl rfl) rfl rfl (fun w' _ => r1_Small y w' (by omega)) ?_
          refine gset ?_
          repeat' (first | ((with_reducible refine q_s ?_); (first | (refine q_1 ?_; refine q_2 ?_) | (refine q_g ?_; first | refine q_u ?_ | refine q_k ?_ | refine q_v ?_))) | (with_reducible refine q_n ?_))
          refine wpq_call (enters_of Tryz.func222 rfl rfl) rfl rfl (fun w' _ => r1_order (low x) (low y) w') ?_
          refine gset ?_
          repeat' (first | ((with_reducible refine q_s ?_); (first | (refine q_1 ?_; refine q_2 ?_) | (refine q_g ?_; first | refine q_u ?_ | refine q_k ?_ | refine q_v ?_))) | (with_reducible refine q_n ?_))
          intro w3 x3
          repeat' (first | ((with_reducible refine o_s ?_); (first | (refine o_1 ?_; refine o_2 ?_) | (refine o_g ?_; first | refine o_u ?_ | refine o_k ?_ | refine o_n ?_ | refine o_v ?_ | ((first | refine o_G ?_ ?_ | refine o_N ?_ ?_) <;> intro hc)))) | ((fail_if_success (with_reducible refine o_s ?_)); go_step))
          · have hne := ‹(!decide (cmpB (low x) (low y) = 0)) = true›
            go_ret
            refine ⟨?_, x12.trans (hx.trans x3)⟩
            rw [hu, cmpL_at hall (by omega) (by omega) (by rw [gA, gB]; simpa using hne), gA, gB]
            rfl
          · have heq := ‹(!decide (cmpB (low x) (low y) = 0)) = false›
            refine ⟨⟨k + 1, by omega, by omega, by go_num, hx.trans x3, ?_⟩, by simp [intOf]; omega⟩
            refine take_succ_eq hall (by omega) (by omega) ?_
            rw [gA, gB]
            exact cmpB_zero (by simpa using heq)
        · have he : cmpN a b = if ls.length < ms.length then -1 else if ms.length < ls.length then 1 else 0 := by
            rw [hu, cmpL_end hall (by omega) (by omega) (by omega), rl, rm]
          repeat' (first | ((with_reducible refine o_s ?_); (first | (refine o_1 ?_; refine o_2 ?_) | (refine o_g ?_; first | refine o_u ?_ | refine o_k ?_ | refine o_n ?_ | refine o_v ?_ | ((first | refine o_G ?_ ?_ | refine o_N ?_ ?_) <;> intro hc)))) | ((fail_if_success (with_reducible refine o_s ?_)); go_step))
          all_goals
            go_ret
            refine ⟨?_, x12.trans hx⟩
            rw [he]
            first
              | (rw [if_pos (by omega)]; rfl)
              | (rw [if_neg (by omega), if_pos (by omega)]; rfl)
              | (rw [if_neg (by omega), if_neg (by omega)]; rfl)
theorem any_take {α : Type} {p : α → Bool} {l : List α} {k : Nat} (hk : k < l.length) (h : (l.take k).any p = false) (hp : p l[k] = false) : (l.take (k + 1)).any p = false := by
  rw [List.take_succ_eq_append_getElem hk, List.any_append, h]; simp [hp]
theorem any_at {α : Type} {p : α → Bool} {l : List α} {k : Nat} (hk : k < l.length) (hp : p l[k] = true) : l.any p = true :=
  List.any_eq_true.mpr ⟨_, List.getElem_mem hk, hp⟩
def labN (n : List UInt8) : Nat := ((labels n).getD []).length
def cutStep (o n : List UInt8) (b : List UInt8 × Bool) (s : RSet) : List UInt8 × Bool :=
  if s.kind = 2 ∧ s.name ≠ o ∧ underN n s.name = true ∧ (b.2 = false ∨ labN s.name < labN b.1) then (s.name, true) else b
def cutR (o : List UInt8) (l : List RSet) (n : List UInt8) : List UInt8 × Bool := l.foldl (cutStep o n) ([], false)
theorem cut_take {o n : List UInt8} {l : List RSet} {k : Nat} (hk : k < l.length) : cutR o (l.take (k + 1)) n = cutStep o n (cutR o (l.take k) n) l[k] := by
  rw [List.take_succ_eq_append_getElem hk, cutR, List.foldl_append]; rfl
set_option maxHeartbeats 3000000 in
theorem r8_cut (o : List UInt8) (v : Value) (l : List RSet) (n : List UInt8) (w : World) (hv : SetsAt w v l) : Calls Tryz.prog 175 #[.agg #[str o, v], str n] w (RetV w (.tuple #[str (cutR o l n).1, .bool (cutR o l n).2])) := by
  obtain ⟨cv, hv1, hvl⟩ := hv.sl
  have hle := hv1.le
  go_enter Tryz.func175, Tryz.ntmps175
  repeat' ((fail_if_success (with_reducible refine o_s ?_)); go_step)
  refine wpl_box (vs := [str o, v]) rfl rfl ?_
  intro p w1 x1 hp
  refine gset ?_
  repeat' (first | ((with_reducible refine o_s ?_); (first | (refine o_1 ?_; refine o_2 ?_) | (refine o_g ?_; first | refine o_u ?_ | refine o_k ?_ | refine o_n ?_ | refine o_v ?_ | ((first | refine o_G ?_ ?_ | refine o_N ?_ ?_) <;> intro hc)))) | ((fail_if_success (with_reducible refine o_s ?_)); go_step))
  go_loopw [6, 7, 8, 9] (fun b f i _ wr => ∃ k : Nat, k ≤ l.length ∧ i = .int .i64 k ∧ b = str (cutR o (l.take k) n).1 ∧ f = .bool (cutR o (l.take k) n).2 ∧ Ext w1 wr) (fun _ _ i _ _ => l.length - (intOf i).toNat)
  case atStart => exact ⟨0, Nat.zero_le _, rfl, rfl, rfl, Ext.refl _⟩
  case round =>
    obtain ⟨k, hk, rfl, rfl, rfl, hx⟩ := hrel
    have hxw : Ext w wr := x1.trans hx
    have hv2 := hv1.ext hxw
    have hp2 := hp.ext hx
    by_cases hlt : k < l.length
    · obtain ⟨x, h4, h4d⟩ := (hv.ext hxw).elem (List.getElem?_eq_getElem hlt)
      repeat' (first | ((with_reducible refine o_s ?_); (first | (refine o_1 ?_; refine o_2 ?_) | (refine o_g ?_; first | refine o_u ?_ | refine o_k ?_ | refine o_n ?_ | refine o_v ?_ | ((first | refine o_G ?_ ?_ | refine o_N ?_ ?_) <;> intro hc)))) | ((fail_if_success (with_reducible refine o_s ?_)); go_step))
      refine wpl_allocB (z := zset) rfl (by decide +kernel) ?_
      intro w2 x2 s2 h2
      refine gset ?_
      refine wpl_storeB (v := .agg #[str l[k].name, .int .i64 l[k].kind, .int .i64 l[k].ttl, x]) rfl rfl rfl h2 (show sizeTy Tryz.prog 55 4 = true by decide +kernel) rfl (all4 rfl rfl rfl (h4d.ext x2).one) ?_
      intro w3 p3
      have x3 : Ext wr w3 := x2.move p3.mv (by rintro k ⟨⟩; have := hxw.size; omega)
      have h3 : Pts w3 (.pointer (some ⟨wr.heap.size, 0, none⟩)) [str l[k].name, .int .i64 l[k].kind, .int .i64 l[k].ttl, x] := pts_block p3.this
      have hp3 := hp2.ext x3
      have hstep := cut_take (o := o) (n := n) hlt
      generalize hg : cutR o (l.take k) n = g at *
      obtain ⟨best, found⟩ := g
      have hsame : ¬ (l[k].kind = 2 ∧ l[k].name ≠ o ∧ underN n l[k].name = true ∧ (found = false ∨ labN l[k].name < labN best)) → cutR o (l.take (k + 1)) n = (best, found) := fun h => by
        rw [hstep, cutStep, if_neg h]
      have hnew : (l[k].kind = 2 ∧ l[k].name ≠ o ∧ underN n l[k].name = true ∧ (found = false ∨ labN l[k].name < labN best)) → cutR o (l.take (k + 1)) n = (l[k].name, true) := fun h => by
        rw [hstep, cutStep, if_pos h]
      repeat' (first | ((with_reducible refine o_s ?_); (first | (refine o_1 ?_; refine o_2 ?_) | (refine o_g ?_; first | refine o_u ?_ | refine o_k ?_ | refine o_n ?_ | refine o_v ?_ | ((first | refine o_G ?_ ?_ | refine o_N ?_ ?_) <;> intro hc)))) | ((fail_if_success (with_reducible refine o_s ?_)); go_step))
      · have hne : l[k].name ≠ o := by simpa using hc
        have hk2 : l[k].kind = 2 := by assumption
        refine wpl_callV (enters_of Tryz.func50 rfl rfl) rfl rfl (r1_Under _ _ _) ?_; intro w4 x4; refine gset ?_
        have hx4 := hx.trans (x3.trans x4)
        have h5 := h3.ext x4
        cases hu : underN n l[k].name with
        | false =>
          repeat' (first | ((with_reducible refine o_s ?_); (first | (refine o_1 ?_; refine o_2 ?_) | (refine o_g ?_; first | refine o_u ?_ | refine o_k ?_ | refine o_n ?_ | refine o_v ?_ | ((first | refine o_G ?_ ?_ | refine o_N ?_ ?_) <;> intro hc)))) | ((fail_if_success (with_reducible refine o_s ?_)); go_step))
          have h := hsame (fun h => absurd h.2.2.1 (by rw [hu]; decide))
          exact ⟨⟨k + 1, by omega, by go_num, by rw [h], by rw [h], hx4⟩, by simp [intOf]; omega⟩
        | true =>
          cases found with
          | false =>
            repeat' (first | ((with_reducible refine o_s ?_); (first | (refine o_1 ?_; refine o_2 ?_) | (refine o_g ?_; first | refine o_u ?_ | refine o_k ?_ | refine o_n ?_ | refine o_v ?_ | ((first | refine o_G ?_ ?_ | refine o_N ?_ ?_) <;> intro hc)))) | ((fail_if_success (with_reducible refine o_s ?_)); go_step))
            have h := hnew ⟨hk2, hne, hu, .inl rfl⟩
            exact ⟨⟨k + 1, by omega, by go_num, by rw [h], by rw [h], hx4⟩, by simp [intOf]; omega⟩
          | true =>
            repeat' (first | ((with_reducible refine o_s ?_); (first | (refine o_1 ?_; refine o_2 ?_) | (refine o_g ?_; first | refine o_u ?_ | refine o_k ?_ | refine o_n ?_ | refine o_v ?_ | ((first | refine o_G ?_ ?_ | refine o_N ?_ ?_) <;> intro hc)))) | ((fail_if_success (with_reducible refine o_s ?_)); go_step))
            refine wpl_callR (enters_of Tryz.func195 rfl rfl) rfl rfl (r1_Labels l[k].name _) ?_
            intro v5 w5 x5 o5
            have hl5 := tcells_length ((labels l[k].name).getD [])
            have hs5 := o5.sl
            have h6 := h5.ext x5
            refine gset ?_
            repeat' (first | ((with_reducible refine o_s ?_); (first | (refine o_1 ?_; refine o_2 ?_) | (refine o_g ?_; first | refine o_u ?_ | refine o_k ?_ | refine o_n ?_ | refine o_v ?_ | ((first | refine o_G ?_ ?_ | refine o_N ?_ ?_) <;> intro hc)))) | ((fail_if_success (with_reducible refine o_s ?_)); go_step))
            refine wpl_callR (enters_of Tryz.func195 rfl rfl) rfl rfl (r1_Labels best _) ?_
            intro v6 w6 x6 o6
            have hl6 := tcells_length ((labels best).getD [])
            have hs6 := o6.sl
            have h7 := h6.ext x6
            have hx7 := hx4.trans (x5.trans x6)
            refine gset ?_
            repeat' (first | ((with_reducible refine o_s ?_); (first | (refine o_1 ?_; refine o_2 ?_) | (refine o_g ?_; first | refine o_u ?_ | refine o_k ?_ | refine o_n ?_ | refine o_v ?_ | ((first | refine o_G ?_ ?_ | refine o_N ?_ ?_) <;> intro hc)))) | ((fail_if_success (with_reducible refine o_s ?_)); go_step))
            · rename_i hh
              have h := hnew ⟨hk2, hne, hu, .inr (by simp only [labN]; omega)⟩
              exact ⟨⟨k + 1, by omega, by go_num, by rw [h], by rw [h], hx7⟩, by simp [intOf]; omega⟩
            · rename_i hh
              have h := hsame (fun h => by have h8 := h.2.2.2; simp only [labN] at h8; rcases h8 with h8 | h8; cases h8; omega)
              exact ⟨⟨k + 1, by omega, by go_num, by rw [h], by rw [h], hx7⟩, by simp [intOf]; omega⟩
      · have h := hsame (fun h => by first | exact absurd h.1 hc | exact h.2.1 (by simpa using hc))
        exact ⟨⟨k + 1, by omega, by go_num, by rw [h], by rw [h], hx.trans x3⟩, by simp [intOf]; omega⟩
      · have h := hsame (fun h => by first | exact absurd h.1 hc | exact h.2.1 (by simpa using hc))
        exact ⟨⟨k + 1, by omega, by go_num, by rw [h], by rw [h], hx.trans x3⟩, by simp [intOf]; omega⟩
    · have : k = l.length := by omega
      subst this
      rw [List.take_length]
      repeat' (first | ((with_reducible refine o_s ?_); (first | (refine o_1 ?_; refine o_2 ?_) | (refine o_g ?_; first | refine o_u ?_ | refine o_k ?_ | refine o_n ?_ | refine o_v ?_ | ((first | refine o_G ?_ ?_ | refine o_N ?_ ?_) <;> intro hc)))) | ((fail_if_success (with_reducible refine o_s ?_)); go_step))
      go_ret2
      exact ⟨rfl, hxw⟩
theorem TPO.ltt {α : Type} {c : α → α → Int} (h : TPO c) {x y z : α} (h1 : c x y < 0) (h2 : c y z < 0) : c x z < 0 := by
  have h3 := h.tr x y z (by omega) (by omega)
  rcases Int.lt_or_eq_of_le h3 with h4 | h4
  · exact h4
  · exfalso
    have h5 := (h.eqL h4 (z := y)).1 (by omega)
    have h6 := h.anti y z
    omega
theorem check_ok {l : List RSet} (h : checkS l = 0) : ∀ i, i < l.length → badSet l i = false := by
  unfold checkS at h
  split at h
  · omega
  · split at h
    · rename_i h1
      intro i hi
      rw [List.all_eq_true] at h1
      have := h1 i (by simpa using hi)
      simpa using this
    · omega
theorem check_may {l : List RSet} (h : checkS l = 0) {i : Nat} (hi : i < l.length) : mayS l[i] = true := by
  have := check_ok h i hi
  rw [badSet, List.getElem?_eq_getElem hi] at this
  simp only [Bool.or_eq_false_iff, Bool.not_eq_false'] at this
  exact this.1
theorem check_lt {l : List RSet} (h : checkS l = 0) {i : Nat} (hi : i + 1 < l.length) : cmpSet l[i].name l[i + 1].name l[i].kind l[i + 1].kind < 0 := by
  have := check_ok h (i + 1) hi
  rw [badSet, List.getElem?_eq_getElem hi] at this
  simp only [Bool.or_eq_false_iff, Bool.and_eq_false_iff, decide_eq_false_iff_not] at this
  have h2 := this.2.resolve_left (by omega)
  have e : l.getD (i + 1 - 1) default = l[i] := by simp [show i < l.length by omega]
  rw [e] at h2
  omega
theorem check_sorted {l : List RSet} (h : checkS l = 0) (i : Nat) : ∀ j (hj : i < j) (hl : j < l.length), cmpSet l[i].name l[j].name l[i].kind l[j].kind < 0
  | 0, hj, _ => by omega
  | j + 1, hj, hl => by
    have h1 := check_lt h hl
    by_cases e : i = j
    · subst e; exact h1
    · have h2 := check_sorted h i j (by omega) (by omega)
      exact tpo_cmpSet.ltt (x := (l[i].name, l[i].kind)) (y := (l[j].name, l[j].kind)) (z := (l[j + 1].name, l[j + 1].kind)) h2 h1
theorem may_fold {s : RSet} (h : mayS s = true) : fold s.name = s.name := by
  simp only [mayS, Bool.and_eq_true, decide_eq_true_eq] at h
  exact h.1.1.1
theorem found_all {l : List RSet} (h : checkS l = 0) {i : Nat} (hi : i < l.length) : findS l l[i].name l[i].kind = some l[i] := by
  have hf := may_fold (check_may h hi)
  refine find_at hi ?_ (by simp [hit, hf])
  rw [List.find?_eq_none]
  intro x hx hh
  obtain ⟨j, hj, rfl⟩ := List.getElem_of_mem hx
  have hj' : j < i := by rw [List.length_take] at hj; omega
  rw [List.getElem_take] at hh
  simp only [hit, hf, Bool.and_eq_true, decide_eq_true_eq] at hh
  have h1 := check_sorted h j i hj' hi
  rw [hh.1, hh.2] at h1
  have h2 := tpo_cmpSet.refl (l[i].name, l[i].kind)
  simp only at h2
  omega
def isCut (o n : List UInt8) (s : RSet) : Bool := decide (s.kind = 2) && decide (s.name ≠ o) && underN n s.name
def cutP (o : List UInt8) (l : List RSet) (n : List UInt8) : List UInt8 × Bool := match l.find? (isCut o n) with
  | some s => (s.name, true)
  | none => ([], false)
theorem cutStep_no {o n : List UInt8} {b : List UInt8 × Bool} {s : RSet} (h : isCut o n s = false) : cutStep o n b s = b := by
  unfold cutStep
  rw [if_neg]
  rintro ⟨h1, h2, h3, _⟩
  simp [isCut, h1, h2, h3] at h
theorem cutStep_yes {o n : List UInt8} {m : List UInt8} {s : RSet} (h : isCut o n s = true) : cutStep o n (m, false) s = (s.name, true) := by
  simp only [isCut, Bool.and_eq_true, decide_eq_true_eq] at h
  unfold cutStep
  rw [if_pos ⟨h.1.1, h.1.2, h.2, .inl rfl⟩]
theorem cutStep_more {o n : List UInt8} {m : List UInt8} {s : RSet} (h : isCut o n s = true → labN m ≤ labN s.name) : cutStep o n (m, true) s = (m, true) := by
  cases hc : isCut o n s with
  | false => exact cutStep_no hc
  | true =>
    have := h hc
    unfold cutStep
    rw [if_neg]
    rintro ⟨_, _, _, h4⟩
    rcases h4 with h4 | h4
    · cases h4
    · simp only at h4; omega
theorem cut_stays {o n m : List UInt8} : ∀ {l : List RSet}, (∀ t ∈ l, isCut o n t = true → labN m ≤ labN t.name) → l.foldl (cutStep o n) (m, true) = (m, true)
  | [], _ => rfl
  | t :: l, h => by
    rw [List.foldl_cons, cutStep_more (h t (by simp)), cut_stays fun u hu => h u (by simp [hu])]
theorem cut_first {o n : List UInt8} : ∀ {l : List RSet}, l.Pairwise (fun s t => isCut o n s = true → isCut o n t = true → labN s.name ≤ labN t.name) → cutR o l n = cutP o l n
  | [], _ => rfl
  | t :: l, h => by
    obtain ⟨h1, h2⟩ := List.pairwise_cons.1 h
    unfold cutR cutP
    rw [List.foldl_cons, List.find?_cons]
    cases hc : isCut o n t with
    | true => simp only [cutStep_yes hc]; exact cut_stays fun u hu => h1 u hu hc
    | false => simp only [cutStep_no hc]; exact cut_first h2
theorem labN_turned {n : List UInt8} {a : List (List UInt8)} (h : turned n = some a) : labN n = a.length := by
  rw [turned_eq] at h
  cases hl : labels n with
  | none => rw [hl] at h; cases h
  | some ls =>
    rw [hl] at h
    cases h
    simp [labN, hl]
theorem under_turned {n t : List UInt8} (h : underN n t = true) : ∃ a b, turned n = some a ∧ turned t = some b ∧ a.take b.length = b := by
  unfold underN at h
  cases ha : turned n with
  | none => rw [ha] at h; cases h
  | some a =>
    cases hb : turned t with
    | none => rw [ha, hb] at h; cases h
    | some b =>
      rw [ha, hb] at h
      exact ⟨a, b, rfl, rfl, by simpa using h⟩
theorem under_iff {n t : List UInt8} {a b : List (List UInt8)} (ha : turned n = some a) (hb : turned t = some b) : underN n t = decide (a.take b.length = b) := by
  unfold underN; rw [ha, hb]
theorem take_len_le {α : Type} {a b : List α} (h : a.take b.length = b) : b.length ≤ a.length := by
  have := congrArg List.length h
  rw [List.length_take] at this
  omega
theorem cmp_prefix {a b c : List (List UInt8)} (hb : a.take b.length = b) (hc : a.take c.length = c) (h : cmpL b c ≤ 0) : b.length ≤ c.length := by
  have e : cmpL b c = if b.length < c.length then -1 else if c.length < b.length then 1 else 0 := by
    rcases Nat.le_total b.length c.length with hl | hl
    · refine cmpL_end (k := b.length) ?_ (Nat.le_refl _) hl (.inl rfl)
      rw [List.take_length, ← hc, List.take_take, Nat.min_eq_left hl, hb]
    · refine cmpL_end (k := c.length) ?_ hl (Nat.le_refl _) (.inr rfl)
      rw [List.take_length, ← hb, List.take_take, Nat.min_eq_left hl, hc]
  rw [e] at h
  split at h
  · omega
  · split at h <;> omega
theorem cmpSet_N {a b : List UInt8} {j k : Int} (h : cmpSet a b j k < 0) : cmpN a b ≤ 0 := by
  unfold cmpSet at h
  split at h <;> omega
theorem cut_eq {o : List UInt8} {l : List RSet} (h : checkS l = 0) (n : List UInt8) : cutR o l n = cutP o l n := by
  refine cut_first ?_
  rw [List.pairwise_iff_getElem]
  intro i j hi hj hij h1 h2
  have hc := cmpSet_N (check_sorted h i j hij hj)
  simp only [isCut, Bool.and_eq_true] at h1 h2
  obtain ⟨a, b, ha, hb, e1⟩ := under_turned h1.2
  obtain ⟨a', c, ha', hc', e2⟩ := under_turned h2.2
  rw [ha] at ha'
  cases ha'
  rw [labN_turned hb, labN_turned hc']
  refine cmp_prefix e1 e2 ?_
  unfold cmpN at hc
  rw [hb, hc'] at hc
  exact hc
def lastR (o : List UInt8) (l : List RSet) (s : RSet) : Bool :=
  !(cutR o l s.name).2 || decide (s.kind = 1) || decide (s.kind = 28) || (decide (s.kind = 2) && decide (s.name = (cutR o l s.name).1))
def clash (s t : RSet) : Bool := decide (t.name = s.name) && decide (t.kind ≠ 5)
def rightR (o : List UInt8) (l : List RSet) (s : RSet) : Bool :=
  underN s.name o && !(decide (s.kind = 6) && (decide (s.name ≠ o) || decide (s.data.length ≠ 1))) && !(decide (s.kind = 5) && (decide (s.data.length ≠ 1) || l.any (clash s))) && lastR o l s
set_option maxHeartbeats 3000000 in
theorem r8_right (o : List UInt8) (v : Value) (l : List RSet) (s : RSet) (u : Value) (w : World) (hv : SetsAt w v l) (hu : Sl 1 w u (tcells s.data)) : Calls Tryz.prog 139 #[.agg #[str o, v], .agg #[str s.name, .int .i64 s.kind, .int .i64 s.ttl, u]] w (RetV w (.bool (rightR o l s))) := by
  obtain ⟨cv, hv1, hvl⟩ := hv.sl
  have hle := hv1.le
  have hlen := tcells_length s.data
  go_enter Tryz.func139, Tryz.ntmps139
  repeat' ((fail_if_success (with_reducible refine o_s ?_)); go_step)
  refine wpl_box (vs := [str o, v]) rfl rfl ?_
  intro p w1 x1 hp
  refine gset ?_
  repeat' ((fail_if_success (with_reducible refine o_s ?_)); go_step)
  refine wpl_box (vs := [str s.name, .int .i64 s.kind, .int .i64 s.ttl, u]) rfl rfl ?_
  intro q w2 x2 hq
  refine gset ?_
  have hp2 := hp.ext x2
  have hx2 := x1.trans x2
  repeat' (first | ((with_reducible refine o_s ?_); (first | (refine o_1 ?_; refine o_2 ?_) | (refine o_g ?_; first | refine o_u ?_ | refine o_k ?_ | refine o_n ?_ | refine o_v ?_ | ((first | refine o_G ?_ ?_ | refine o_N ?_ ?_) <;> intro hc)))) | ((fail_if_success (with_reducible refine o_s ?_)); go_step))
  refine wpl_callV (enters_of Tryz.func50 rfl rfl) rfl rfl (r1_Under _ _ _) ?_; intro w3 x3; refine gset ?_
  have hp3 := hp2.ext x3
  have hq3 := hq.ext x3
  have hx3 := hx2.trans x3
  have hu3 := hu.ext hx3
  have hv3 := hv1.ext hx3
  have hs3 := hv.ext hx3
  cases hn : underN s.name o with
  | false =>
    repeat' (first | ((with_reducible refine o_s ?_); (first | (refine o_1 ?_; refine o_2 ?_) | (refine o_g ?_; first | refine o_u ?_ | refine o_k ?_ | refine o_n ?_ | refine o_v ?_ | ((first | refine o_G ?_ ?_ | refine o_N ?_ ?_) <;> intro hc)))) | ((fail_if_success (with_reducible refine o_s ?_)); go_step))
    go_ret
    exact ⟨by simp [rightR, hn], hx3⟩
  | true =>
    repeat' (first | ((with_reducible refine o_s ?_); (first | (refine o_1 ?_; refine o_2 ?_) | (refine o_g ?_; first | refine o_u ?_ | refine o_k ?_ | refine o_n ?_ | refine o_v ?_ | ((first | refine o_G ?_ ?_ | refine o_N ?_ ?_) <;> intro hc)))) | ((fail_if_success (with_reducible refine o_s ?_)); go_step))
    all_goals try (go_ret; exact ⟨by first | (simp_all [rightR]; done) | (simp_all [rightR]; intro h; omega), hx3⟩)
    · have hR : rightR o l s = lastR o l s := by
        have : decide (s.data.length ≠ 1) = false := by simp_all; omega
        simp_all [rightR]
      refine wpl_callV (enters_of Tryz.func175 rfl rfl) rfl rfl (r8_cut o v l s.name _ (hs3)) ?_; intro w4 x4; refine gset ?_
      generalize hcut : cutR o l s.name = g at *
      obtain ⟨c, is⟩ := g
      cases is with
      | false =>
        repeat' (first | ((with_reducible refine o_s ?_); (first | (refine o_1 ?_; refine o_2 ?_) | (refine o_g ?_; first | refine o_u ?_ | refine o_k ?_ | refine o_n ?_ | refine o_v ?_ | ((first | refine o_G ?_ ?_ | refine o_N ?_ ?_) <;> intro hc)))) | ((fail_if_success (with_reducible refine o_s ?_)); go_step))
        go_ret
        exact ⟨by rw [hR]; simp [lastR, hcut], (hx3).trans x4⟩
      | true =>
        have hq4 := (hq3).ext x4
        repeat' (first | ((with_reducible refine o_s ?_); (first | (refine o_1 ?_; refine o_2 ?_) | (refine o_g ?_; first | refine o_u ?_ | refine o_k ?_ | refine o_n ?_ | refine o_v ?_ | ((first | refine o_G ?_ ?_ | refine o_N ?_ ?_) <;> intro hc)))) | ((fail_if_success (with_reducible refine o_s ?_)); go_step))
        all_goals (go_ret; exact ⟨by rw [hR]; simp_all [lastR], hx3.trans x4⟩)
    · have h5 : s.kind = 5 := by assumption
      have hd1 : decide (s.data.length ≠ 1) = false := by simp_all; omega
      go_loopw [5] (fun i wr => ∃ k : Nat, k ≤ l.length ∧ i = .int .i64 k ∧ Ext w3 wr ∧ (l.take k).any (clash s) = false) (fun i _ => l.length - (intOf i).toNat)
      case atStart => exact ⟨0, Nat.zero_le _, rfl, Ext.refl _, rfl⟩
      case round =>
        obtain ⟨k, hk, rfl, hx, hall⟩ := hrel
        have hxw : Ext w wr := hx3.trans hx
        have hv4 := hv1.ext hxw
        have hp4 := hp3.ext hx
        have hq4 := hq3.ext hx
        by_cases hlt : k < l.length
        · obtain ⟨x, h4, h4d⟩ := (hv.ext hxw).elem (List.getElem?_eq_getElem hlt)
          repeat' (first | ((with_reducible refine o_s ?_); (first | (refine o_1 ?_; refine o_2 ?_) | (refine o_g ?_; first | refine o_u ?_ | refine o_k ?_ | refine o_n ?_ | refine o_v ?_ | ((first | refine o_G ?_ ?_ | refine o_N ?_ ?_) <;> intro hc)))) | ((fail_if_success (with_reducible refine o_s ?_)); go_step))
          refine wpq_region (by decide +kernel) (by decide +kernel) ?_
          repeat' (first | ((with_reducible refine q_s ?_); (first | (refine q_1 ?_; refine q_2 ?_) | (refine q_g ?_; first | refine q_u ?_ | refine q_k ?_ | refine q_v ?_))) | (with_reducible refine q_n ?_))
          by_cases q1 : l[k].name = s.name
          · rw [decide_eq_true q1]
            repeat' (first | ((with_reducible refine q_s ?_); (first | (refine q_1 ?_; refine q_2 ?_) | (refine q_g ?_; first | refine q_u ?_ | refine q_k ?_ | refine q_v ?_))) | (with_reducible refine q_n ?_))
            by_cases q2 : l[k].kind = 5
            · rw [decide_eq_true q2]
              repeat' (first | ((with_reducible refine q_s ?_); (first | (refine q_1 ?_; refine q_2 ?_) | (refine q_g ?_; first | refine q_u ?_ | refine q_k ?_ | refine q_v ?_))) | (with_reducible refine q_n ?_))
              intro w5 x5
              repeat' (first | ((with_reducible refine o_s ?_); (first | (refine o_1 ?_; refine o_2 ?_) | (refine o_g ?_; first | refine o_u ?_ | refine o_k ?_ | refine o_n ?_ | refine o_v ?_ | ((first | refine o_G ?_ ?_ | refine o_N ?_ ?_) <;> intro hc)))) | ((fail_if_success (with_reducible refine o_s ?_)); go_step))
              exact ⟨⟨k + 1, by omega, by go_num, hx.trans x5, any_take hlt hall (by simp [clash, q2])⟩, by simp [intOf]; omega⟩
            · rw [decide_eq_false q2]
              repeat' (first | ((with_reducible refine q_s ?_); (first | (refine q_1 ?_; refine q_2 ?_) | (refine q_g ?_; first | refine q_u ?_ | refine q_k ?_ | refine q_v ?_))) | (with_reducible refine q_n ?_))
              intro w5 x5
              repeat' (first | ((with_reducible refine o_s ?_); (first | (refine o_1 ?_; refine o_2 ?_) | (refine o_g ?_; first | refine o_u ?_ | refine o_k ?_ | refine o_n ?_ | refine o_v ?_ | ((first | refine o_G ?_ ?_ | refine o_N ?_ ?_) <;> intro hc)))) | ((fail_if_success (with_reducible refine o_s ?_)); go_step))
              have hcl : l.any (clash s) = true := any_at hlt (by simp [clash, q1, q2])
              go_ret
              exact ⟨by rw [show rightR o l s = false by simp [rightR, hcl, h5]]; rfl, hxw.trans x5⟩
          · rw [decide_eq_false q1]
            repeat' (first | ((with_reducible refine q_s ?_); (first | (refine q_1 ?_; refine q_2 ?_) | (refine q_g ?_; first | refine q_u ?_ | refine q_k ?_ | refine q_v ?_))) | (with_reducible refine q_n ?_))
            intro w5 x5
            repeat' (first | ((with_reducible refine o_s ?_); (first | (refine o_1 ?_; refine o_2 ?_) | (refine o_g ?_; first | refine o_u ?_ | refine o_k ?_ | refine o_n ?_ | refine o_v ?_ | ((first | refine o_G ?_ ?_ | refine o_N ?_ ?_) <;> intro hc)))) | ((fail_if_success (with_reducible refine o_s ?_)); go_step))
            exact ⟨⟨k + 1, by omega, by go_num, hx.trans x5, any_take hlt hall (by simp [clash, q1])⟩, by simp [intOf]; omega⟩
        · have : k = l.length := by omega
          subst this
          rw [List.take_length] at hall
          have hR : rightR o l s = lastR o l s := by simp_all [rightR]
          repeat' (first | ((with_reducible refine o_s ?_); (first | (refine o_1 ?_; refine o_2 ?_) | (refine o_g ?_; first | refine o_u ?_ | refine o_k ?_ | refine o_n ?_ | refine o_v ?_ | ((first | refine o_G ?_ ?_ | refine o_N ?_ ?_) <;> intro hc)))) | ((fail_if_success (with_reducible refine o_s ?_)); go_step))
          refine wpl_callV (enters_of Tryz.func175 rfl rfl) rfl rfl (r8_cut o v l s.name _ (hs3.ext hx)) ?_; intro w5 x5; refine gset ?_
          generalize hcut : cutR o l s.name = g at *
          obtain ⟨c, is⟩ := g
          cases is with
          | false =>
            repeat' (first | ((with_reducible refine o_s ?_); (first | (refine o_1 ?_; refine o_2 ?_) | (refine o_g ?_; first | refine o_u ?_ | refine o_k ?_ | refine o_n ?_ | refine o_v ?_ | ((first | refine o_G ?_ ?_ | refine o_N ?_ ?_) <;> intro hc)))) | ((fail_if_success (with_reducible refine o_s ?_)); go_step))
            go_ret
            exact ⟨by rw [hR]; simp [lastR, hcut], hxw.trans x5⟩
          | true =>
            have hq5 := hq4.ext x5
            repeat' (first | ((with_reducible refine o_s ?_); (first | (refine o_1 ?_; refine o_2 ?_) | (refine o_g ?_; first | refine o_u ?_ | refine o_k ?_ | refine o_n ?_ | refine o_v ?_ | ((first | refine o_G ?_ ?_ | refine o_N ?_ ?_) <;> intro hc)))) | ((fail_if_success (with_reducible refine o_s ?_)); go_step))
            all_goals (go_ret; exact ⟨by rw [hR]; simp_all [lastR], hxw.trans x5⟩)
    · have hR : rightR o l s = lastR o l s := by simp_all [rightR]
      refine wpl_callV (enters_of Tryz.func175 rfl rfl) rfl rfl (r8_cut o v l s.name _ (hs3)) ?_; intro w4 x4; refine gset ?_
      generalize hcut : cutR o l s.name = g at *
      obtain ⟨c, is⟩ := g
      cases is with
      | false =>
        repeat' (first | ((with_reducible refine o_s ?_); (first | (refine o_1 ?_; refine o_2 ?_) | (refine o_g ?_; first | refine o_u ?_ | refine o_k ?_ | refine o_n ?_ | refine o_v ?_ | ((first | refine o_G ?_ ?_ | refine o_N ?_ ?_) <;> intro hc)))) | ((fail_if_success (with_reducible refine o_s ?_)); go_step))
        go_ret
        exact ⟨by rw [hR]; simp [lastR, hcut], (hx3).trans x4⟩
      | true =>
        have hq4 := (hq3).ext x4
        repeat' (first | ((with_reducible refine o_s ?_); (first | (refine o_1 ?_; refine o_2 ?_) | (refine o_g ?_; first | refine o_u ?_ | refine o_k ?_ | refine o_n ?_ | refine o_v ?_ | ((first | refine o_G ?_ ?_ | refine o_N ?_ ?_) <;> intro hc)))) | ((fail_if_success (with_reducible refine o_s ?_)); go_step))
        all_goals (go_ret; exact ⟨by rw [hR]; simp_all [lastR], hx3.trans x4⟩)
theorem suf_concat (l : List UInt8) (a : UInt8) : Lib.hasSuffix (l ++ [a]) [0] = decide (a = 0) := by
  have h : Lib.hasSuffix (l ++ [a]) [0] = true ↔ a = 0 := by
    unfold Lib.hasSuffix
    rw [List.isSuffixOf_iff_suffix]
    constructor
    · rintro ⟨t, ht⟩
      have := congrArg List.reverse ht
      simp at this
      exact this.1.symm
    · rintro rfl; exact ⟨l, rfl⟩
  by_cases ha : a = 0
  · rw [h.2 ha, decide_eq_true ha]
  · cases hh : Lib.hasSuffix (l ++ [a]) [0] with
    | true => exact absurd (h.1 hh) ha
    | false => rw [decide_eq_false ha]
theorem hostN_nil : hostN [] = none := by simp [hostN, Lib.hasSuffix]
theorem hostN_concat (l : List UInt8) (a : UInt8) : hostN (l ++ [a]) = if a = 0 ∧ (labels l).isSome = true then some l else none := by
  have hs := suf_concat l a
  by_cases ha : a = 0
  · subst ha
    have ht : Lib.trimSuffix (l ++ [0]) [0] = l := by simp [Lib.trimSuffix, hs]
    simp [hostN, hs, ht]
  · simp [hostN, hs, ha]
theorem host_take {s n : List UInt8} (h : hostN s = some n) : n = s.take (s.length - 1) := by
  rcases List.eq_nil_or_concat s with rfl | ⟨l, a, rfl⟩
  · rw [hostN_nil] at h; cases h
  · rw [List.concat_eq_append, hostN_concat] at h
    split at h
    · cases h; simp
    · cases h
set_option maxHeartbeats 1000000 in
theorem r3_isHost (s : List UInt8) (w : World) (hl : s.length ≤ 4611686018427387904) : Calls Tryz.prog 182 #[str s] w (RetV w (.bool (hostN s).isSome)) := by
  rcases List.eq_nil_or_concat s with rfl | ⟨l, a, rfl⟩
  · rw [hostN_nil]
    go_enter Tryz.func182, Tryz.ntmps182
    repeat' (first | ((with_reducible refine o_s ?_); (first | (refine o_1 ?_; refine o_2 ?_) | (refine o_g ?_; first | refine o_u ?_ | refine o_k ?_ | refine o_n ?_ | refine o_v ?_ | ((first | refine o_G ?_ ?_ | refine o_N ?_ ?_) <;> intro hc)))) | ((fail_if_success (with_reducible refine o_s ?_)); go_step))
    go_ret
    exact ⟨rfl, Ext.refl _⟩
  · rw [List.concat_eq_append] at *
    have hlen : (l ++ [a]).length = l.length + 1 := by simp
    have hn : (((l ++ [a]).length : Int) - 1).toNat = l.length := by rw [hlen]; omega
    have e1 : (l ++ [a]).getD (((l ++ [a]).length : Int) - 1).toNat 0 = a := by rw [hn]; simp
    have e2 : (l ++ [a]).take (((l ++ [a]).length : Int) - 1).toNat = l := by rw [hn]; simp
    have hh : (hostN (l ++ [a])).isSome = (decide (a = 0) && (labels l).isSome) := by
      rw [hostN_concat]; by_cases h1 : a = 0 <;> cases h2 : (labels l).isSome <;> simp [h1]
    generalize l ++ [a] = s at *
    rw [hh]
    go_enter Tryz.func182, Tryz.ntmps182
    repeat' (first | ((with_reducible refine o_s ?_); (first | (refine o_1 ?_; refine o_2 ?_) | (refine o_g ?_; first | refine o_u ?_ | refine o_k ?_ | refine o_n ?_ | refine o_v ?_ | ((first | refine o_G ?_ ?_ | refine o_N ?_ ?_) <;> intro hc)))) | ((fail_if_success (with_reducible refine o_s ?_)); go_step))
    · have hz := ‹((s.getD ((s.length : Int) - 1).toNat 0).toNat : Int) = 0›
      rw [e1] at hz
      have ha : a = 0 := by apply UInt8.toNat_inj.1; simpa using hz
      rw [e2]
      refine wpl_callV (enters_of Tryz.func136 rfl rfl) rfl rfl (r1_Check l _) ?_; intro w1 x1; refine gset ?_
      cases hls : (labels l).isSome with
      | true =>
        repeat' (first | ((with_reducible refine o_s ?_); (first | (refine o_1 ?_; refine o_2 ?_) | (refine o_g ?_; first | refine o_u ?_ | refine o_k ?_ | refine o_n ?_ | refine o_v ?_ | ((first | refine o_G ?_ ?_ | refine o_N ?_ ?_) <;> intro hc)))) | ((fail_if_success (with_reducible refine o_s ?_)); go_step))
        go_ret
        exact ⟨by simp [ha, hls], x1⟩
      | false =>
        repeat' (first | ((with_reducible refine o_s ?_); (first | (refine o_1 ?_; refine o_2 ?_) | (refine o_g ?_; first | refine o_u ?_ | refine o_k ?_ | refine o_n ?_ | refine o_v ?_ | ((first | refine o_G ?_ ?_ | refine o_N ?_ ?_) <;> intro hc)))) | ((fail_if_success (with_reducible refine o_s ?_)); go_step))
        go_ret
        exact ⟨by simp [ha, hls], x1⟩
    · have hz := ‹¬((s.getD ((s.length : Int) - 1).toNat 0).toNat : Int) = 0›
      rw [e1] at hz
      have ha : ¬ a = 0 := by rintro rfl; simp at hz
      go_ret
      exact ⟨by simp [ha], Ext.refl _⟩
    · omega
theorem r3_ahead (k : Int) (w : World) : Calls Tryz.prog 217 #[.int .i64 k] w (RetV w (.int .i64 (ahead k))) := by
  go_enter Tryz.func217, Tryz.ntmps217
  repeat' (first | ((with_reducible refine o_s ?_); (first | (refine o_1 ?_; refine o_2 ?_) | (refine o_g ?_; first | refine o_u ?_ | refine o_k ?_ | refine o_n ?_ | refine o_v ?_ | ((first | refine o_G ?_ ?_ | refine o_N ?_ ?_) <;> intro hc)))) | ((fail_if_success (with_reducible refine o_s ?_)); go_step))
  all_goals
    go_ret
    exact ⟨by unfold ahead; simp_all, Ext.refl _⟩
theorem r3_Host (nm : List UInt8) (w : World) (hl : nm.length ≤ 9223372036854775806) : Calls Tryz.prog 183 #[str nm] w (RetV w (if (labels nm).isSome = true then .tuple #[str (nm ++ [0]), .int .i64 0] else .tuple #[str [], .int .i64 1])) := by
  go_enter Tryz.func183, Tryz.ntmps183
  repeat' (first | ((with_reducible refine o_s ?_); (first | (refine o_1 ?_; refine o_2 ?_) | (refine o_g ?_; first | refine o_u ?_ | refine o_k ?_ | refine o_n ?_ | refine o_v ?_ | ((first | refine o_G ?_ ?_ | refine o_N ?_ ?_) <;> intro hc)))) | ((fail_if_success (with_reducible refine o_s ?_)); go_step))
  refine wpl_callV (enters_of Tryz.func136 rfl rfl) rfl rfl (r1_Check nm _) ?_; intro w1 x1; refine gset ?_
  cases hls : (labels nm).isSome with
  | true =>
    simp only [↓reduceIte]
    repeat' (first | ((with_reducible refine o_s ?_); (first | (refine o_1 ?_; refine o_2 ?_) | (refine o_g ?_; first | refine o_u ?_ | refine o_k ?_ | refine o_n ?_ | refine o_v ?_ | ((first | refine o_G ?_ ?_ | refine o_N ?_ ?_) <;> intro hc)))) | ((fail_if_success (with_reducible refine o_s ?_)); go_step))
    go_ret2
    exact ⟨by rw [hls]; rfl, x1⟩
  | false =>
    simp only [↓reduceIte, Bool.false_eq_true]
    repeat' (first | ((with_reducible refine o_s ?_); (first | (refine o_1 ?_; refine o_2 ?_) | (refine o_g ?_; first | refine o_u ?_ | refine o_k ?_ | refine o_n ?_ | refine o_v ?_ | ((first | refine o_G ?_ ?_ | refine o_N ?_ ?_) <;> intro hc)))) | ((fail_if_success (with_reducible refine o_s ?_)); go_step))
    go_ret2
    exact ⟨by rw [hls]; rfl, x1⟩

def textsAt (s : List UInt8) (i : Nat) : Bool := if s.length < i then false else textsN (s.drop i)
theorem textsAt_step {s : List UInt8} {i : Nat} (h : i < s.length) : textsAt s i = textsAt s (i + 1 + (s.getD i 0).toNat) := by
  unfold textsAt
  rw [if_neg (by omega), drop_get h, textsN_cons, getD_get h, List.drop_drop]
  simp only [List.length_drop]
  by_cases hc : s.length - (i + 1) < s[i].toNat
  · rw [if_pos hc, if_pos (by omega)]
  · rw [if_neg hc, if_neg (by omega)]
set_option maxHeartbeats 1000000 in
theorem r3_texts (s : List UInt8) (w : World) (hl : s.length ≤ 4611686018427387904) : Calls Tryz.prog 216 #[str s] w (RetV w (.bool (textsB s))) := by
  go_enter Tryz.func216, Tryz.ntmps216
  repeat' (first | ((with_reducible refine o_s ?_); (first | (refine o_1 ?_; refine o_2 ?_) | (refine o_g ?_; first | refine o_u ?_ | refine o_k ?_ | refine o_n ?_ | refine o_v ?_ | ((first | refine o_G ?_ ?_ | refine o_N ?_ ?_) <;> intro hc)))) | ((fail_if_success (with_reducible refine o_s ?_)); go_step))
  go_loopw [3] (fun a wr => ∃ i : Nat, i ≤ s.length + 256 ∧ a = .int .i64 i ∧ Ext w wr ∧ textsN s = textsAt s i ∧ (s.length < i → i ≤ s.length + 256)) (fun a _ => s.length - (intOf a).toNat)
  case atStart => exact ⟨0, by omega, rfl, Ext.refl _, by simp [textsAt], by omega⟩
  case round =>
    obtain ⟨i, hi, rfl, hx, ht, _⟩ := hrel
    by_cases hlt : i < s.length
    · rw [textsAt_step hlt] at ht
      have hb : (s.getD i 0).toNat < 256 := UInt8.toNat_lt _
      repeat' (first | ((with_reducible refine o_s ?_); (first | (refine o_1 ?_; refine o_2 ?_) | (refine o_g ?_; first | refine o_u ?_ | refine o_k ?_ | refine o_n ?_ | refine o_v ?_ | ((first | refine o_G ?_ ?_ | refine o_N ?_ ?_) <;> intro hc)))) | ((fail_if_success (with_reducible refine o_s ?_)); go_step))
      exact ⟨⟨i + 1 + (s.getD i 0).toNat, by omega, by go_num, hx, ht, by omega⟩, by simp [intOf]; omega⟩
    · have hv : textsB s = (decide (s ≠ []) && decide (i = s.length)) := by
        unfold textsB
        rw [ht, textsAt]
        by_cases he : s.length < i
        · rw [if_pos he, decide_eq_false (show ¬ i = s.length by omega)]; simp
        · have : i = s.length := by omega
          subst this
          rw [if_neg he, List.drop_length]
          simp [textsN, textsF]
      repeat' (first | ((with_reducible refine o_s ?_); (first | (refine o_1 ?_; refine o_2 ?_) | (refine o_g ?_; first | refine o_u ?_ | refine o_k ?_ | refine o_n ?_ | refine o_v ?_ | ((first | refine o_G ?_ ?_ | refine o_N ?_ ?_) <;> intro hc)))) | ((fail_if_success (with_reducible refine o_s ?_)); go_step))
      · have h0 := ‹(!decide (s = [])) = true›
        go_ret
        exact ⟨by simp [hv] at h0 ⊢; simp [h0]; omega, hx⟩
      · have h0 := ‹(!decide (s = [])) = false›
        go_ret
        exact ⟨by simp [hv] at h0 ⊢; simp [h0], hx⟩

def numU (s : List UInt8) (k : Nat) : Nat := (s.take k).foldl (fun n c => 256 * n + c.toNat) 0
theorem numU_succ {s : List UInt8} {k : Nat} (h : k < s.length) : numU s (k + 1) = 256 * numU s k + (s.getD k 0).toNat := by
  rw [numU, List.take_add_one, List.getElem?_eq_getElem h, Option.toList_some, List.foldl_append, getD_get h]
  rfl
theorem numU_lt (s : List UInt8) : ∀ k, k ≤ s.length → numU s k < 256 ^ k
  | 0, _ => by simp [numU]
  | k + 1, h => by
    have h1 := numU_lt s k (by omega)
    have h2 : (s.getD k 0).toNat < 256 := UInt8.toNat_lt _
    rw [numU_succ (by omega), Nat.pow_succ]
    omega
set_option maxHeartbeats 1000000 in
theorem r3_Number (s : List UInt8) (w : World) (hl : s.length ≤ 4) : Calls Tryz.prog 152 #[str s] w (RetV w (.int .i64 (numU s s.length : Nat))) := by
  go_enter Tryz.func152, Tryz.ntmps152
  repeat' (first | ((with_reducible refine o_s ?_); (first | (refine o_1 ?_; refine o_2 ?_) | (refine o_g ?_; first | refine o_u ?_ | refine o_k ?_ | refine o_n ?_ | refine o_v ?_ | ((first | refine o_G ?_ ?_ | refine o_N ?_ ?_) <;> intro hc)))) | ((fail_if_success (with_reducible refine o_s ?_)); go_step))
  go_loopw [3, 4] (fun n i wr => ∃ k : Nat, k ≤ s.length ∧ i = .int .i64 k ∧ Ext w wr ∧ n = .int .i64 (numU s k : Nat)) (fun _ i _ => s.length - (intOf i).toNat)
  case atStart => exact ⟨0, by omega, rfl, Ext.refl _, rfl⟩
  case round =>
    obtain ⟨k, hk, rfl, hx, rfl⟩ := hrel
    by_cases hlt : k < s.length
    · have hb : (s.getD k 0).toNat < 256 := UInt8.toNat_lt _
      have hn : numU s k < 4294967296 := Nat.lt_of_lt_of_le (numU_lt s k hk) (by calc 256 ^ k ≤ 256 ^ 4 := Nat.pow_le_pow_right (by omega) (by omega)
                                                                                      _ = _ := by decide)
      repeat' (first | ((with_reducible refine o_s ?_); (first | (refine o_1 ?_; refine o_2 ?_) | (refine o_g ?_; first | refine o_u ?_ | refine o_k ?_ | refine o_n ?_ | refine o_v ?_ | ((first | refine o_G ?_ ?_ | refine o_N ?_ ?_) <;> intro hc)))) | ((fail_if_success (with_reducible refine o_s ?_)); go_step))
      refine ⟨⟨k + 1, by omega, by go_num, hx, ?_⟩, by simp [intOf]; omega⟩
      rw [numU_succ hlt]
      go_num
    · have : k = s.length := by omega
      subst this
      repeat' (first | ((with_reducible refine o_s ?_); (first | (refine o_1 ?_; refine o_2 ?_) | (refine o_g ?_; first | refine o_u ?_ | refine o_k ?_ | refine o_n ?_ | refine o_v ?_ | ((first | refine o_G ?_ ?_ | refine o_N ?_ ?_) <;> intro hc)))) | ((fail_if_success (with_reducible refine o_s ?_)); go_step))
      go_ret
      exact ⟨rfl, hx⟩
def wideP (n j : Nat) : List UInt8 := [if 4 ≤ j then UInt8.ofNat (n / 16777216) else 0, if 3 ≤ j then UInt8.ofNat (n / 65536) else 0, if 2 ≤ j then UInt8.ofNat (n / 256) else 0, if 1 ≤ j then UInt8.ofNat n else 0]
theorem wideP_zero (n : Nat) : bcells (wideP n 0) = List.replicate 4 [.int .u8 0] := by simp [wideP, bcells, List.replicate]
theorem wideP_four (n : Nat) : wideP n 4 = be4 n := by simp [wideP, be4]
theorem wideP_succ (n j : Nat) (h : j < 4) : (bcells (wideP n j)).set (3 - j) [.int .u8 ((UInt8.ofNat (n / 256 ^ j)).toNat : Nat)] = bcells (wideP n (j + 1)) := by
  have : j = 0 ∨ j = 1 ∨ j = 2 ∨ j = 3 := by omega
  rcases this with rfl | rfl | rfl | rfl <;> simp [wideP, bcells]
set_option maxHeartbeats 2000000 in
theorem r3_Wide (n : Nat) (w : World) (hn : n < 4294967296) : Calls Tryz.prog 184 #[.int .i64 (n : Nat), .int .i64 4] w (RetV w (str (be4 n))) := by
  go_enter Tryz.func184, Tryz.ntmps184
  repeat' (first | ((with_reducible refine o_s ?_); (first | (refine o_1 ?_; refine o_2 ?_) | (refine o_g ?_; first | refine o_u ?_ | refine o_k ?_ | refine o_n ?_ | refine o_v ?_ | ((first | refine o_G ?_ ?_ | refine o_N ?_ ?_) <;> intro hc)))) | ((fail_if_success (with_reducible refine o_s ?_)); go_step))
  refine wpl_makeZ (e := 5) (n := 4) (z := .int .u8 0) ?_ rfl rfl (by omega)
  intro v w1 x1 o1
  refine gset ?_
  repeat' (first | ((with_reducible refine o_s ?_); (first | (refine o_1 ?_; refine o_2 ?_) | (refine o_g ?_; first | refine o_u ?_ | refine o_k ?_ | refine o_n ?_ | refine o_v ?_ | ((first | refine o_G ?_ ?_ | refine o_N ?_ ?_) <;> intro hc)))) | ((fail_if_success (with_reducible refine o_s ?_)); go_step))
  rw [← wideP_zero n] at o1
  go_loopw [0, 6] (fun m i wr => ∃ j : Nat, j ≤ 4 ∧ i = .int .i64 (3 - (j : Int)) ∧ m = .int .i64 (n / 256 ^ j : Nat) ∧ Ext w wr ∧ Own w.heap.size 1 5 wr v (bcells (wideP n j))) (fun _ i _ => (intOf i + 1).toNat)
  case atStart => exact ⟨0, by omega, rfl, by simp, x1, o1⟩
  case round =>
    obtain ⟨j, hj, rfl, rfl, hx, ho⟩ := hrel
    have hsl := ho.sl
    have hle : n / 256 ^ j ≤ n := Nat.div_le_self _ _
    have hbl : (bcells (wideP n j)).length = 4 := by simp [bcells, wideP]
    by_cases hlt : j < 4
    · generalize hq : n / 256 ^ j = q at *
      repeat' (first | ((with_reducible refine o_s ?_); (first | (refine o_1 ?_; refine o_2 ?_) | (refine o_g ?_; first | refine o_u ?_ | refine o_k ?_ | refine o_n ?_ | refine o_v ?_ | ((first | refine o_G ?_ ?_ | refine o_N ?_ ?_) <;> intro hc)))) | ((fail_if_success (with_reducible refine o_s ?_)); go_step))
      refine wpl_run rfl (Runs.remN (n := 256) rfl rfl (by omega) (by omega)) ?_
      refine gset ?_
      repeat' (first | ((with_reducible refine o_s ?_); (first | (refine o_1 ?_; refine o_2 ?_) | (refine o_g ?_; first | refine o_u ?_ | refine o_k ?_ | refine o_n ?_ | refine o_v ?_ | ((first | refine o_G ?_ ?_ | refine o_N ?_ ?_) <;> intro hc)))) | ((fail_if_success (with_reducible refine o_s ?_)); go_step))
      refine wpl_storeE1 (c := .int .u8 _) (i := (3 - (j : Int)).toNat) rfl rfl rfl ho (by omega) (by decide +kernel) rfl ?_
      intro w2 o2 m2
      have hx2 := ho.mvx m2 hx (Nat.le_refl _)
      have e2 : (bcells (wideP n j)).set (3 - (j : Int)).toNat [Value.int .u8 (IntKind.wrap .u8 ((q % 256 : Nat) : Int))] = bcells (wideP n (j + 1)) := by
        rw [show (3 - (j : Int)).toNat = 3 - j by omega, wrapU, ← wideP_succ n j hlt, hq]
        congr 4
        simp
      rw [e2] at o2
      clear ho hsl
      repeat' (first | ((with_reducible refine o_s ?_); (first | (refine o_1 ?_; refine o_2 ?_) | (refine o_g ?_; first | refine o_u ?_ | refine o_k ?_ | refine o_n ?_ | refine o_v ?_ | ((first | refine o_G ?_ ?_ | refine o_N ?_ ?_) <;> intro hc)))) | ((fail_if_success (with_reducible refine o_s ?_)); go_step))
      refine wpl_run rfl (Runs.quoN (n := 256) rfl rfl (by omega) (by omega)) ?_
      refine gset ?_
      repeat' (first | ((with_reducible refine o_s ?_); (first | (refine o_1 ?_; refine o_2 ?_) | (refine o_g ?_; first | refine o_u ?_ | refine o_k ?_ | refine o_n ?_ | refine o_v ?_ | ((first | refine o_G ?_ ?_ | refine o_N ?_ ?_) <;> intro hc)))) | ((fail_if_success (with_reducible refine o_s ?_)); go_step))
      refine ⟨⟨j + 1, by omega, by go_num, ?_, hx2, o2⟩, by simp [intOf]; omega⟩
      rw [← hq, Nat.div_div_eq_div_mul, Nat.pow_succ]
    · have : j = 4 := by omega
      subst this
      rw [wideP_four] at hsl
      repeat' (first | ((with_reducible refine o_s ?_); (first | (refine o_1 ?_; refine o_2 ?_) | (refine o_g ?_; first | refine o_u ?_ | refine o_k ?_ | refine o_n ?_ | refine o_v ?_ | ((first | refine o_G ?_ ?_ | refine o_N ?_ ?_) <;> intro hc)))) | ((fail_if_success (with_reducible refine o_s ?_)); go_step))
      go_ret
      exact ⟨rfl, hx⟩

theorem walkN_at {s : List UInt8} {i : Nat} (h : i < s.length) : walkN (s.drop i) = if (s.getD i 0).toNat = 0 then 0 else 1 + (s.getD i 0).toNat + walkN (s.drop (i + 1 + (s.getD i 0).toNat)) := by
  rw [drop_get h, walkN_cons, getD_get h, List.drop_drop]
def firstR (s : List UInt8) : Nat := if s.length ≤ walkN s then 0 else if (hostN (s.take (walkN s + 1))).isSome = true then walkN s + 1 else 0
theorem firstR_firstN (s : List UInt8) : firstN s = if firstR s = 0 then (if s.length ≤ walkN s then ([], [], false) else ([], s.drop (walkN s + 1), false)) else (s.take (firstR s - 1), s.drop (firstR s), true) := by
  unfold firstR firstN
  by_cases h : s.length ≤ walkN s
  · simp [h]
  · simp only [h, if_false]
    cases hh : hostN (s.take (walkN s + 1)) with
    | none => simp
    | some n =>
      have := host_take hh
      simp only [Option.isSome_some, if_true, Option.getD_some]
      rw [if_neg (by omega), this]
      rw [List.length_take, List.take_take]
      congr 2
      omega
theorem firstR_le (s : List UInt8) : firstR s ≤ s.length := by
  unfold firstR; split
  · omega
  · split <;> omega
set_option maxHeartbeats 1000000 in
theorem r3_first (s : List UInt8) (w : World) (hl : s.length ≤ 4611686018427387904) : Calls Tryz.prog 151 #[str s] w (RetV w (.int .i64 (firstR s : Nat))) := by
  go_enter Tryz.func151, Tryz.ntmps151
  repeat' (first | ((with_reducible refine o_s ?_); (first | (refine o_1 ?_; refine o_2 ?_) | (refine o_g ?_; first | refine o_u ?_ | refine o_k ?_ | refine o_n ?_ | refine o_v ?_ | ((first | refine o_G ?_ ?_ | refine o_N ?_ ?_) <;> intro hc)))) | ((fail_if_success (with_reducible refine o_s ?_)); go_step))
  go_loopw [3] (fun a wr => ∃ i : Nat, a = .int .i64 i ∧ i ≤ s.length + 256 ∧ Ext w wr ∧ walkN s = i + walkN (s.drop i)) (fun a _ => s.length - (intOf a).toNat)
  case atStart => exact ⟨0, rfl, by omega, Ext.refl _, by simp⟩
  case round =>
    obtain ⟨i, rfl, hi, hx, hw⟩ := hrel
    by_cases hlt : i < s.length
    · rw [walkN_at hlt] at hw
      have hb : (s.getD i 0).toNat < 256 := UInt8.toNat_lt _
      by_cases hz : (s.getD i 0).toNat = 0
      · rw [if_pos hz] at hw
        repeat' (first | ((with_reducible refine o_s ?_); (first | (refine o_1 ?_; refine o_2 ?_) | (refine o_g ?_; first | refine o_u ?_ | refine o_k ?_ | refine o_n ?_ | refine o_v ?_ | ((first | refine o_G ?_ ?_ | refine o_N ?_ ?_) <;> intro hc)))) | ((fail_if_success (with_reducible refine o_s ?_)); go_step))
        refine wpl_callV (enters_of Tryz.func182 rfl rfl) rfl rfl (r3_isHost (s.take (i + 1)) _ (by simp; omega)) ?_; intro w2 x2; refine gset ?_
        cases hh : (hostN (s.take (i + 1))).isSome with
        | true =>
          repeat' (first | ((with_reducible refine o_s ?_); (first | (refine o_1 ?_; refine o_2 ?_) | (refine o_g ?_; first | refine o_u ?_ | refine o_k ?_ | refine o_n ?_ | refine o_v ?_ | ((first | refine o_G ?_ ?_ | refine o_N ?_ ?_) <;> intro hc)))) | ((fail_if_success (with_reducible refine o_s ?_)); go_step))
          go_ret
          exact ⟨by rw [firstR, hw, if_neg (by omega), Nat.add_zero, hh]; rfl, hx.trans x2⟩
        | false =>
          repeat' (first | ((with_reducible refine o_s ?_); (first | (refine o_1 ?_; refine o_2 ?_) | (refine o_g ?_; first | refine o_u ?_ | refine o_k ?_ | refine o_n ?_ | refine o_v ?_ | ((first | refine o_G ?_ ?_ | refine o_N ?_ ?_) <;> intro hc)))) | ((fail_if_success (with_reducible refine o_s ?_)); go_step))
          go_ret
          exact ⟨by rw [firstR, hw, if_neg (by omega), Nat.add_zero, hh]; rfl, hx.trans x2⟩
      · rw [if_neg hz] at hw
        repeat' (first | ((with_reducible refine o_s ?_); (first | (refine o_1 ?_; refine o_2 ?_) | (refine o_g ?_; first | refine o_u ?_ | refine o_k ?_ | refine o_n ?_ | refine o_v ?_ | ((first | refine o_G ?_ ?_ | refine o_N ?_ ?_) <;> intro hc)))) | ((fail_if_success (with_reducible refine o_s ?_)); go_step))
        exact ⟨⟨i + 1 + (s.getD i 0).toNat, by go_num, by omega, hx, by omega⟩, by simp [intOf]; omega⟩
    · repeat' (first | ((with_reducible refine o_s ?_); (first | (refine o_1 ?_; refine o_2 ?_) | (refine o_g ?_; first | refine o_u ?_ | refine o_k ?_ | refine o_n ?_ | refine o_v ?_ | ((first | refine o_G ?_ ?_ | refine o_N ?_ ?_) <;> intro hc)))) | ((fail_if_success (with_reducible refine o_s ?_)); go_step))
      go_ret
      exact ⟨by rw [firstR, if_pos (by omega)]; rfl, hx⟩
end Go.Proofs.X
