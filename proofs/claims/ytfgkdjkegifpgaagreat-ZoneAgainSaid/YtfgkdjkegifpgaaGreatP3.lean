/- Laws and walks that the proof of the statement is made of (part 3). -/
import Derived.Test.YtfgkdjkegifpgaaGreatProg
import Derived.Test.YtfgkdjkegifpgaaGreatShelf
import Derived.OwnWalk
import Derived.Test.YtfgkdjkegifpgaaGreatP1
import Derived.Test.YtfgkdjkegifpgaaGreatP2
set_option linter.unusedSimpArgs false
set_option linter.unusedVariables false
namespace Go.Proofs.X
open Go.RowKit
set_option maxRecDepth 100000
theorem enc_append (a b : List (List UInt8)) : enc (a ++ b) = enc a ++ enc b := by simp [enc]
theorem enc_one (x : List UInt8) : enc [x] = UInt8.ofNat x.length :: x := by simp [enc]
theorem join_bad {ls : List (List UInt8)} {x : List UInt8} (h : x ∈ ls) (hb : fitL x = false) : join ls = none := by
  rw [join, if_neg]
  rintro ⟨h1, _⟩
  have := List.all_eq_true.1 h1 x h
  rw [hb] at this
  cases this
theorem join_long {ls : List (List UInt8)} {k : Nat} (h : 254 < (enc (ls.take k)).length) : join ls = none := by
  rw [join, if_neg]
  rintro ⟨_, h2⟩
  have : enc ls = enc (ls.take k) ++ enc (ls.drop k) := by rw [← enc_append, List.take_append_drop]
  rw [this, List.length_append] at h2
  omega
theorem byteCells_append (a b : List UInt8) : Lib.byteCells (a ++ b) = Lib.byteCells a ++ Lib.byteCells b := by simp [Lib.byteCells]
theorem byteCells_len (a : List UInt8) : (Lib.byteCells a).length = a.length := by simp [Lib.byteCells]
set_option maxHeartbeats 1000000 in
/-- name.Join -/
theorem t30 (v : Value) (ls : List (List UInt8)) (w : World) (h : Sl 1 w v (tcells ls)) (hl : ls.length ≤ 9223372036854775806) : Calls Tryz.prog 85 #[v] w (RetV w (match join ls with | some n => .tuple #[str n, .int .i64 0] | none => .tuple #[str [], .int .i64 1])) := by
  go_enter Tryz.func85, Tryz.ntmps85
  repeat' ((fail_if_success (with_reducible refine o_s ?_)); go_step)
  repeat' (first | ((with_reducible refine o_s ?_); (first | (refine o_1 ?_; refine o_2 ?_) | (refine o_g ?_; first | refine o_u ?_ | refine o_k ?_ | refine o_n ?_ | refine o_v ?_ | ((first | refine o_G ?_ ?_ | refine o_N ?_ ?_) <;> intro hc)))) | ((fail_if_success (with_reducible refine o_s ?_)); go_step))
  refine wpl_allocB (z := [.pointer none, .slice none 0 0]) rfl (by decide +kernel) ?_
  intro w1 x1 s1 h1
  refine gset ?_
  have hb : Lib.IsBuilder 126 5 w.heap.size w.heap.size (Lib.byteCells []) w1 := .inl ⟨Nat.le_refl _, .slice none 0 0, h1, World.ownsRow_nil _ _ _ _, by simp [Value.ownBlock]⟩
  have hs := h.ext x1
  repeat' (first | ((with_reducible refine o_s ?_); (first | (refine o_1 ?_; refine o_2 ?_) | (refine o_g ?_; first | refine o_u ?_ | refine o_k ?_ | refine o_n ?_ | refine o_v ?_ | ((first | refine o_G ?_ ?_ | refine o_N ?_ ?_) <;> intro hc)))) | ((fail_if_success (with_reducible refine o_s ?_)); go_step))
  clear hs
  have hlt : (tcells ls).length = ls.length := by simp [tcells]
  rw [hlt]
  go_loopw [9] (fun i wr => ∃ k : Nat, k ≤ ls.length ∧ i = .int .i64 k ∧ Ext w wr ∧ Lib.IsBuilder 126 5 w.heap.size w.heap.size (Lib.byteCells (enc (ls.take k))) wr ∧ (ls.take k).all fitL = true ∧ (enc (ls.take k)).length ≤ 318) (fun i _ => ls.length - (intOf i).toNat)
  case atStart => exact ⟨0, Nat.zero_le _, rfl, x1, hb, rfl, by simp [enc]⟩
  case round =>
    obtain ⟨k, hk, rfl, hx, hbk, hall, h318⟩ := hrel
    have hsl := h.ext hx
    by_cases hlt : k < ls.length
    · have hp := hsl.elem (e := [str ls[k]]) (i := k) (by simp [tcells, hlt])
      have hmem : ls[k] ∈ ls := List.getElem_mem hlt
      repeat' (first | ((with_reducible refine o_s ?_); (first | (refine o_1 ?_; refine o_2 ?_) | (refine o_g ?_; first | refine o_u ?_ | refine o_k ?_ | refine o_n ?_ | refine o_v ?_ | ((first | refine o_G ?_ ?_ | refine o_N ?_ ?_) <;> intro hc)))) | ((fail_if_success (with_reducible refine o_s ?_)); go_step))
      · rename_i hc0 hc1 hc2
        refine wpl_callG (enters_of Tryz.func117 rfl rfl) rfl rfl (Tryz.Builder_Len _ _ _ _ hbk) ?_
        rintro e w2 ⟨rfl, rfl⟩
        refine ⟨_, rfl, ?_⟩
        refine gset ?_
        rw [byteCells_len]
        repeat' (first | ((with_reducible refine o_s ?_); (first | (refine o_1 ?_; refine o_2 ?_) | (refine o_g ?_; first | refine o_u ?_ | refine o_k ?_ | refine o_n ?_ | refine o_v ?_ | ((first | refine o_G ?_ ?_ | refine o_N ?_ ?_) <;> intro hc)))) | ((fail_if_success (with_reducible refine o_s ?_)); go_step))
        · rename_i hc3
          go_ret2
          refine ⟨?_, hx⟩
          rw [join_long (k := k) (by omega)]
          rfl
        · rename_i hc3
          have h63 : ls[k].length ≤ 63 := by omega
          have e8 : IntKind.wrap .u8 ((ls[k].length : Nat) : Int) = ((ls[k].length : Nat) : Int) := by simp [IntKind.wrap, IntKind.bits, IntKind.signed]; omega
          rw [e8]
          refine wpl_callG (enters_of Tryz.func118 rfl rfl) rfl rfl (T.Builder_WriteByte _ _ _ _ _ hbk (by rw [byteCells_len]; omega) hx.size) ?_
          rintro e w3 ⟨rfl, hb3, bl3, dr3⟩
          refine ⟨_, rfl, ?_⟩
          refine gset ?_
          repeat' (first | ((with_reducible refine o_s ?_); (first | (refine o_1 ?_; refine o_2 ?_) | (refine o_g ?_; first | refine o_u ?_ | refine o_k ?_ | refine o_n ?_ | refine o_v ?_ | ((first | refine o_G ?_ ?_ | refine o_N ?_ ?_) <;> intro hc)))) | ((fail_if_success (with_reducible refine o_s ?_)); go_step))
          refine wpl_callG (enters_of Tryz.func119 rfl rfl) rfl rfl (T.Builder_WriteString _ _ _ _ _ (.inr hb3) (by rw [List.length_append, byteCells_len, size_mk]; simp; omega) (Nat.le_trans hx.size bl3.size)) ?_
          rintro e w4 ⟨rfl, hb4, bl4, dr4⟩
          refine ⟨_, rfl, ?_⟩
          refine gset ?_
          have hx4 : Ext w w4 := hx.below' (bl3.trans bl4) (Nat.le_trans dr3 dr4)
          have hb5 : Lib.IsBuilder 126 5 w.heap.size w.heap.size (Lib.byteCells (enc (ls.take (k + 1)))) w4 := by
            rw [List.take_add_one, List.getElem?_eq_getElem hlt, Option.toList_some, enc_append, enc_one, byteCells_append]
            have e : Lib.byteCells (UInt8.ofNat ls[k].length :: ls[k]) = Value.int .u8 (ls[k].length : Nat) :: Lib.strCells ⟨ls[k].toArray⟩ := by
              have : (UInt8.ofNat ls[k].length).toNat = ls[k].length := by simp; omega
              simp [Lib.byteCells, Lib.strCells, this]
            rw [e]
            refine .inr ?_
            simpa using hb4
          have hall2 : (ls.take (k + 1)).all fitL = true := by
            rw [List.take_add_one, List.getElem?_eq_getElem hlt, Option.toList_some, List.all_append, hall]
            have : ls[k].length ≠ 0 := fun e => hc2 (List.eq_nil_of_length_eq_zero e)
            simp [fitL]; omega
          have h3182 : (enc (ls.take (k + 1))).length ≤ 318 := by
            rw [List.take_add_one, List.getElem?_eq_getElem hlt, Option.toList_some, enc_append, enc_one]
            simp; omega
          clear hbk hb3 hb4 bl3 bl4 hsl hp
          repeat' (first | ((with_reducible refine o_s ?_); (first | (refine o_1 ?_; refine o_2 ?_) | (refine o_g ?_; first | refine o_u ?_ | refine o_k ?_ | refine o_n ?_ | refine o_v ?_ | ((first | refine o_G ?_ ?_ | refine o_N ?_ ?_) <;> intro hc)))) | ((fail_if_success (with_reducible refine o_s ?_)); go_step))
          exact ⟨⟨k + 1, by omega, rfl, hx4, hb5, hall2, h3182⟩, by simp [intOf]; omega⟩
      · go_ret2
        refine ⟨?_, hx⟩
        rw [join_bad hmem (by simp [fitL]; omega)]
        rfl
      · go_ret2
        refine ⟨?_, hx⟩
        rw [join_bad hmem (by simp [fitL, hc])]
        rfl
    · have : k = ls.length := by omega
      subst this
      rw [List.take_length] at hbk hall h318
      repeat' (first | ((with_reducible refine o_s ?_); (first | (refine o_1 ?_; refine o_2 ?_) | (refine o_g ?_; first | refine o_u ?_ | refine o_k ?_ | refine o_n ?_ | refine o_v ?_ | ((first | refine o_G ?_ ?_ | refine o_N ?_ ?_) <;> intro hc)))) | ((fail_if_success (with_reducible refine o_s ?_)); go_step))
      refine wpl_callG (enters_of Tryz.func117 rfl rfl) rfl rfl (Tryz.Builder_Len _ _ _ _ hbk) ?_
      rintro e w2 ⟨rfl, rfl⟩
      refine ⟨_, rfl, ?_⟩
      refine gset ?_
      rw [byteCells_len]
      repeat' (first | ((with_reducible refine o_s ?_); (first | (refine o_1 ?_; refine o_2 ?_) | (refine o_g ?_; first | refine o_u ?_ | refine o_k ?_ | refine o_n ?_ | refine o_v ?_ | ((first | refine o_G ?_ ?_ | refine o_N ?_ ?_) <;> intro hc)))) | ((fail_if_success (with_reducible refine o_s ?_)); go_step))
      · go_ret2
        refine ⟨?_, hx⟩
        rw [join_long (k := ls.length) (by rw [List.take_length]; omega)]
        rfl
      · refine wpl_callG (enters_of Tryz.func120 rfl rfl) rfl rfl (T.Builder_String _ _ _ w _ hbk hx (Nat.le_refl _) (by omega)) ?_
        rintro e w3 ⟨rfl, x3⟩
        refine ⟨_, rfl, ?_⟩
        refine gset ?_
        repeat' (first | ((with_reducible refine o_s ?_); (first | (refine o_1 ?_; refine o_2 ?_) | (refine o_g ?_; first | refine o_u ?_ | refine o_k ?_ | refine o_n ?_ | refine o_v ?_ | ((first | refine o_G ?_ ?_ | refine o_N ?_ ?_) <;> intro hc)))) | ((fail_if_success (with_reducible refine o_s ?_)); go_step))
        go_ret2
        refine ⟨?_, x3⟩
        rw [join, if_pos ⟨hall, by omega⟩]
        rfl

end Go.Proofs.X
set_option linter.unusedSimpArgs false
set_option linter.unusedVariables false
namespace Go.Proofs.X
open Go.RowKit
set_option maxRecDepth 100000
theorem tcells_get (l : List (List UInt8)) (k : Nat) (b : List UInt8) (h : l[k]? = some b) : (tcells l)[k]? = some [str b] := by simp [tcells, h]
theorem tcells_set (l : List (List UInt8)) (k : Nat) (b : List UInt8) : (tcells l).set k [str b] = tcells (l.set k b) := by simp [tcells, List.map_set]
theorem tcells_length (l : List (List UInt8)) : (tcells l).length = l.length := by simp [tcells]
set_option maxHeartbeats 1000000 in
/-- name.Fold -/
theorem t17 (nm : List UInt8) (w : World) : Calls Tryz.prog 46 #[str nm] w (RetV w (str (fold nm))) := by
  go_enter Tryz.func46, Tryz.ntmps46
  repeat' (first | ((with_reducible refine o_s ?_); (first | (refine o_1 ?_; refine o_2 ?_) | (refine o_g ?_; first | refine o_u ?_ | refine o_k ?_ | refine o_n ?_ | refine o_v ?_ | ((first | refine o_G ?_ ?_ | refine o_N ?_ ?_) <;> intro hc)))) | ((fail_if_success (with_reducible refine o_s ?_)); go_step))
  refine wpl_callR (enters_of Tryz.func83 rfl rfl) rfl rfl (t28 nm _) ?_
  intro v w1 x1 hv
  cases hl : labels nm with
  | none =>
    rw [hl] at hv
    subst hv
    repeat' (first | ((with_reducible refine o_s ?_); (first | (refine o_1 ?_; refine o_2 ?_) | (refine o_g ?_; first | refine o_u ?_ | refine o_k ?_ | refine o_n ?_ | refine o_v ?_ | ((first | refine o_G ?_ ?_ | refine o_N ?_ ?_) <;> intro hc)))) | ((fail_if_success (with_reducible refine o_s ?_)); go_step))
    go_ret
    exact ⟨by simp [fold, hl], x1⟩
  | some ls =>
    rw [hl] at hv
    obtain ⟨s, rfl, hs⟩ := hv
    have hfit := labels_fit hl
    have hlen := len_le_enc ls
    rw [hfit.2.1] at hlen
    have hsl := hs.sl
    repeat' (first | ((with_reducible refine o_s ?_); (first | (refine o_1 ?_; refine o_2 ?_) | (refine o_g ?_; first | refine o_u ?_ | refine o_k ?_ | refine o_n ?_ | refine o_v ?_ | ((first | refine o_G ?_ ?_ | refine o_N ?_ ?_) <;> intro hc)))) | ((fail_if_success (with_reducible refine o_s ?_)); go_step))
    clear hsl
    rw [tcells_length]
    go_loopw [19] (fun i wr => ∃ k : Nat, k ≤ ls.length ∧ i = .int .i64 k ∧ Ext w wr ∧ Own w.heap.size 1 9 wr s (tcells (mapP low ls k))) (fun i _ => ls.length - (intOf i).toNat)
    case atStart => exact ⟨0, Nat.zero_le _, rfl, x1, by simpa [mapP_zero] using hs⟩
    case round =>
      obtain ⟨k, hk, rfl, hx, ho⟩ := hrel
      have hsl := ho.sl
      have hlen2 : (tcells (mapP low ls k)).length = ls.length := by rw [tcells_length, mapP_length]
      by_cases hlt : k < ls.length
      · have hp := hsl.elem (tcells_get _ _ _ (mapP_get low ls k hlt))
        have h254 : ls[k].length ≤ 254 := by have := mem_enc_le (List.getElem_mem hlt); rw [hfit.2.1] at this; omega
        repeat' (first | ((with_reducible refine o_s ?_); (first | (refine o_1 ?_; refine o_2 ?_) | (refine o_g ?_; first | refine o_u ?_ | refine o_k ?_ | refine o_n ?_ | refine o_v ?_ | ((first | refine o_G ?_ ?_ | refine o_N ?_ ?_) <;> intro hc)))) | ((fail_if_success (with_reducible refine o_s ?_)); go_step))
        refine wpl_callV (enters_of Tryz.func84 rfl rfl) rfl rfl (t29 _ _ h254) ?_
        intro w2 x2
        refine gset ?_
        have hsl := hsl.ext x2
        have ho := ho.ext x2
        have hx := hx.trans x2
        clear hp
        repeat' (first | ((with_reducible refine o_s ?_); (first | (refine o_1 ?_; refine o_2 ?_) | (refine o_g ?_; first | refine o_u ?_ | refine o_k ?_ | refine o_n ?_ | refine o_v ?_ | ((first | refine o_G ?_ ?_ | refine o_N ?_ ?_) <;> intro hc)))) | ((fail_if_success (with_reducible refine o_s ?_)); go_step))
        refine wpl_storeE1 (c := str (low ls[k])) (i := k) rfl rfl rfl ho (by omega) (by decide +kernel) rfl ?_
        intro w3 o3 m3
        have hx3 := ho.mvx m3 hx (Nat.le_refl _)
        rw [tcells_set, ← mapP_succ low ls k hlt] at o3
        clear hx ho hsl
        repeat' (first | ((with_reducible refine o_s ?_); (first | (refine o_1 ?_; refine o_2 ?_) | (refine o_g ?_; first | refine o_u ?_ | refine o_k ?_ | refine o_n ?_ | refine o_v ?_ | ((first | refine o_G ?_ ?_ | refine o_N ?_ ?_) <;> intro hc)))) | ((fail_if_success (with_reducible refine o_s ?_)); go_step))
        exact ⟨⟨k + 1, by omega, rfl, hx3, o3⟩, by simp [intOf]; omega⟩
      · have : k = ls.length := by omega
        subst this
        rw [mapP_all] at hsl
        repeat' (first | ((with_reducible refine o_s ?_); (first | (refine o_1 ?_; refine o_2 ?_) | (refine o_g ?_; first | refine o_u ?_ | refine o_k ?_ | refine o_n ?_ | refine o_v ?_ | ((first | refine o_G ?_ ?_ | refine o_N ?_ ?_) <;> intro hc)))) | ((fail_if_success (with_reducible refine o_s ?_)); go_step))
        refine wpl_callV (enters_of Tryz.func85 rfl rfl) rfl rfl (t30 _ _ _ hsl (by simp; omega)) ?_
        intro w2 x2
        refine gset ?_
        cases hj : join (ls.map low) with
        | none =>
          repeat' (first | ((with_reducible refine o_s ?_); (first | (refine o_1 ?_; refine o_2 ?_) | (refine o_g ?_; first | refine o_u ?_ | refine o_k ?_ | refine o_n ?_ | refine o_v ?_ | ((first | refine o_G ?_ ?_ | refine o_N ?_ ?_) <;> intro hc)))) | ((fail_if_success (with_reducible refine o_s ?_)); go_step))
          go_ret
          exact ⟨by simp [fold, hl, hj], hx.trans x2⟩
        | some n =>
          repeat' (first | ((with_reducible refine o_s ?_); (first | (refine o_1 ?_; refine o_2 ?_) | (refine o_g ?_; first | refine o_u ?_ | refine o_k ?_ | refine o_n ?_ | refine o_v ?_ | ((first | refine o_G ?_ ?_ | refine o_N ?_ ?_) <;> intro hc)))) | ((fail_if_success (with_reducible refine o_s ?_)); go_step))
          go_ret
          exact ⟨by simp [fold, hl, hj], hx.trans x2⟩

end Go.Proofs.X
set_option linter.unusedSimpArgs false
set_option linter.unusedVariables false
namespace Go.Proofs.X
open Go.RowKit
set_option maxRecDepth 100000
/-- slices.Reverse -/
theorem t84 {B : Nat} {v : Value} {ls : List (List UInt8)} {w : World} (h : Own B 1 9 w v (tcells ls)) : Calls Tryz.prog 149 #[v] w fun e w' => e = .returned (.tuple #[]) ∧ Own B 1 9 w' v (tcells ls.reverse) ∧ Mv v.ownBlock w w' := by
  rcases h.form with ⟨rfl, h0⟩ | ⟨g, cap, rfl, hg, hB, hc, hm⟩
  · have : ls = [] := by simpa [tcells] using h0
    subst this
    refine (Tryz.slices_Reverse_string_empty none 0 w).mono ?_
    rintro e w' ⟨rfl, rfl⟩
    exact ⟨rfl, h, Mv.refl _ _⟩
  · rw [tcells_length] at h hm ⊢
    refine (Tryz.slices_Reverse_string g 0 cap ls w (Own.holds h) hm).mono ?_
    rintro e w' ⟨rfl, n, rfl⟩
    have := Own.putRow (ys := ls.reverse) h (by simp) n #[]
    rw [Sort.grow_empty] at this
    exact ⟨rfl, this.1, this.2⟩
/-- slices.Sort -/
theorem t18 {B : Nat} {v : Value} {ls : List (List UInt8)} {w : World} (h : Own B 1 9 w v (tcells ls)) (hl : ls.length < 4611686018427387904) : Calls Tryz.prog 47 #[v] w fun e w' => e = .returned (.tuple #[]) ∧ Own B 1 9 w' v (tcells (ls.mergeSort fun x y => decide (x ≤ y))) ∧ Mv v.ownBlock w w' := by
  rcases h.form with ⟨rfl, h0⟩ | ⟨g, cap, rfl, hg, hB, hc, hm⟩
  · have : ls = [] := by simpa [tcells] using h0
    subst this
    refine (Tryz.slices_Sort_string_none none 0 w).mono ?_
    rintro e w' ⟨rfl, rfl⟩
    exact ⟨rfl, by simpa using h, Mv.refl _ _⟩
  · rw [tcells_length] at h hm ⊢
    refine (Tryz.slices_Sort_string g 0 cap ls w (Own.holds h) hg hl).mono ?_
    rintro e w' ⟨rfl, n, os, rfl⟩
    have := Own.putRow (ys := ls.mergeSort fun x y => decide (x ≤ y)) h (List.length_mergeSort _) n os
    exact ⟨rfl, this.1, this.2⟩
theorem compact_le (ls : List (List UInt8)) : (Lib.compact ls).length ≤ ls.length := by
  unfold Lib.compact Lib.compactUpTo
  rw [List.length_map]
  exact Nat.le_trans (List.length_filter_le _ _) (by simp)
/-- slices.Compact -/
theorem t19 {B : Nat} {v : Value} {ls : List (List UInt8)} {w : World} (h : Own B 1 9 w v (tcells ls)) : Calls Tryz.prog 48 #[v] w fun e w' => ∃ v', e = .returned v' ∧ Own B 1 9 w' v' (tcells (Lib.compact ls)) ∧ Mv v.ownBlock w w' ∧ v'.ownBlock = v.ownBlock := by
  rcases h.form with ⟨rfl, h0⟩ | ⟨g, cap, rfl, hg, hB, hc, hm⟩
  · have : ls = [] := by simpa [tcells] using h0
    subst this
    refine (Tryz.slices_Compact_string_empty none 0 w).mono ?_
    rintro e w' ⟨rfl, rfl⟩
    exact ⟨_, rfl, h, Mv.refl _ _, rfl⟩
  · rw [tcells_length] at h hm hc ⊢
    refine (Tryz.slices_Compact_string g 0 cap ls w (Own.holds h) hm hc).mono ?_
    rintro e w' ⟨rfl, n, rfl⟩
    have hle := compact_le ls
    have := Own.putRow (ys := Lib.compact ls ++ List.replicate (ls.length - (Lib.compact ls).length) []) h (by simp; omega) n #[]
    rw [Sort.grow_empty] at this
    refine ⟨_, rfl, ?_, this.2, rfl⟩
    have h2 := this.1.short (m := (Lib.compact ls).length) (by simp)
    rw [List.map_append, List.take_left' (by simp)] at h2
    exact h2
/-- turned -/
theorem t64 (nm : List UInt8) (w : World) : Calls Tryz.prog 112 #[str nm] w (Ret w fun v w' => match turned nm with
    | some ls => ∃ s, v = .tuple #[s, .bool true] ∧ Sl 1 w' s (tcells ls) ∧ ls.length ≤ 254
    | none => ∃ s, v = .tuple #[s, .bool false]) := by
  go_enter Tryz.func112, Tryz.ntmps112
  repeat' (first | ((with_reducible refine o_s ?_); (first | (refine o_1 ?_; refine o_2 ?_) | (refine o_g ?_; first | refine o_u ?_ | refine o_k ?_ | refine o_n ?_ | refine o_v ?_ | ((first | refine o_G ?_ ?_ | refine o_N ?_ ?_) <;> intro hc)))) | ((fail_if_success (with_reducible refine o_s ?_)); go_step))
  refine wpl_callV (enters_of Tryz.func46 rfl rfl) rfl rfl (t17 nm _) ?_
  intro w1 x1
  refine gset ?_
  refine wpl_callR (enters_of Tryz.func83 rfl rfl) rfl rfl (t28 _ _) ?_
  intro v w2 x2 hv
  cases hl : labels (fold nm) with
  | none =>
    rw [hl] at hv
    subst hv
    repeat' (first | ((with_reducible refine o_s ?_); (first | (refine o_1 ?_; refine o_2 ?_) | (refine o_g ?_; first | refine o_u ?_ | refine o_k ?_ | refine o_n ?_ | refine o_v ?_ | ((first | refine o_G ?_ ?_ | refine o_N ?_ ?_) <;> intro hc)))) | ((fail_if_success (with_reducible refine o_s ?_)); go_step))
    refine wpl_callG (enters_of Tryz.func149 rfl rfl) rfl rfl (t84 (ls := []) (Own.nil w2.heap.size 1 9 w2)) ?_
    rintro e w3 ⟨rfl, _, m3⟩
    refine ⟨_, rfl, ?_⟩
    repeat' (first | ((with_reducible refine o_s ?_); (first | (refine o_1 ?_; refine o_2 ?_) | (refine o_g ?_; first | refine o_u ?_ | refine o_k ?_ | refine o_n ?_ | refine o_v ?_ | ((first | refine o_G ?_ ?_ | refine o_N ?_ ?_) <;> intro hc)))) | ((fail_if_success (with_reducible refine o_s ?_)); go_step))
    go_ret2
    refine ⟨_, rfl, (x1.trans x2).move m3 (by rintro k ⟨⟩), ?_⟩
    simp [turned, hl]
  | some ls =>
    rw [hl] at hv
    obtain ⟨s, rfl, hs⟩ := hv
    repeat' (first | ((with_reducible refine o_s ?_); (first | (refine o_1 ?_; refine o_2 ?_) | (refine o_g ?_; first | refine o_u ?_ | refine o_k ?_ | refine o_n ?_ | refine o_v ?_ | ((first | refine o_G ?_ ?_ | refine o_N ?_ ?_) <;> intro hc)))) | ((fail_if_success (with_reducible refine o_s ?_)); go_step))
    refine wpl_callG (enters_of Tryz.func149 rfl rfl) rfl rfl (t84 hs) ?_
    rintro e w3 ⟨rfl, o3, m3⟩
    refine ⟨_, rfl, ?_⟩
    repeat' (first | ((with_reducible refine o_s ?_); (first | (refine o_1 ?_; refine o_2 ?_) | (refine o_g ?_; first | refine o_u ?_ | refine o_k ?_ | refine o_n ?_ | refine o_v ?_ | ((first | refine o_G ?_ ?_ | refine o_N ?_ ?_) <;> intro hc)))) | ((fail_if_success (with_reducible refine o_s ?_)); go_step))
    go_ret2
    refine ⟨_, rfl, hs.mvx m3 (x1.trans x2) x1.size, ?_⟩
    have := labels_fit hl
    simp only [turned, hl, Option.map_some]
    refine ⟨s, rfl, o3.sl, ?_⟩
    have h2 := len_le_enc ls
    rw [this.2.1] at h2
    simp; omega
theorem t85 (a : List UInt8) (w : World) : Calls Tryz.prog 162 #[str a] w (RetV w (.bool false)) := by
  go_enter Tryz.func162, Tryz.ntmps162
  repeat' (first | ((with_reducible refine o_s ?_); (first | (refine o_1 ?_; refine o_2 ?_) | (refine o_g ?_; first | refine o_u ?_ | refine o_k ?_ | refine o_n ?_ | refine o_v ?_ | ((first | refine o_G ?_ ?_ | refine o_N ?_ ?_) <;> intro hc)))) | ((fail_if_success (with_reducible refine o_s ?_)); go_step))
  go_ret
  exact ⟨by simp, Ext.refl _⟩
theorem t80 (a : List UInt8) (w : World) : Calls Tryz.prog 158 #[str a] w (RetV w (.bool false)) := by
  go_enter Tryz.func158, Tryz.ntmps158
  repeat' (first | ((with_reducible refine o_s ?_); (first | (refine o_1 ?_; refine o_2 ?_) | (refine o_g ?_; first | refine o_u ?_ | refine o_k ?_ | refine o_n ?_ | refine o_v ?_ | ((first | refine o_G ?_ ?_ | refine o_N ?_ ?_) <;> intro hc)))) | ((fail_if_success (with_reducible refine o_s ?_)); go_step))
  go_ret
  exact ⟨by simp, Ext.refl _⟩
/-- cmp.Compare -/
theorem t65 (a b : List UInt8) (w : World) : Calls Tryz.prog 140 #[str a, str b] w (RetV w (.int .i64 (cmpB a b))) := by
  go_enter Tryz.func140, Tryz.ntmps140
  repeat' (first | ((with_reducible refine o_s ?_); (first | (refine o_1 ?_; refine o_2 ?_) | (refine o_g ?_; first | refine o_u ?_ | refine o_k ?_ | refine o_n ?_ | refine o_v ?_ | ((first | refine o_G ?_ ?_ | refine o_N ?_ ?_) <;> intro hc)))) | ((fail_if_success (with_reducible refine o_s ?_)); go_step))
  refine wpl_callV (enters_of Tryz.func162 rfl rfl) rfl rfl (t85 _ _) ?_
  intro w1 x1
  repeat' (first | ((with_reducible refine o_s ?_); (first | (refine o_1 ?_; refine o_2 ?_) | (refine o_g ?_; first | refine o_u ?_ | refine o_k ?_ | refine o_n ?_ | refine o_v ?_ | ((first | refine o_G ?_ ?_ | refine o_N ?_ ?_) <;> intro hc)))) | ((fail_if_success (with_reducible refine o_s ?_)); go_step))
  refine wpl_callV (enters_of Tryz.func162 rfl rfl) rfl rfl (t85 _ _) ?_
  intro w2 x2
  repeat' (first | ((with_reducible refine o_s ?_); (first | (refine o_1 ?_; refine o_2 ?_) | (refine o_g ?_; first | refine o_u ?_ | refine o_k ?_ | refine o_n ?_ | refine o_v ?_ | ((first | refine o_G ?_ ?_ | refine o_N ?_ ?_) <;> intro hc)))) | ((fail_if_success (with_reducible refine o_s ?_)); go_step))
  · rename_i h
    go_ret
    exact ⟨by simp [cmpB, h], x1.trans x2⟩
  · have h := ‹Op.bytesLess a b = false›
    have h2 := ‹(!(Op.bytesLess a b || a == b)) = true›
    go_ret
    have h3 : a ≠ b := by intro e; subst e; simp at h2
    exact ⟨by simp [cmpB, h, h3], x1.trans x2⟩
  · have h := ‹Op.bytesLess a b = false›
    have h2 := ‹(!(Op.bytesLess a b || a == b)) = false›
    go_ret
    rw [h] at h2
    have h3 : a = b := by simpa using h2
    subst h3
    exact ⟨by simp [cmpB, h], x1.trans x2⟩
/-- cmp.Compare -/
theorem t86 (a b : List UInt8) (w : World) : Calls Tryz.prog 163 #[str a, str b] w (RetV w (.int .i64 (cmpB a b))) := by
  go_enter Tryz.func163, Tryz.ntmps163
  repeat' (first | ((with_reducible refine o_s ?_); (first | (refine o_1 ?_; refine o_2 ?_) | (refine o_g ?_; first | refine o_u ?_ | refine o_k ?_ | refine o_n ?_ | refine o_v ?_ | ((first | refine o_G ?_ ?_ | refine o_N ?_ ?_) <;> intro hc)))) | ((fail_if_success (with_reducible refine o_s ?_)); go_step))
  refine wpl_callV (enters_of Tryz.func158 rfl rfl) rfl rfl (t80 _ _) ?_
  intro w1 x1
  repeat' (first | ((with_reducible refine o_s ?_); (first | (refine o_1 ?_; refine o_2 ?_) | (refine o_g ?_; first | refine o_u ?_ | refine o_k ?_ | refine o_n ?_ | refine o_v ?_ | ((first | refine o_G ?_ ?_ | refine o_N ?_ ?_) <;> intro hc)))) | ((fail_if_success (with_reducible refine o_s ?_)); go_step))
  refine wpl_callV (enters_of Tryz.func158 rfl rfl) rfl rfl (t80 _ _) ?_
  intro w2 x2
  repeat' (first | ((with_reducible refine o_s ?_); (first | (refine o_1 ?_; refine o_2 ?_) | (refine o_g ?_; first | refine o_u ?_ | refine o_k ?_ | refine o_n ?_ | refine o_v ?_ | ((first | refine o_G ?_ ?_ | refine o_N ?_ ?_) <;> intro hc)))) | ((fail_if_success (with_reducible refine o_s ?_)); go_step))
  · rename_i h
    go_ret
    exact ⟨by simp [cmpB, h], x1.trans x2⟩
  · have h := ‹Op.bytesLess a b = false›
    have h2 := ‹(!(Op.bytesLess a b || a == b)) = true›
    go_ret
    have h3 : a ≠ b := by intro e; subst e; simp at h2
    exact ⟨by simp [cmpB, h, h3], x1.trans x2⟩
  · have h := ‹Op.bytesLess a b = false›
    have h2 := ‹(!(Op.bytesLess a b || a == b)) = false›
    go_ret
    rw [h] at h2
    have h3 : a = b := by simpa using h2
    subst h3
    exact ⟨by simp [cmpB, h], x1.trans x2⟩
theorem tcells_at {l : List (List UInt8)} {k : Nat} (h : k < l.length) : (tcells l)[k]? = some [str l[k]] := tcells_get l k _ (List.getElem?_eq_getElem h)
/-- slices.Compare -/
theorem t66 (u v : Value) (xs ys : List (List UInt8)) (w : World) (hu : Sl 1 w u (tcells xs)) (hv : Sl 1 w v (tcells ys)) : Calls Tryz.prog 141 #[u, v] w (RetV w (.int .i64 (cmpL xs ys))) := by
  have hxl := hu.le
  have hyl := hv.le
  have hxe := tcells_length xs
  have hye := tcells_length ys
  go_enter Tryz.func141, Tryz.ntmps141
  repeat' (first | ((with_reducible refine o_s ?_); (first | (refine o_1 ?_; refine o_2 ?_) | (refine o_g ?_; first | refine o_u ?_ | refine o_k ?_ | refine o_n ?_ | refine o_v ?_ | ((first | refine o_G ?_ ?_ | refine o_N ?_ ?_) <;> intro hc)))) | ((fail_if_success (with_reducible refine o_s ?_)); go_step))
  rw [hxe]
  go_loopw [11] (fun i wr => ∃ k : Nat, k ≤ xs.length ∧ k ≤ ys.length ∧ i = .int .i64 k ∧ Ext w wr ∧ cmpL xs ys = cmpL (xs.drop k) (ys.drop k)) (fun i _ => xs.length - (intOf i).toNat)
  case atStart => exact ⟨0, Nat.zero_le _, Nat.zero_le _, rfl, Ext.refl _, rfl⟩
  case round =>
    obtain ⟨k, hk, hk2, rfl, hx, hrec⟩ := hrel
    have hul := hu.ext hx
    have hvl := hv.ext hx
    by_cases hlt : k < xs.length
    · have hp := hul.elem (tcells_at hlt)
      have hd := List.drop_eq_getElem_cons hlt
      by_cases hlt2 : k < ys.length
      · have hp2 := hvl.elem (tcells_at hlt2)
        have hd2 := List.drop_eq_getElem_cons hlt2
        repeat' (first | ((with_reducible refine o_s ?_); (first | (refine o_1 ?_; refine o_2 ?_) | (refine o_g ?_; first | refine o_u ?_ | refine o_k ?_ | refine o_n ?_ | refine o_v ?_ | ((first | refine o_G ?_ ?_ | refine o_N ?_ ?_) <;> intro hc)))) | ((fail_if_success (with_reducible refine o_s ?_)); go_step))
        refine wpl_callV (enters_of Tryz.func163 rfl rfl) rfl rfl (t86 _ _ _) ?_
        intro w2 x2
        have hx2 := hx.trans x2
        clear hx hul hvl hp hp2
        repeat' (first | ((with_reducible refine o_s ?_); (first | (refine o_1 ?_; refine o_2 ?_) | (refine o_g ?_; first | refine o_u ?_ | refine o_k ?_ | refine o_n ?_ | refine o_v ?_ | ((first | refine o_G ?_ ?_ | refine o_N ?_ ?_) <;> intro hc)))) | ((fail_if_success (with_reducible refine o_s ?_)); go_step))
        · rename_i hc
          go_ret
          refine ⟨?_, hx2⟩
          rw [hrec, hd, hd2, cmpL, if_pos (by simpa using hc)]
          rfl
        · rename_i hc
          refine ⟨⟨k + 1, by omega, by omega, rfl, hx2, ?_⟩, by simp [intOf]; omega⟩
          rw [hrec, hd, hd2, cmpL, if_neg (by simpa using hc)]
      · have : k = ys.length := by omega
        subst this
        repeat' (first | ((with_reducible refine o_s ?_); (first | (refine o_1 ?_; refine o_2 ?_) | (refine o_g ?_; first | refine o_u ?_ | refine o_k ?_ | refine o_n ?_ | refine o_v ?_ | ((first | refine o_G ?_ ?_ | refine o_N ?_ ?_) <;> intro hc)))) | ((fail_if_success (with_reducible refine o_s ?_)); go_step))
        go_ret
        refine ⟨?_, hx⟩
        rw [hrec, hd, List.drop_length, cmpL]
        rfl
    · have : k = xs.length := by omega
      subst this
      repeat' (first | ((with_reducible refine o_s ?_); (first | (refine o_1 ?_; refine o_2 ?_) | (refine o_g ?_; first | refine o_u ?_ | refine o_k ?_ | refine o_n ?_ | refine o_v ?_ | ((first | refine o_G ?_ ?_ | refine o_N ?_ ?_) <;> intro hc)))) | ((fail_if_success (with_reducible refine o_s ?_)); go_step))
      · rename_i hc
        go_ret
        refine ⟨?_, hx⟩
        have hlt2 : xs.length < ys.length := by rw [hxe, hye] at hc; omega
        rw [hrec, List.drop_length, List.drop_eq_getElem_cons hlt2, cmpL]
        rfl
      · rename_i hc
        go_ret
        refine ⟨?_, hx⟩
        have hlt2 : xs.length = ys.length := by rw [hxe, hye] at hc; omega
        rw [hrec, List.drop_length, hlt2, List.drop_length, cmpL]
        rfl
/-- name.Compare -/
theorem t35 (a b : List UInt8) (w : World) : Calls Tryz.prog 90 #[str a, str b] w (RetV w (.int .i64 (cmpN a b))) := by
  go_enter Tryz.func90, Tryz.ntmps90
  repeat' (first | ((with_reducible refine o_s ?_); (first | (refine o_1 ?_; refine o_2 ?_) | (refine o_g ?_; first | refine o_u ?_ | refine o_k ?_ | refine o_n ?_ | refine o_v ?_ | ((first | refine o_G ?_ ?_ | refine o_N ?_ ?_) <;> intro hc)))) | ((fail_if_success (with_reducible refine o_s ?_)); go_step))
  refine wpl_callR (enters_of Tryz.func112 rfl rfl) rfl rfl (t64 a _) ?_
  intro v w1 x1 hv
  cases ha : turned a with
  | none =>
    rw [ha] at hv
    obtain ⟨s, rfl⟩ := hv
    repeat' (first | ((with_reducible refine o_s ?_); (first | (refine o_1 ?_; refine o_2 ?_) | (refine o_g ?_; first | refine o_u ?_ | refine o_k ?_ | refine o_n ?_ | refine o_v ?_ | ((first | refine o_G ?_ ?_ | refine o_N ?_ ?_) <;> intro hc)))) | ((fail_if_success (with_reducible refine o_s ?_)); go_step))
    refine wpl_callR (enters_of Tryz.func112 rfl rfl) rfl rfl (t64 b _) ?_
    intro v w2 x2 hv
    cases hb : turned b with
    | none =>
      rw [hb] at hv
      obtain ⟨s2, rfl⟩ := hv
      repeat' (first | ((with_reducible refine o_s ?_); (first | (refine o_1 ?_; refine o_2 ?_) | (refine o_g ?_; first | refine o_u ?_ | refine o_k ?_ | refine o_n ?_ | refine o_v ?_ | ((first | refine o_G ?_ ?_ | refine o_N ?_ ?_) <;> intro hc)))) | ((fail_if_success (with_reducible refine o_s ?_)); go_step))
      refine wpl_callV (enters_of Tryz.func140 rfl rfl) rfl rfl (t65 _ _ _) ?_
      intro w3 x3
      repeat' (first | ((with_reducible refine o_s ?_); (first | (refine o_1 ?_; refine o_2 ?_) | (refine o_g ?_; first | refine o_u ?_ | refine o_k ?_ | refine o_n ?_ | refine o_v ?_ | ((first | refine o_G ?_ ?_ | refine o_N ?_ ?_) <;> intro hc)))) | ((fail_if_success (with_reducible refine o_s ?_)); go_step))
      go_ret
      exact ⟨by simp [cmpN, ha, hb], (x1.trans x2).trans x3⟩
    | some ys =>
      rw [hb] at hv
      obtain ⟨s2, rfl, hs2, _⟩ := hv
      repeat' (first | ((with_reducible refine o_s ?_); (first | (refine o_1 ?_; refine o_2 ?_) | (refine o_g ?_; first | refine o_u ?_ | refine o_k ?_ | refine o_n ?_ | refine o_v ?_ | ((first | refine o_G ?_ ?_ | refine o_N ?_ ?_) <;> intro hc)))) | ((fail_if_success (with_reducible refine o_s ?_)); go_step))
      go_ret
      exact ⟨by simp [cmpN, ha, hb], x1.trans x2⟩
  | some xs =>
    rw [ha] at hv
    obtain ⟨s, rfl, hs, _⟩ := hv
    repeat' (first | ((with_reducible refine o_s ?_); (first | (refine o_1 ?_; refine o_2 ?_) | (refine o_g ?_; first | refine o_u ?_ | refine o_k ?_ | refine o_n ?_ | refine o_v ?_ | ((first | refine o_G ?_ ?_ | refine o_N ?_ ?_) <;> intro hc)))) | ((fail_if_success (with_reducible refine o_s ?_)); go_step))
    refine wpl_callR (enters_of Tryz.func112 rfl rfl) rfl rfl (t64 b _) ?_
    intro v w2 x2 hv
    cases hb : turned b with
    | none =>
      rw [hb] at hv
      obtain ⟨s2, rfl⟩ := hv
      repeat' (first | ((with_reducible refine o_s ?_); (first | (refine o_1 ?_; refine o_2 ?_) | (refine o_g ?_; first | refine o_u ?_ | refine o_k ?_ | refine o_n ?_ | refine o_v ?_ | ((first | refine o_G ?_ ?_ | refine o_N ?_ ?_) <;> intro hc)))) | ((fail_if_success (with_reducible refine o_s ?_)); go_step))
      go_ret
      exact ⟨by simp [cmpN, ha, hb], x1.trans x2⟩
    | some ys =>
      rw [hb] at hv
      obtain ⟨s2, rfl, hs2, _⟩ := hv
      have hs := hs.ext x2
      repeat' (first | ((with_reducible refine o_s ?_); (first | (refine o_1 ?_; refine o_2 ?_) | (refine o_g ?_; first | refine o_u ?_ | refine o_k ?_ | refine o_n ?_ | refine o_v ?_ | ((first | refine o_G ?_ ?_ | refine o_N ?_ ?_) <;> intro hc)))) | ((fail_if_success (with_reducible refine o_s ?_)); go_step))
      refine wpl_callV (enters_of Tryz.func141 rfl rfl) rfl rfl (t66 _ _ _ _ _ hs hs2) ?_
      intro w3 x3
      repeat' (first | ((with_reducible refine o_s ?_); (first | (refine o_1 ?_; refine o_2 ?_) | (refine o_g ?_; first | refine o_u ?_ | refine o_k ?_ | refine o_n ?_ | refine o_v ?_ | ((first | refine o_G ?_ ?_ | refine o_N ?_ ?_) <;> intro hc)))) | ((fail_if_success (with_reducible refine o_s ?_)); go_step))
      go_ret
      exact ⟨by simp [cmpN, ha, hb], (x1.trans x2).trans x3⟩

end Go.Proofs.X
set_option linter.unusedSimpArgs false
set_option linter.unusedVariables false
namespace Go.Proofs.X
open Go.RowKit
set_option maxRecDepth 100000
/-- rdata.Host -/
theorem t87 (nm : List UInt8) (w : World) (hl : nm.length ≤ 9223372036854775806) : Calls Tryz.prog 99 #[str nm] w (RetV w (if (labels nm).isSome = true then .tuple #[str (nm ++ [0]), .int .i64 0] else .tuple #[str [], .int .i64 1])) := by
  have h27 := fun w => t27 nm w
  cases hls : labels nm with
  | none =>
    simp only [hls, Option.isSome_none, Bool.false_eq_true, if_false] at h27 ⊢
    go_enter Tryz.func99, Tryz.ntmps99
    repeat' (first | ((with_reducible refine o_s ?_); (first | (refine o_1 ?_; refine o_2 ?_) | (refine o_g ?_; first | refine o_u ?_ | refine o_k ?_ | refine o_n ?_ | refine o_v ?_ | ((first | refine o_G ?_ ?_ | refine o_N ?_ ?_) <;> intro hc)))) | ((fail_if_success (with_reducible refine o_s ?_)); go_step))
    refine wpl_callV (enters_of Tryz.func68 rfl rfl) rfl rfl (h27 _) ?_
    intro w1 x1
    repeat' (first | ((with_reducible refine o_s ?_); (first | (refine o_1 ?_; refine o_2 ?_) | (refine o_g ?_; first | refine o_u ?_ | refine o_k ?_ | refine o_n ?_ | refine o_v ?_ | ((first | refine o_G ?_ ?_ | refine o_N ?_ ?_) <;> intro hc)))) | ((fail_if_success (with_reducible refine o_s ?_)); go_step))
    go_ret2
    exact ⟨rfl, x1⟩
  | some ls =>
    simp only [hls, Option.isSome_some, if_true] at h27 ⊢
    go_enter Tryz.func99, Tryz.ntmps99
    repeat' (first | ((with_reducible refine o_s ?_); (first | (refine o_1 ?_; refine o_2 ?_) | (refine o_g ?_; first | refine o_u ?_ | refine o_k ?_ | refine o_n ?_ | refine o_v ?_ | ((first | refine o_G ?_ ?_ | refine o_N ?_ ?_) <;> intro hc)))) | ((fail_if_success (with_reducible refine o_s ?_)); go_step))
    refine wpl_callV (enters_of Tryz.func68 rfl rfl) rfl rfl (h27 _) ?_
    intro w1 x1
    repeat' (first | ((with_reducible refine o_s ?_); (first | (refine o_1 ?_; refine o_2 ?_) | (refine o_g ?_; first | refine o_u ?_ | refine o_k ?_ | refine o_n ?_ | refine o_v ?_ | ((first | refine o_G ?_ ?_ | refine o_N ?_ ?_) <;> intro hc)))) | ((fail_if_success (with_reducible refine o_s ?_)); go_step))
    go_ret2
    exact ⟨rfl, x1⟩
/-- rdata.host -/
theorem t72 (s : List UInt8) (w : World) (hl : s.length ≤ 9223372036854775807) : Calls Tryz.prog 147 #[str s] w (RetV w (.tuple #[str ((hostN s).getD []), .bool (hostN s).isSome])) := by
  have h27 := fun w => t27 (Lib.trimSuffix s [0]) w
  go_enter Tryz.func147, Tryz.ntmps147
  repeat' (first | ((with_reducible refine o_s ?_); (first | (refine o_1 ?_; refine o_2 ?_) | (refine o_g ?_; first | refine o_u ?_ | refine o_k ?_ | refine o_n ?_ | refine o_v ?_ | ((first | refine o_G ?_ ?_ | refine o_N ?_ ?_) <;> intro hc)))) | ((fail_if_success (with_reducible refine o_s ?_)); go_step))
  refine wpl_callG (vs := [str s, str [0]]) (enters_of Tryz.func164 rfl rfl) rfl rfl (Tryz.strings_CutSuffix ⟨s.toArray⟩ ⟨[0].toArray⟩ _ (by rw [size_mk]; exact hl)) ?_
  rintro e w1 ⟨rfl, rfl⟩
  refine ⟨_, rfl, ?_⟩
  refine gset ?_
  cases hh : Lib.hasSuffix s [0] with
  | false =>
    repeat' (first | ((with_reducible refine o_s ?_); (first | (refine o_1 ?_; refine o_2 ?_) | (refine o_g ?_; first | refine o_u ?_ | refine o_k ?_ | refine o_n ?_ | refine o_v ?_ | ((first | refine o_G ?_ ?_ | refine o_N ?_ ?_) <;> intro hc)))) | ((fail_if_success (with_reducible refine o_s ?_)); go_step))
    go_ret2
    refine ⟨?_, Ext.refl _⟩
    simp only [hostN, hh, Bool.false_eq_true, false_and, if_false]
    rfl
  | true =>
    cases hls : labels (Lib.trimSuffix s [0]) with
    | none =>
      simp only [hls, Option.isSome_none, Bool.false_eq_true, if_false] at h27
      repeat' (first | ((with_reducible refine o_s ?_); (first | (refine o_1 ?_; refine o_2 ?_) | (refine o_g ?_; first | refine o_u ?_ | refine o_k ?_ | refine o_n ?_ | refine o_v ?_ | ((first | refine o_G ?_ ?_ | refine o_N ?_ ?_) <;> intro hc)))) | ((fail_if_success (with_reducible refine o_s ?_)); go_step))
      all_goals try (exact absurd ‹false = true› Bool.false_ne_true)
      refine wpl_callV (enters_of Tryz.func68 rfl rfl) rfl rfl (h27 _) ?_
      intro w2 x2
      repeat' (first | ((with_reducible refine o_s ?_); (first | (refine o_1 ?_; refine o_2 ?_) | (refine o_g ?_; first | refine o_u ?_ | refine o_k ?_ | refine o_n ?_ | refine o_v ?_ | ((first | refine o_G ?_ ?_ | refine o_N ?_ ?_) <;> intro hc)))) | ((fail_if_success (with_reducible refine o_s ?_)); go_step))
      go_ret2
      refine ⟨?_, x2⟩
      simp only [hostN, hh, hls, Option.isSome_none, Bool.false_eq_true, and_false, if_false]
      rfl
    | some ls =>
      simp only [hls, Option.isSome_some, if_true] at h27
      repeat' (first | ((with_reducible refine o_s ?_); (first | (refine o_1 ?_; refine o_2 ?_) | (refine o_g ?_; first | refine o_u ?_ | refine o_k ?_ | refine o_n ?_ | refine o_v ?_ | ((first | refine o_G ?_ ?_ | refine o_N ?_ ?_) <;> intro hc)))) | ((fail_if_success (with_reducible refine o_s ?_)); go_step))
      all_goals try (exact absurd ‹false = true› Bool.false_ne_true)
      refine wpl_callV (enters_of Tryz.func68 rfl rfl) rfl rfl (h27 _) ?_
      intro w2 x2
      repeat' (first | ((with_reducible refine o_s ?_); (first | (refine o_1 ?_; refine o_2 ?_) | (refine o_g ?_; first | refine o_u ?_ | refine o_k ?_ | refine o_n ?_ | refine o_v ?_ | ((first | refine o_G ?_ ?_ | refine o_N ?_ ?_) <;> intro hc)))) | ((fail_if_success (with_reducible refine o_s ?_)); go_step))
      go_ret2
      refine ⟨?_, x2⟩
      simp only [hostN, hh, hls, Option.isSome_some, and_self, if_true]
      rfl
/-- rdata.ahead -/
theorem t71 (k : Int) (w : World) : Calls Tryz.prog 150 #[.int .i64 k] w (RetV w (.int .i64 (ahead k))) := by
  go_enter Tryz.func150, Tryz.ntmps150
  repeat' (first | ((with_reducible refine o_s ?_); (first | (refine o_1 ?_; refine o_2 ?_) | (refine o_g ?_; first | refine o_u ?_ | refine o_k ?_ | refine o_n ?_ | refine o_v ?_ | ((first | refine o_G ?_ ?_ | refine o_N ?_ ?_) <;> intro hc)))) | ((fail_if_success (with_reducible refine o_s ?_)); go_step))
  all_goals
    go_ret
    refine ⟨?_, Ext.refl _⟩
    simp [ahead, *]
/-- rdata.texts -/
theorem t37 (s : List UInt8) (w : World) (hl : s.length ≤ 4611686018427387904) : Calls Tryz.prog 114 #[str s] w (RetV w (.bool (textsB s))) := by
  go_enter Tryz.func114, Tryz.ntmps114
  repeat' (first | ((with_reducible refine o_s ?_); (first | (refine o_1 ?_; refine o_2 ?_) | (refine o_g ?_; first | refine o_u ?_ | refine o_k ?_ | refine o_n ?_ | refine o_v ?_ | ((first | refine o_G ?_ ?_ | refine o_N ?_ ?_) <;> intro hc)))) | ((fail_if_success (with_reducible refine o_s ?_)); go_step))
  go_loopw [0] (fun s2 wr => wr = w ∧ ∃ r : List UInt8, s2 = str r ∧ r.length ≤ s.length ∧ textsN s = textsN r) (fun s2 _ => strLen s2)
  case atStart => exact ⟨rfl, s, rfl, Nat.le_refl _, rfl⟩
  case round =>
    obtain ⟨rfl, r, rfl, hr, hrec⟩ := hrel
    cases r with
    | nil =>
      repeat' (first | ((with_reducible refine o_s ?_); (first | (refine o_1 ?_; refine o_2 ?_) | (refine o_g ?_; first | refine o_u ?_ | refine o_k ?_ | refine o_n ?_ | refine o_v ?_ | ((first | refine o_G ?_ ?_ | refine o_N ?_ ?_) <;> intro hc)))) | ((fail_if_success (with_reducible refine o_s ?_)); go_step))
      go_ret
      refine ⟨?_, Ext.refl _⟩
      rw [textsB, hrec]
      simp [textsN, textsF]
    | cons k t =>
      have hk : k.toNat < 256 := k.toNat_lt
      have hne : s ≠ [] := by intro e; subst e; simp at hr
      repeat' (first | ((with_reducible refine o_s ?_); (first | (refine o_1 ?_; refine o_2 ?_) | (refine o_g ?_; first | refine o_u ?_ | refine o_k ?_ | refine o_n ?_ | refine o_v ?_ | ((first | refine o_G ?_ ?_ | refine o_N ?_ ?_) <;> intro hc)))) | ((fail_if_success (with_reducible refine o_s ?_)); go_step))
      · have hc := ‹((k :: t).length : Int) < 1 + (k.toNat : Int)›
        go_ret
        refine ⟨?_, Ext.refl _⟩
        rw [textsB, hrec, textsN_cons, if_pos (by simp at hc; omega)]
        simp
      · have hc := ‹1 + (k.toNat : Int) ≤ ((k :: t).length : Int)›
        have e : (1 + (k.toNat : Int)).toNat = k.toNat + 1 := by omega
        rw [e, List.drop_succ_cons]
        refine ⟨⟨trivial, _, rfl, by simp at hr ⊢; omega, ?_⟩, by simp [strLen_str]; omega⟩
        rw [hrec, textsN_cons, if_neg (by simp at hc; omega)]
/-- rdata.ParseHost -/
theorem t39 (k : Int) (d : List UInt8) (w : World) (hl : d.length ≤ 9223372036854775807) : Calls Tryz.prog 115 #[.int .i64 k, str d] w (RetV w (.tuple #[str (parseHost k d).1, .int .i64 (parseHost k d).2])) := by
  go_enter Tryz.func115, Tryz.ntmps115
  repeat' (first | ((with_reducible refine o_s ?_); (first | (refine o_1 ?_; refine o_2 ?_) | (refine o_g ?_; first | refine o_u ?_ | refine o_k ?_ | refine o_n ?_ | refine o_v ?_ | ((first | refine o_G ?_ ?_ | refine o_N ?_ ?_) <;> intro hc)))) | ((fail_if_success (with_reducible refine o_s ?_)); go_step))
  refine wpl_callV (enters_of Tryz.func150 rfl rfl) rfl rfl (t71 _ _) ?_
  intro w1 x1
  repeat' (first | ((with_reducible refine o_s ?_); (first | (refine o_1 ?_; refine o_2 ?_) | (refine o_g ?_; first | refine o_u ?_ | refine o_k ?_ | refine o_n ?_ | refine o_v ?_ | ((first | refine o_G ?_ ?_ | refine o_N ?_ ?_) <;> intro hc)))) | ((fail_if_success (with_reducible refine o_s ?_)); go_step))
  · have hc := ‹ahead k < 0›
    go_ret2
    refine ⟨?_, x1⟩
    rw [parseHost, if_pos hc]
    rfl
  · have hc : ¬ ahead k < 0 := by have := ‹0 ≤ ahead k›; omega
    have hc2 := ‹(d.length : Int) < ahead k›
    go_ret2
    refine ⟨?_, x1⟩
    rw [parseHost, if_neg hc, if_pos hc2]
    rfl
  · have hc : ¬ ahead k < 0 := by have := ‹0 ≤ ahead k›; omega
    have hc2 : ¬ (d.length : Int) < ahead k := by have := ‹ahead k ≤ (d.length : Int)›; omega
    refine wpl_callV (enters_of Tryz.func147 rfl rfl) rfl rfl (t72 (d.drop (ahead k).toNat) _ (by simp; omega)) ?_
    intro w2 x2
    cases hh : hostN (d.drop (ahead k).toNat) with
    | none =>
      simp only [hh, Option.isSome_none, Option.getD_none]
      repeat' (first | ((with_reducible refine o_s ?_); (first | (refine o_1 ?_; refine o_2 ?_) | (refine o_g ?_; first | refine o_u ?_ | refine o_k ?_ | refine o_n ?_ | refine o_v ?_ | ((first | refine o_G ?_ ?_ | refine o_N ?_ ?_) <;> intro hc)))) | ((fail_if_success (with_reducible refine o_s ?_)); go_step))
      go_ret2
      refine ⟨?_, x1.trans x2⟩
      rw [parseHost, if_neg hc, if_neg hc2, hh]
      rfl
    | some n =>
      simp only [hh, Option.isSome_some, Option.getD_some]
      repeat' (first | ((with_reducible refine o_s ?_); (first | (refine o_1 ?_; refine o_2 ?_) | (refine o_g ?_; first | refine o_u ?_ | refine o_k ?_ | refine o_n ?_ | refine o_v ?_ | ((first | refine o_G ?_ ?_ | refine o_N ?_ ?_) <;> intro hc)))) | ((fail_if_success (with_reducible refine o_s ?_)); go_step))
      go_ret2
      refine ⟨?_, x1.trans x2⟩
      rw [parseHost, if_neg hc, if_neg hc2, hh]
      rfl

end Go.Proofs.X
set_option linter.unusedSimpArgs false
set_option linter.unusedVariables false
namespace Go.Proofs.X
open Go.RowKit
set_option maxRecDepth 100000
theorem getD_eq {s : List UInt8} {k : Nat} (h : k < s.length) : s.getD k 0 = s[k] := by simp [h]
/-- rdata.first -/
theorem t68 (s : List UInt8) (w : World) (hl : s.length ≤ 4611686018427387904) : Calls Tryz.prog 95 #[str s] w (RetV w (.tuple #[str (firstN s).1, str (firstN s).2.1, .bool (firstN s).2.2])) := by
  go_enter Tryz.func95, Tryz.ntmps95
  repeat' (first | ((with_reducible refine o_s ?_); (first | (refine o_1 ?_; refine o_2 ?_) | (refine o_g ?_; first | refine o_u ?_ | refine o_k ?_ | refine o_n ?_ | refine o_v ?_ | ((first | refine o_G ?_ ?_ | refine o_N ?_ ?_) <;> intro hc)))) | ((fail_if_success (with_reducible refine o_s ?_)); go_step))
  go_loopw [5] (fun i wr => wr = w ∧ ∃ k : Nat, i = .int .i64 k ∧ k ≤ s.length + 256 ∧ walkN s = k + walkN (s.drop k)) (fun i _ => s.length + 256 - (intOf i).toNat)
  case atStart => exact ⟨rfl, 0, rfl, by omega, by simp⟩
  case round =>
    obtain ⟨rfl, k, rfl, hk, hrec⟩ := hrel
    by_cases hlt : k < s.length
    · have hd := List.drop_eq_getElem_cons hlt
      have hb : (s.getD k 0).toNat < 256 := UInt8.toNat_lt _
      have hg := getD_eq hlt
      repeat' (first | ((with_reducible refine o_s ?_); (first | (refine o_1 ?_; refine o_2 ?_) | (refine o_g ?_; first | refine o_u ?_ | refine o_k ?_ | refine o_n ?_ | refine o_v ?_ | ((first | refine o_G ?_ ?_ | refine o_N ?_ ?_) <;> intro hc)))) | ((fail_if_success (with_reducible refine o_s ?_)); go_step))
      · have hc := ‹(!decide (((s.getD k 0).toNat : Int) = 0)) = true›
        have hne : (s.getD k 0).toNat ≠ 0 := by simpa using hc
        go_roundw
        case rel =>
          refine ⟨trivial, k + (1 + (s.getD k 0).toNat), by congr 1, by omega, ?_⟩
          rw [hrec, hd, walkN_cons, ← hg, if_neg hne, List.drop_drop]
          rw [show k + 1 + (s.getD k 0).toNat = k + (1 + (s.getD k 0).toNat) by omega]
          omega
        case measure => simp only [intOf]; omega
      · have hc := ‹(!decide (((s.getD k 0).toNat : Int) = 0)) = false›
        have hz : (s.getD k 0).toNat = 0 := by simpa using hc
        have hw : walkN s = k := by rw [hrec, hd, walkN_cons, ← hg, if_pos hz]; rfl
        have hf : firstN s = ((hostN (s.take (k + 1))).getD [], s.drop (k + 1), (hostN (s.take (k + 1))).isSome) := by
          rw [firstN, hw, if_neg (by omega)]
        refine wpl_callV (enters_of Tryz.func147 rfl rfl) rfl rfl (t72 _ _ (by simp; omega)) ?_
        intro w2 x2
        refine gset ?_
        repeat' (first | ((with_reducible refine o_s ?_); (first | (refine o_1 ?_; refine o_2 ?_) | (refine o_g ?_; first | refine o_u ?_ | refine o_k ?_ | refine o_n ?_ | refine o_v ?_ | ((first | refine o_G ?_ ?_ | refine o_N ?_ ?_) <;> intro hc)))) | ((fail_if_success (with_reducible refine o_s ?_)); go_step))
        refine wpq_region (by decide +kernel) (by decide +kernel) ?_
        repeat' (first | ((first | (with_reducible apply wpq_run0) | ((with_reducible apply wpq_runG); (rfl); (rfl); (with_reducible rfl))); (intro _ _; exact rn); (refine gset ?_)) | ((with_reducible apply wpq_skipG); (rfl); (rfl); (first | (with_reducible exact (rfl : true = !false)) | (with_reducible exact (rfl : false = !true)) | (exact Bool.not_false.symm) | (exact Bool.not_true.symm)); (refine gset ?_)) | (with_reducible (apply wpq_nil)))
        intro w3 x3
        repeat' (first | ((with_reducible refine o_s ?_); (first | (refine o_1 ?_; refine o_2 ?_) | (refine o_g ?_; first | refine o_u ?_ | refine o_k ?_ | refine o_n ?_ | refine o_v ?_ | ((first | refine o_G ?_ ?_ | refine o_N ?_ ?_) <;> intro hc)))) | ((fail_if_success (with_reducible refine o_s ?_)); go_step))
        refine bodyPost_ret (results_tmp3 rfl _ _ _) rfl ⟨?_, x2.trans x3⟩
        rw [hf]
        rfl
    · repeat' (first | ((with_reducible refine o_s ?_); (first | (refine o_1 ?_; refine o_2 ?_) | (refine o_g ?_; first | refine o_u ?_ | refine o_k ?_ | refine o_n ?_ | refine o_v ?_ | ((first | refine o_G ?_ ?_ | refine o_N ?_ ?_) <;> intro hc)))) | ((fail_if_success (with_reducible refine o_s ?_)); go_step))
      refine bodyPost_ret (results_tmp3 rfl _ _ _) rfl ⟨?_, Ext.refl _⟩
      have hw : s.length ≤ walkN s := by omega
      rw [firstN, if_pos hw]
      rfl
/-- rdata.ParseSoa's own function -/
theorem t69 (r : List UInt8) (i : Nat) (p : Value) (w : World) (hp : Pts w p [str r]) (hr : r.length = 20) (hi : i < 5) : Calls Tryz.prog 96 #[.int .i64 i, p] w (RetV w (.int .i64 (numP r i 4 : Nat))) := by
  go_enter Tryz.func96, Tryz.ntmps96
  repeat' (first | ((with_reducible refine o_s ?_); (first | (refine o_1 ?_; refine o_2 ?_) | (refine o_g ?_; first | refine o_u ?_ | refine o_k ?_ | refine o_n ?_ | refine o_v ?_ | ((first | refine o_G ?_ ?_ | refine o_N ?_ ?_) <;> intro hc)))) | ((fail_if_success (with_reducible refine o_s ?_)); go_step))
  go_loopw [4, 6] (fun n j wr => wr = w ∧ ∃ k : Nat, k ≤ 4 ∧ j = .int .i64 k ∧ n = .int .i64 (numP r i k : Nat)) (fun _ j _ => 4 - (intOf j).toNat)
  case atStart => exact ⟨rfl, 0, by omega, rfl, rfl⟩
  case round =>
    obtain ⟨rfl, k, hk, rfl, rfl⟩ := hrel
    by_cases hlt : k < 4
    · have hn := numP_lt r i k
      have hn2 : numP r i k * 256 < 4294967296 := by
        have : 256 ^ k ≤ 256 ^ 3 := Nat.pow_le_pow_right (by omega) (by omega)
        omega
      have hb : (r.getD (4 * i + k) 0).toNat < 256 := UInt8.toNat_lt _
      have hb2 : (r.getD (4 * (i : Int) + (k : Int)).toNat 0).toNat < 256 := UInt8.toNat_lt _
      have e3 : (4 * (i : Int) + (k : Int)).toNat = 4 * i + k := by omega
      repeat' (first | ((with_reducible refine o_s ?_); (first | (refine o_1 ?_; refine o_2 ?_) | (refine o_g ?_; first | refine o_u ?_ | refine o_k ?_ | refine o_n ?_ | refine o_v ?_ | ((first | refine o_G ?_ ?_ | refine o_N ?_ ?_) <;> intro hc)))) | ((fail_if_success (with_reducible refine o_s ?_)); go_step))
      refine ⟨⟨trivial, k + 1, by omega, rfl, ?_⟩, by simp [intOf]; omega⟩
      rw [numP]
    · have : k = 4 := by omega
      subst this
      repeat' (first | ((with_reducible refine o_s ?_); (first | (refine o_1 ?_; refine o_2 ?_) | (refine o_g ?_; first | refine o_u ?_ | refine o_k ?_ | refine o_n ?_ | refine o_v ?_ | ((first | refine o_G ?_ ?_ | refine o_N ?_ ?_) <;> intro hc)))) | ((fail_if_success (with_reducible refine o_s ?_)); go_step))
      go_ret
      exact ⟨rfl, Ext.refl _⟩
theorem wrapU (n : Nat) : IntKind.wrap .u8 (n : Int) = ((UInt8.ofNat n).toNat : Nat) := by
  simp only [IntKind.wrap, IntKind.bits, IntKind.signed, UInt8.toNat_ofNat']
  simp
/-- rdata.long -/
theorem t88 {B : Nat} {v : Value} {l : List UInt8} {w : World} (n : Nat) (h : Own B 1 5 w v (bcells l)) (hB : B ≤ w.heap.size) (hn : n < 4294967296) (hl : l.length ≤ 1000000) : Calls Tryz.prog 100 #[v, .int .i64 n] w fun e w' => ∃ v', e = .returned v' ∧ Own B 1 5 w' v' (bcells (l ++ be4 n)) ∧ Mv v.ownBlock w w' := by
  go_enter Tryz.func100, Tryz.ntmps100
  repeat' (first | ((with_reducible refine o_s ?_); (first | (refine o_1 ?_; refine o_2 ?_) | (refine o_g ?_; first | refine o_u ?_ | refine o_k ?_ | refine o_n ?_ | refine o_v ?_ | ((first | refine o_G ?_ ?_ | refine o_N ?_ ?_) <;> intro hc)))) | ((fail_if_success (with_reducible refine o_s ?_)); go_step))
  have e1 : IntKind.wrap .u8 ((n : Int) / 2 ^ Int.toNat 24) = ((UInt8.ofNat (n / 16777216)).toNat : Nat) := by
    rw [← wrapU]; congr 1
  have e2 : IntKind.wrap .u8 ((n : Int) / 2 ^ Int.toNat 16) = ((UInt8.ofNat (n / 65536)).toNat : Nat) := by
    rw [← wrapU]; congr 1
  have e3 : IntKind.wrap .u8 ((n : Int) / 2 ^ Int.toNat 8) = ((UInt8.ofNat (n / 256)).toNat : Nat) := by
    rw [← wrapU]; congr 1
  have e4 : IntKind.wrap .u8 (n : Int) = ((UInt8.ofNat n).toNat : Nat) := wrapU n
  rw [e1, e2, e3, e4]
  refine wpl_slice (xs := [.int .u8 ((UInt8.ofNat (n / 16777216)).toNat : Nat), .int .u8 ((UInt8.ofNat (n / 65536)).toNat : Nat), .int .u8 ((UInt8.ofNat (n / 256)).toNat : Nat), .int .u8 ((UInt8.ofNat n).toNat : Nat)]) (k := 1) (e := 5) (bytes := 1) rfl rfl rfl (by intro y hy; simp at hy; rcases hy with rfl | rfl | rfl | rfl <;> rfl) (by decide +kernel) (by simp) ?_
  intro v1 w1 x1 s1 sl1 _
  refine gset ?_
  have hll : (bcells l).length = l.length := by simp [bcells]
  refine wpl_append (B := B) (k := 1) (e := 5) (bytes := 1) (x := v1) rfl (h.ext x1) rfl sl1 (by decide +kernel) (by simp [Value.cells, Value.oneCell']) (Nat.le_trans hB x1.size) (by rw [hll]; simp; omega) (by rw [hll]; simp; omega) ?_
  intro v2 w2 o2 m2
  refine gset ?_
  repeat' (first | ((with_reducible refine o_s ?_); (first | (refine o_1 ?_; refine o_2 ?_) | (refine o_g ?_; first | refine o_u ?_ | refine o_k ?_ | refine o_n ?_ | refine o_v ?_ | ((first | refine o_G ?_ ?_ | refine o_N ?_ ?_) <;> intro hc)))) | ((fail_if_success (with_reducible refine o_s ?_)); go_step))
  go_ret
  refine ⟨v2, rfl, ?_, (x1.mv _).trans m2⟩
  have : bcells (l ++ be4 n) = bcells l ++ bcells (be4 n) := by simp [bcells]
  rw [this]
  exact o2

end Go.Proofs.X
set_option linter.unusedSimpArgs false
set_option linter.unusedVariables false
namespace Go.Proofs.X
open Go.RowKit
set_option maxRecDepth 100000
def soaNums (s : SoaR) : List Int := [s.refresh, s.retry, s.expire, s.minimum]
def soaBase (s : SoaR) : List UInt8 := s.main ++ [0] ++ (s.mail ++ [0]) ++ be4 s.serial.toNat
def be4s (l : List Int) : List UInt8 := (l.map fun n => be4 n.toNat).flatten
theorem soa_data (s : SoaR) : s.data = soaBase s ++ be4s (soaNums s) := by simp [SoaR.data, soaBase, be4s, soaNums]
theorem be4s_succ (l : List Int) (k : Nat) (h : k < l.length) : be4s (l.take (k + 1)) = be4s (l.take k) ++ be4 l[k].toNat := by
  unfold be4s
  rw [List.take_add_one, List.getElem?_eq_getElem h, Option.toList_some, List.map_append, List.flatten_append]
  simp
theorem be4s_len (l : List Int) : (be4s l).length = 4 * l.length := by
  induction l with
  | nil => rfl
  | cons x l ih =>
    have : be4s (x :: l) = be4 x.toNat ++ be4s l := by simp [be4s]
    rw [this, List.length_append, ih, List.length_cons]
    simp [be4]; omega
theorem soa_ok (s : SoaR) : s.ok = ((labels s.main).isSome && (labels s.mail).isSome && decide (0 ≤ s.serial) && decide (s.serial ≤ 4294967295) && (soaNums s).all ttlOk) := by
  simp [SoaR.ok, soaNums, Bool.and_assoc]
set_option maxHeartbeats 1000000 in
/-- rdata.Soa -/
theorem t70 (s : SoaR) (w : World) (h1 : s.main.length ≤ 4611686018427387904) (h2 : s.mail.length ≤ 4611686018427387904) : Calls Tryz.prog 65 #[.agg s.cells.toArray] w (RetV w (if s.ok = true then .tuple #[str s.data, .int .i64 0] else .tuple #[str [], .int .i64 1])) := by
  have hA := fun w => t87 s.main w (by omega)
  have hB := fun w => t87 s.mail w (by omega)
  cases hm : labels s.main with
  | none =>
    simp only [hm, Option.isSome_none, Bool.false_eq_true, if_false] at hA
    have hno : s.ok = false := by simp [SoaR.ok, hm]
    rw [hno]
    go_enter Tryz.func65, Tryz.ntmps65
    repeat' ((fail_if_success (with_reducible refine o_s ?_)); go_step)
    refine wpl_box (vs := s.cells) rfl rfl ?_
    intro p w1 x1 hp
    refine gset ?_
    have hp' : Pts w1 p [str s.main, str s.mail, .int .i64 s.serial, .int .i64 s.refresh, .int .i64 s.retry, .int .i64 s.expire, .int .i64 s.minimum] := hp
    repeat' (first | ((with_reducible refine o_s ?_); (first | (refine o_1 ?_; refine o_2 ?_) | (refine o_g ?_; first | refine o_u ?_ | refine o_k ?_ | refine o_n ?_ | refine o_v ?_ | ((first | refine o_G ?_ ?_ | refine o_N ?_ ?_) <;> intro hc)))) | ((fail_if_success (with_reducible refine o_s ?_)); go_step))
    refine wpl_callV (enters_of Tryz.func99 rfl rfl) rfl rfl (hA _) ?_
    intro w2 x2
    have hp' := hp'.ext x2
    repeat' (first | ((with_reducible refine o_s ?_); (first | (refine o_1 ?_; refine o_2 ?_) | (refine o_g ?_; first | refine o_u ?_ | refine o_k ?_ | refine o_n ?_ | refine o_v ?_ | ((first | refine o_G ?_ ?_ | refine o_N ?_ ?_) <;> intro hc)))) | ((fail_if_success (with_reducible refine o_s ?_)); go_step))
    refine wpl_callV (enters_of Tryz.func99 rfl rfl) rfl rfl (hB _) ?_
    intro w3 x3
    cases hl : (labels s.mail).isSome with
    | true =>
      simp only [hl, if_true]
      have hp' := hp'.ext x3
      repeat' (first | ((with_reducible refine o_s ?_); (first | (refine o_1 ?_; refine o_2 ?_) | (refine o_g ?_; first | refine o_u ?_ | refine o_k ?_ | refine o_n ?_ | refine o_v ?_ | ((first | refine o_G ?_ ?_ | refine o_N ?_ ?_) <;> intro hc)))) | ((fail_if_success (with_reducible refine o_s ?_)); go_step))
      go_ret2
      exact ⟨rfl, (x1.trans x2).trans x3⟩
    | false =>
      simp only [hl, Bool.false_eq_true, if_false]
      have hp' := hp'.ext x3
      repeat' (first | ((with_reducible refine o_s ?_); (first | (refine o_1 ?_; refine o_2 ?_) | (refine o_g ?_; first | refine o_u ?_ | refine o_k ?_ | refine o_n ?_ | refine o_v ?_ | ((first | refine o_G ?_ ?_ | refine o_N ?_ ?_) <;> intro hc)))) | ((fail_if_success (with_reducible refine o_s ?_)); go_step))
      go_ret2
      exact ⟨rfl, (x1.trans x2).trans x3⟩
  | some ls =>
    simp only [hm, Option.isSome_some, if_true] at hA
    cases hm2 : labels s.mail with
    | none =>
      simp only [hm2, Option.isSome_none, Bool.false_eq_true, if_false] at hB
      have hno : s.ok = false := by simp [SoaR.ok, hm2]
      rw [hno]
      go_enter Tryz.func65, Tryz.ntmps65
      repeat' ((fail_if_success (with_reducible refine o_s ?_)); go_step)
      refine wpl_box (vs := s.cells) rfl rfl ?_
      intro p w1 x1 hp
      refine gset ?_
      have hp' : Pts w1 p [str s.main, str s.mail, .int .i64 s.serial, .int .i64 s.refresh, .int .i64 s.retry, .int .i64 s.expire, .int .i64 s.minimum] := hp
      repeat' (first | ((with_reducible refine o_s ?_); (first | (refine o_1 ?_; refine o_2 ?_) | (refine o_g ?_; first | refine o_u ?_ | refine o_k ?_ | refine o_n ?_ | refine o_v ?_ | ((first | refine o_G ?_ ?_ | refine o_N ?_ ?_) <;> intro hc)))) | ((fail_if_success (with_reducible refine o_s ?_)); go_step))
      refine wpl_callV (enters_of Tryz.func99 rfl rfl) rfl rfl (hA _) ?_
      intro w2 x2
      have hp' := hp'.ext x2
      repeat' (first | ((with_reducible refine o_s ?_); (first | (refine o_1 ?_; refine o_2 ?_) | (refine o_g ?_; first | refine o_u ?_ | refine o_k ?_ | refine o_n ?_ | refine o_v ?_ | ((first | refine o_G ?_ ?_ | refine o_N ?_ ?_) <;> intro hc)))) | ((fail_if_success (with_reducible refine o_s ?_)); go_step))
      refine wpl_callV (enters_of Tryz.func99 rfl rfl) rfl rfl (hB _) ?_
      intro w3 x3
      have hp' := hp'.ext x3
      repeat' (first | ((with_reducible refine o_s ?_); (first | (refine o_1 ?_; refine o_2 ?_) | (refine o_g ?_; first | refine o_u ?_ | refine o_k ?_ | refine o_n ?_ | refine o_v ?_ | ((first | refine o_G ?_ ?_ | refine o_N ?_ ?_) <;> intro hc)))) | ((fail_if_success (with_reducible refine o_s ?_)); go_step))
      go_ret2
      exact ⟨rfl, (x1.trans x2).trans x3⟩
    | some ms =>
      simp only [hm2, Option.isSome_some, if_true] at hB
      have hfm := labels_fit hm
      have hfm2 := labels_fit hm2
      rw [soa_ok, hm, hm2]
      simp only [Option.isSome_some, Bool.true_and]
      go_enter Tryz.func65, Tryz.ntmps65
      repeat' ((fail_if_success (with_reducible refine o_s ?_)); go_step)
      refine wpl_box (vs := s.cells) rfl rfl ?_
      intro p w1 x1 hp
      refine gset ?_
      have hp' : Pts w1 p [str s.main, str s.mail, .int .i64 s.serial, .int .i64 s.refresh, .int .i64 s.retry, .int .i64 s.expire, .int .i64 s.minimum] := hp
      repeat' (first | ((with_reducible refine o_s ?_); (first | (refine o_1 ?_; refine o_2 ?_) | (refine o_g ?_; first | refine o_u ?_ | refine o_k ?_ | refine o_n ?_ | refine o_v ?_ | ((first | refine o_G ?_ ?_ | refine o_N ?_ ?_) <;> intro hc)))) | ((fail_if_success (with_reducible refine o_s ?_)); go_step))
      refine wpl_callV (enters_of Tryz.func99 rfl rfl) rfl rfl (hA _) ?_
      intro w2 x2
      have hp' := hp'.ext x2
      repeat' (first | ((with_reducible refine o_s ?_); (first | (refine o_1 ?_; refine o_2 ?_) | (refine o_g ?_; first | refine o_u ?_ | refine o_k ?_ | refine o_n ?_ | refine o_v ?_ | ((first | refine o_G ?_ ?_ | refine o_N ?_ ?_) <;> intro hc)))) | ((fail_if_success (with_reducible refine o_s ?_)); go_step))
      refine wpl_callV (enters_of Tryz.func99 rfl rfl) rfl rfl (hB _) ?_
      intro w3 x3
      have hp' := hp'.ext x3
      have x13 := (x1.trans x2).trans x3
      clear x1 x2 x3 hp hA hB
      repeat' (first | ((with_reducible refine o_s ?_); (first | (refine o_1 ?_; refine o_2 ?_) | (refine o_g ?_; first | refine o_u ?_ | refine o_k ?_ | refine o_n ?_ | refine o_v ?_ | ((first | refine o_G ?_ ?_ | refine o_N ?_ ?_) <;> intro hc)))) | ((fail_if_success (with_reducible refine o_s ?_)); go_step))
      · have hc := ‹4294967295 < s.serial›
        go_ret2
        refine ⟨?_, x13⟩
        have hno : (decide (0 ≤ s.serial) && decide (s.serial ≤ 4294967295)) = false := by simp only [Bool.and_eq_false_iff, decide_eq_false_iff_not]; omega
        simp only [hno, Bool.false_and, Bool.false_eq_true, if_false]
        rfl
      · have hc := ‹s.serial ≤ 4294967295›
        have hc0 := ‹¬s.serial < 0›
        have hser : (decide (0 ≤ s.serial) && decide (s.serial ≤ 4294967295)) = true := by simp; omega
        refine wpl_bytes (e := 5) (l := s.main ++ [0] ++ (s.mail ++ [0])) rfl rfl (by decide +kernel) (by decide +kernel) (by simp; omega) ?_
        intro v w4 x4 o4
        refine gset ?_
        have hp' := hp'.ext x4
        have hsn : s.serial = ((s.serial.toNat : Nat) : Int) := by omega
        repeat' (first | ((with_reducible refine o_s ?_); (first | (refine o_1 ?_; refine o_2 ?_) | (refine o_g ?_; first | refine o_u ?_ | refine o_k ?_ | refine o_n ?_ | refine o_v ?_ | ((first | refine o_G ?_ ?_ | refine o_N ?_ ?_) <;> intro hc)))) | ((fail_if_success (with_reducible refine o_s ?_)); go_step))
        rw [hsn]
        refine wpl_callG (enters_of Tryz.func100 rfl rfl) rfl rfl (t88 (B := w3.heap.size) s.serial.toNat o4 x4.size (by omega) (by simp; omega)) ?_
        rintro e w5 ⟨v5, rfl, o5, m5⟩
        refine ⟨_, rfl, ?_⟩
        refine gset ?_
        have x35 := o4.mvx m5 x4 (Nat.le_refl _)
        have hp' := ‹Pts w3 p _›.ext x35
        have x15 := x13.trans x35
        rw [← hsn]
        repeat' (first | ((with_reducible refine o_s ?_); (first | (refine o_1 ?_; refine o_2 ?_) | (refine o_g ?_; first | refine o_u ?_ | refine o_k ?_ | refine o_n ?_ | refine o_v ?_ | ((first | refine o_G ?_ ?_ | refine o_N ?_ ?_) <;> intro hc)))) | ((fail_if_success (with_reducible refine o_s ?_)); go_step))
        refine wpl_run (v := .agg ((soaNums s).map (Value.int .i64)).toArray) rfl (Runs.build rfl (by kernel_rfl)) ?_
        refine gset ?_
        repeat' (first | ((with_reducible refine o_s ?_); (first | (refine o_1 ?_; refine o_2 ?_) | (refine o_g ?_; first | refine o_u ?_ | refine o_k ?_ | refine o_n ?_ | refine o_v ?_ | ((first | refine o_G ?_ ?_ | refine o_N ?_ ?_) <;> intro hc)))) | ((fail_if_success (with_reducible refine o_s ?_)); go_step))
        clear hp' m5
        have hbase : s.main ++ [0] ++ (s.mail ++ [0]) ++ be4 s.serial.toNat = soaBase s := rfl
        rw [hbase] at o5
        have hbl : (soaBase s).length ≤ 600 := by simp [soaBase, be4]; omega
        go_loopw [8, 55] (fun v6 i wr => ∃ k : Nat, k ≤ 4 ∧ i = .int .i64 k ∧ Ext w wr ∧ w3.heap.size ≤ wr.heap.size ∧ Own w3.heap.size 1 5 wr v6 (bcells (soaBase s ++ be4s ((soaNums s).take k))) ∧ ((soaNums s).take k).all ttlOk = true) (fun _ i _ => 4 - (intOf i).toNat)
        case atStart => exact ⟨0, by omega, rfl, x15, x35.size, by simpa [be4s] using o5, rfl⟩
        case round =>
          obtain ⟨k, hk, rfl, hx, hsz, ho, hall⟩ := hrel
          have hlen : (soaNums s).length = 4 := rfl
          by_cases hlt : k < 4
          · have hlt2 : k < (soaNums s).length := hlt
            have hdata : s.data = soaBase s ++ be4s (soaNums s) := soa_data s
            have hsplit : (soaNums s).all ttlOk = true → ttlOk (soaNums s)[k] = true := fun h => List.all_eq_true.1 h _ (List.getElem_mem hlt2)
            repeat' (first | ((with_reducible refine o_s ?_); (first | (refine o_1 ?_; refine o_2 ?_) | (refine o_g ?_; first | refine o_u ?_ | refine o_k ?_ | refine o_n ?_ | refine o_v ?_ | ((first | refine o_G ?_ ?_ | refine o_N ?_ ?_) <;> intro hc)))) | ((fail_if_success (with_reducible refine o_s ?_)); go_step))
            refine wpl_run (v := .int .i64 (soaNums s)[k]) rfl (Runs.idxA (n := 4) (i := k) rfl rfl (by simp [hlt2]) hlt (by decide +kernel)) ?_
            refine gset ?_
            repeat' (first | ((with_reducible refine o_s ?_); (first | (refine o_1 ?_; refine o_2 ?_) | (refine o_g ?_; first | refine o_u ?_ | refine o_k ?_ | refine o_n ?_ | refine o_v ?_ | ((first | refine o_G ?_ ?_ | refine o_N ?_ ?_) <;> intro hc)))) | ((fail_if_success (with_reducible refine o_s ?_)); go_step))
            · have hc2 := ‹2147483647 < (soaNums s)[k]›
              go_ret2
              refine ⟨?_, hx⟩
              have hno : (soaNums s).all ttlOk = false := by
                cases h : (soaNums s).all ttlOk with
                | false => rfl
                | true => have := hsplit h; simp [ttlOk] at this; omega
              simp only [hser, hno, Bool.and_false, Bool.false_eq_true, if_false]
              rfl
            · have hc2 := ‹(soaNums s)[k] ≤ 2147483647›
              have hc1 := ‹¬(soaNums s)[k] < 0›
              have hnn : (soaNums s)[k] = (((soaNums s)[k].toNat : Nat) : Int) := by omega
              have hbs : (be4s ((soaNums s).take k)).length ≤ 16 := by rw [be4s_len]; simp; omega
              rw [hnn]
              refine wpl_callG (enters_of Tryz.func100 rfl rfl) rfl rfl (t88 (B := w3.heap.size) (soaNums s)[k].toNat ho hsz (by omega) (by rw [List.length_append]; omega)) ?_
              rintro e w6 ⟨v6, rfl, o6, m6⟩
              refine ⟨_, rfl, ?_⟩
              refine gset ?_
              have hx6 := ho.mvx m6 hx x13.size
              have hs6 : w3.heap.size ≤ w6.heap.size := Nat.le_trans hsz m6.size
              rw [List.append_assoc, ← be4s_succ _ _ hlt2] at o6
              repeat' (first | ((with_reducible refine o_s ?_); (first | (refine o_1 ?_; refine o_2 ?_) | (refine o_g ?_; first | refine o_u ?_ | refine o_k ?_ | refine o_n ?_ | refine o_v ?_ | ((first | refine o_G ?_ ?_ | refine o_N ?_ ?_) <;> intro hc)))) | ((fail_if_success (with_reducible refine o_s ?_)); go_step))
              refine ⟨⟨k + 1, by omega, rfl, hx6, hs6, o6, ?_⟩, by simp [intOf]; omega⟩
              rw [List.take_add_one, List.getElem?_eq_getElem hlt2, Option.toList_some, List.all_append, hall]
              simp only [List.all_cons, List.all_nil, ttlOk, Bool.true_and, Bool.and_true, Bool.and_eq_true, decide_eq_true_eq]
              omega
            · have hc2 := ‹(soaNums s)[k] < 0›
              go_ret2
              refine ⟨?_, hx⟩
              have hno : (soaNums s).all ttlOk = false := by
                cases h : (soaNums s).all ttlOk with
                | false => rfl
                | true => have := hsplit h; simp [ttlOk] at this; omega
              simp only [hser, hno, Bool.and_false, Bool.false_eq_true, if_false]
              rfl
          · have : k = 4 := by omega
            subst this
            have hsl := ho.sl
            rw [show (soaNums s).take 4 = soaNums s from rfl] at hsl hall
            repeat' (first | ((with_reducible refine o_s ?_); (first | (refine o_1 ?_; refine o_2 ?_) | (refine o_g ?_; first | refine o_u ?_ | refine o_k ?_ | refine o_n ?_ | refine o_v ?_ | ((first | refine o_G ?_ ?_ | refine o_N ?_ ?_) <;> intro hc)))) | ((fail_if_success (with_reducible refine o_s ?_)); go_step))
            go_ret2
            refine ⟨?_, hx⟩
            simp only [hser, hall, Bool.and_self, if_true]
            rw [soa_data]
            rfl
      · have hc := ‹s.serial < 0›
        go_ret2
        refine ⟨?_, x13⟩
        have hno : (decide (0 ≤ s.serial) && decide (s.serial ≤ 4294967295)) = false := by simp only [Bool.and_eq_false_iff, decide_eq_false_iff_not]; omega
        simp only [hno, Bool.false_and, Bool.false_eq_true, if_false]
        rfl

end Go.Proofs.X
set_option linter.unusedSimpArgs false
set_option linter.unusedVariables false
namespace Go.Proofs.X
open Go.RowKit
set_option maxRecDepth 100000
def zeroSoa : List Value := [str [], str [], .int .i64 0, .int .i64 0, .int .i64 0, .int .i64 0, .int .i64 0]
theorem firstN_len (s : List UInt8) : (firstN s).1.length ≤ s.length ∧ (firstN s).2.1.length ≤ s.length := by
  unfold firstN
  split
  · simp
  · refine ⟨?_, by simp⟩
    unfold hostN
    split
    · simp only [Option.getD_some]
      have : (Lib.trimSuffix (s.take (walkN s + 1)) [0]).length ≤ (s.take (walkN s + 1)).length := Lib.trimSuffix_le _ _
      simp at this ⊢
      omega
    · simp
set_option maxHeartbeats 1000000 in
/-- rdata.ParseSoa -/
theorem t38 (d : List UInt8) (w : World) (hl : d.length ≤ 4611686018427387904) : Calls Tryz.prog 63 #[str d] w (RetV w (match parseSoa d with | some s => .tuple #[.agg s.cells.toArray, .int .i64 0] | none => .tuple #[.agg zeroSoa.toArray, .int .i64 2])) := by
  have hl1 := firstN_len d
  have hl2 := firstN_len (firstN d).2.1
  go_enter Tryz.func63, Tryz.ntmps63
  repeat' ((fail_if_success (with_reducible refine o_s ?_)); go_step)
  refine wpl_allocB (z := zeroSoa) rfl (by decide +kernel) ?_
  intro w1 x1 s1 h1
  refine gset ?_
  repeat' (first | ((with_reducible refine o_s ?_); (first | (refine o_1 ?_; refine o_2 ?_) | (refine o_g ?_; first | refine o_u ?_ | refine o_k ?_ | refine o_n ?_ | refine o_v ?_ | ((first | refine o_G ?_ ?_ | refine o_N ?_ ?_) <;> intro hc)))) | ((fail_if_success (with_reducible refine o_s ?_)); go_step))
  refine wpl_callV (enters_of Tryz.func95 rfl rfl) rfl rfl (t68 d _ hl) ?_
  intro w2 x2
  refine gset ?_
  have h12 := x2.at h1
  repeat' (first | ((with_reducible refine o_s ?_); (first | (refine o_1 ?_; refine o_2 ?_) | (refine o_g ?_; first | refine o_u ?_ | refine o_k ?_ | refine o_n ?_ | refine o_v ?_ | ((first | refine o_G ?_ ?_ | refine o_N ?_ ?_) <;> intro hc)))) | ((fail_if_success (with_reducible refine o_s ?_)); go_step))
  refine wpl_allocB (z := [str []]) rfl (by decide +kernel) ?_
  intro w3 x3 s3 h3
  refine gset ?_
  have h13 := x3.at h12
  repeat' (first | ((with_reducible refine o_s ?_); (first | (refine o_1 ?_; refine o_2 ?_) | (refine o_g ?_; first | refine o_u ?_ | refine o_k ?_ | refine o_n ?_ | refine o_v ?_ | ((first | refine o_G ?_ ?_ | refine o_N ?_ ?_) <;> intro hc)))) | ((fail_if_success (with_reducible refine o_s ?_)); go_step))
  refine wpl_store1 (v := str (firstN d).2.1) rfl rfl rfl h3 (by decide +kernel) rfl ?_
  intro w4 p4
  have s2 : w.heap.size < w2.heap.size := by have := x2.size; omega
  have h14 := p4.at h13 (by omega)
  have h54 := p4.this
  have x4 : Ext w w4 := ((x1.trans x2).trans x3).move p4.mv (by rintro k ⟨⟩; omega)
  have hp5 := pts_block (cs := [str (firstN d).2.1]) h54
  generalize hb5 : w2.heap.size = b5 at *
  clear h1 h12 h13 h3 p4 x1 x2 x3 s3
  repeat' (first | ((with_reducible refine o_s ?_); (first | (refine o_1 ?_; refine o_2 ?_) | (refine o_g ?_; first | refine o_u ?_ | refine o_k ?_ | refine o_n ?_ | refine o_v ?_ | ((first | refine o_G ?_ ?_ | refine o_N ?_ ?_) <;> intro hc)))) | ((fail_if_success (with_reducible refine o_s ?_)); go_step))
  refine wpl_callV (enters_of Tryz.func95 rfl rfl) rfl rfl (t68 _ _ (by omega)) ?_
  intro w5 x5
  refine gset ?_
  have h15 := x5.at h14
  have h55 := x5.at h54
  have hp5 := hp5.ext x5
  have x5 := x4.trans x5
  repeat' (first | ((with_reducible refine o_s ?_); (first | (refine o_1 ?_; refine o_2 ?_) | (refine o_g ?_; first | refine o_u ?_ | refine o_k ?_ | refine o_n ?_ | refine o_v ?_ | ((first | refine o_G ?_ ?_ | refine o_N ?_ ?_) <;> intro hc)))) | ((fail_if_success (with_reducible refine o_s ?_)); go_step))
  refine wpl_store1 (v := str (firstN (firstN d).2.1).2.1) rfl rfl rfl h55 (by decide +kernel) rfl ?_
  intro w6 p6
  have h16 := p6.at h15 (by omega)
  have h56 := p6.this
  have x6 : Ext w w6 := x5.move p6.mv (by rintro k ⟨⟩; omega)
  clear hp5 h54 h14 h15 h55 p6 x4 x5
  have hp5 := pts_block (cs := [str (firstN (firstN d).2.1).2.1]) h56
  repeat' (first | ((with_reducible refine o_s ?_); (first | (refine o_1 ?_; refine o_2 ?_) | (refine o_g ?_; first | refine o_u ?_ | refine o_k ?_ | refine o_n ?_ | refine o_v ?_ | ((first | refine o_G ?_ ?_ | refine o_N ?_ ?_) <;> intro hc)))) | ((fail_if_success (with_reducible refine o_s ?_)); go_step))
  · refine wpl_run (v := .agg zeroSoa.toArray) rfl (Runs.build (parts := []) (vals := []) rfl (by kernel_rfl)) ?_
    refine gset ?_
    refine wpl_storeB (v := .agg zeroSoa.toArray) rfl rfl rfl h16 (by decide +kernel) rfl (by decide +kernel) ?_
    intro w7 p7
    have x7 : Ext w w7 := x6.move p7.mv (by rintro k ⟨⟩; omega)
    have h17 : w7.heap[w.heap.size]? = some (.cells zeroSoa.toArray 51 (0, 0)) := p7.this
    repeat' (first | ((with_reducible refine o_s ?_); (first | (refine o_1 ?_; refine o_2 ?_) | (refine o_g ?_; first | refine o_u ?_ | refine o_k ?_ | refine o_n ?_ | refine o_v ?_ | ((first | refine o_G ?_ ?_ | refine o_N ?_ ?_) <;> intro hc)))) | ((fail_if_success (with_reducible refine o_s ?_)); go_step))
    refine bodyPost_ret (results_cellT (cs := zeroSoa) rfl rfl h17 (by decide +kernel)) rfl ⟨?_, x7⟩
    have hno : parseSoa d = none := by
      unfold parseSoa
      rw [if_neg]
      rintro ⟨q1, q2, q3, q4⟩
      have := ‹(!decide (((firstN (firstN d).2.1).2.1.length : Int) = 20)) = true›
      simp [q3] at this
    rw [hno]
    rfl
  · have hc1 := ‹(!(firstN d).2.2) = false›
    have hc2 := ‹(!(firstN (firstN d).2.1).2.2) = false›
    have hc3 := ‹(!decide (((firstN (firstN d).2.1).2.1.length : Int) = 20)) = false›
    have hr : (firstN (firstN d).2.1).2.1.length = 20 := by simp at hc3; omega
    have q1 : (firstN d).2.2 = true := by simpa using hc1
    have q2 : (firstN (firstN d).2.1).2.2 = true := by simpa using hc2
    have hps : parseSoa d = if (soaOf d).ok = true then some (soaOf d) else none := by
      unfold parseSoa
      simp only [q1, q2, hr, true_and]
    generalize hrr : (firstN (firstN d).2.1).2.1 = r at *
    refine wpl_callT (f := 96) (caps := #[.pointer (some ⟨b5, 0, none⟩)]) (enters_of Tryz.func96 rfl rfl) rfl rfl rfl (t69 r 0 _ _ hp5 hr (by omega)) ?_
    rintro e w10 ⟨rfl, y⟩
    refine ⟨_, rfl, ?_⟩
    refine gset ?_
    have hp5 := hp5.ext y
    have h16 := y.at h16
    have x6 := x6.trans y
    clear y
    repeat' (first | ((with_reducible refine o_s ?_); (first | (refine o_1 ?_; refine o_2 ?_) | (refine o_g ?_; first | refine o_u ?_ | refine o_k ?_ | refine o_n ?_ | refine o_v ?_ | ((first | refine o_G ?_ ?_ | refine o_N ?_ ?_) <;> intro hc)))) | ((fail_if_success (with_reducible refine o_s ?_)); go_step))
    refine wpl_callT (f := 96) (caps := #[.pointer (some ⟨b5, 0, none⟩)]) (enters_of Tryz.func96 rfl rfl) rfl rfl rfl (t69 r 1 _ _ hp5 hr (by omega)) ?_
    rintro e w11 ⟨rfl, y⟩
    refine ⟨_, rfl, ?_⟩
    refine gset ?_
    have hp5 := hp5.ext y
    have h16 := y.at h16
    have x6 := x6.trans y
    clear y
    repeat' (first | ((with_reducible refine o_s ?_); (first | (refine o_1 ?_; refine o_2 ?_) | (refine o_g ?_; first | refine o_u ?_ | refine o_k ?_ | refine o_n ?_ | refine o_v ?_ | ((first | refine o_G ?_ ?_ | refine o_N ?_ ?_) <;> intro hc)))) | ((fail_if_success (with_reducible refine o_s ?_)); go_step))
    refine wpl_callT (f := 96) (caps := #[.pointer (some ⟨b5, 0, none⟩)]) (enters_of Tryz.func96 rfl rfl) rfl rfl rfl (t69 r 2 _ _ hp5 hr (by omega)) ?_
    rintro e w12 ⟨rfl, y⟩
    refine ⟨_, rfl, ?_⟩
    refine gset ?_
    have hp5 := hp5.ext y
    have h16 := y.at h16
    have x6 := x6.trans y
    clear y
    repeat' (first | ((with_reducible refine o_s ?_); (first | (refine o_1 ?_; refine o_2 ?_) | (refine o_g ?_; first | refine o_u ?_ | refine o_k ?_ | refine o_n ?_ | refine o_v ?_ | ((first | refine o_G ?_ ?_ | refine o_N ?_ ?_) <;> intro hc)))) | ((fail_if_success (with_reducible refine o_s ?_)); go_step))
    refine wpl_callT (f := 96) (caps := #[.pointer (some ⟨b5, 0, none⟩)]) (enters_of Tryz.func96 rfl rfl) rfl rfl rfl (t69 r 3 _ _ hp5 hr (by omega)) ?_
    rintro e w13 ⟨rfl, y⟩
    refine ⟨_, rfl, ?_⟩
    refine gset ?_
    have hp5 := hp5.ext y
    have h16 := y.at h16
    have x6 := x6.trans y
    clear y
    repeat' (first | ((with_reducible refine o_s ?_); (first | (refine o_1 ?_; refine o_2 ?_) | (refine o_g ?_; first | refine o_u ?_ | refine o_k ?_ | refine o_n ?_ | refine o_v ?_ | ((first | refine o_G ?_ ?_ | refine o_N ?_ ?_) <;> intro hc)))) | ((fail_if_success (with_reducible refine o_s ?_)); go_step))
    refine wpl_callT (f := 96) (caps := #[.pointer (some ⟨b5, 0, none⟩)]) (enters_of Tryz.func96 rfl rfl) rfl rfl rfl (t69 r 4 _ _ hp5 hr (by omega)) ?_
    rintro e w14 ⟨rfl, y⟩
    refine ⟨_, rfl, ?_⟩
    refine gset ?_
    have hp5 := hp5.ext y
    have h16 := y.at h16
    have x6 := x6.trans y
    clear y
    repeat' (first | ((with_reducible refine o_s ?_); (first | (refine o_1 ?_; refine o_2 ?_) | (refine o_g ?_; first | refine o_u ?_ | refine o_k ?_ | refine o_n ?_ | refine o_v ?_ | ((first | refine o_G ?_ ?_ | refine o_N ?_ ?_) <;> intro hc)))) | ((fail_if_success (with_reducible refine o_s ?_)); go_step))
    have hsc : (soaOf d).cells = [str (firstN d).1, str (firstN (firstN d).2.1).1, .int .i64 (numP r 0 4 : Nat), .int .i64 (numP r 1 4 : Nat), .int .i64 (numP r 2 4 : Nat), .int .i64 (numP r 3 4 : Nat), .int .i64 (numP r 4 4 : Nat)] := by
      simp only [SoaR.cells, soaOf, hrr]
    refine wpl_run (v := .agg (soaOf d).cells.toArray) rfl (by rw [hsc]; exact Runs.build rfl (by kernel_rfl)) ?_
    refine gset ?_
    refine wpl_allocB (z := zeroSoa) rfl (by decide +kernel) ?_
    intro w15 x15 s15 h15
    refine gset ?_
    have h16 := x15.at h16
    have x6 := x6.trans x15
    have hlt16 : w.heap.size < w14.heap.size := (Array.getElem?_eq_some_iff.1 ‹w14.heap[w.heap.size]? = _›).1
    refine wpl_storeB (v := .agg (soaOf d).cells.toArray) rfl rfl rfl h15 (show sizeTy Tryz.prog 51 7 = true by decide +kernel) rfl (by rw [hsc]; simp [Value.cells, Value.oneCell', str]) ?_
    intro w16 p16
    have h16 := p16.at h16 (by omega)
    have x6 := x6.move p16.mv (by rintro k ⟨⟩; omega)
    have hb10 : w16.heap[w14.heap.size]? = some (.cells (soaOf d).cells.toArray 51 (0, 0)) := p16.this
    have hp10 := pts_block hb10
    repeat' (first | ((with_reducible refine o_s ?_); (first | (refine o_1 ?_; refine o_2 ?_) | (refine o_g ?_; first | refine o_u ?_ | refine o_k ?_ | refine o_n ?_ | refine o_v ?_ | ((first | refine o_G ?_ ?_ | refine o_N ?_ ?_) <;> intro hc)))) | ((fail_if_success (with_reducible refine o_s ?_)); go_step))
    refine wpl_run (v := .agg (soaOf d).cells.toArray) rfl (Runs.loadN (n := 7) hp10 rfl (by decide +kernel)) ?_
    refine gset ?_
    have hm1 : (soaOf d).main.length ≤ 4611686018427387904 := by simp only [soaOf]; omega
    have hm2 : (soaOf d).mail.length ≤ 4611686018427387904 := by simp only [soaOf]; omega
    refine wpl_callV (enters_of Tryz.func65 rfl rfl) rfl rfl (t70 (soaOf d) _ hm1 hm2) ?_
    intro w17 x17
    refine gset ?_
    have h16 := x17.at h16
    have hb10 := x17.at hb10
    have x6 := x6.trans x17
    have hp10 := hp10.ext x17
    cases hok : (soaOf d).ok with
    | false =>
      simp only [hok, Bool.false_eq_true, if_false] at hps ⊢
      repeat' (first | ((with_reducible refine o_s ?_); (first | (refine o_1 ?_; refine o_2 ?_) | (refine o_g ?_; first | refine o_u ?_ | refine o_k ?_ | refine o_n ?_ | refine o_v ?_ | ((first | refine o_G ?_ ?_ | refine o_N ?_ ?_) <;> intro hc)))) | ((fail_if_success (with_reducible refine o_s ?_)); go_step))
      refine wpl_run (v := .agg zeroSoa.toArray) rfl (Runs.build (parts := []) (vals := []) rfl (by kernel_rfl)) ?_
      refine gset ?_
      refine wpl_storeB (v := .agg zeroSoa.toArray) rfl rfl rfl h16 (by decide +kernel) rfl (by decide +kernel) ?_
      intro w7 p7
      have x7 : Ext w w7 := x6.move p7.mv (by rintro k ⟨⟩; omega)
      have h17 : w7.heap[w.heap.size]? = some (.cells zeroSoa.toArray 51 (0, 0)) := p7.this
      repeat' (first | ((with_reducible refine o_s ?_); (first | (refine o_1 ?_; refine o_2 ?_) | (refine o_g ?_; first | refine o_u ?_ | refine o_k ?_ | refine o_n ?_ | refine o_v ?_ | ((first | refine o_G ?_ ?_ | refine o_N ?_ ?_) <;> intro hc)))) | ((fail_if_success (with_reducible refine o_s ?_)); go_step))
      refine bodyPost_ret (results_cellT (cs := zeroSoa) rfl rfl h17 (by decide +kernel)) rfl ⟨?_, x7⟩
      rw [hps]
      rfl
    | true =>
      simp only [hok, if_true] at hps ⊢
      repeat' (first | ((with_reducible refine o_s ?_); (first | (refine o_1 ?_; refine o_2 ?_) | (refine o_g ?_; first | refine o_u ?_ | refine o_k ?_ | refine o_n ?_ | refine o_v ?_ | ((first | refine o_G ?_ ?_ | refine o_N ?_ ?_) <;> intro hc)))) | ((fail_if_success (with_reducible refine o_s ?_)); go_step))
      refine wpl_run (v := .agg (soaOf d).cells.toArray) rfl (Runs.loadN (n := 7) hp10 rfl (by decide +kernel)) ?_
      refine gset ?_
      refine wpl_storeB (v := .agg (soaOf d).cells.toArray) rfl rfl rfl h16 (show sizeTy Tryz.prog 51 7 = true by decide +kernel) rfl (by rw [hsc]; simp [Value.cells, Value.oneCell', str]) ?_
      intro w7 p7
      have x7 : Ext w w7 := x6.move p7.mv (by rintro k ⟨⟩; omega)
      have h17 : w7.heap[w.heap.size]? = some (.cells (soaOf d).cells.toArray 51 (0, 0)) := p7.this
      repeat' (first | ((with_reducible refine o_s ?_); (first | (refine o_1 ?_; refine o_2 ?_) | (refine o_g ?_; first | refine o_u ?_ | refine o_k ?_ | refine o_n ?_ | refine o_v ?_ | ((first | refine o_G ?_ ?_ | refine o_N ?_ ?_) <;> intro hc)))) | ((fail_if_success (with_reducible refine o_s ?_)); go_step))
      refine bodyPost_ret (results_cellT (cs := (soaOf d).cells) rfl rfl h17 (show aggTy Tryz.prog 51 7 = true by decide +kernel)) rfl ⟨?_, x7⟩
      rw [hps]
      rfl
  · refine wpl_run (v := .agg zeroSoa.toArray) rfl (Runs.build (parts := []) (vals := []) rfl (by kernel_rfl)) ?_
    refine gset ?_
    refine wpl_storeB (v := .agg zeroSoa.toArray) rfl rfl rfl h16 (by decide +kernel) rfl (by decide +kernel) ?_
    intro w7 p7
    have x7 : Ext w w7 := x6.move p7.mv (by rintro k ⟨⟩; omega)
    have h17 : w7.heap[w.heap.size]? = some (.cells zeroSoa.toArray 51 (0, 0)) := p7.this
    repeat' (first | ((with_reducible refine o_s ?_); (first | (refine o_1 ?_; refine o_2 ?_) | (refine o_g ?_; first | refine o_u ?_ | refine o_k ?_ | refine o_n ?_ | refine o_v ?_ | ((first | refine o_G ?_ ?_ | refine o_N ?_ ?_) <;> intro hc)))) | ((fail_if_success (with_reducible refine o_s ?_)); go_step))
    refine bodyPost_ret (results_cellT (cs := zeroSoa) rfl rfl h17 (by decide +kernel)) rfl ⟨?_, x7⟩
    have hno : parseSoa d = none := by
      unfold parseSoa
      rw [if_neg]
      rintro ⟨q1, q2, q3, q4⟩
      have := ‹(!(firstN (firstN d).2.1).2.2) = true›
      simp [q2] at this
    rw [hno]
    rfl
  · refine wpl_run (v := .agg zeroSoa.toArray) rfl (Runs.build (parts := []) (vals := []) rfl (by kernel_rfl)) ?_
    refine gset ?_
    refine wpl_storeB (v := .agg zeroSoa.toArray) rfl rfl rfl h16 (by decide +kernel) rfl (by decide +kernel) ?_
    intro w7 p7
    have x7 : Ext w w7 := x6.move p7.mv (by rintro k ⟨⟩; omega)
    have h17 : w7.heap[w.heap.size]? = some (.cells zeroSoa.toArray 51 (0, 0)) := p7.this
    repeat' (first | ((with_reducible refine o_s ?_); (first | (refine o_1 ?_; refine o_2 ?_) | (refine o_g ?_; first | refine o_u ?_ | refine o_k ?_ | refine o_n ?_ | refine o_v ?_ | ((first | refine o_G ?_ ?_ | refine o_N ?_ ?_) <;> intro hc)))) | ((fail_if_success (with_reducible refine o_s ?_)); go_step))
    refine bodyPost_ret (results_cellT (cs := zeroSoa) rfl rfl h17 (by decide +kernel)) rfl ⟨?_, x7⟩
    have hno : parseSoa d = none := by
      unfold parseSoa
      rw [if_neg]
      rintro ⟨q1, q2, q3, q4⟩
      have := ‹(!(firstN d).2.2) = true›
      simp [q1] at this
    rw [hno]
    rfl

end Go.Proofs.X
