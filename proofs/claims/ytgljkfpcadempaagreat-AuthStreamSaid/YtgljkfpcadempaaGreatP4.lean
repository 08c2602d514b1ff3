/- Laws and walks that the proof of the statement is made of (part 4). -/
import Derived.Test.YtgljkfpcadempaaGreatP3
set_option linter.unusedSimpArgs false
set_option linter.unusedVariables false
namespace Go.Proofs.X
open Go.RowKit
set_option maxRecDepth 100000
theorem oF (a b : List (List UInt8)) : enc (a ++ b) = enc a ++ enc b := by simp [enc]
theorem EK (x : List UInt8) : enc [x] = UInt8.ofNat x.length :: x := by simp [enc]
theorem AO {ls : List (List UInt8)} {x : List UInt8} (h : x ∈ ls) (hb : gK x = false) : nP ls = none := by
 rw [nP, if_neg]
 rintro ⟨h1, _⟩
 have := List.all_eq_true.1 h1 x h
 rw [hb] at this
 cases this
theorem xF {ls : List (List UInt8)} {k : Nat} (h : 254 < (enc (ls.take k)).length) : nP ls = none := by
 rw [nP, if_neg]
 rintro ⟨_, h2⟩
 have : enc ls = enc (ls.take k) ++ enc (ls.drop k) := by rw [← oF, List.take_append_drop]
 rw [this, List.length_append] at h2
 omega
theorem rB (a b : List UInt8) : Lib.byteCells (a ++ b) = Lib.byteCells a ++ Lib.byteCells b := by simp [Lib.byteCells]
theorem iD (a : List UInt8) : (Lib.byteCells a).length = a.length := by simp [Lib.byteCells]
set_option maxHeartbeats 1000000 in
theorem SN (v : Value) (ls : List (List UInt8)) (w : World) (h : Sl 1 w v (aS ls)) (hl : ls.length ≤ 9223372036854775806) : Calls Tryz.prog 71 #[v] w (bS w (match nP ls with | some n => .tuple #[aI n, .int .i64 0] | none => .tuple #[aI [], .int .i64 1])) := by
 go_enter Tryz.func71, Tryz.ntmps71
 refine_lift OZ ?_; intro _ _ _
 refine_lift gA fun _ _ => ?_
 refine aN (z := [.pointer none, .slice none 0 0]) rfl (by decide +kernel) ?_
 intro w1 x1 s1 h1
 refine aA ?_
 have hb : Lib.IsBuilder 188 5 w.heap.size w.heap.size (Lib.byteCells []) w1 := .inl ⟨Nat.le_refl _, .slice none 0 0, h1, World.ownsRow_nil _ _ _ _, by simp [Value.ownBlock]⟩
 have hs := h.ext x1
 refine_lift gA fun _ _ => ?_
 clear hs
 have hlt : (aS ls).length = ls.length := by simp [aS]
 rw [hlt]
 go_loopw [9] (fun i wr => ∃ k : Nat, k ≤ ls.length ∧ i = .int .i64 k ∧ Ext w wr ∧ Lib.IsBuilder 188 5 w.heap.size w.heap.size (Lib.byteCells (enc (ls.take k))) wr ∧ (ls.take k).all gK = true ∧ (enc (ls.take k)).length ≤ 318) (fun i _ => ls.length - (intOf i).toNat)
 case atStart => exact ⟨0, Nat.zero_le _, rfl, x1, hb, rfl, by simp [enc]⟩
 case round =>
  obtain ⟨k, hk, rfl, hx, hbk, hall, h318⟩ := hrel
  have hsl := h.ext hx
  by_cases hlt : k < ls.length
  ·have hp := hsl.elem (e := [aI ls[k]]) (i := k) (by simp [aS, hlt])
   have hmem : ls[k] ∈ ls := List.getElem_mem hlt
   (repeat' first | ((with_reducible refine aJ ?_); go_step) | ((with_reducible refine aH ?_); first | refine bQ ?_ | (refine aK ?_ ?_ <;> intro hc)) | fail)
   ·rename_i hc0 hc1 hc2
    refine aF (enters_of Tryz.func127 rfl rfl) rfl rfl (Tryz.Builder_Len _ _ _ _ hbk) ?_
    rintro e w2 ⟨rfl, rfl⟩
    refine ⟨_, rfl, ?_⟩
    refine aA ?_
    rw [iD]
    refine_lift FX (fun _ _ _ => ?_) (fun _ => ?_)
    ·rename_i hc3
     go_ret2
     refine ⟨?_, hx⟩
     rw [xF (k := k) (by omega)]
     rfl
    ·rename_i hc3
     have h63 : ls[k].length ≤ 63 := by omega
     have e8 : IntKind.wrap .u8 ((ls[k].length : Nat) : Int) = ((ls[k].length : Nat) : Int) := by simp [IntKind.wrap, IntKind.bits, IntKind.signed]; omega
     rw [e8]
     refine aF (enters_of Tryz.func128 rfl rfl) rfl rfl (T.Builder_WriteByte _ _ _ _ _ hbk (by rw [iD]; omega) hx.size) ?_
     rintro e w3 ⟨rfl, hb3, bl3, dr3⟩
     refine ⟨_, rfl, ?_⟩
     refine aA ?_
     refine_lift dL ?_
     refine aF (enters_of Tryz.func129 rfl rfl) rfl rfl (T.Builder_WriteString _ _ _ _ _ (.inr hb3) (by rw [List.length_append, iD, eJ]; simp; omega) (Nat.le_trans hx.size bl3.size)) ?_
     rintro e w4 ⟨rfl, hb4, bl4, dr4⟩
     refine ⟨_, rfl, ?_⟩
     refine aA ?_
     have hx4 : Ext w w4 := hx.below' (bl3.trans bl4) (Nat.le_trans dr3 dr4)
     have hb5 : Lib.IsBuilder 188 5 w.heap.size w.heap.size (Lib.byteCells (enc (ls.take (k + 1)))) w4 := by
      rw [List.take_add_one, List.getElem?_eq_getElem hlt, Option.toList_some, oF, EK, rB]
      have e : Lib.byteCells (UInt8.ofNat ls[k].length :: ls[k]) = Value.int .u8 (ls[k].length : Nat) :: Lib.strCells ⟨ls[k].toArray⟩ := by
       have : (UInt8.ofNat ls[k].length).toNat = ls[k].length := by simp; omega
       simp [Lib.byteCells, Lib.strCells, this]
      rw [e]
      refine .inr ?_
      simpa using hb4
     have hall2 : (ls.take (k + 1)).all gK = true := by
      rw [List.take_add_one, List.getElem?_eq_getElem hlt, Option.toList_some, List.all_append, hall]
      have : ls[k].length ≠ 0 := fun e => hc2 (List.eq_nil_of_length_eq_zero e)
      simp [gK]; omega
     have h3182 : (enc (ls.take (k + 1))).length ≤ 318 := by
      rw [List.take_add_one, List.getElem?_eq_getElem hlt, Option.toList_some, oF, EK]
      simp; omega
     clear hbk hb3 hb4 bl3 bl4 hsl hp
     refine_lift dL ?_
     exact ⟨⟨k + 1, by omega, rfl, hx4, hb5, hall2, h3182⟩, by simp [intOf]; omega⟩
   ·go_ret2
    refine ⟨?_, hx⟩
    rw [AO hmem (by simp [gK]; omega)]
    rfl
   ·go_ret2
    refine ⟨?_, hx⟩
    rw [AO hmem (by simp [gK, hc])]
    rfl
  ·have : k = ls.length := by omega
   subst this
   rw [List.take_length] at hbk hall h318
   refine_lift SK fun _ _ _ _ _ => ?_
   refine aF (enters_of Tryz.func127 rfl rfl) rfl rfl (Tryz.Builder_Len _ _ _ _ hbk) ?_
   rintro e w2 ⟨rfl, rfl⟩
   refine ⟨_, rfl, ?_⟩
   refine aA ?_
   rw [iD]
   refine_lift FX (fun _ _ _ => ?_) (fun _ => ?_)
   ·go_ret2
    refine ⟨?_, hx⟩
    rw [xF (k := ls.length) (by rw [List.take_length]; omega)]
    rfl
   ·refine aF (enters_of Tryz.func130 rfl rfl) rfl rfl (T.Builder_String _ _ _ w _ hbk hx (Nat.le_refl _) (by omega)) ?_
    rintro e w3 ⟨rfl, x3⟩
    refine ⟨_, rfl, ?_⟩
    refine aA ?_
    refine_lift dL ?_
    go_ret2
    refine ⟨?_, x3⟩
    rw [nP, if_pos ⟨hall, by omega⟩]
    rfl
theorem oG (l : List (List UInt8)) (k : Nat) (b : List UInt8) (h : l[k]? = some b) : (aS l)[k]? = some [aI b] := by simp [aS, h]
theorem CV (l : List (List UInt8)) (k : Nat) (b : List UInt8) : (aS l).set k [aI b] = aS (l.set k b) := by simp [aS, List.map_set]
theorem bN (l : List (List UInt8)) : (aS l).length = l.length := by simp [aS]
set_option maxHeartbeats 1000000 in
theorem IK (nm : List UInt8) (w : World) : Calls Tryz.prog 32 #[aI nm] w (bS w (aI (fold nm))) := by
 go_enter Tryz.func32, Tryz.ntmps32
 refine_lift gA fun _ _ => ?_
 refine aT (enters_of Tryz.func69 rfl rfl) rfl rfl (QO nm _) ?_
 intro v w1 x1 hv
 cases hl : aX nm with
 | none =>
  rw [hl] at hv
  subst hv
  refine_lift dL ?_
  go_ret
  exact ⟨by simp [fold, hl], x1⟩
 | some ls =>
  rw [hl] at hv
  obtain ⟨s, rfl, hs⟩ := hv
  have hfit := fD hl
  have hlen := lK ls
  rw [hfit.2.1] at hlen
  have hsl := hs.sl
  refine_lift gA fun _ _ => ?_
  clear hsl
  rw [bN]
  go_loopw [19] (fun i wr => ∃ k : Nat, k ≤ ls.length ∧ i = .int .i64 k ∧ Ext w wr ∧ Own w.heap.size 1 9 wr s (aS (rA low ls k))) (fun i _ => ls.length - (intOf i).toNat)
  case atStart => exact ⟨0, Nat.zero_le _, rfl, x1, by simpa [FU] using hs⟩
  case round =>
   obtain ⟨k, hk, rfl, hx, ho⟩ := hrel
   have hsl := ho.sl
   have hlen2 : (aS (rA low ls k)).length = ls.length := by rw [bN, AK]
   by_cases hlt : k < ls.length
   ·have hp := hsl.elem (oG _ _ _ (IG low ls k hlt))
    have h254 : ls[k].length ≤ 254 := by have := uE (List.getElem_mem hlt); rw [hfit.2.1] at this; omega
    refine_lift CI ?_; intro _ _ _ _
    refine aE (enters_of Tryz.func70 rfl rfl) rfl rfl (TG _ _ h254) ?_
    intro w2 x2
    refine aA ?_
    have hsl := hsl.ext x2
    have ho := ho.ext x2
    have hx := hx.trans x2
    clear hp
    refine_lift dL ?_
    refine gF (c := aI (low ls[k])) (i := k) rfl rfl rfl ho (by omega) (by decide +kernel) rfl ?_
    intro w3 o3 m3
    have hx3 := ho.mvx m3 hx (Nat.le_refl _)
    rw [CV, ← FV low ls k hlt] at o3
    clear hx ho hsl
    refine_lift dL ?_
    exact ⟨⟨k + 1, by omega, rfl, hx3, o3⟩, by simp [intOf]; omega⟩
   ·have : k = ls.length := by omega
    subst this
    rw [IF] at hsl
    refine_lift NR fun _ _ _ => ?_
    refine aE (enters_of Tryz.func71 rfl rfl) rfl rfl (SN _ _ _ hsl (by simp; omega)) ?_
    intro w2 x2
    refine aA ?_
    cases hj : nP (ls.map low) with
    | none =>
     refine_lift dL ?_
     go_ret
     exact ⟨by simp [fold, hl, hj], hx.trans x2⟩
    | some n =>
     refine_lift dL ?_
     go_ret
     exact ⟨by simp [fold, hl, hj], hx.trans x2⟩
theorem SP {B : Nat} {v : Value} {ls : List (List UInt8)} {w : World} (h : Own B 1 9 w v (aS ls)) : Calls Tryz.prog 171 #[v] w fun e w' => e = .returned (.tuple #[]) ∧ Own B 1 9 w' v (aS ls.reverse) ∧ Mv v.ownBlock w w' := by
 rcases h.form with ⟨rfl, h0⟩ | ⟨g, cap, rfl, hg, hB, hc, hm⟩
 ·have : ls = [] := by simpa [aS] using h0
  subst this
  refine (Tryz.slices_Reverse_string_empty none 0 w).mono ?_
  rintro e w' ⟨rfl, rfl⟩
  exact ⟨rfl, h, Mv.refl _ _⟩
 ·rw [bN] at h hm ⊢
  refine (Tryz.slices_Reverse_string g 0 cap ls w (Own.holds h) hm).mono ?_
  rintro e w' ⟨rfl, n, rfl⟩
  have := Own.putRow (ys := ls.reverse) h (by simp) n #[]
  rw [Sort.grow_empty] at this
  exact ⟨rfl, this.1, this.2⟩
theorem TJ {B : Nat} {v : Value} {ls : List (List UInt8)} {w : World} (h : Own B 1 9 w v (aS ls)) (hl : ls.length < 4611686018427387904) : Calls Tryz.prog 107 #[v] w fun e w' => e = .returned (.tuple #[]) ∧ Own B 1 9 w' v (aS (ls.mergeSort fun x y => decide (x ≤ y))) ∧ Mv v.ownBlock w w' := by
 rcases h.form with ⟨rfl, h0⟩ | ⟨g, cap, rfl, hg, hB, hc, hm⟩
 ·have : ls = [] := by simpa [aS] using h0
  subst this
  refine (Tryz.slices_Sort_string_none none 0 w).mono ?_
  rintro e w' ⟨rfl, rfl⟩
  exact ⟨rfl, by simpa using h, Mv.refl _ _⟩
 ·rw [bN] at h hm ⊢
  refine (Tryz.slices_Sort_string g 0 cap ls w (Own.holds h) hg hl).mono ?_
  rintro e w' ⟨rfl, n, os, rfl⟩
  have := Own.putRow (ys := ls.mergeSort fun x y => decide (x ≤ y)) h (List.length_mergeSort _) n os
  exact ⟨rfl, this.1, this.2⟩
theorem CW (ls : List (List UInt8)) : (Lib.compact ls).length ≤ ls.length := by
 unfold Lib.compact Lib.compactUpTo
 rw [List.length_map]
 exact Nat.le_trans (List.length_filter_le _ _) (by simp)
theorem TK {B : Nat} {v : Value} {ls : List (List UInt8)} {w : World} (h : Own B 1 9 w v (aS ls)) : Calls Tryz.prog 108 #[v] w fun e w' => ∃ v', e = .returned v' ∧ Own B 1 9 w' v' (aS (Lib.compact ls)) ∧ Mv v.ownBlock w w' ∧ v'.ownBlock = v.ownBlock := by
 rcases h.form with ⟨rfl, h0⟩ | ⟨g, cap, rfl, hg, hB, hc, hm⟩
 ·have : ls = [] := by simpa [aS] using h0
  subst this
  refine (Tryz.slices_Compact_string_empty none 0 w).mono ?_
  rintro e w' ⟨rfl, rfl⟩
  exact ⟨_, rfl, h, Mv.refl _ _, rfl⟩
 ·rw [bN] at h hm hc ⊢
  refine (Tryz.slices_Compact_string g 0 cap ls w (Own.holds h) hm hc).mono ?_
  rintro e w' ⟨rfl, n, rfl⟩
  have hle := CW ls
  have := Own.putRow (ys := Lib.compact ls ++ List.replicate (ls.length - (Lib.compact ls).length) []) h (by simp; omega) n #[]
  rw [Sort.grow_empty] at this
  refine ⟨_, rfl, ?_, this.2, rfl⟩
  have h2 := this.1.short (m := (Lib.compact ls).length) (by simp)
  rw [List.map_append, List.take_left' (by simp)] at h2
  exact h2
theorem PB (nm : List UInt8) (w : World) : Calls Tryz.prog 116 #[aI nm] w (sX w fun v w' => match dD nm with
 | some ls => ∃ s, v = .tuple #[s, .bool true] ∧ Sl 1 w' s (aS ls) ∧ ls.length ≤ 254
 | none => ∃ s, v = .tuple #[s, .bool false]) := by
 go_enter Tryz.func116, Tryz.ntmps116
 refine_lift NR ?_; intro _ _ _
 refine aE (enters_of Tryz.func32 rfl rfl) rfl rfl (IK nm _) ?_
 intro w1 x1
 refine aA ?_
 refine aT (enters_of Tryz.func69 rfl rfl) rfl rfl (QO _ _) ?_
 intro v w2 x2 hv
 cases hl : aX (fold nm) with
 | none =>
  rw [hl] at hv
  subst hv
  refine_lift gA fun _ _ => ?_
  refine aF (enters_of Tryz.func171 rfl rfl) rfl rfl (SP (ls := []) (Own.nil w2.heap.size 1 9 w2)) ?_
  rintro e w3 ⟨rfl, _, m3⟩
  refine ⟨_, rfl, ?_⟩
  refine_lift dL ?_
  go_ret2
  refine ⟨_, rfl, (x1.trans x2).move m3 (by rintro k ⟨⟩), ?_⟩
  simp [dD, hl]
 | some ls =>
  rw [hl] at hv
  obtain ⟨s, rfl, hs⟩ := hv
  refine_lift gA fun _ _ => ?_
  refine aF (enters_of Tryz.func171 rfl rfl) rfl rfl (SP hs) ?_
  rintro e w3 ⟨rfl, o3, m3⟩
  refine ⟨_, rfl, ?_⟩
  refine_lift dL ?_
  go_ret2
  refine ⟨_, rfl, hs.mvx m3 (x1.trans x2) x1.size, ?_⟩
  have := fD hl
  simp only [dD, hl, Option.map_some]
  refine ⟨s, rfl, o3.sl, ?_⟩
  have h2 := lK ls
  rw [this.2.1] at h2
  simp; omega
theorem SQ (a : List UInt8) (w : World) : Calls Tryz.prog 230 #[aI a] w (bS w (.bool false)) := by
 go_enter Tryz.func230, Tryz.ntmps230
 refine_lift dL ?_
 go_ret
 exact ⟨by simp, Ext.refl _⟩
theorem ST (a : List UInt8) (w : World) : Calls Tryz.prog 226 #[aI a] w (bS w (.bool false)) := by
 go_enter Tryz.func226, Tryz.ntmps226
 refine_lift dL ?_
 go_ret
 exact ⟨by simp, Ext.refl _⟩
theorem TL (a b : List UInt8) (w : World) : Calls Tryz.prog 207 #[aI a, aI b] w (bS w (.int .i64 (mP a b))) := by
 go_enter Tryz.func207, Tryz.ntmps207
 refine_lift gA fun _ _ => ?_
 refine aE (enters_of Tryz.func230 rfl rfl) rfl rfl (SQ _ _) ?_
 intro w1 x1
 refine_lift gA fun _ _ => ?_
 refine aE (enters_of Tryz.func230 rfl rfl) rfl rfl (SQ _ _) ?_
 intro w2 x2
 refine_lift MU (fun _ _ _ _ => ?_) (fun _ _ => ?_) (fun _ => ?_)
 ·rename_i h
  go_ret
  exact ⟨by simp [mP, h], x1.trans x2⟩
 ·have h := ‹Op.bytesLess a b = false›
  have h2 := ‹(!(Op.bytesLess a b || a == b)) = true›
  go_ret
  have h3 : a ≠ b := by intro e; subst e; simp at h2
  exact ⟨by simp [mP, h, h3], x1.trans x2⟩
 ·have h := ‹Op.bytesLess a b = false›
  have h2 := ‹(!(Op.bytesLess a b || a == b)) = false›
  go_ret
  rw [h] at h2
  have h3 : a = b := by simpa using h2
  subst h3
  exact ⟨by simp [mP, h], x1.trans x2⟩
theorem TM (a b : List UInt8) (w : World) : Calls Tryz.prog 231 #[aI a, aI b] w (bS w (.int .i64 (mP a b))) := by
 go_enter Tryz.func231, Tryz.ntmps231
 refine_lift gA fun _ _ => ?_
 refine aE (enters_of Tryz.func226 rfl rfl) rfl rfl (ST _ _) ?_
 intro w1 x1
 refine_lift gA fun _ _ => ?_
 refine aE (enters_of Tryz.func226 rfl rfl) rfl rfl (ST _ _) ?_
 intro w2 x2
 refine_lift MU (fun _ _ _ _ => ?_) (fun _ _ => ?_) (fun _ => ?_)
 ·rename_i h
  go_ret
  exact ⟨by simp [mP, h], x1.trans x2⟩
 ·have h := ‹Op.bytesLess a b = false›
  have h2 := ‹(!(Op.bytesLess a b || a == b)) = true›
  go_ret
  have h3 : a ≠ b := by intro e; subst e; simp at h2
  exact ⟨by simp [mP, h, h3], x1.trans x2⟩
 ·have h := ‹Op.bytesLess a b = false›
  have h2 := ‹(!(Op.bytesLess a b || a == b)) = false›
  go_ret
  rw [h] at h2
  have h3 : a = b := by simpa using h2
  subst h3
  exact ⟨by simp [mP, h], x1.trans x2⟩
theorem jA {l : List (List UInt8)} {k : Nat} (h : k < l.length) : (aS l)[k]? = some [aI l[k]] := oG l k _ (List.getElem?_eq_getElem h)
theorem TN (u v : Value) (xs ys : List (List UInt8)) (w : World) (hu : Sl 1 w u (aS xs)) (hv : Sl 1 w v (aS ys)) : Calls Tryz.prog 208 #[u, v] w (bS w (.int .i64 (gH xs ys))) := by
 have hxl := hu.le
 have hyl := hv.le
 have hxe := bN xs
 have hye := bN ys
 go_enter Tryz.func208, Tryz.ntmps208
 refine_lift gA fun _ _ => ?_
 rw [hxe]
 go_loopw [11] (fun i wr => ∃ k : Nat, k ≤ xs.length ∧ k ≤ ys.length ∧ i = .int .i64 k ∧ Ext w wr ∧ gH xs ys = gH (xs.drop k) (ys.drop k)) (fun i _ => xs.length - (intOf i).toNat)
 case atStart => exact ⟨0, Nat.zero_le _, Nat.zero_le _, rfl, Ext.refl _, rfl⟩
 case round =>
  obtain ⟨k, hk, hk2, rfl, hx, hrec⟩ := hrel
  have hul := hu.ext hx
  have hvl := hv.ext hx
  by_cases hlt : k < xs.length
  ·have hp := hul.elem (jA hlt)
   have hd := List.drop_eq_getElem_cons hlt
   by_cases hlt2 : k < ys.length
   ·have hp2 := hvl.elem (jA hlt2)
    have hd2 := List.drop_eq_getElem_cons hlt2
    refine_lift TD ?_; intro _ _ _ _ _ _ _
    refine aE (enters_of Tryz.func231 rfl rfl) rfl rfl (TM _ _ _) ?_
    intro w2 x2
    have hx2 := hx.trans x2
    clear hx hul hvl hp hp2
    refine_lift CR (fun _ => ?_) (fun _ => ?_)
    ·rename_i hc
     go_ret
     refine ⟨?_, hx2⟩
     rw [hrec, hd, hd2, gH, if_pos (by simpa using hc)]
     rfl
    ·rename_i hc
     refine ⟨⟨k + 1, by omega, by omega, rfl, hx2, ?_⟩, by simp [intOf]; omega⟩
     rw [hrec, hd, hd2, gH, if_neg (by simpa using hc)]
   ·have : k = ys.length := by omega
    subst this
    refine_lift HW fun _ _ _ _ _ _ => ?_
    go_ret
    refine ⟨?_, hx⟩
    rw [hrec, hd, List.drop_length, gH]
    rfl
  ·have : k = xs.length := by omega
   subst this
   refine_lift LC (fun _ _ => ?_) (fun _ _ _ _ => ?_)
   ·rename_i hc
    go_ret
    refine ⟨?_, hx⟩
    have hlt2 : xs.length < ys.length := by rw [hxe, hye] at hc; omega
    rw [hrec, List.drop_length, List.drop_eq_getElem_cons hlt2, gH]
    rfl
   ·rename_i hc
    go_ret
    refine ⟨?_, hx⟩
    have hlt2 : xs.length = ys.length := by rw [hxe, hye] at hc; omega
    rw [hrec, List.drop_length, hlt2, List.drop_length, gH]
    rfl
theorem TO (a b : List UInt8) (w : World) : Calls Tryz.prog 159 #[aI a, aI b] w (bS w (.int .i64 (lL a b))) := by
 go_enter Tryz.func159, Tryz.ntmps159
 refine_lift gA fun _ _ => ?_
 refine aT (enters_of Tryz.func116 rfl rfl) rfl rfl (PB a _) ?_
 intro v w1 x1 hv
 cases ha : dD a with
 | none =>
  rw [ha] at hv
  obtain ⟨s, rfl⟩ := hv
  refine_lift gA fun _ _ => ?_
  refine aT (enters_of Tryz.func116 rfl rfl) rfl rfl (PB b _) ?_
  intro v w2 x2 hv
  cases hb : dD b with
  | none =>
   rw [hb] at hv
   obtain ⟨s2, rfl⟩ := hv
   refine_lift CI fun _ _ _ _ => ?_
   refine aE (enters_of Tryz.func207 rfl rfl) rfl rfl (TL _ _ _) ?_
   intro w3 x3
   refine_lift dL ?_
   go_ret
   exact ⟨by simp [lL, ha, hb], (x1.trans x2).trans x3⟩
  | some ys =>
   rw [hb] at hv
   obtain ⟨s2, rfl, hs2, _⟩ := hv
   refine_lift dL ?_
   go_ret
   exact ⟨by simp [lL, ha, hb], x1.trans x2⟩
 | some xs =>
  rw [ha] at hv
  obtain ⟨s, rfl, hs, _⟩ := hv
  refine_lift gA fun _ _ => ?_
  refine aT (enters_of Tryz.func116 rfl rfl) rfl rfl (PB b _) ?_
  intro v w2 x2 hv
  cases hb : dD b with
  | none =>
   rw [hb] at hv
   obtain ⟨s2, rfl⟩ := hv
   refine_lift dL ?_
   go_ret
   exact ⟨by simp [lL, ha, hb], x1.trans x2⟩
  | some ys =>
   rw [hb] at hv
   obtain ⟨s2, rfl, hs2, _⟩ := hv
   have hs := hs.ext x2
   refine_lift gA fun _ _ => ?_
   refine aE (enters_of Tryz.func208 rfl rfl) rfl rfl (TN _ _ _ _ _ hs hs2) ?_
   intro w3 x3
   refine_lift dL ?_
   go_ret
   exact ⟨by simp [lL, ha, hb], (x1.trans x2).trans x3⟩
theorem NV (nm : List UInt8) (w : World) : Calls Tryz.prog 65 #[aI nm] w (bS w (.int .i64 (if (aX nm).isSome then 0 else 1))) := by
 go_enter Tryz.func65, Tryz.ntmps65
 refine_lift CI fun _ _ _ _ => ?_
 refine aT (enters_of Tryz.func69 rfl rfl) rfl rfl (QO nm _) ?_
 intro v w1 x1 hv
 cases hl : aX nm with
 | none =>
  rw [hl] at hv
  subst hv
  refine_lift dL ?_
  go_ret
  exact ⟨by simp [hl], x1⟩
 | some ls =>
  rw [hl] at hv
  obtain ⟨s, rfl, _⟩ := hv
  refine_lift dL ?_
  go_ret
  exact ⟨by simp [hl], x1⟩
theorem RF (nm : List UInt8) (w : World) (hl : nm.length ≤ 9223372036854775806) : Calls Tryz.prog 184 #[aI nm] w (bS w (if (aX nm).isSome = true then .tuple #[aI (nm ++ [0]), .int .i64 0] else .tuple #[aI [], .int .i64 1])) := by
 have h27 := fun w => NV nm w
 cases hls : aX nm with
 | none =>
  simp only [hls, Option.isSome_none, Bool.false_eq_true, if_false] at h27 ⊢
  go_enter Tryz.func184, Tryz.ntmps184
  refine_lift CI fun _ _ _ _ => ?_
  refine aE (enters_of Tryz.func65 rfl rfl) rfl rfl (h27 _) ?_
  intro w1 x1
  refine_lift yU fun _ => ?_
  go_ret2
  exact ⟨rfl, x1⟩
 | some ls =>
  simp only [hls, Option.isSome_some, if_true] at h27 ⊢
  go_enter Tryz.func184, Tryz.ntmps184
  refine_lift CI fun _ _ _ _ => ?_
  refine aE (enters_of Tryz.func65 rfl rfl) rfl rfl (h27 _) ?_
  intro w1 x1
  refine_lift dL ?_
  go_ret2
  exact ⟨rfl, x1⟩
theorem SU (s : List UInt8) (w : World) (hl : s.length ≤ 9223372036854775807) : Calls Tryz.prog 151 #[aI s] w (bS w (.tuple #[aI ((gU s).getD []), .bool (gU s).isSome])) := by
 have h27 := fun w => NV (Lib.trimSuffix s [0]) w
 go_enter Tryz.func151, Tryz.ntmps151
 refine_lift gA fun _ _ => ?_
 refine aF (vs := [aI s, aI [0]]) (enters_of Tryz.func186 rfl rfl) rfl rfl (Tryz.strings_CutSuffix ⟨s.toArray⟩ ⟨[0].toArray⟩ _ (by rw [eJ]; exact hl)) ?_
 rintro e w1 ⟨rfl, rfl⟩
 refine ⟨_, rfl, ?_⟩
 refine aA ?_
 cases hh : Lib.hasSuffix s [0] with
 | false =>
  refine_lift dL ?_
  go_ret2
  refine ⟨?_, Ext.refl _⟩
  simp only [gU, hh, Bool.false_eq_true, false_and, if_false]
  rfl
 | true =>
  cases hls : aX (Lib.trimSuffix s [0]) with
  | none =>
   simp only [hls, Option.isSome_none, Bool.false_eq_true, if_false] at h27
   refine_lift CI fun _ _ _ _ => ?_
   all_goals try (exact absurd ‹false = true› Bool.false_ne_true)
   refine aE (enters_of Tryz.func65 rfl rfl) rfl rfl (h27 _) ?_
   intro w2 x2
   refine_lift yU fun _ => ?_
   go_ret2
   refine ⟨?_, x2⟩
   simp only [gU, hh, hls, Option.isSome_none, Bool.false_eq_true, and_false, if_false]
   rfl
  | some ls =>
   simp only [hls, Option.isSome_some, if_true] at h27
   refine_lift CI fun _ _ _ _ => ?_
   all_goals try (exact absurd ‹false = true› Bool.false_ne_true)
   refine aE (enters_of Tryz.func65 rfl rfl) rfl rfl (h27 _) ?_
   intro w2 x2
   refine_lift dL ?_
   go_ret2
   refine ⟨?_, x2⟩
   simp only [gU, hh, hls, Option.isSome_some, and_self, if_true]
   rfl
theorem TP (k : Int) (w : World) : Calls Tryz.prog 150 #[.int .i64 k] w (bS w (.int .i64 (fJ k))) := by
 go_enter Tryz.func150, Tryz.ntmps150
 (repeat' first | ((with_reducible refine aJ ?_); go_step) | ((with_reducible refine aH ?_); first | refine bQ ?_ | (refine aK ?_ ?_ <;> intro hc)) | fail)
 all_goals
  go_ret
  refine ⟨?_, Ext.refl _⟩
  simp [fJ, *]
theorem TQ (s : List UInt8) (w : World) (hl : s.length ≤ 4611686018427387904) : Calls Tryz.prog 185 #[aI s] w (bS w (.bool (yT s))) := by
 go_enter Tryz.func185, Tryz.ntmps185
 refine_lift gA fun _ _ => ?_
 go_loopw [0] (fun s2 wr => wr = w ∧ ∃ r : List UInt8, s2 = aI r ∧ r.length ≤ s.length ∧ oE s = oE r) (fun s2 _ => yP s2)
 case atStart => exact ⟨rfl, s, rfl, Nat.le_refl _, rfl⟩
 case round =>
  obtain ⟨rfl, r, rfl, hr, hrec⟩ := hrel
  cases r with
  | nil =>
   refine_lift dL ?_
   go_ret
   refine ⟨?_, Ext.refl _⟩
   rw [yT, hrec]
   simp [oE, oD]
  | cons k t =>
   have hk : k.toNat < 256 := k.toNat_lt
   have hne : s ≠ [] := by intro e; subst e; simp at hr
   refine_lift LC (fun _ _ => ?_) (fun _ _ _ _ => ?_)
   ·have hc := ‹((k :: t).length : Int) < 1 + (k.toNat : Int)›
    go_ret
    refine ⟨?_, Ext.refl _⟩
    rw [yT, hrec, sB, if_pos (by simp at hc; omega)]
    simp
   ·have hc := ‹1 + (k.toNat : Int) ≤ ((k :: t).length : Int)›
    have e : (1 + (k.toNat : Int)).toNat = k.toNat + 1 := by omega
    rw [e, List.drop_succ_cons]
    refine ⟨⟨trivial, _, rfl, by simp at hr ⊢; omega, ?_⟩, by simp [tN]; omega⟩
    rw [hrec, sB, if_neg (by simp at hc; omega)]
theorem QP (k : Int) (d : List UInt8) (w : World) (hl : d.length ≤ 9223372036854775807) : Calls Tryz.prog 105 #[.int .i64 k, aI d] w (bS w (.tuple #[aI (bA k d).1, .int .i64 (bA k d).2])) := by
 go_enter Tryz.func105, Tryz.ntmps105
 refine_lift gA fun _ _ => ?_
 refine aE (enters_of Tryz.func150 rfl rfl) rfl rfl (TP _ _) ?_
 intro w1 x1
 refine_lift PH (fun _ _ => ?_) (fun _ _ _ _ => ?_) (fun _ => ?_)
 ·have hc := ‹fJ k < 0›
  go_ret2
  refine ⟨?_, x1⟩
  rw [bA, if_pos hc]
  rfl
 ·have hc : ¬ fJ k < 0 := by have := ‹0 ≤ fJ k›; omega
  have hc2 := ‹(d.length : Int) < fJ k›
  go_ret2
  refine ⟨?_, x1⟩
  rw [bA, if_neg hc, if_pos hc2]
  rfl
 ·have hc : ¬ fJ k < 0 := by have := ‹0 ≤ fJ k›; omega
  have hc2 : ¬ (d.length : Int) < fJ k := by have := ‹fJ k ≤ (d.length : Int)›; omega
  refine aE (enters_of Tryz.func151 rfl rfl) rfl rfl (SU (d.drop (fJ k).toNat) _ (by simp; omega)) ?_
  intro w2 x2
  cases hh : gU (d.drop (fJ k).toNat) with
  | none =>
   simp only [hh, Option.isSome_none, Option.getD_none]
   refine_lift dL ?_
   go_ret2
   refine ⟨?_, x1.trans x2⟩
   rw [bA, if_neg hc, if_neg hc2, hh]
   rfl
  | some n =>
   simp only [hh, Option.isSome_some, Option.getD_some]
   refine_lift dL ?_
   go_ret2
   refine ⟨?_, x1.trans x2⟩
   rw [bA, if_neg hc, if_neg hc2, hh]
   rfl
theorem LE {s : List UInt8} {k : Nat} (h : k < s.length) : s.getD k 0 = s[k] := by simp [h]
theorem SV (s : List UInt8) (w : World) (hl : s.length ≤ 4611686018427387904) : Calls Tryz.prog 152 #[aI s] w (bS w (.tuple #[aI (bM s).1, aI (bM s).2.1, .bool (bM s).2.2])) := by
 go_enter Tryz.func152, Tryz.ntmps152
 refine_lift gA fun _ _ => ?_
 go_loopw [5] (fun i wr => wr = w ∧ ∃ k : Nat, i = .int .i64 k ∧ k ≤ s.length + 256 ∧ kT s = k + kT (s.drop k)) (fun i _ => s.length + 256 - (intOf i).toNat)
 case atStart => exact ⟨rfl, 0, rfl, by omega, by simp⟩
 case round =>
  obtain ⟨rfl, k, rfl, hk, hrec⟩ := hrel
  by_cases hlt : k < s.length
  ·have hd := List.drop_eq_getElem_cons hlt
   have hb : (s.getD k 0).toNat < 256 := UInt8.toNat_lt _
   have hg := LE hlt
   refine_lift QX (fun hc _ _ _ _ => ?_) (fun hc _ => ?_)
   ·have hc := ‹(!decide (((s.getD k 0).toNat : Int) = 0)) = true›
    have hne : (s.getD k 0).toNat ≠ 0 := by simpa using hc
    go_roundw
    case rel =>
     refine ⟨trivial, k + (1 + (s.getD k 0).toNat), by congr 1, by omega, ?_⟩
     rw [hrec, hd, uF, ← hg, if_neg hne, List.drop_drop]
     rw [show k + 1 + (s.getD k 0).toNat = k + (1 + (s.getD k 0).toNat) by omega]
     omega
    case measure => simp only [intOf]; omega
   ·have hc := ‹(!decide (((s.getD k 0).toNat : Int) = 0)) = false›
    have hz : (s.getD k 0).toNat = 0 := by simpa using hc
    have hw : kT s = k := by rw [hrec, hd, uF, ← hg, if_pos hz]; rfl
    have hf : bM s = ((gU (s.take (k + 1))).getD [], s.drop (k + 1), (gU (s.take (k + 1))).isSome) := by
     rw [bM, hw, if_neg (by omega)]
    refine aE (enters_of Tryz.func151 rfl rfl) rfl rfl (SU _ _ (by simp; omega)) ?_
    intro w2 x2
    refine aA ?_
    refine_lift gA fun _ _ => ?_
    refine fN (by decide +kernel) (by decide +kernel) ?_
    repeat' (first | ((first | (with_reducible apply pI) | ((with_reducible apply IB); (rfl); (rfl); (with_reducible rfl))); (intro _ _; exact rn); (refine aA ?_)) | ((with_reducible apply wX); (rfl); (rfl); (first | (with_reducible exact (rfl : true = !false)) | (with_reducible exact (rfl : false = !true)) | (exact Bool.not_false.symm) | (exact Bool.not_true.symm)); (refine aA ?_)) | (with_reducible (apply EA)))
    intro w3 x3
    refine_lift dL ?_
    refine bodyPost_ret (results_tmp3 rfl _ _ _) rfl ⟨?_, x2.trans x3⟩
    rw [hf]
    rfl
  ·refine_lift CI fun hc _ _ _ => ?_
   refine bodyPost_ret (results_tmp3 rfl _ _ _) rfl ⟨?_, Ext.refl _⟩
   have hw : s.length ≤ kT s := by omega
   rw [bM, if_pos hw]
   rfl
theorem PO (r : List UInt8) (i : Nat) (p : Value) (w : World) (hp : Pts w p [aI r]) (hr : r.length = 20) (hi : i < 5) : Calls Tryz.prog 153 #[.int .i64 i, p] w (bS w (.int .i64 (numP r i 4 : Nat))) := by
 go_enter Tryz.func153, Tryz.ntmps153
 refine_lift gA fun _ _ => ?_
 go_loopw [4, 6] (fun n j wr => wr = w ∧ ∃ k : Nat, k ≤ 4 ∧ j = .int .i64 k ∧ n = .int .i64 (numP r i k : Nat)) (fun _ j _ => 4 - (intOf j).toNat)
 case atStart => exact ⟨rfl, 0, by omega, rfl, rfl⟩
 case round =>
  obtain ⟨rfl, k, hk, rfl, rfl⟩ := hrel
  by_cases hlt : k < 4
  ·have hn := EG r i k
   have hn2 : numP r i k * 256 < 4294967296 := by
    have : 256 ^ k ≤ 256 ^ 3 := Nat.pow_le_pow_right (by omega) (by omega)
    omega
   have hb : (r.getD (4 * i + k) 0).toNat < 256 := UInt8.toNat_lt _
   have hb2 : (r.getD (4 * (i : Int) + (k : Int)).toNat 0).toNat < 256 := UInt8.toNat_lt _
   have e3 : (4 * (i : Int) + (k : Int)).toNat = 4 * i + k := by omega
   refine_lift yU fun _ => ?_
   refine ⟨⟨trivial, k + 1, by omega, rfl, ?_⟩, by simp [intOf]; omega⟩
   rw [numP]
  ·have : k = 4 := by omega
   subst this
   refine_lift yU fun _ => ?_
   go_ret
   exact ⟨rfl, Ext.refl _⟩
theorem AP (n : Nat) : IntKind.wrap .u8 (n : Int) = ((UInt8.ofNat n).toNat : Nat) := by
 simp only [IntKind.wrap, IntKind.bits, IntKind.signed, UInt8.toNat_ofNat']
 simp
theorem SW {B : Nat} {v : Value} {l : List UInt8} {w : World} (n : Nat) (h : Own B 1 5 w v (aQ l)) (hB : B ≤ w.heap.size) (hn : n < 4294967296) (hl : l.length ≤ 1000000) : Calls Tryz.prog 187 #[v, .int .i64 n] w fun e w' => ∃ v', e = .returned v' ∧ Own B 1 5 w' v' (aQ (l ++ CP n)) ∧ Mv v.ownBlock w w' := by
 go_enter Tryz.func187, Tryz.ntmps187
 refine_lift NR ?_; intro _ _ _
 have e1 : IntKind.wrap .u8 ((n : Int) / 2 ^ Int.toNat 24) = ((UInt8.ofNat (n / 16777216)).toNat : Nat) := by
  rw [← AP]; congr 1
 have e2 : IntKind.wrap .u8 ((n : Int) / 2 ^ Int.toNat 16) = ((UInt8.ofNat (n / 65536)).toNat : Nat) := by
  rw [← AP]; congr 1
 have e3 : IntKind.wrap .u8 ((n : Int) / 2 ^ Int.toNat 8) = ((UInt8.ofNat (n / 256)).toNat : Nat) := by
  rw [← AP]; congr 1
 have e4 : IntKind.wrap .u8 (n : Int) = ((UInt8.ofNat n).toNat : Nat) := AP n
 rw [e1, e2, e3, e4]
 refine bT (xs := [.int .u8 ((UInt8.ofNat (n / 16777216)).toNat : Nat), .int .u8 ((UInt8.ofNat (n / 65536)).toNat : Nat), .int .u8 ((UInt8.ofNat (n / 256)).toNat : Nat), .int .u8 ((UInt8.ofNat n).toNat : Nat)]) (k := 1) (e := 5) (bytes := 1) rfl rfl rfl (by intro y hy; simp at hy; rcases hy with rfl | rfl | rfl | rfl <;> rfl) (by decide +kernel) (by simp) ?_
 intro v1 w1 x1 s1 sl1 _
 refine aA ?_
 have hll : (aQ l).length = l.length := by simp [aQ]
 refine jE (B := B) (k := 1) (e := 5) (bytes := 1) (x := v1) rfl (h.ext x1) rfl sl1 (by decide +kernel) (by simp [Value.cells, Value.oneCell']) (Nat.le_trans hB x1.size) (by rw [hll]; simp; omega) (by rw [hll]; simp; omega) ?_
 intro v2 w2 o2 m2
 refine aA ?_
 refine_lift dL ?_
 go_ret
 refine ⟨v2, rfl, ?_, (x1.mv _).trans m2⟩
 have : aQ (l ++ CP n) = aQ l ++ aQ (CP n) := by simp [aQ]
 rw [this]
 exact o2
structure RSet where
 name : List UInt8
 kind : Int
 ttl : Int
 data : List (List UInt8)
 deriving DecidableEq, Inhabited
structure SetAt (w : World) (cs : List Value) (s : RSet) : Prop where
 out : ∃ v, cs = [aI s.name, .int .i64 s.kind, .int .i64 s.ttl, v] ∧ Sl 1 w v (aS s.data)
theorem SetAt.ext {w w' : World} {cs : List Value} {s : RSet} (h : SetAt w cs s) (hx : Ext w w') : SetAt w' cs s := by
 obtain ⟨v, h1, h2⟩ := h
 exact ⟨v, h1, h2.ext hx⟩
theorem TR (v : Value) (a b : Int) (w : World) (h : Sl 1 w v [[.int .i64 a], [.int .i64 b]]) : Calls Tryz.prog 158 #[v] w (bS w (.int .i64 (if a ≠ 0 then a else b))) := by
 have h0 := h.elem (i := 0) rfl
 have h1 := h.elem (i := 1) rfl
 go_enter Tryz.func158, Tryz.ntmps158
 refine_lift gA fun _ _ => ?_
 go_loopw [8] (fun i wr => wr = w ∧ ∃ k : Nat, i = .int .i64 k ∧ k ≤ 2 ∧ (1 ≤ k → a = 0) ∧ (2 ≤ k → b = 0)) (fun i _ => 2 - (intOf i).toNat)
 case atStart => exact ⟨rfl, 0, rfl, by omega, by omega, by omega⟩
 case round =>
  obtain ⟨rfl, k, rfl, hk, ha, hb⟩ := hrel
  have hk3 : k = 0 ∨ k = 1 ∨ k = 2 := by omega
  rcases hk3 with rfl | rfl | rfl
  ·refine_lift LC (fun _ _ => ?_) (fun _ _ _ _ => ?_)
   ·go_ret
    refine ⟨?_, Ext.refl _⟩
    have hne : a ≠ 0 := by simp at *; assumption
    rw [if_pos hne]
    rfl
   ·have h0 : a = 0 := by simp at *; assumption
    exact ⟨⟨trivial, 1, rfl, by omega, fun _ => h0, by omega⟩, by simp [intOf]⟩
  ·have ha := ha (by omega)
   refine_lift LC (fun _ _ => ?_) (fun _ _ _ _ => ?_)
   ·go_ret
    refine ⟨?_, Ext.refl _⟩
    rw [if_neg (by simpa using ha)]
    rfl
   ·have h0 : b = 0 := by simp at *; assumption
    exact ⟨⟨trivial, 2, rfl, by omega, fun _ => ha, fun _ => h0⟩, by simp [intOf]⟩
  ·have ha := ha (by omega)
   have hb := hb (by omega)
   refine_lift yU fun _ => ?_
   go_ret
   refine ⟨?_, Ext.refl _⟩
   rw [if_neg (by simpa using ha), hb]
   rfl
theorem SX (s : RSet) (v : Value) (d : List UInt8) (w : World) : Calls Tryz.prog 172 #[.agg #[aI s.name, .int .i64 s.kind, .int .i64 s.ttl, v], aI d] w (bS w (.agg #[aI s.name, .int .i64 s.kind, .int .i64 s.ttl, aI d])) := by
 go_enter Tryz.func172, Tryz.ntmps172
 refine_lift zW fun _ _ => ?_
 refine bU (vs := [aI s.name, .int .i64 s.kind, .int .i64 s.ttl, v]) rfl rfl ?_
 intro p w1 x1 hp
 refine aA ?_
 refine aN (z := [aI [], .int .i64 0, .int .i64 0, aI []]) rfl (by decide +kernel) ?_
 intro w2 x2 s2 h2
 have hp := hp.ext x2
 refine_lift gA fun _ _ => ?_
 refine cT (v := .agg #[aI s.name, .int .i64 s.kind, .int .i64 s.ttl, aI d]) rfl (Runs.build rfl (by kernel_rfl)) ?_
 refine aA ?_
 refine aG (v := .agg #[aI s.name, .int .i64 s.kind, .int .i64 s.ttl, aI d]) rfl rfl rfl h2 (show aZ Tryz.prog 106 4 = true by decide +kernel) rfl (by simp [Value.cells, Value.oneCell', aI]) ?_
 intro w3 p3
 have x13 : Ext w w3 := (x1.trans x2).move p3.mv (by rintro k ⟨⟩; exact x1.size)
 have h3 := p3.this
 refine_lift dL ?_
 exact bodyPost_ret (cG (cs := [aI s.name, .int .i64 s.kind, .int .i64 s.ttl, aI d]) rfl rfl h3 (show dY Tryz.prog 106 4 = true by decide +kernel)) rfl ⟨rfl, x13⟩
structure SetsAt (w : World) (v : Value) (l : List RSet) : Prop where
 out : ∃ css, Sl 4 w v css ∧ css.length = l.length ∧ ∀ (i : Nat) (s : RSet), l[i]? = some s → ∃ x, css[i]? = some [aI s.name, .int .i64 s.kind, .int .i64 s.ttl, x] ∧ Sl 1 w x (aS s.data)
theorem SetsAt.ext {w w' : World} {v : Value} {l : List RSet} (h : SetsAt w v l) (hx : Ext w w') : SetsAt w' v l := by
 obtain ⟨css, h1, h2, h3⟩ := h
 exact ⟨css, h1.ext hx, h2, fun i s hi => let ⟨x, a, b⟩ := h3 i s hi; ⟨x, a, b.ext hx⟩⟩
theorem SetsAt.elem {w : World} {v : Value} {l : List RSet} (h : SetsAt w v l) {i : Nat} {s : RSet} (hi : l[i]? = some s) : ∃ x, Pts w (dI v (i * 4)) [aI s.name, .int .i64 s.kind, .int .i64 s.ttl, x] ∧ Sl 1 w x (aS s.data) := by
 obtain ⟨css, h1, h2, h3⟩ := h
 obtain ⟨x, a, b⟩ := h3 i s hi
 exact ⟨x, h1.elem a, b⟩
theorem SetsAt.sl {w : World} {v : Value} {l : List RSet} (h : SetsAt w v l) : ∃ css : List (List Value), Sl 4 w v css ∧ css.length = l.length := by
 obtain ⟨css, h1, h2, h3⟩ := h
 exact ⟨css, h1, h2⟩
def Rec.cells (r : Rec) : List Value := [aI r.name, .int .i64 r.kind, .int .i64 r.ttl, aI r.data]
def aR (l : List Rec) : List (List Value) := l.map Rec.cells
theorem bD (l : List Rec) : (aR l).length = l.length := by simp [aR]
theorem jB {l : List Rec} {k : Nat} (h : k < l.length) : (aR l)[k]? = some [aI l[k].name, .int .i64 l[k].kind, .int .i64 l[k].ttl, aI l[k].data] := by simp [aR, h, Rec.cells]
theorem lN {α : Type} {a b : List α} {k : Nat} (h : a.take k = b.take k) (ha : k < a.length) (hb : k < b.length) (he : a[k] = b[k]) : a.take (k + 1) = b.take (k + 1) := by
 rw [List.take_add_one, List.take_add_one, List.getElem?_eq_getElem ha, List.getElem?_eq_getElem hb, h, he]
theorem uH {α : Type} {a b : List α} {k : Nat} (ha : k < a.length) (hb : k < b.length) (he : a[k] ≠ b[k]) : a ≠ b := by
 rintro rfl; exact he rfl
def FY (a b : Int) : Int := if a < b then -1 else if b < a then 1 else 0
def dS (na nb : List UInt8) (ka kb : Int) : Int := if lL na nb ≠ 0 then lL na nb else FY ka kb
theorem TS (a b : Int) (w : World) : Calls Tryz.prog 160 #[.int .i64 a, .int .i64 b] w (bS w (.int .i64 (FY a b))) := by
 refine (Tryz.cmp_Compare_int a b w).mono ?_
 rintro e w' ⟨rfl, rfl⟩
 refine ⟨?_, Ext.refl _⟩
 unfold FY Lib.compareInt
 rfl
set_option maxHeartbeats 1000000 in
theorem SY (na nb : List UInt8) (ka kb ta tb : Int) (va vb : Value) (w : World) : Calls Tryz.prog 110 #[.agg #[aI na, .int .i64 ka, .int .i64 ta, va], .agg #[aI nb, .int .i64 kb, .int .i64 tb, vb]] w (bS w (.int .i64 (dS na nb ka kb))) := by
 go_enter Tryz.func110, Tryz.ntmps110
 refine_lift zW fun _ _ => ?_
 refine bU (vs := [aI na, .int .i64 ka, .int .i64 ta, va]) rfl rfl ?_
 intro p w1 x1 hp
 refine aA ?_
 refine bU (vs := [aI nb, .int .i64 kb, .int .i64 tb, vb]) rfl rfl ?_
 intro q w2 x2 hq
 refine aA ?_
 refine_lift gA fun _ _ => ?_
 refine dU (S := Ext w2) (by decide +kernel) ?_
 intro w3 x3 _
 refine tk 0 ?_; refine aA ?_; refine tk 1 ?_; refine aA ?_; refine tk 2 ?_; refine aA ?_; refine tk 3 ?_; refine aA ?_; refine tk 5 ?_; refine aA ?_; refine tk 6 ?_; refine aA ?_; refine tk 7 ?_; refine aA ?_; refine tk 8 ?_; refine aA ?_
 refine eO (i := 4) (by decide +kernel) rfl rfl ?_
 refine aE (enters_of Tryz.func159 rfl rfl) rfl rfl (TO _ _ _) ?_; intro w4 x4; refine aA ?_
 refine aL ⟨by exact fC, ?_⟩
 refine eO (i := 9) (by decide +kernel) rfl rfl ?_
 refine aE (enters_of Tryz.func160 rfl rfl) rfl rfl (TS _ _ _) ?_; intro w5 x5; refine aA ?_
 refine aL ⟨by exact fC, ?_⟩
 refine eO (i := 10) (by decide +kernel) rfl rfl ?_
 refine bT (e := 3) (k := 1) (bytes := 8) (xs := [.int .i64 (lL na nb), .int .i64 (FY ka kb)]) rfl rfl rfl (by simp [Value.cells]) (by decide +kernel) (by simp) ?_
 intro v w6 x6 _ h6 _
 refine aA ?_
 refine aL ⟨by exact fC, ?_⟩
 refine eO (i := 11) (by decide +kernel) rfl rfl ?_
 refine aE (enters_of Tryz.func158 rfl rfl) rfl rfl (TR _ _ _ _ h6) ?_; intro w7 x7; refine aA ?_
 refine aL ⟨by exact fC, ?_⟩
 refine tk 12 ?_; refine aA ?_
 refine dR (by decide +kernel) ?_
 refine_lift dL ?_
 go_ret
 exact ⟨rfl, by exact fC⟩
structure SetC where
 name : List UInt8
 kind : Int
 ttl : Int
 a : Option Addr
 n : Nat
 c : Nat
 d : List (List UInt8)
 deriving Inhabited
def SetC.v (s : SetC) : Value := .slice s.a s.n s.c
def SetC.cells (s : SetC) : List Value := [aI s.name, .int .i64 s.kind, .int .i64 s.ttl, s.v]
def LF (x y : SetC) : Int := dS x.name y.name x.kind y.kind
theorem jH : TPO (fun x y : List UInt8 × Int => dS x.1 y.1 x.2 y.2) :=
 (IH.comap Prod.fst).lex (KZ.comap Prod.snd)
theorem IL : TPO LF := jH.comap fun s : SetC => (s.name, s.kind)
theorem TT {B g cap : Nat} (l : List SetC) (w : World) (h : Own B 4 131 w (.slice (some ⟨g, 0, none⟩) l.length cap) (l.map SetC.cells)) (hl : l.length < 4611686018427387904) :
 Calls Tryz.prog 109 #[.slice (some ⟨g, 0, none⟩) l.length cap, .func (.func 110) #[] #[]] w fun e w' => e = .returned (.tuple #[]) ∧ ∃ l' : List SetC, l'.Perm l ∧ (∀ i j (hi : i < j) (hj : j < l'.length), 0 ≤ LF l'[j] l'[i]) ∧ Own B 4 131 w' (.slice (some ⟨g, 0, none⟩) l'.length cap) (l'.map SetC.cells) ∧ Mv (some g) w w' := by
 have hlen : (l.map SetC.cells).length = l.length := by simp
 have h0 := h
 rw [← hlen] at h0
 have eg : ∀ args w, (callFunc 110 args).run Tryz.prog w = .ok (.enter 110 args) w := enters_of Tryz.func110 (by kernel_rfl) rfl
 have hk : ∀ x, (SetC.cells x).length = 4 := fun _ => rfl
 have hfl := pL SetC.cells 4 hk l
 have hH : Sort.HoldsK SetC.cells 4 w g 0 l.toArray := by
  unfold Sort.HoldsK
  have := h.holdsF
  rw [← hfl] at this
  simpa using this
 have hcmp : Go.Proofs.CmpLays Tryz.prog 110 #[] SetC.cells 4 LF g 0 l.toArray.size w := by
  intro m os dk hdk x y
  refine (SY x.name y.name x.kind y.kind x.ttl y.ttl x.v y.v _).mono ?_
  rintro e w' ⟨rfl, hx⟩
  exact ⟨rfl, hx.grown⟩
 have hc := Go.Proofs.AnyQ.slices_SortFunc Tryz.sortSet 4 (fun w => kQ (u := (Tryz.prog.underlying 131).getD (.struct #[])) (by rfl) (by rfl)) (fun w => by obtain ⟨i, hq, hz⟩ := oX (iF (show aZ Tryz.prog 131 4 = true by decide +kernel)); exact (by simp [sizeOf, typeInfo, hq, hz] : (Go.sizeOf 131).run Tryz.prog w = .ok 4 w)) SetC.cells hk (fun x v hv => by
  simp only [SetC.cells, List.mem_cons, List.not_mem_nil, or_false] at hv
  rcases hv with rfl | rfl | rfl | rfl <;> rfl) LF IL.swo 110 #[] g 0 cap l.toArray w eg hcmp hH (h.block g rfl).2 (by simpa using hl)
 change Calls Tryz.prog 109 _ _ _ at hc
 refine hc.mono ?_
 rintro e w' ⟨rfl, d', n, os, hp, hs, rfl⟩
 obtain ⟨p1, p2, p3⟩ := hp
 have hd : d'.toList.length = l.length := by simpa using p1
 have hfl2 := pL SetC.cells 4 hk d'.toList
 have hperm : d'.toList.Perm l := by
  have e1 : d'.extract 0 l.toArray.size = d' := by rw [← p1]; simp
  have e2 : l.toArray.extract 0 l.toArray.size = l.toArray := by simp
  rw [e1, e2] at p3
  simpa using p3
 have hput := h0.putRowF (fs := d'.toList.map SetC.cells) (by simpa using hd) (by intro x hx; obtain ⟨y, _, rfl⟩ := List.mem_map.1 hx; rfl) n os
 have hrow : Go.Proofs.sortWorldK SetC.cells 4 w g 0 n d' os = Sort.grow (Sort.putRow id (Sort.ahead w n) g 0 (d'.toList.map SetC.cells).flatten.toArray) os := by
  unfold Go.Proofs.sortWorldK Sort.putRowK
  rw [← hfl2]
 rw [hrow]
 refine ⟨rfl, d'.toList, hperm, ?_, ?_, hput.2⟩
 ·intro i j hi hj
  have hjs : j < d'.size := by simpa using hj
  have := hs i j (Nat.zero_le _) hi (by rw [← p1]; exact hjs)
  rw [getElem!_pos d' j hjs, getElem!_pos d' i (by omega)] at this
  simp only [Go.Proofs.ltOf, decide_eq_false_iff_not] at this
  simp only [Array.getElem_toList]
  omega
 ·have := hput.1
  rw [hlen] at this
  rw [hd]
  exact this
theorem NW (v : Value) (w : World) : Calls Tryz.prog 109 #[.slice none 0 0, v] w fun e w' => e = .returned (.tuple #[]) ∧ w' = w := by
 have h := Go.Proofs.AnyF.slices_SortFunc_none Tryz.sortSet none 0 v w
 change Calls Tryz.prog 109 _ _ _ at h
 exact h
def bH (s : RSet) (r : Rec) : Bool := decide (s.name = fold r.name) && decide (s.kind = r.kind)
def iM (s : RSet) (r : Rec) : RSet := ⟨s.name, s.kind, min s.ttl r.ttl, s.data ++ [r.data]⟩
def dG : List RSet → Rec → List RSet
 | [], r => [⟨fold r.name, r.kind, r.ttl, [r.data]⟩]
 | s :: l, r => if bH s r = true then iM s r :: l else s :: dG l r
def sC (gs : List RSet) : Prop := ∀ (i j : Nat) s t, gs[i]? = some s → gs[j]? = some t → i ≠ j → ¬ (s.name = t.name ∧ s.kind = t.kind)
theorem xG {r : Rec} : ∀ {gs : List RSet} {i : Nat} {s : RSet}, gs[i]? = some s → bH s r = true → sC gs → dG gs r = gs.set i (iM s r)
 | [], i, s, h, _, _ => by simp at h
 | a :: l, 0, s, h, hm, _ => by
   cases h
   simp [dG, hm]
 | a :: l, i + 1, s, h, hm, hd => by
   have ha : bH a r = false := by
    cases hx : bH a r with
    | false => rfl
    | true =>
     exfalso
     simp only [bH, Bool.and_eq_true, decide_eq_true_eq] at hm hx
     exact hd 0 (i + 1) a s rfl h (by omega) ⟨by rw [hx.1, hm.1], by rw [hx.2, hm.2]⟩
   have := xG (gs := l) (i := i) (by simpa using h) hm (fun p q s t hp hq hpq => hd (p + 1) (q + 1) s t (by simpa using hp) (by simpa using hq) (by omega))
   simp [dG, ha, this]
theorem uI {r : Rec} : ∀ {gs : List RSet}, (∀ s ∈ gs, bH s r = false) → dG gs r = gs ++ [⟨fold r.name, r.kind, r.ttl, [r.data]⟩]
 | [], _ => rfl
 | a :: l, h => by
   have := uI (gs := l) (fun s hs => h s (by simp [hs]))
   simp [dG, h a (by simp), this]
theorem oH {r : Rec} : ∀ {gs : List RSet} {s : RSet}, s ∈ dG gs r → (∃ t ∈ gs, t.name = s.name ∧ t.kind = s.kind) ∨ (s.name = fold r.name ∧ s.kind = r.kind)
 | [], s, h => by
   simp only [dG, List.mem_singleton] at h
   subst h; exact .inr ⟨rfl, rfl⟩
 | a :: l, s, h => by
   unfold dG at h
   split at h
   ·rename_i hm
    simp only [bH, Bool.and_eq_true, decide_eq_true_eq] at hm
    rcases List.mem_cons.1 h with rfl | h
    ·exact .inr ⟨hm.1, hm.2⟩
    ·exact .inl ⟨s, by simp [h], rfl, rfl⟩
   ·rcases List.mem_cons.1 h with rfl | h
    ·exact .inl ⟨s, by simp, rfl, rfl⟩
    ·rcases oH h with ⟨t, ht, h2⟩ | h2
     ·exact .inl ⟨t, by simp [ht], h2⟩
     ·exact .inr h2
theorem gB {gs : List RSet} : sC gs ↔ gs.Pairwise fun s t => ¬ (s.name = t.name ∧ s.kind = t.kind) := by
 rw [List.pairwise_iff_getElem]
 constructor
 ·intro h i j hi hj hij
  exact h i j _ _ (List.getElem?_eq_getElem hi) (List.getElem?_eq_getElem hj) (by omega)
 ·intro h i j s t hs ht hij
  obtain ⟨hi, rfl⟩ := List.getElem?_eq_some_iff.1 hs
  obtain ⟨hj, rfl⟩ := List.getElem?_eq_some_iff.1 ht
  rcases Nat.lt_or_ge i j with h1 | h1
  ·exact h i j hi hj h1
  ·have := h j i hj hi (by omega)
   exact fun ⟨a, b⟩ => this ⟨a.symm, b.symm⟩
theorem sD {r : Rec} : ∀ {gs : List RSet}, sC gs → sC (dG gs r)
 | [], _ => by rw [gB]; simp [dG]
 | a :: l, h => by
   rw [gB] at h ⊢
   obtain ⟨h1, h2⟩ := List.pairwise_cons.1 h
   unfold dG
   split
   ·rename_i hm
    exact List.pairwise_cons.2 ⟨fun t ht => h1 t ht, h2⟩
   ·rename_i hm
    refine List.pairwise_cons.2 ⟨fun t ht => ?_, gB.1 (sD (gB.2 h2))⟩
    rcases oH ht with ⟨u, hu, e1, e2⟩ | ⟨e1, e2⟩
    ·have := h1 u hu
     rw [e1, e2] at this
     exact this
    ·rintro ⟨f1, f2⟩
     exact hm (by simp [bH, f1, f2, e1, e2])
def cK (l : List Rec) : List RSet := l.foldl dG []
theorem iW (l : List Rec) : sC (cK l) := by
 unfold cK
 suffices ∀ (l : List Rec) gs, sC gs → sC (l.foldl dG gs) from this l [] (by intro i j s t h; simp at h)
 intro l
 induction l with
 | nil => exact fun _ h => h
 | cons r l ih => exact fun gs h => ih _ (sD h)
theorem mR {l : List Rec} {k : Nat} (h : k < l.length) : cK (l.take (k + 1)) = dG (cK (l.take k)) l[k] := by
 unfold cK
 rw [List.take_add_one, List.getElem?_eq_getElem h, List.foldl_append]
 rfl
theorem xH {r : Rec} : ∀ {gs : List RSet}, (dG gs r).length ≤ gs.length + 1
 | [] => by simp [dG]
 | a :: l => by
   have := xH (r := r) (gs := l)
   unfold dG
   split <;> simp <;> omega
def mA (gs : List RSet) : Nat := (gs.map fun s => s.data.length).sum
theorem sE {r : Rec} : ∀ {gs : List RSet}, mA (dG gs r) = mA gs + 1
 | [] => by simp [dG, mA]
 | a :: l => by
   have := sE (r := r) (gs := l)
   unfold mA at this
   unfold dG
   split
   ·simp [mA, iM]; omega
   ·simp [mA, this]; omega
theorem pO (l : List Rec) : mA (cK l) = l.length := by
 unfold cK
 suffices ∀ (l : List Rec) gs, mA (l.foldl dG gs) = mA gs + l.length from by simpa [mA] using this l []
 intro l
 induction l with
 | nil => intro gs; simp
 | cons r l ih => intro gs; rw [List.foldl_cons, ih, sE]; simp; omega
theorem uJ (l : List Rec) : (cK l).length ≤ l.length := by
 unfold cK
 suffices ∀ (l : List Rec) gs, (l.foldl dG gs).length ≤ gs.length + l.length from by simpa using this l []
 intro l
 induction l with
 | nil => intro gs; simp
 | cons r l ih => intro gs; rw [List.foldl_cons]; have := ih (dG gs r); have := xH (r := r) (gs := gs); simp; omega
theorem AQ {gs : List RSet} {s : RSet} (h : s ∈ gs) : s.data.length ≤ mA gs := by
 induction gs with
 | nil => simp at h
 | cons a l ih =>
  unfold mA at *
  rcases List.mem_cons.1 h with rfl | h
  ·simp
  ·have := ih h; simp; omega
structure GC where
 b : Nat
 v : Value
 s : RSet
def GC.cells (c : GC) : List Value := [aI c.s.name, .int .i64 c.s.kind, .int .i64 c.s.ttl, c.v]
def GC.key (c : GC) : Value × Value := (.agg #[aI c.s.name, .int .i64 c.s.kind], .pointer (some ⟨c.b, 0, none⟩))
def GC.kcells (c : GC) : List Value := [aI c.s.name, .int .i64 c.s.kind]
structure GOK (w : World) (B : Nat) (c : GC) : Prop where
 blk : w.heap[c.b]? = some (.cells c.cells.toArray 131 (0, 0))
 ge : B ≤ c.b
 own : Own B 1 9 w c.v (aS c.s.data)
structure GS (w : World) (B : Nat) (gcs : List GC) : Prop where
 each : ∀ c ∈ gcs, GOK w B c
 apart : gcs.Pairwise fun c c' => c.b ≠ c'.b ∧ (c.v.ownBlock = none ∨ c'.v.ownBlock = none ∨ c.v.ownBlock ≠ c'.v.ownBlock)
theorem Own.type {B k e : Nat} {w : World} {v : Value} {es : List (List Value)} (h : Own B k e w v es) {r : Nat} (hr : v.ownBlock = some r) : ∃ cur fz, w.heap[r]? = some (.cells cur e fz) := by
 rcases h.row.2 with ⟨rfl, _⟩ | ⟨g, cap, cur, fz, rfl, hb, hg, _⟩
 ·simp [Value.ownBlock] at hr
 ·simp [Value.ownBlock] at hr; subst hr; exact ⟨cur, fz, hg⟩
theorem Own.neBlock {B k e t b : Nat} {w : World} {v : Value} {es : List (List Value)} {cs : Array Value} {fz : Nat × Nat} (h : Own B k e w v es) (hb : w.heap[b]? = some (.cells cs t fz)) (ht : t ≠ e) : v.ownBlock ≠ some b := fun e' => by
 obtain ⟨cur, fz', h'⟩ := h.type e'
 rw [hb] at h'
 simp only [Option.some.injEq, Obj.cells.injEq] at h'
 exact ht h'.2.1
theorem Own.neMap {B k e m c : Nat} {es' : Array MapEntry} {w : World} {v : Value} {es : List (List Value)} (h : Own B k e w v es) (hb : w.heap[m]? = some (.map es' c)) : v.ownBlock ≠ some m := fun e' => by
 obtain ⟨cur, fz', h'⟩ := h.type e'
 rw [hb] at h'
 cases h'
theorem Own.ne {B k e B' k' e' : Nat} {w : World} {v v' : Value} {es es' : List (List Value)} (h : Own B k e w v es) (h' : Own B' k' e' w v' es') (he : e ≠ e') : v.ownBlock = none ∨ v.ownBlock ≠ v'.ownBlock := by
 cases hv : v.ownBlock with
 | none => exact .inl rfl
 | some r =>
  refine .inr fun e2 => ?_
  obtain ⟨cur, fz, h1⟩ := h.type hv
  exact h'.neBlock h1 he e2.symm
theorem GOK.mv {w w' : World} {B : Nat} {c : GC} {row : Option Nat} (h : GOK w B c) (hm : Mv row w w') (h1 : some c.b ≠ row) (h2 : c.v.ownBlock = none ∨ c.v.ownBlock ≠ row) : GOK w' B c :=
 ⟨hm.at h.blk h1, h.ge, h.own.mv hm h2⟩
theorem GS.ext {w w' : World} {B : Nat} {gcs : List GC} (h : GS w B gcs) (hx : Ext w w') : GS w' B gcs :=
 ⟨fun c hc => (h.each c hc).mv (hx.mv none) (by simp) (by cases c.v.ownBlock <;> simp), h.apart⟩
theorem Sl.slf {k : Nat} {w : World} {v : Value} {es : List (List Value)} (h : Sl k w v es) : ∃ a n c, v = .slice a n c := by
 obtain ⟨a, c, h1, _⟩ := h
 exact ⟨a, _, c, h1⟩
structure SetsC (w : World) (css : List (List Value)) (l : List RSet) : Prop where
 len : css.length = l.length
 at' : ∀ (i : Nat) (s : RSet), l[i]? = some s → ∃ x, css[i]? = some [aI s.name, .int .i64 s.kind, .int .i64 s.ttl, x] ∧ Sl 1 w x (aS s.data)
theorem SetsC.sets {w : World} {v : Value} {l : List RSet} {css : List (List Value)} (h : SetsC w css l) (hv : Sl 4 w v css) : SetsAt w v l := ⟨css, hv, h.len, h.at'⟩
theorem SetsC.ext {w w' : World} {l : List RSet} {css : List (List Value)} (h : SetsC w css l) (hx : Ext w w') : SetsC w' css l :=
 ⟨h.len, fun i s hi => let ⟨x, a, b⟩ := h.at' i s hi; ⟨x, a, b.ext hx⟩⟩
theorem SetsC.append {w : World} {l m : List RSet} {c d : List (List Value)} (h : SetsC w c l) (k : SetsC w d m) : SetsC w (c ++ d) (l ++ m) := by
 refine ⟨by rw [List.length_append, List.length_append, h.len, k.len], fun i s hi => ?_⟩
 rw [List.getElem?_append] at hi ⊢
 rw [h.len]
 split at hi
 ·rw [if_pos ‹_›]; exact h.at' i s hi
 ·rw [if_neg ‹_›]; exact k.at' _ s hi
theorem SetsC.take {w : World} {l : List RSet} {c : List (List Value)} (h : SetsC w c l) (n : Nat) : SetsC w (c.take n) (l.take n) := by
 refine ⟨by simp [h.len], fun i s hi => ?_⟩
 rw [List.getElem?_take] at hi ⊢
 split at hi
 ·rw [if_pos ‹_›]; exact h.at' i s hi
 ·cases hi
theorem SetsC.drop {w : World} {l : List RSet} {c : List (List Value)} (h : SetsC w c l) (n : Nat) : SetsC w (c.drop n) (l.drop n) := by
 refine ⟨by simp [h.len], fun i s hi => ?_⟩
 rw [List.getElem?_drop] at hi ⊢
 exact h.at' _ s hi
theorem SetsC.one {w : World} {s : RSet} {x : Value} (h : Sl 1 w x (aS s.data)) : SetsC w [[aI s.name, .int .i64 s.kind, .int .i64 s.ttl, x]] [s] :=
 ⟨rfl, fun i t hi => by
  match i, hi with
  | 0, hi => cases hi; exact ⟨x, rfl, h⟩⟩
theorem SetsC.cell {w : World} {l : List RSet} {c : List (List Value)} (h : SetsC w c l) : ∀ f ∈ c, ∀ u ∈ f, u.oneCell' = true := by
 intro f hf u hu
 obtain ⟨i, hi, rfl⟩ := List.mem_iff_getElem.1 hf
 obtain ⟨x, h1, h2⟩ := h.at' i _ (List.getElem?_eq_getElem (by rw [← h.len]; exact hi))
 rw [List.getElem?_eq_getElem hi] at h1
 rw [Option.some.inj h1] at hu
 simp only [List.mem_cons, List.not_mem_nil, or_false] at hu
 rcases hu with rfl | rfl | rfl | rfl
 ·rfl
 ·rfl
 ·rfl
 ·exact h2.one
def From (B : Nat) (v : Value) : Prop := ∀ b o s n c, v = .slice (some ⟨b, o, s⟩) n c → B ≤ b
theorem From.weaken {B C : Nat} {v : Value} (h : From B v) (hc : C ≤ B) : From C v := fun b o s n c e => Nat.le_trans hc (h b o s n c e)
theorem Own.from' {B C k e : Nat} {w : World} {v : Value} {es : List (List Value)} (h : Own B k e w v es) (hc : C ≤ B) : From C v := by
 intro b o s n c hv
 rcases h.form with ⟨rfl, _⟩ | ⟨g, cap, rfl, _, hg, _⟩
 ·cases hv
 ·simp only [Value.slice.injEq, Option.some.injEq, Addr.mk.injEq] at hv
  obtain ⟨⟨rfl, _⟩, _⟩ := hv
  exact Nat.le_trans hc hg
def FromC (B : Nat) (css : List (List Value)) : Prop := ∀ f ∈ css, ∀ u ∈ f, From B u
theorem FromC.append {B : Nat} {c d : List (List Value)} (h : FromC B c) (k : FromC B d) : FromC B (c ++ d) := fun f hf => by
 rcases List.mem_append.1 hf with hf | hf
 ·exact h f hf
 ·exact k f hf
theorem FromC.take {B : Nat} {c : List (List Value)} (h : FromC B c) (n : Nat) : FromC B (c.take n) := fun f hf => h f (List.mem_of_mem_take hf)
theorem FromC.drop {B : Nat} {c : List (List Value)} (h : FromC B c) (n : Nat) : FromC B (c.drop n) := fun f hf => h f (List.mem_of_mem_drop hf)
theorem FromC.one {B : Nat} {n : List UInt8} {k t : Int} {x : Value} (h : From B x) : FromC B [[aI n, .int .i64 k, .int .i64 t, x]] := by
 intro f hf u hu
 simp only [List.mem_cons, List.not_mem_nil, or_false] at hf
 subst hf
 simp only [List.mem_cons, List.not_mem_nil, or_false] at hu
 rcases hu with rfl | rfl | rfl | rfl
 ·intro b o s n c e; cases e
 ·intro b o s n c e; cases e
 ·intro b o s n c e; cases e
 ·exact h
structure SetsO (B : Nat) (w : World) (v : Value) (l : List RSet) : Prop where
 out : ∃ css, Sl 4 w v css ∧ From B v ∧ SetsC w css l ∧ FromC B css
theorem SetsO.sets {B : Nat} {w : World} {v : Value} {l : List RSet} (h : SetsO B w v l) : SetsAt w v l := by
 obtain ⟨css, h1, _, h2, _⟩ := h
 exact h2.sets h1
theorem SetsO.ext {B : Nat} {w w' : World} {v : Value} {l : List RSet} (h : SetsO B w v l) (hx : Ext w w') : SetsO B w' v l := by
 obtain ⟨css, h1, h2, h3, h4⟩ := h
 exact ⟨css, h1.ext hx, h2, h3.ext hx, h4⟩
theorem SetsO.weaken {B C : Nat} {w : World} {v : Value} {l : List RSet} (h : SetsO B w v l) (hc : C ≤ B) : SetsO C w v l := by
 obtain ⟨css, h1, h2, h3, h4⟩ := h
 exact ⟨css, h1, h2.weaken hc, h3, fun f hf u hu => (h4 f hf u hu).weaken hc⟩
theorem Sl.put {B k b : Nat} {w w' : World} {v : Value} {es : List (List Value)} {o : Obj} (h : Sl k w v es) (hf : From B v) (hp : Put w w' b o) (hb : b < B) : Sl k w' v es := by
 obtain ⟨a, cap, h1, h2, h3, h4, h5, h6⟩ := h
 refine ⟨a, cap, h1, h2, h3, h4, h5, fun hn => ?_⟩
 obtain ⟨g, o, e, hc⟩ := h6 hn
 have hg : B ≤ g := hf g o none _ _ (by rw [h1, e])
 exact ⟨g, o, e, fun i e j x h1 h2 => (World.cell?_of_block (hp.other g (by omega))).trans (hc i e j x h1 h2)⟩
theorem SetsO.put {B b : Nat} {w w' : World} {v : Value} {l : List RSet} {o : Obj} (h : SetsO B w v l) (hp : Put w w' b o) (hb : b < B) : SetsO B w' v l := by
 obtain ⟨css, h1, h2, h3, h4⟩ := h
 refine ⟨css, h1.put h2 hp hb, h2, ⟨h3.len, fun i s hi => ?_⟩, h4⟩
 obtain ⟨x, e, hx⟩ := h3.at' i s hi
 exact ⟨x, e, hx.put (h4 _ (List.mem_of_getElem? e) x (by simp)) hp hb⟩
theorem SetsO.nil (B : Nat) (w : World) : SetsO B w (.slice none 0 0) [] := ⟨[], Sl.nil _ _, (by intro b o s n c e; cases e), ⟨rfl, by simp⟩, by intro f hf; cases hf⟩
theorem NX {α : Type} {R : α → α → Prop} {l : List α} {i : Nat} {c : α} (h : l.Pairwise R) (hi : i < l.length) (h1 : ∀ j (hj : j < i), R l[j] c) (h2 : ∀ j (hj : i < j) (hl : j < l.length), R c l[j]) : (l.set i c).Pairwise R := by
 rw [List.pairwise_iff_getElem] at *
 intro p q hp hq hpq
 simp only [List.length_set] at hp hq
 simp only [List.getElem_set]
 by_cases e1 : i = p
 ·subst e1
  rw [if_pos rfl, if_neg (by omega)]
  exact h2 q hpq hq
 ·by_cases e2 : i = q
  ·subst e2
   rw [if_neg e1, if_pos rfl]
   exact h1 p hpq
  ·rw [if_neg e1, if_neg e2]
   exact h p q hp hq hpq
theorem GS.split {w : World} {B : Nat} {gcs : List GC} (h : GS w B gcs) {i j : Nat} {c c' : GC} (hi : gcs[i]? = some c) (hj : gcs[j]? = some c') (hij : i ≠ j) : c.b ≠ c'.b ∧ (c.v.ownBlock = none ∨ c'.v.ownBlock = none ∨ c.v.ownBlock ≠ c'.v.ownBlock) := by
 have := List.pairwise_iff_getElem.1 h.apart
 obtain ⟨hi2, e1⟩ := List.getElem?_eq_some_iff.1 hi
 obtain ⟨hj2, e2⟩ := List.getElem?_eq_some_iff.1 hj
 subst e1 e2
 rcases Nat.lt_or_ge i j with h1 | h1
 ·exact this i j hi2 hj2 h1
 ·obtain ⟨a, b⟩ := this j i hj2 hi2 (by omega)
  exact ⟨fun e => a e.symm, by rcases b with b | b | b; exact .inr (.inl b); exact .inl b; exact .inr (.inr fun e => b e.symm)⟩
theorem uK {α : Type} {l : List α} {i : Nat} {c x : α} (h : x ∈ l.set i c) : x = c ∨ ∃ j, j ≠ i ∧ l[j]? = some x := by
 obtain ⟨j, hj⟩ := List.mem_iff_getElem?.1 h
 by_cases e : j = i
 ·subst e
  have hl : j < l.length := by simpa using (List.getElem?_eq_some_iff.1 hj).1
  rw [List.getElem?_set_self hl] at hj
  exact .inl (Option.some.inj hj).symm
 ·rw [List.getElem?_set_ne (Ne.symm e)] at hj
  exact .inr ⟨j, e, hj⟩
theorem GS.turn {w w1 w2 : World} {B : Nat} {gcs : List GC} {i : Nat} {c c' : GC} (h : GS w B gcs) (hi : gcs[i]? = some c) (hb : c'.b = c.b) (m : Mv c.v.ownBlock w w1) (o : Own B 1 9 w1 c'.v (aS c'.s.data))
 (kin : c'.v.ownBlock = c.v.ownBlock ∨ c'.v.ownBlock = some w.heap.size) (hp : Put w1 w2 c.b (.cells c'.cells.toArray 131 (0, 0))) : GS w2 B (gcs.set i c') := by
 have hc := h.each c (List.mem_of_getElem? hi)
 have hil := (List.getElem?_eq_some_iff.1 hi).1
 have hcb : c.v.ownBlock ≠ some c.b := hc.own.neBlock hc.blk (by omega)
 have ho : Own B 1 9 w2 c'.v (aS c'.s.data) := o.mv hp.mv (.inr (o.neBlock (cs := c.cells.toArray) (fz := (0, 0)) (m.at hc.blk (fun e => hcb e.symm)) (by omega)))
 have hother : ∀ j x, j ≠ i → gcs[j]? = some x → GOK w2 B x ∧ x.b ≠ c.b ∧ (x.v.ownBlock = none ∨ x.v.ownBlock ≠ c'.v.ownBlock) := by
  intro j x hj hx
  have hxo := h.each x (List.mem_of_getElem? hx)
  obtain ⟨s1, s2⟩ := h.split hx hi hj
  have n1 : some x.b ≠ c.v.ownBlock := fun e => (hc.own.neBlock hxo.blk (by omega)) e.symm
  have n2 : x.v.ownBlock = none ∨ x.v.ownBlock ≠ c.v.ownBlock := by
   rcases s2 with s2 | s2 | s2
   ·exact .inl s2
   ·cases hv : x.v.ownBlock with
    | none => exact .inl rfl
    | some r => rw [s2]; exact .inr (by simp)
   ·exact .inr s2
  have g1 := hxo.mv m n1 n2
  refine ⟨g1.mv hp.mv (fun e => s1 (Option.some.inj e)) (.inr (hxo.own.neBlock hc.blk (by omega))), s1, ?_⟩
  rcases kin with k | k
  ·rw [k]; exact n2
  ·rw [k]
   cases hv : x.v.ownBlock with
   | none => exact .inl rfl
   | some r => exact .inr fun e => by have := (hxo.own.block r hv).2; have := Option.some.inj e; omega
 refine ⟨fun x hx => ?_, NX h.apart hil (fun j hj => ?_) (fun j hj hl => ?_)⟩
 ·rcases uK hx with rfl | ⟨j, hj, hx⟩
  ·exact ⟨by rw [hb]; exact hp.this, by rw [hb]; exact hc.ge, ho⟩
  ·exact (hother j x hj hx).1
 ·obtain ⟨_, a, b⟩ := hother j gcs[j] (by omega) (List.getElem?_eq_getElem (by omega))
  exact ⟨by rw [hb]; exact a, by rcases b with b | b; exact .inl b; exact .inr (.inr b)⟩
 ·obtain ⟨_, a, b⟩ := hother j gcs[j] (by omega) (List.getElem?_eq_getElem hl)
  exact ⟨by rw [hb]; exact fun e => a e.symm, by rcases b with b | b; exact .inr (.inl b); exact .inr (.inr fun e => b e.symm)⟩
theorem GS.push {w : World} {B : Nat} {gcs : List GC} {c : GC} (h : GS w B gcs) (hc : GOK w B c) (hn : ∀ x ∈ gcs, x.b ≠ c.b) (hv : c.v.ownBlock = none) : GS w B (gcs ++ [c]) := by
 refine ⟨fun x hx => ?_, ?_⟩
 ·rcases List.mem_append.1 hx with hx | hx
  ·exact h.each x hx
  ·rw [List.mem_singleton.1 hx]; exact hc
 ·rw [List.pairwise_append]
  refine ⟨h.apart, by simp, fun x hx y hy => ?_⟩
  rw [List.mem_singleton.1 hy]
  exact ⟨hn x hx, .inr (.inl hv)⟩
theorem GS.mv {w w' : World} {B : Nat} {gcs : List GC} {row : Option Nat} (h : GS w B gcs) (hm : Mv row w w') (h1 : ∀ c ∈ gcs, some c.b ≠ row ∧ (c.v.ownBlock = none ∨ c.v.ownBlock ≠ row)) : GS w' B gcs :=
 ⟨fun c hc => (h.each c hc).mv hm (h1 c hc).1 (h1 c hc).2, h.apart⟩
theorem RG : Tryz.prog.keyTypeAt 2 166 = true := by kernel_rfl
theorem IM : Tryz.prog.tiled 2 166 = true := by kernel_rfl
theorem IN : WideMaps.KeyLaw Tryz.prog 166 := deep_law (m := 2) (by omega) RG IM (by kernel_rfl)
theorem EL (n : List UInt8) (k : Int) (hn : n.length ≤ 1000000) (hk : 0 ≤ k ∧ k ≤ 65535) : ∃ l, keyOf Tryz.prog 166 (.agg #[aI n, .int .i64 k]) = some l := by
 unfold keyOf
 rw [Tryz.underlying166]
 have kt2 : Tryz.prog.keyType 166 = true := by kernel_rfl
 simp only [kt2]
 rw [show Tryz.prog.types.size = 275 from by kernel_rfl]
 have c48 : Tryz.prog.cellsOf 166 = 2 := by kernel_rfl
 have c30 : Tryz.prog.cellsOf 47 = 1 := by kernel_rfl
 have c3 : Tryz.prog.cellsOf 3 = 1 := by kernel_rfl
 have f : Value.formed Tryz.prog 166 (Value.agg #[aI n, Value.int IntKind.i64 k]) = true := by simp [Value.formed, Tryz.underlying166, c48]
 have hs : (ByteArray.mk n.toArray).size ≤ maxLen := by rw [eJ]; unfold maxLen; omega
 have hw : (Lit.int .i64 k).wf = true := by simp [Lit.wf, IntKind.min, IntKind.max, IntKind.bits, IntKind.signed]; omega
 have l30 : Tryz.prog.keyLits 275 47 [aI n] = some [.string n] := by simp [Program.keyLits, Tryz.underlying47, aI, -ByteArray.size_data, hs]
 have l3 : Tryz.prog.keyLits 275 3 [Value.int .i64 k] = some [.int .i64 k] := by simp [Program.keyLits, Tryz.underlying3, hw]
 rw [f]
 simp only [Bool.and_self, if_true]
 unfold Program.keyLits
 simp [Tryz.underlying166, c48, c30, c3, Value.cells, l30, l3]
structure L1 (w0 w : World) (kv : Value) (gcs : List GC) : Prop where
 ext : Ext w0 w
 map : MapAt Tryz.prog 166 w w0.heap.size (gcs.map GC.key)
 keys : Own (w0.heap.size + 1) 2 166 w kv (gcs.map GC.kcells)
 sets : GS w (w0.heap.size + 1) gcs
theorem L1.grow {w0 w w' : World} {kv : Value} {gcs : List GC} (h : L1 w0 w kv gcs) (hx : Ext w w') : L1 w0 w' kv gcs :=
 ⟨h.ext.trans hx, h.map.at (fun o ho => hx.at ho), h.keys.ext hx, h.sets.ext hx⟩
def cX (s : SoaR) : List Int := [s.refresh, s.retry, s.expire, s.minimum]
def lO (s : SoaR) : List UInt8 := s.main ++ [0] ++ (s.mail ++ [0]) ++ CP s.serial.toNat
def rC (l : List Int) : List UInt8 := (l.map fun n => CP n.toNat).flatten
theorem AR (s : SoaR) : s.data = lO s ++ rC (cX s) := by simp [SoaR.data, lO, rC, cX]
theorem FZ (l : List Int) (k : Nat) (h : k < l.length) : rC (l.take (k + 1)) = rC (l.take k) ++ CP l[k].toNat := by
 unfold rC
 rw [List.take_add_one, List.getElem?_eq_getElem h, Option.toList_some, List.map_append, List.flatten_append]
 simp
theorem IP (l : List Int) : (rC l).length = 4 * l.length := by
 induction l with
 | nil => rfl
 | cons x l ih =>
  have : rC (x :: l) = CP x.toNat ++ rC l := by simp [rC]
  rw [this, List.length_append, ih, List.length_cons]
  simp [CP]; omega
theorem NY (s : SoaR) : s.ok = ((aX s.main).isSome && (aX s.mail).isSome && decide (0 ≤ s.serial) && decide (s.serial ≤ 4294967295) && (cX s).all iQ) := by
 simp [SoaR.ok, cX, Bool.and_assoc]
set_option maxHeartbeats 1000000 in
theorem TU (s : SoaR) (w : World) (h1 : s.main.length ≤ 4611686018427387904) (h2 : s.mail.length ≤ 4611686018427387904) : Calls Tryz.prog 154 #[.agg s.cells.toArray] w (bS w (if s.ok = true then .tuple #[aI s.data, .int .i64 0] else .tuple #[aI [], .int .i64 1])) := by
 have hA := fun w => RF s.main w (by omega)
 have hB := fun w => RF s.mail w (by omega)
 cases hm : aX s.main with
 | none =>
  simp only [hm, Option.isSome_none, Bool.false_eq_true, if_false] at hA
  have hno : s.ok = false := by simp [SoaR.ok, hm]
  rw [hno]
  go_enter Tryz.func154, Tryz.ntmps154
  refine_lift zW fun _ _ => ?_
  refine bU (vs := s.cells) rfl rfl ?_
  intro p w1 x1 hp
  refine aA ?_
  have hp' : Pts w1 p [aI s.main, aI s.mail, .int .i64 s.serial, .int .i64 s.refresh, .int .i64 s.retry, .int .i64 s.expire, .int .i64 s.minimum] := hp
  refine_lift gA fun _ _ => ?_
  refine aE (enters_of Tryz.func184 rfl rfl) rfl rfl (hA _) ?_
  intro w2 x2
  have hp' := hp'.ext x2
  refine_lift gA fun _ _ => ?_
  refine aE (enters_of Tryz.func184 rfl rfl) rfl rfl (hB _) ?_
  intro w3 x3
  cases hl : (aX s.mail).isSome with
  | true =>
   simp only [hl, if_true]
   have hp' := hp'.ext x3
   refine_lift dL ?_
   go_ret2
   exact ⟨rfl, (x1.trans x2).trans x3⟩
  | false =>
   simp only [hl, Bool.false_eq_true, if_false]
   have hp' := hp'.ext x3
   refine_lift dL ?_
   go_ret2
   exact ⟨rfl, (x1.trans x2).trans x3⟩
 | some ls =>
  simp only [hm, Option.isSome_some, if_true] at hA
  cases hm2 : aX s.mail with
  | none =>
   simp only [hm2, Option.isSome_none, Bool.false_eq_true, if_false] at hB
   have hno : s.ok = false := by simp [SoaR.ok, hm2]
   rw [hno]
   go_enter Tryz.func154, Tryz.ntmps154
   refine_lift zW fun _ _ => ?_
   refine bU (vs := s.cells) rfl rfl ?_
   intro p w1 x1 hp
   refine aA ?_
   have hp' : Pts w1 p [aI s.main, aI s.mail, .int .i64 s.serial, .int .i64 s.refresh, .int .i64 s.retry, .int .i64 s.expire, .int .i64 s.minimum] := hp
   refine_lift gA fun _ _ => ?_
   refine aE (enters_of Tryz.func184 rfl rfl) rfl rfl (hA _) ?_
   intro w2 x2
   have hp' := hp'.ext x2
   refine_lift gA fun _ _ => ?_
   refine aE (enters_of Tryz.func184 rfl rfl) rfl rfl (hB _) ?_
   intro w3 x3
   have hp' := hp'.ext x3
   refine_lift dL ?_
   go_ret2
   exact ⟨rfl, (x1.trans x2).trans x3⟩
  | some ms =>
   simp only [hm2, Option.isSome_some, if_true] at hB
   have hfm := fD hm
   have hfm2 := fD hm2
   rw [NY, hm, hm2]
   simp only [Option.isSome_some, Bool.true_and]
   go_enter Tryz.func154, Tryz.ntmps154
   refine_lift zW fun _ _ => ?_
   refine bU (vs := s.cells) rfl rfl ?_
   intro p w1 x1 hp
   refine aA ?_
   have hp' : Pts w1 p [aI s.main, aI s.mail, .int .i64 s.serial, .int .i64 s.refresh, .int .i64 s.retry, .int .i64 s.expire, .int .i64 s.minimum] := hp
   refine_lift gA fun _ _ => ?_
   refine aE (enters_of Tryz.func184 rfl rfl) rfl rfl (hA _) ?_
   intro w2 x2
   have hp' := hp'.ext x2
   refine_lift gA fun _ _ => ?_
   refine aE (enters_of Tryz.func184 rfl rfl) rfl rfl (hB _) ?_
   intro w3 x3
   have hp' := hp'.ext x3
   have x13 := (x1.trans x2).trans x3
   clear x1 x2 x3 hp hA hB
   refine_lift PI (fun hc _ _ _ => ?_) (fun hc => ?_) (fun hc _ => ?_)
   ·have hc := ‹4294967295 < s.serial›
    go_ret2
    refine ⟨?_, x13⟩
    have hno : (decide (0 ≤ s.serial) && decide (s.serial ≤ 4294967295)) = false := by simp only [Bool.and_eq_false_iff, decide_eq_false_iff_not]; omega
    simp only [hno, Bool.false_and, Bool.false_eq_true, if_false]
    rfl
   ·have hc := ‹s.serial ≤ 4294967295›
    have hc0 := ‹¬s.serial < 0›
    have hser : (decide (0 ≤ s.serial) && decide (s.serial ≤ 4294967295)) = true := by simp; omega
    refine qX (e := 5) (l := s.main ++ [0] ++ (s.mail ++ [0])) rfl rfl (by decide +kernel) (by decide +kernel) (by simp; omega) ?_
    intro v w4 x4 o4
    refine aA ?_
    have hp' := hp'.ext x4
    have hsn : s.serial = ((s.serial.toNat : Nat) : Int) := by omega
    refine_lift dL ?_
    rw [hsn]
    refine aF (enters_of Tryz.func187 rfl rfl) rfl rfl (SW (B := w3.heap.size) s.serial.toNat o4 x4.size (by omega) (by simp; omega)) ?_
    rintro e w5 ⟨v5, rfl, o5, m5⟩
    refine ⟨_, rfl, ?_⟩
    refine aA ?_
    have x35 := o4.mvx m5 x4 (Nat.le_refl _)
    have hp' := ‹Pts w3 p _›.ext x35
    have x15 := x13.trans x35
    rw [← hsn]
    refine_lift CI fun _ _ _ _ => ?_
    refine cT (v := .agg ((cX s).map (Value.int .i64)).toArray) rfl (Runs.build rfl (by kernel_rfl)) ?_
    refine aA ?_
    refine_lift dL ?_
    clear hp' m5
    have hbase : s.main ++ [0] ++ (s.mail ++ [0]) ++ CP s.serial.toNat = lO s := rfl
    rw [hbase] at o5
    have hbl : (lO s).length ≤ 600 := by simp [lO, CP]; omega
    go_loopw [8, 55] (fun v6 i wr => ∃ k : Nat, k ≤ 4 ∧ i = .int .i64 k ∧ Ext w wr ∧ w3.heap.size ≤ wr.heap.size ∧ Own w3.heap.size 1 5 wr v6 (aQ (lO s ++ rC ((cX s).take k))) ∧ ((cX s).take k).all iQ = true) (fun _ i _ => 4 - (intOf i).toNat)
    case atStart => exact ⟨0, by omega, rfl, x15, x35.size, by simpa [rC] using o5, rfl⟩
    case round =>
     obtain ⟨k, hk, rfl, hx, hsz, ho, hall⟩ := hrel
     have hlen : (cX s).length = 4 := rfl
     by_cases hlt : k < 4
     ·have hlt2 : k < (cX s).length := hlt
      have hdata : s.data = lO s ++ rC (cX s) := AR s
      have hsplit : (cX s).all iQ = true → iQ (cX s)[k] = true := fun h => List.all_eq_true.1 h _ (List.getElem_mem hlt2)
      refine_lift HW ?_; intro _ _ _ _ _ _
      refine cT (v := .int .i64 (cX s)[k]) rfl (Runs.idxA (n := 4) (i := k) rfl rfl (by simp [hlt2]) hlt (by decide +kernel)) ?_
      refine aA ?_
      refine_lift MV (fun hc _ => ?_) (fun hc => ?_) (fun hc _ => ?_)
      ·have hc2 := ‹2147483647 < (cX s)[k]›
       go_ret2
       refine ⟨?_, hx⟩
       have hno : (cX s).all iQ = false := by
        cases h : (cX s).all iQ with
        | false => rfl
        | true => have := hsplit h; simp [iQ] at this; omega
       simp only [hser, hno, Bool.and_false, Bool.false_eq_true, if_false]
       rfl
      ·have hc2 := ‹(cX s)[k] ≤ 2147483647›
       have hc1 := ‹¬(cX s)[k] < 0›
       have hnn : (cX s)[k] = (((cX s)[k].toNat : Nat) : Int) := by omega
       have hbs : (rC ((cX s).take k)).length ≤ 16 := by rw [IP]; simp; omega
       rw [hnn]
       refine aF (enters_of Tryz.func187 rfl rfl) rfl rfl (SW (B := w3.heap.size) (cX s)[k].toNat ho hsz (by omega) (by rw [List.length_append]; omega)) ?_
       rintro e w6 ⟨v6, rfl, o6, m6⟩
       refine ⟨_, rfl, ?_⟩
       refine aA ?_
       have hx6 := ho.mvx m6 hx x13.size
       have hs6 : w3.heap.size ≤ w6.heap.size := Nat.le_trans hsz m6.size
       rw [List.append_assoc, ← FZ _ _ hlt2] at o6
       refine_lift dL ?_
       refine ⟨⟨k + 1, by omega, rfl, hx6, hs6, o6, ?_⟩, by simp [intOf]; omega⟩
       rw [List.take_add_one, List.getElem?_eq_getElem hlt2, Option.toList_some, List.all_append, hall]
       simp only [List.all_cons, List.all_nil, iQ, Bool.true_and, Bool.and_true, Bool.and_eq_true, decide_eq_true_eq]
       omega
      ·have hc2 := ‹(cX s)[k] < 0›
       go_ret2
       refine ⟨?_, hx⟩
       have hno : (cX s).all iQ = false := by
        cases h : (cX s).all iQ with
        | false => rfl
        | true => have := hsplit h; simp [iQ] at this; omega
       simp only [hser, hno, Bool.and_false, Bool.false_eq_true, if_false]
       rfl
     ·have : k = 4 := by omega
      subst this
      have hsl := ho.sl
      rw [show (cX s).take 4 = cX s from rfl] at hsl hall
      refine_lift yU fun _ => ?_
      go_ret2
      refine ⟨?_, hx⟩
      simp only [hser, hall, Bool.and_self, if_true]
      rw [AR]
      rfl
   ·have hc := ‹s.serial < 0›
    go_ret2
    refine ⟨?_, x13⟩
    have hno : (decide (0 ≤ s.serial) && decide (s.serial ≤ 4294967295)) = false := by simp only [Bool.and_eq_false_iff, decide_eq_false_iff_not]; omega
    simp only [hno, Bool.false_and, Bool.false_eq_true, if_false]
    rfl
end Go.Proofs.X
