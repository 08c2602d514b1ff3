/- Laws and walks that the proof of the statement is made of (part 4). -/
import Derived.Test.YteofaejlmdplhaaGreatP3
set_option linter.unusedSimpArgs false
set_option linter.unusedVariables false
namespace Go.Proofs.X
open Go.RowKit
set_option maxRecDepth 100000
theorem lZ (a b : List (List UInt8)) : enc (a ++ b) = enc a ++ enc b := by simp [enc]
theorem BO (x : List UInt8) : enc [x] = UInt8.ofNat x.length :: x := by simp [enc]
theorem vJ {ls : List (List UInt8)} {x : List UInt8} (h : x ∈ ls) (hb : kS x = false) : lW ls = none := by
 rw [lW, if_neg]
 rintro ⟨h1, _⟩
 have := List.all_eq_true.1 h1 x h
 rw [hb] at this
 cases this
theorem zP {ls : List (List UInt8)} {k : Nat} (h : 254 < (enc (ls.take k)).length) : lW ls = none := by
 rw [lW, if_neg]
 rintro ⟨_, h2⟩
 have : enc ls = enc (ls.take k) ++ enc (ls.drop k) := by rw [← lZ, List.take_append_drop]
 rw [this, List.length_append] at h2
 omega
theorem sQ (a b : List UInt8) : Lib.byteCells (a ++ b) = Lib.byteCells a ++ Lib.byteCells b := by simp [Lib.byteCells]
theorem iU (a : List UInt8) : (Lib.byteCells a).length = a.length := by simp [Lib.byteCells]
set_option maxHeartbeats 1000000 in
theorem WD (v : Value) (ls : List (List UInt8)) (w : World) (h : Sl 1 w v (aN ls)) (hl : ls.length ≤ 9223372036854775806) : Calls Tryz.prog 110 #[v] w (bG w (match lW ls with | some n => .tuple #[aI n, .int .i64 0] | none => .tuple #[aI [], .int .i64 1])) := by
 go_enter Tryz.func110, Tryz.ntmps110
 refine_lift uL ?_; intro _ _ _
 refine_lift bY fun _ _ => ?_
 refine aG (z := [.pointer none, .slice none 0 0]) rfl (by decide +kernel) ?_
 intro w1 x1 s1 h1
 refine aA ?_
 have hb : Lib.IsBuilder 197 5 w.heap.size w.heap.size (Lib.byteCells []) w1 := .inl ⟨Nat.le_refl _, .slice none 0 0, h1, World.ownsRow_nil _ _ _ _, by simp [Value.ownBlock]⟩
 have hs := h.ext x1
 refine_lift bY fun _ _ => ?_
 clear hs
 have hlt : (aN ls).length = ls.length := by simp [aN]
 rw [hlt]
 go_loopw [9] (fun i wr => ∃ k : Nat, k ≤ ls.length ∧ i = .int .i64 k ∧ Ext w wr ∧ Lib.IsBuilder 197 5 w.heap.size w.heap.size (Lib.byteCells (enc (ls.take k))) wr ∧ (ls.take k).all kS = true ∧ (enc (ls.take k)).length ≤ 318) (fun i _ => ls.length - (intOf i).toNat)
 case atStart => exact ⟨0, Nat.zero_le _, rfl, x1, hb, rfl, by simp [enc]⟩
 case round =>
  obtain ⟨k, hk, rfl, hx, hbk, hall, h318⟩ := hrel
  have hsl := h.ext hx
  by_cases hlt : k < ls.length
  ·have hp := hsl.elem (e := [aI ls[k]]) (i := k) (by simp [aN, hlt])
   have hmem : ls[k] ∈ ls := List.getElem_mem hlt
   (repeat' first | ((with_reducible refine cY ?_); go_step) | ((with_reducible refine bR ?_); first | refine fM ?_ | (refine dN ?_ ?_ <;> intro hc)) | fail)
   ·rename_i hc0 hc1 hc2
    refine bH (enters_of Tryz.func163 rfl rfl) rfl rfl (Tryz.Builder_Len _ _ _ _ hbk) ?_
    rintro e w2 ⟨rfl, rfl⟩
    refine ⟨_, rfl, ?_⟩
    refine aA ?_
    rw [iU]
    refine_lift vF (fun _ _ _ => ?_) (fun _ => ?_)
    ·rename_i hc3
     go_ret2
     refine ⟨?_, hx⟩
     rw [zP (k := k) (by omega)]
     rfl
    ·rename_i hc3
     have h63 : ls[k].length ≤ 63 := by omega
     have e8 : IntKind.wrap .u8 ((ls[k].length : Nat) : Int) = ((ls[k].length : Nat) : Int) := by simp [IntKind.wrap, IntKind.bits, IntKind.signed]; omega
     rw [e8]
     refine bH (enters_of Tryz.func164 rfl rfl) rfl rfl (T.Builder_WriteByte _ _ _ _ _ hbk (by rw [iU]; omega) hx.size) ?_
     rintro e w3 ⟨rfl, hb3, bl3, dr3⟩
     refine ⟨_, rfl, ?_⟩
     refine aA ?_
     refine_lift aS ?_
     refine bH (enters_of Tryz.func165 rfl rfl) rfl rfl (T.Builder_WriteString _ _ _ _ _ (.inr hb3) (by rw [List.length_append, iU, fI]; simp; omega) (Nat.le_trans hx.size bl3.size)) ?_
     rintro e w4 ⟨rfl, hb4, bl4, dr4⟩
     refine ⟨_, rfl, ?_⟩
     refine aA ?_
     have hx4 : Ext w w4 := hx.below' (bl3.trans bl4) (Nat.le_trans dr3 dr4)
     have hb5 : Lib.IsBuilder 197 5 w.heap.size w.heap.size (Lib.byteCells (enc (ls.take (k + 1)))) w4 := by
      rw [List.take_add_one, List.getElem?_eq_getElem hlt, Option.toList_some, lZ, BO, sQ]
      have e : Lib.byteCells (UInt8.ofNat ls[k].length :: ls[k]) = Value.int .u8 (ls[k].length : Nat) :: Lib.strCells ⟨ls[k].toArray⟩ := by
       have : (UInt8.ofNat ls[k].length).toNat = ls[k].length := by simp; omega
       simp [Lib.byteCells, Lib.strCells, this]
      rw [e]
      refine .inr ?_
      simpa using hb4
     have hall2 : (ls.take (k + 1)).all kS = true := by
      rw [List.take_add_one, List.getElem?_eq_getElem hlt, Option.toList_some, List.all_append, hall]
      have : ls[k].length ≠ 0 := fun e => hc2 (List.eq_nil_of_length_eq_zero e)
      simp [kS]; omega
     have h3182 : (enc (ls.take (k + 1))).length ≤ 318 := by
      rw [List.take_add_one, List.getElem?_eq_getElem hlt, Option.toList_some, lZ, BO]
      simp; omega
     clear hbk hb3 hb4 bl3 bl4 hsl hp
     refine_lift aS ?_
     exact ⟨⟨k + 1, by omega, rfl, hx4, hb5, hall2, h3182⟩, by simp [intOf]; omega⟩
   ·go_ret2
    refine ⟨?_, hx⟩
    rw [vJ hmem (by simp [kS]; omega)]
    rfl
   ·go_ret2
    refine ⟨?_, hx⟩
    rw [vJ hmem (by simp [kS, hc])]
    rfl
  ·have : k = ls.length := by omega
   subst this
   rw [List.take_length] at hbk hall h318
   refine_lift QL fun _ _ _ _ _ => ?_
   refine bH (enters_of Tryz.func163 rfl rfl) rfl rfl (Tryz.Builder_Len _ _ _ _ hbk) ?_
   rintro e w2 ⟨rfl, rfl⟩
   refine ⟨_, rfl, ?_⟩
   refine aA ?_
   rw [iU]
   refine_lift vF (fun _ _ _ => ?_) (fun _ => ?_)
   ·go_ret2
    refine ⟨?_, hx⟩
    rw [zP (k := ls.length) (by rw [List.take_length]; omega)]
    rfl
   ·refine bH (enters_of Tryz.func166 rfl rfl) rfl rfl (T.Builder_String _ _ _ w _ hbk hx (Nat.le_refl _) (by omega)) ?_
    rintro e w3 ⟨rfl, x3⟩
    refine ⟨_, rfl, ?_⟩
    refine aA ?_
    refine_lift aS ?_
    go_ret2
    refine ⟨?_, x3⟩
    rw [lW, if_pos ⟨hall, by omega⟩]
    rfl
theorem qN (l : List (List UInt8)) (k : Nat) (b : List UInt8) (h : l[k]? = some b) : (aN l)[k]? = some [aI b] := by simp [aN, h]
theorem vK (l : List (List UInt8)) (k : Nat) (b : List UInt8) : (aN l).set k [aI b] = aN (l.set k b) := by simp [aN, List.map_set]
theorem aR (l : List (List UInt8)) : (aN l).length = l.length := by simp [aN]
set_option maxHeartbeats 1000000 in
theorem NV (nm : List UInt8) (w : World) : Calls Tryz.prog 62 #[aI nm] w (bG w (aI (fold nm))) := by
 go_enter Tryz.func62, Tryz.ntmps62
 refine_lift bY fun _ _ => ?_
 refine aK (enters_of Tryz.func106 rfl rfl) rfl rfl (UK nm _) ?_
 intro v w1 x1 hv
 cases hl : bF nm with
 | none =>
  rw [hl] at hv
  subst hv
  refine_lift aS ?_
  go_ret
  exact ⟨by simp [fold, hl], x1⟩
 | some ls =>
  rw [hl] at hv
  obtain ⟨s, rfl, hs⟩ := hv
  have hfit := eC hl
  have hlen := gN ls
  rw [hfit.2.1] at hlen
  have hsl := hs.sl
  refine_lift bY fun _ _ => ?_
  clear hsl
  rw [aR]
  go_loopw [19] (fun i wr => ∃ k : Nat, k ≤ ls.length ∧ i = .int .i64 k ∧ Ext w wr ∧ Own w.heap.size 1 9 wr s (aN (qJ low ls k))) (fun i _ => ls.length - (intOf i).toNat)
  case atStart => exact ⟨0, Nat.zero_le _, rfl, x1, by simpa [zJ] using hs⟩
  case round =>
   obtain ⟨k, hk, rfl, hx, ho⟩ := hrel
   have hsl := ho.sl
   have hlen2 : (aN (qJ low ls k)).length = ls.length := by rw [aR, tI]
   by_cases hlt : k < ls.length
   ·have hp := hsl.elem (qN _ _ _ (DF low ls k hlt))
    have h254 : ls[k].length ≤ 254 := by have := gO (List.getElem_mem hlt); rw [hfit.2.1] at this; omega
    refine_lift gV ?_; intro _ _ _ _
    refine aB (enters_of Tryz.func109 rfl rfl) rfl rfl (WA _ _ h254) ?_
    intro w2 x2
    refine aA ?_
    have hsl := hsl.ext x2
    have ho := ho.ext x2
    have hx := hx.trans x2
    clear hp
    refine_lift aS ?_
    refine gU (c := aI (low ls[k])) (i := k) rfl rfl rfl ho (by omega) (by decide +kernel) rfl ?_
    intro w3 o3 m3
    have hx3 := ho.mvx m3 hx (Nat.le_refl _)
    rw [vK, ← zK low ls k hlt] at o3
    clear hx ho hsl
    refine_lift aS ?_
    exact ⟨⟨k + 1, by omega, rfl, hx3, o3⟩, by simp [intOf]; omega⟩
   ·have : k = ls.length := by omega
    subst this
    rw [DE] at hsl
    refine_lift kL fun _ _ _ => ?_
    refine aB (enters_of Tryz.func110 rfl rfl) rfl rfl (WD _ _ _ hsl (by simp; omega)) ?_
    intro w2 x2
    refine aA ?_
    cases hj : lW (ls.map low) with
    | none =>
     refine_lift aS ?_
     go_ret
     exact ⟨by simp [fold, hl, hj], hx.trans x2⟩
    | some n =>
     refine_lift aS ?_
     go_ret
     exact ⟨by simp [fold, hl, hj], hx.trans x2⟩
theorem vL {l : List UInt8} {i : Nat} (h : i < l.length) : l.drop i = l[i] :: l.drop (i + 1) := List.drop_eq_getElem_cons h
theorem rH {l : List UInt8} {i : Nat} (h : i < l.length) : l.getD i 0 = l[i] := by simp [h]
theorem KZ {l : List UInt8} {i : Nat} (h : i < l.length) : gH (l.drop i) = if (l.getD i 0).toNat < 1 ∨ 63 < (l.getD i 0).toNat ∨ l.length - i - 1 < (l.getD i 0).toNat then none else (gH (l.drop (i + 1 + (l.getD i 0).toNat))).map ((l.take (i + 1 + (l.getD i 0).toNat)).drop (i + 1) :: ·) := by
 rw [vL h, rH h, jY]
 simp only [List.length_drop]
 rw [show l.length - (i + 1) = l.length - i - 1 by omega]
 congr 1
 rw [List.drop_drop, List.drop_take]
 rw [show i + 1 + l[i].toNat - (i + 1) = l[i].toNat by omega]
set_option maxHeartbeats 1000000 in
theorem mA (nm : List UInt8) (w : World) : Calls Tryz.prog 112 #[aI nm] w (jE w fun v w' => match bF nm with
 | none => v = .tuple #[.slice none 0 0, .bool false]
 | some ls => ∃ s, v = .tuple #[s, .bool true] ∧ Own w.heap.size 1 9 w' s (aN ls)) := by
 by_cases h254 : 254 < nm.length
 ·go_enter Tryz.func112, Tryz.ntmps112
  refine_lift fP fun _ => ?_
  go_ret2
  exact ⟨_, rfl, Ext.refl _, by simp [bF, h254]⟩
 ·have hlab : bF nm = gH nm := by rw [bF, if_neg h254]
  rw [hlab]
  go_enter Tryz.func112, Tryz.ntmps112
  refine_lift gV ?_; intro _ _ _ _
  have h0 : 0 ≤ nm.length := Nat.zero_le _
  go_loopw [4, 5, 6] (fun o a _ wr => ∃ (i : Nat) (pre : List (List UInt8)), i ≤ nm.length ∧ a = .int .i64 i ∧ Ext w wr ∧ Own w.heap.size 1 9 wr o (aN pre) ∧ pre.length ≤ i ∧ gH nm = (gH (nm.drop i)).map (pre ++ ·)) (fun _ a _ _ => nm.length - (intOf a).toNat)
  case atStart => exact ⟨0, [], Nat.zero_le _, rfl, Ext.refl _, Own.nil _ _ _ _, Nat.le_refl _, by simp⟩
  case round =>
   obtain ⟨i, pre, hi, rfl, hx, ho, hpl, hpar⟩ := hrel
   by_cases hlt : i < nm.length
   ·rw [KZ hlt] at hpar
    have hb : (nm.getD i 0).toNat < 256 := UInt8.toNat_lt _
    (repeat' first | ((with_reducible refine cY ?_); go_step) | ((with_reducible refine bR ?_); first | refine fM ?_ | (refine dN ?_ ?_ <;> intro hc)) | fail)
    rotate_left
    ·rw [if_neg (by omega), Option.map_map] at hpar
     refine FS [aI ((nm.take (i + 1 + (nm.getD i 0).toNat)).drop (i + 1))] hx ho (by rw [aR]; omega) ?_
     intro s2 v2 w1 w2 _ _ x2 o2
     refine aA ?_
     refine_lift aS ?_
     refine ⟨⟨i + 1 + (nm.getD i 0).toNat, pre ++ [(nm.take (i + 1 + (nm.getD i 0).toNat)).drop (i + 1)], by omega, by go_num, x2, ?_, by simp; omega, ?_⟩, by simp [intOf]; omega⟩
     ·simpa [aN] using o2
     ·rw [hpar]; congr 1; funext x; simp
    all_goals
     go_ret2
     exact ⟨_, rfl, hx, by rw [hpar, if_pos (by omega)]; rfl⟩
   ·have : i = nm.length := by omega
    subst this
    rw [List.drop_length, sM, Option.map_some, List.append_nil] at hpar
    refine_lift fP fun _ => ?_
    go_ret2
    exact ⟨_, rfl, hx, by rw [hpar]; exact ⟨_, rfl, ho⟩⟩
theorem nL (nm : List UInt8) (w : World) : Calls Tryz.prog 65 #[aI nm] w (bG w (.int .i64 (if (bF nm).isSome then 0 else 1))) := by
 go_enter Tryz.func65, Tryz.ntmps65
 refine_lift bY fun _ _ => ?_
 refine aK (enters_of Tryz.func112 rfl rfl) rfl rfl (mA nm _) ?_
 intro v w1 x1 hv
 cases hl : bF nm with
 | none =>
  rw [hl] at hv
  subst hv
  refine_lift aS ?_
  go_ret
  exact ⟨by simp [hl], x1⟩
 | some ls =>
  rw [hl] at hv
  obtain ⟨s, rfl, _⟩ := hv
  refine_lift aS ?_
  go_ret
  exact ⟨by simp [hl], x1⟩
theorem JB {b : UInt8} (h : 65 ≤ b.toNat) (h2 : b.toNat ≤ 90) : IntKind.wrap .u8 ((b.toNat : Int) + 32) = ((sN b).toNat : Int) := by
 rw [sN, if_pos ⟨h, h2⟩]
 have : (b + 32).toNat = b.toNat + 32 := by rw [UInt8.toNat_add]; simp; omega
 rw [this]
 simp [IntKind.wrap, IntKind.bits, IntKind.signed]; omega
set_option maxHeartbeats 1000000 in
theorem nM (l : List UInt8) (w : World) (hl : l.length ≤ 4611686018427387904) : Calls Tryz.prog 114 #[aI l] w (bG w (aI (low l))) := by
 go_enter Tryz.func114, Tryz.ntmps114
 refine_lift bY fun _ _ => ?_
 refine sK (e := 5) (l := l) rfl rfl (by decide +kernel) (by decide +kernel) (by omega) ?_
 intro v w1 x1 o1
 refine aA ?_
 have hlb : (bJ l).length = l.length := by simp [bJ]
 refine_lift bY fun _ _ => ?_
 go_loopw [4] (fun i wr => ∃ k : Nat, k ≤ l.length ∧ i = .int .i64 k ∧ Ext w wr ∧ Own w.heap.size 1 5 wr v (bJ (kT l k))) (fun i _ => l.length - (intOf i).toNat)
 case atStart => exact ⟨0, Nat.zero_le _, rfl, x1, by simpa [zI] using o1⟩
 case round =>
  obtain ⟨k, hk, rfl, hx, ho⟩ := hrel
  have hsl := ho.sl
  have hlen : (bJ (kT l k)).length = l.length := by simp [bJ, nH]
  by_cases hlt : k < l.length
  ·have hp := hsl.elem (vG _ _ _ (uY l k hlt))
   (repeat' first | ((with_reducible refine cY ?_); go_step) | ((with_reducible refine bR ?_); first | refine fM ?_ | (refine dN ?_ ?_ <;> intro hc)) | fail)
   ·refine gU (c := .int .u8 _) (i := k) rfl rfl rfl ho (by omega) (by decide +kernel) rfl ?_
    intro w2 o2 m2
    have hx2 := ho.mvx m2 hx (Nat.le_refl _)
    have e2 : (bJ (kT l k)).set k [Value.int .u8 (IntKind.u8.wrap (↑l[k].toNat + 32))] = bJ (kT l (k + 1)) := by
     rw [sO l k hlt, ← vH, JB (by omega) (by omega)]
    rw [e2] at o2
    clear hx ho hsl hp
    refine_lift aS ?_
    exact ⟨⟨k + 1, by omega, by go_num, hx2, o2⟩, by simp [intOf]; omega⟩
   all_goals
    refine ⟨⟨k + 1, by omega, by go_num, hx, ?_⟩, by simp [intOf]; omega⟩
    rw [sP l k hlt (BM (by omega))]; exact ho
  ·have : k = l.length := by omega
   subst this
   rw [DD] at hsl hlen
   refine_lift fP fun _ => ?_
   go_ret
   exact ⟨rfl, hx⟩
theorem VL {B : Nat} {v : Value} {ls : List (List UInt8)} {w : World} (h : Own B 1 9 w v (aN ls)) : Calls Tryz.prog 204 #[v] w fun e w' => e = .returned (.tuple #[]) ∧ Own B 1 9 w' v (aN ls.reverse) ∧ Mv v.ownBlock w w' := by
 rcases h.form with ⟨rfl, h0⟩ | ⟨g, cap, rfl, hg, hB, hc, hm⟩
 ·have : ls = [] := by simpa [aN] using h0
  subst this
  refine (Tryz.slices_Reverse_string_empty none 0 w).mono ?_
  rintro e w' ⟨rfl, rfl⟩
  exact ⟨rfl, h, Mv.refl _ _⟩
 ·rw [aR] at h hm ⊢
  refine (Tryz.slices_Reverse_string g 0 cap ls w (Own.holds h) hm).mono ?_
  rintro e w' ⟨rfl, n, rfl⟩
  have := Own.putRow (ys := ls.reverse) h (by simp) n #[]
  rw [Sort.grow_empty] at this
  exact ⟨rfl, this.1, this.2⟩
theorem WE {B : Nat} {v : Value} {ls : List (List UInt8)} {w : World} (h : Own B 1 9 w v (aN ls)) (hl : ls.length < 4611686018427387904) : Calls Tryz.prog 142 #[v] w fun e w' => e = .returned (.tuple #[]) ∧ Own B 1 9 w' v (aN (ls.mergeSort fun x y => decide (x ≤ y))) ∧ Mv v.ownBlock w w' := by
 rcases h.form with ⟨rfl, h0⟩ | ⟨g, cap, rfl, hg, hB, hc, hm⟩
 ·have : ls = [] := by simpa [aN] using h0
  subst this
  refine (Tryz.slices_Sort_string_none none 0 w).mono ?_
  rintro e w' ⟨rfl, rfl⟩
  exact ⟨rfl, by simpa using h, Mv.refl _ _⟩
 ·rw [aR] at h hm ⊢
  refine (Tryz.slices_Sort_string g 0 cap ls w (Own.holds h) hg hl).mono ?_
  rintro e w' ⟨rfl, n, os, rfl⟩
  have := Own.putRow (ys := ls.mergeSort fun x y => decide (x ≤ y)) h (List.length_mergeSort _) n os
  exact ⟨rfl, this.1, this.2⟩
theorem FV (ls : List (List UInt8)) : (Lib.compact ls).length ≤ ls.length := by
 unfold Lib.compact Lib.compactUpTo
 rw [List.length_map]
 exact Nat.le_trans (List.length_filter_le _ _) (by simp)
theorem WF {B : Nat} {v : Value} {ls : List (List UInt8)} {w : World} (h : Own B 1 9 w v (aN ls)) : Calls Tryz.prog 143 #[v] w fun e w' => ∃ v', e = .returned v' ∧ Own B 1 9 w' v' (aN (Lib.compact ls)) ∧ Mv v.ownBlock w w' ∧ v'.ownBlock = v.ownBlock := by
 rcases h.form with ⟨rfl, h0⟩ | ⟨g, cap, rfl, hg, hB, hc, hm⟩
 ·have : ls = [] := by simpa [aN] using h0
  subst this
  refine (Tryz.slices_Compact_string_empty none 0 w).mono ?_
  rintro e w' ⟨rfl, rfl⟩
  exact ⟨_, rfl, h, Mv.refl _ _, rfl⟩
 ·rw [aR] at h hm hc ⊢
  refine (Tryz.slices_Compact_string g 0 cap ls w (Own.holds h) hm hc).mono ?_
  rintro e w' ⟨rfl, n, rfl⟩
  have hle := FV ls
  have := Own.putRow (ys := Lib.compact ls ++ List.replicate (ls.length - (Lib.compact ls).length) []) h (by simp; omega) n #[]
  rw [Sort.grow_empty] at this
  refine ⟨_, rfl, ?_, this.2, rfl⟩
  have h2 := this.1.short (m := (Lib.compact ls).length) (by simp)
  rw [List.map_append, List.take_left' (by simp)] at h2
  exact h2
theorem RW (nm : List UInt8) (w : World) : Calls Tryz.prog 181 #[aI nm] w (jE w fun v w' => match dJ nm with
 | some ls => ∃ s, v = .tuple #[s, .bool true] ∧ Sl 1 w' s (aN ls) ∧ ls.length ≤ 254
 | none => ∃ s, v = .tuple #[s, .bool false]) := by
 go_enter Tryz.func181, Tryz.ntmps181
 refine_lift kL ?_; intro _ _ _
 refine aB (enters_of Tryz.func62 rfl rfl) rfl rfl (NV nm _) ?_
 intro w1 x1
 refine aA ?_
 refine aK (enters_of Tryz.func106 rfl rfl) rfl rfl (UK _ _) ?_
 intro v w2 x2 hv
 cases hl : bF (fold nm) with
 | none =>
  rw [hl] at hv
  subst hv
  refine_lift bY fun _ _ => ?_
  refine bH (enters_of Tryz.func204 rfl rfl) rfl rfl (VL (ls := []) (Own.nil w2.heap.size 1 9 w2)) ?_
  rintro e w3 ⟨rfl, _, m3⟩
  refine ⟨_, rfl, ?_⟩
  refine_lift aS ?_
  go_ret2
  refine ⟨_, rfl, (x1.trans x2).move m3 (by rintro k ⟨⟩), ?_⟩
  simp [dJ, hl]
 | some ls =>
  rw [hl] at hv
  obtain ⟨s, rfl, hs⟩ := hv
  refine_lift bY fun _ _ => ?_
  refine bH (enters_of Tryz.func204 rfl rfl) rfl rfl (VL hs) ?_
  rintro e w3 ⟨rfl, o3, m3⟩
  refine ⟨_, rfl, ?_⟩
  refine_lift aS ?_
  go_ret2
  refine ⟨_, rfl, hs.mvx m3 (x1.trans x2) x1.size, ?_⟩
  have := eC hl
  simp only [dJ, hl, Option.map_some]
  refine ⟨s, rfl, o3.sl, ?_⟩
  have h2 := gN ls
  rw [this.2.1] at h2
  simp; omega
theorem VM (a : List UInt8) (w : World) : Calls Tryz.prog 228 #[aI a] w (bG w (.bool false)) := by
 go_enter Tryz.func228, Tryz.ntmps228
 refine_lift aS ?_
 go_ret
 exact ⟨by simp, Ext.refl _⟩
theorem VN (a : List UInt8) (w : World) : Calls Tryz.prog 235 #[aI a] w (bG w (.bool false)) := by
 go_enter Tryz.func235, Tryz.ntmps235
 refine_lift aS ?_
 go_ret
 exact ⟨by simp, Ext.refl _⟩
theorem WG (a b : List UInt8) (w : World) : Calls Tryz.prog 201 #[aI a, aI b] w (bG w (.int .i64 (jH a b))) := by
 go_enter Tryz.func201, Tryz.ntmps201
 refine_lift bY fun _ _ => ?_
 refine aB (enters_of Tryz.func228 rfl rfl) rfl rfl (VM _ _) ?_
 intro w1 x1
 refine_lift bY fun _ _ => ?_
 refine aB (enters_of Tryz.func228 rfl rfl) rfl rfl (VM _ _) ?_
 intro w2 x2
 refine_lift KT (fun _ _ _ _ => ?_) (fun _ _ => ?_) (fun _ => ?_)
 ·rename_i h
  go_ret
  exact ⟨by simp [jH, h], x1.trans x2⟩
 ·have h := ‹Op.bytesLess a b = false›
  have h2 := ‹(!(Op.bytesLess a b || a == b)) = true›
  go_ret
  have h3 : a ≠ b := by intro e; subst e; simp at h2
  exact ⟨by simp [jH, h, h3], x1.trans x2⟩
 ·have h := ‹Op.bytesLess a b = false›
  have h2 := ‹(!(Op.bytesLess a b || a == b)) = false›
  go_ret
  rw [h] at h2
  have h3 : a = b := by simpa using h2
  subst h3
  exact ⟨by simp [jH, h], x1.trans x2⟩
theorem WH (a b : List UInt8) (w : World) : Calls Tryz.prog 229 #[aI a, aI b] w (bG w (.int .i64 (jH a b))) := by
 go_enter Tryz.func229, Tryz.ntmps229
 refine_lift bY fun _ _ => ?_
 refine aB (enters_of Tryz.func235 rfl rfl) rfl rfl (VN _ _) ?_
 intro w1 x1
 refine_lift bY fun _ _ => ?_
 refine aB (enters_of Tryz.func235 rfl rfl) rfl rfl (VN _ _) ?_
 intro w2 x2
 refine_lift KT (fun _ _ _ _ => ?_) (fun _ _ => ?_) (fun _ => ?_)
 ·rename_i h
  go_ret
  exact ⟨by simp [jH, h], x1.trans x2⟩
 ·have h := ‹Op.bytesLess a b = false›
  have h2 := ‹(!(Op.bytesLess a b || a == b)) = true›
  go_ret
  have h3 : a ≠ b := by intro e; subst e; simp at h2
  exact ⟨by simp [jH, h, h3], x1.trans x2⟩
 ·have h := ‹Op.bytesLess a b = false›
  have h2 := ‹(!(Op.bytesLess a b || a == b)) = false›
  go_ret
  rw [h] at h2
  have h3 : a = b := by simpa using h2
  subst h3
  exact ⟨by simp [jH, h], x1.trans x2⟩
theorem eA {l : List (List UInt8)} {k : Nat} (h : k < l.length) : (aN l)[k]? = some [aI l[k]] := qN l k _ (List.getElem?_eq_getElem h)
theorem WI (u v : Value) (xs ys : List (List UInt8)) (w : World) (hu : Sl 1 w u (aN xs)) (hv : Sl 1 w v (aN ys)) : Calls Tryz.prog 202 #[u, v] w (bG w (.int .i64 (gG xs ys))) := by
 have hxl := hu.le
 have hyl := hv.le
 have hxe := aR xs
 have hye := aR ys
 go_enter Tryz.func202, Tryz.ntmps202
 refine_lift bY fun _ _ => ?_
 rw [hxe]
 go_loopw [11] (fun i wr => ∃ k : Nat, k ≤ xs.length ∧ k ≤ ys.length ∧ i = .int .i64 k ∧ Ext w wr ∧ gG xs ys = gG (xs.drop k) (ys.drop k)) (fun i _ => xs.length - (intOf i).toNat)
 case atStart => exact ⟨0, Nat.zero_le _, Nat.zero_le _, rfl, Ext.refl _, rfl⟩
 case round =>
  obtain ⟨k, hk, hk2, rfl, hx, hrec⟩ := hrel
  have hul := hu.ext hx
  have hvl := hv.ext hx
  by_cases hlt : k < xs.length
  ·have hp := hul.elem (eA hlt)
   have hd := List.drop_eq_getElem_cons hlt
   by_cases hlt2 : k < ys.length
   ·have hp2 := hvl.elem (eA hlt2)
    have hd2 := List.drop_eq_getElem_cons hlt2
    refine_lift VK ?_; intro _ _ _ _ _ _ _
    refine aB (enters_of Tryz.func229 rfl rfl) rfl rfl (WH _ _ _) ?_
    intro w2 x2
    have hx2 := hx.trans x2
    clear hx hul hvl hp hp2
    refine_lift rF (fun _ => ?_) (fun _ => ?_)
    ·rename_i hc
     go_ret
     refine ⟨?_, hx2⟩
     rw [hrec, hd, hd2, gG, if_pos (by simpa using hc)]
     rfl
    ·rename_i hc
     refine ⟨⟨k + 1, by omega, by omega, rfl, hx2, ?_⟩, by simp [intOf]; omega⟩
     rw [hrec, hd, hd2, gG, if_neg (by simpa using hc)]
   ·have : k = ys.length := by omega
    subst this
    refine_lift oM fun _ _ _ _ _ _ => ?_
    go_ret
    refine ⟨?_, hx⟩
    rw [hrec, hd, List.drop_length, gG]
    rfl
  ·have : k = xs.length := by omega
   subst this
   refine_lift DK (fun _ _ => ?_) (fun _ _ _ _ => ?_)
   ·rename_i hc
    go_ret
    refine ⟨?_, hx⟩
    have hlt2 : xs.length < ys.length := by rw [hxe, hye] at hc; omega
    rw [hrec, List.drop_length, List.drop_eq_getElem_cons hlt2, gG]
    rfl
   ·rename_i hc
    go_ret
    refine ⟨?_, hx⟩
    have hlt2 : xs.length = ys.length := by rw [hxe, hye] at hc; omega
    rw [hrec, List.drop_length, hlt2, List.drop_length, gG]
    rfl
theorem WJ (a b : List UInt8) (w : World) : Calls Tryz.prog 179 #[aI a, aI b] w (bG w (.int .i64 (gP a b))) := by
 go_enter Tryz.func179, Tryz.ntmps179
 refine_lift bY fun _ _ => ?_
 refine aK (enters_of Tryz.func181 rfl rfl) rfl rfl (RW a _) ?_
 intro v w1 x1 hv
 cases ha : dJ a with
 | none =>
  rw [ha] at hv
  obtain ⟨s, rfl⟩ := hv
  refine_lift bY fun _ _ => ?_
  refine aK (enters_of Tryz.func181 rfl rfl) rfl rfl (RW b _) ?_
  intro v w2 x2 hv
  cases hb : dJ b with
  | none =>
   rw [hb] at hv
   obtain ⟨s2, rfl⟩ := hv
   refine_lift gV fun _ _ _ _ => ?_
   refine aB (enters_of Tryz.func201 rfl rfl) rfl rfl (WG _ _ _) ?_
   intro w3 x3
   refine_lift aS ?_
   go_ret
   exact ⟨by simp [gP, ha, hb], (x1.trans x2).trans x3⟩
  | some ys =>
   rw [hb] at hv
   obtain ⟨s2, rfl, hs2, _⟩ := hv
   refine_lift aS ?_
   go_ret
   exact ⟨by simp [gP, ha, hb], x1.trans x2⟩
 | some xs =>
  rw [ha] at hv
  obtain ⟨s, rfl, hs, _⟩ := hv
  refine_lift bY fun _ _ => ?_
  refine aK (enters_of Tryz.func181 rfl rfl) rfl rfl (RW b _) ?_
  intro v w2 x2 hv
  cases hb : dJ b with
  | none =>
   rw [hb] at hv
   obtain ⟨s2, rfl⟩ := hv
   refine_lift aS ?_
   go_ret
   exact ⟨by simp [gP, ha, hb], x1.trans x2⟩
  | some ys =>
   rw [hb] at hv
   obtain ⟨s2, rfl, hs2, _⟩ := hv
   have hs := hs.ext x2
   refine_lift bY fun _ _ => ?_
   refine aB (enters_of Tryz.func202 rfl rfl) rfl rfl (WI _ _ _ _ _ hs hs2) ?_
   intro w3 x3
   refine_lift aS ?_
   go_ret
   exact ⟨by simp [gP, ha, hb], (x1.trans x2).trans x3⟩
theorem RX (nm : List UInt8) (w : World) : Calls Tryz.prog 57 #[aI nm] w (bG w (.int .i64 (if (bF nm).isSome then 0 else 1))) := by
 go_enter Tryz.func57, Tryz.ntmps57
 refine_lift gV fun _ _ _ _ => ?_
 refine aK (enters_of Tryz.func106 rfl rfl) rfl rfl (UK nm _) ?_
 intro v w1 x1 hv
 cases hl : bF nm with
 | none =>
  rw [hl] at hv
  subst hv
  refine_lift aS ?_
  go_ret
  exact ⟨by simp [hl], x1⟩
 | some ls =>
  rw [hl] at hv
  obtain ⟨s, rfl, _⟩ := hv
  refine_lift aS ?_
  go_ret
  exact ⟨by simp [hl], x1⟩
theorem VO (nm : List UInt8) (w : World) (hl : nm.length ≤ 9223372036854775806) : Calls Tryz.prog 145 #[aI nm] w (bG w (if (bF nm).isSome = true then .tuple #[aI (nm ++ [0]), .int .i64 0] else .tuple #[aI [], .int .i64 1])) := by
 have h27 := fun w => RX nm w
 cases hls : bF nm with
 | none =>
  simp only [hls, Option.isSome_none, Bool.false_eq_true, if_false] at h27 ⊢
  go_enter Tryz.func145, Tryz.ntmps145
  refine_lift gV fun _ _ _ _ => ?_
  refine aB (enters_of Tryz.func57 rfl rfl) rfl rfl (h27 _) ?_
  intro w1 x1
  refine_lift fP fun _ => ?_
  go_ret2
  exact ⟨rfl, x1⟩
 | some ls =>
  simp only [hls, Option.isSome_some, if_true] at h27 ⊢
  go_enter Tryz.func145, Tryz.ntmps145
  refine_lift gV fun _ _ _ _ => ?_
  refine aB (enters_of Tryz.func57 rfl rfl) rfl rfl (h27 _) ?_
  intro w1 x1
  refine_lift aS ?_
  go_ret2
  exact ⟨rfl, x1⟩
theorem VP (s : List UInt8) (w : World) (hl : s.length ≤ 9223372036854775807) : Calls Tryz.prog 177 #[aI s] w (bG w (.tuple #[aI ((fE s).getD []), .bool (fE s).isSome])) := by
 have h27 := fun w => RX (Lib.trimSuffix s [0]) w
 go_enter Tryz.func177, Tryz.ntmps177
 refine_lift bY fun _ _ => ?_
 refine bH (vs := [aI s, aI [0]]) (enters_of Tryz.func200 rfl rfl) rfl rfl (Tryz.strings_CutSuffix ⟨s.toArray⟩ ⟨[0].toArray⟩ _ (by rw [fI]; exact hl)) ?_
 rintro e w1 ⟨rfl, rfl⟩
 refine ⟨_, rfl, ?_⟩
 refine aA ?_
 cases hh : Lib.hasSuffix s [0] with
 | false =>
  refine_lift aS ?_
  go_ret2
  refine ⟨?_, Ext.refl _⟩
  simp only [fE, hh, Bool.false_eq_true, false_and, if_false]
  rfl
 | true =>
  cases hls : bF (Lib.trimSuffix s [0]) with
  | none =>
   simp only [hls, Option.isSome_none, Bool.false_eq_true, if_false] at h27
   refine_lift gV fun _ _ _ _ => ?_
   all_goals try (exact absurd ‹false = true› Bool.false_ne_true)
   refine aB (enters_of Tryz.func57 rfl rfl) rfl rfl (h27 _) ?_
   intro w2 x2
   refine_lift fP fun _ => ?_
   go_ret2
   refine ⟨?_, x2⟩
   simp only [fE, hh, hls, Option.isSome_none, Bool.false_eq_true, and_false, if_false]
   rfl
  | some ls =>
   simp only [hls, Option.isSome_some, if_true] at h27
   refine_lift gV fun _ _ _ _ => ?_
   all_goals try (exact absurd ‹false = true› Bool.false_ne_true)
   refine aB (enters_of Tryz.func57 rfl rfl) rfl rfl (h27 _) ?_
   intro w2 x2
   refine_lift aS ?_
   go_ret2
   refine ⟨?_, x2⟩
   simp only [fE, hh, hls, Option.isSome_some, and_self, if_true]
   rfl
theorem WK (k : Int) (w : World) : Calls Tryz.prog 196 #[.int .i64 k] w (bG w (.int .i64 (eZ k))) := by
 go_enter Tryz.func196, Tryz.ntmps196
 (repeat' first | ((with_reducible refine cY ?_); go_step) | ((with_reducible refine bR ?_); first | refine fM ?_ | (refine dN ?_ ?_ <;> intro hc)) | fail)
 all_goals
  go_ret
  refine ⟨?_, Ext.refl _⟩
  simp [eZ, *]
theorem WL (s : List UInt8) (w : World) (hl : s.length ≤ 4611686018427387904) : Calls Tryz.prog 161 #[aI s] w (bG w (.bool (qM s))) := by
 go_enter Tryz.func161, Tryz.ntmps161
 refine_lift bY fun _ _ => ?_
 go_loopw [0] (fun s2 wr => wr = w ∧ ∃ r : List UInt8, s2 = aI r ∧ r.length ≤ s.length ∧ kU s = kU r) (fun s2 _ => uP s2)
 case atStart => exact ⟨rfl, s, rfl, Nat.le_refl _, rfl⟩
 case round =>
  obtain ⟨rfl, r, rfl, hr, hrec⟩ := hrel
  cases r with
  | nil =>
   refine_lift aS ?_
   go_ret
   refine ⟨?_, Ext.refl _⟩
   rw [qM, hrec]
   simp [kU, nI]
  | cons k t =>
   have hk : k.toNat < 256 := k.toNat_lt
   have hne : s ≠ [] := by intro e; subst e; simp at hr
   refine_lift DK (fun _ _ => ?_) (fun _ _ _ _ => ?_)
   ·have hc := ‹((k :: t).length : Int) < 1 + (k.toNat : Int)›
    go_ret
    refine ⟨?_, Ext.refl _⟩
    rw [qM, hrec, nK, if_pos (by simp at hc; omega)]
    simp
   ·have hc := ‹1 + (k.toNat : Int) ≤ ((k :: t).length : Int)›
    have e : (1 + (k.toNat : Int)).toNat = k.toNat + 1 := by omega
    rw [e, List.drop_succ_cons]
    refine ⟨⟨trivial, _, rfl, by simp at hr ⊢; omega, ?_⟩, by simp [qB]; omega⟩
    rw [hrec, nK, if_neg (by simp at hc; omega)]
theorem WM (k : Int) (d : List UInt8) (w : World) (hl : d.length ≤ 9223372036854775807) : Calls Tryz.prog 162 #[.int .i64 k, aI d] w (bG w (.tuple #[aI (fZ k d).1, .int .i64 (fZ k d).2])) := by
 go_enter Tryz.func162, Tryz.ntmps162
 refine_lift bY fun _ _ => ?_
 refine aB (enters_of Tryz.func196 rfl rfl) rfl rfl (WK _ _) ?_
 intro w1 x1
 refine_lift SF (fun _ _ => ?_) (fun _ _ _ _ => ?_) (fun _ => ?_)
 ·have hc := ‹eZ k < 0›
  go_ret2
  refine ⟨?_, x1⟩
  rw [fZ, if_pos hc]
  rfl
 ·have hc : ¬ eZ k < 0 := by have := ‹0 ≤ eZ k›; omega
  have hc2 := ‹(d.length : Int) < eZ k›
  go_ret2
  refine ⟨?_, x1⟩
  rw [fZ, if_neg hc, if_pos hc2]
  rfl
 ·have hc : ¬ eZ k < 0 := by have := ‹0 ≤ eZ k›; omega
  have hc2 : ¬ (d.length : Int) < eZ k := by have := ‹eZ k ≤ (d.length : Int)›; omega
  refine aB (enters_of Tryz.func177 rfl rfl) rfl rfl (VP (d.drop (eZ k).toNat) _ (by simp; omega)) ?_
  intro w2 x2
  cases hh : fE (d.drop (eZ k).toNat) with
  | none =>
   simp only [hh, Option.isSome_none, Option.getD_none]
   refine_lift aS ?_
   go_ret2
   refine ⟨?_, x1.trans x2⟩
   rw [fZ, if_neg hc, if_neg hc2, hh]
   rfl
  | some n =>
   simp only [hh, Option.isSome_some, Option.getD_some]
   refine_lift aS ?_
   go_ret2
   refine ⟨?_, x1.trans x2⟩
   rw [fZ, if_neg hc, if_neg hc2, hh]
   rfl
theorem NW {s : List UInt8} {k : Nat} (h : k < s.length) : s.getD k 0 = s[k] := by simp [h]
theorem VQ (s : List UInt8) (w : World) (hl : s.length ≤ 4611686018427387904) : Calls Tryz.prog 128 #[aI s] w (bG w (.tuple #[aI (bU s).1, aI (bU s).2.1, .bool (bU s).2.2])) := by
 go_enter Tryz.func128, Tryz.ntmps128
 refine_lift bY fun _ _ => ?_
 go_loopw [5] (fun i wr => wr = w ∧ ∃ k : Nat, i = .int .i64 k ∧ k ≤ s.length + 256 ∧ fN s = k + fN (s.drop k)) (fun i _ => s.length + 256 - (intOf i).toNat)
 case atStart => exact ⟨rfl, 0, rfl, by omega, by simp⟩
 case round =>
  obtain ⟨rfl, k, rfl, hk, hrec⟩ := hrel
  by_cases hlt : k < s.length
  ·have hd := List.drop_eq_getElem_cons hlt
   have hb : (s.getD k 0).toNat < 256 := UInt8.toNat_lt _
   have hg := NW hlt
   refine_lift UC (fun hc _ _ _ _ => ?_) (fun hc _ => ?_)
   ·have hc := ‹(!decide (((s.getD k 0).toNat : Int) = 0)) = true›
    have hne : (s.getD k 0).toNat ≠ 0 := by simpa using hc
    go_roundw
    case rel =>
     refine ⟨trivial, k + (1 + (s.getD k 0).toNat), by congr 1, by omega, ?_⟩
     rw [hrec, hd, qL, ← hg, if_neg hne, List.drop_drop]
     rw [show k + 1 + (s.getD k 0).toNat = k + (1 + (s.getD k 0).toNat) by omega]
     omega
    case measure => simp only [intOf]; omega
   ·have hc := ‹(!decide (((s.getD k 0).toNat : Int) = 0)) = false›
    have hz : (s.getD k 0).toNat = 0 := by simpa using hc
    have hw : fN s = k := by rw [hrec, hd, qL, ← hg, if_pos hz]; rfl
    have hf : bU s = ((fE (s.take (k + 1))).getD [], s.drop (k + 1), (fE (s.take (k + 1))).isSome) := by
     rw [bU, hw, if_neg (by omega)]
    refine aB (enters_of Tryz.func177 rfl rfl) rfl rfl (VP _ _ (by simp; omega)) ?_
    intro w2 x2
    refine aA ?_
    refine_lift bY fun _ _ => ?_
    refine bB (by decide +kernel) (by decide +kernel) ?_
    repeat' (first | ((first | (with_reducible apply fU) | ((with_reducible apply KP); (rfl); (rfl); (with_reducible rfl))); (intro _ _; exact rn); (refine aA ?_)) | ((with_reducible apply zH); (rfl); (rfl); (first | (with_reducible exact (rfl : true = !false)) | (with_reducible exact (rfl : false = !true)) | (exact Bool.not_false.symm) | (exact Bool.not_true.symm)); (refine aA ?_)) | (with_reducible (apply HL)))
    intro w3 x3
    refine_lift aS ?_
    refine bodyPost_ret (results_tmp3 rfl _ _ _) rfl ⟨?_, x2.trans x3⟩
    rw [hf]
    rfl
  ·refine_lift gV fun hc _ _ _ => ?_
   refine bodyPost_ret (results_tmp3 rfl _ _ _) rfl ⟨?_, Ext.refl _⟩
   have hw : s.length ≤ fN s := by omega
   rw [bU, if_pos hw]
   rfl
theorem SV (r : List UInt8) (i : Nat) (p : Value) (w : World) (hp : Pts w p [aI r]) (hr : r.length = 20) (hi : i < 5) : Calls Tryz.prog 129 #[.int .i64 i, p] w (bG w (.int .i64 (numP r i 4 : Nat))) := by
 go_enter Tryz.func129, Tryz.ntmps129
 refine_lift bY fun _ _ => ?_
 go_loopw [4, 6] (fun n j wr => wr = w ∧ ∃ k : Nat, k ≤ 4 ∧ j = .int .i64 k ∧ n = .int .i64 (numP r i k : Nat)) (fun _ j _ => 4 - (intOf j).toNat)
 case atStart => exact ⟨rfl, 0, by omega, rfl, rfl⟩
 case round =>
  obtain ⟨rfl, k, hk, rfl, rfl⟩ := hrel
  by_cases hlt : k < 4
  ·have hn := HO r i k
   have hn2 : numP r i k * 256 < 4294967296 := by
    have : 256 ^ k ≤ 256 ^ 3 := Nat.pow_le_pow_right (by omega) (by omega)
    omega
   have hb : (r.getD (4 * i + k) 0).toNat < 256 := UInt8.toNat_lt _
   have hb2 : (r.getD (4 * (i : Int) + (k : Int)).toNat 0).toNat < 256 := UInt8.toNat_lt _
   have e3 : (4 * (i : Int) + (k : Int)).toNat = 4 * i + k := by omega
   refine_lift fP fun _ => ?_
   refine ⟨⟨trivial, k + 1, by omega, rfl, ?_⟩, by simp [intOf]; omega⟩
   rw [numP]
  ·have : k = 4 := by omega
   subst this
   refine_lift fP fun _ => ?_
   go_ret
   exact ⟨rfl, Ext.refl _⟩
theorem zQ (n : Nat) : IntKind.wrap .u8 (n : Int) = ((UInt8.ofNat n).toNat : Nat) := by
 simp only [IntKind.wrap, IntKind.bits, IntKind.signed, UInt8.toNat_ofNat']
 simp
theorem VR {B : Nat} {v : Value} {l : List UInt8} {w : World} (n : Nat) (h : Own B 1 5 w v (bJ l)) (hB : B ≤ w.heap.size) (hn : n < 4294967296) (hl : l.length ≤ 1000000) : Calls Tryz.prog 146 #[v, .int .i64 n] w fun e w' => ∃ v', e = .returned v' ∧ Own B 1 5 w' v' (bJ (l ++ yP n)) ∧ Mv v.ownBlock w w' := by
 go_enter Tryz.func146, Tryz.ntmps146
 refine_lift kL ?_; intro _ _ _
 have e1 : IntKind.wrap .u8 ((n : Int) / 2 ^ Int.toNat 24) = ((UInt8.ofNat (n / 16777216)).toNat : Nat) := by
  rw [← zQ]; congr 1
 have e2 : IntKind.wrap .u8 ((n : Int) / 2 ^ Int.toNat 16) = ((UInt8.ofNat (n / 65536)).toNat : Nat) := by
  rw [← zQ]; congr 1
 have e3 : IntKind.wrap .u8 ((n : Int) / 2 ^ Int.toNat 8) = ((UInt8.ofNat (n / 256)).toNat : Nat) := by
  rw [← zQ]; congr 1
 have e4 : IntKind.wrap .u8 (n : Int) = ((UInt8.ofNat n).toNat : Nat) := zQ n
 rw [e1, e2, e3, e4]
 refine bZ (xs := [.int .u8 ((UInt8.ofNat (n / 16777216)).toNat : Nat), .int .u8 ((UInt8.ofNat (n / 65536)).toNat : Nat), .int .u8 ((UInt8.ofNat (n / 256)).toNat : Nat), .int .u8 ((UInt8.ofNat n).toNat : Nat)]) (k := 1) (e := 5) (bytes := 1) rfl rfl rfl (by intro y hy; simp at hy; rcases hy with rfl | rfl | rfl | rfl <;> rfl) (by decide +kernel) (by simp) ?_
 intro v1 w1 x1 s1 sl1 _
 refine aA ?_
 have hll : (bJ l).length = l.length := by simp [bJ]
 refine qE (B := B) (k := 1) (e := 5) (bytes := 1) (x := v1) rfl (h.ext x1) rfl sl1 (by decide +kernel) (by simp [Value.cells, Value.oneCell']) (Nat.le_trans hB x1.size) (by rw [hll]; simp; omega) (by rw [hll]; simp; omega) ?_
 intro v2 w2 o2 m2
 refine aA ?_
 refine_lift aS ?_
 go_ret
 refine ⟨v2, rfl, ?_, (x1.mv _).trans m2⟩
 have : bJ (l ++ yP n) = bJ l ++ bJ (yP n) := by simp [bJ]
 rw [this]
 exact o2
structure RSet where
 name : List UInt8
 kind : Int
 ttl : Int
 data : List (List UInt8)
 deriving DecidableEq, Inhabited
structure SetAt (w : World) (cs : List Value) (s : RSet) : Prop where
 out : ∃ v, cs = [aI s.name, .int .i64 s.kind, .int .i64 s.ttl, v] ∧ Sl 1 w v (aN s.data)
theorem SetAt.ext {w w' : World} {cs : List Value} {s : RSet} (h : SetAt w cs s) (hx : Ext w w') : SetAt w' cs s := by
 obtain ⟨v, h1, h2⟩ := h
 exact ⟨v, h1, h2.ext hx⟩
theorem WN (v : Value) (a b : Int) (w : World) (h : Sl 1 w v [[.int .i64 a], [.int .i64 b]]) : Calls Tryz.prog 178 #[v] w (bG w (.int .i64 (if a ≠ 0 then a else b))) := by
 have h0 := h.elem (i := 0) rfl
 have h1 := h.elem (i := 1) rfl
 go_enter Tryz.func178, Tryz.ntmps178
 refine_lift bY fun _ _ => ?_
 go_loopw [8] (fun i wr => wr = w ∧ ∃ k : Nat, i = .int .i64 k ∧ k ≤ 2 ∧ (1 ≤ k → a = 0) ∧ (2 ≤ k → b = 0)) (fun i _ => 2 - (intOf i).toNat)
 case atStart => exact ⟨rfl, 0, rfl, by omega, by omega, by omega⟩
 case round =>
  obtain ⟨rfl, k, rfl, hk, ha, hb⟩ := hrel
  have hk3 : k = 0 ∨ k = 1 ∨ k = 2 := by omega
  rcases hk3 with rfl | rfl | rfl
  ·refine_lift DK (fun _ _ => ?_) (fun _ _ _ _ => ?_)
   ·go_ret
    refine ⟨?_, Ext.refl _⟩
    have hne : a ≠ 0 := by simp at *; assumption
    rw [if_pos hne]
    rfl
   ·have h0 : a = 0 := by simp at *; assumption
    exact ⟨⟨trivial, 1, rfl, by omega, fun _ => h0, by omega⟩, by simp [intOf]⟩
  ·have ha := ha (by omega)
   refine_lift DK (fun _ _ => ?_) (fun _ _ _ _ => ?_)
   ·go_ret
    refine ⟨?_, Ext.refl _⟩
    rw [if_neg (by simpa using ha)]
    rfl
   ·have h0 : b = 0 := by simp at *; assumption
    exact ⟨⟨trivial, 2, rfl, by omega, fun _ => ha, fun _ => h0⟩, by simp [intOf]⟩
  ·have ha := ha (by omega)
   have hb := hb (by omega)
   refine_lift fP fun _ => ?_
   go_ret
   refine ⟨?_, Ext.refl _⟩
   rw [if_neg (by simpa using ha), hb]
   rfl
theorem VS (s : RSet) (v : Value) (d : List UInt8) (w : World) : Calls Tryz.prog 91 #[.agg #[aI s.name, .int .i64 s.kind, .int .i64 s.ttl, v], aI d] w (bG w (.agg #[aI s.name, .int .i64 s.kind, .int .i64 s.ttl, aI d])) := by
 go_enter Tryz.func91, Tryz.ntmps91
 refine_lift hY fun _ _ => ?_
 refine aZ (vs := [aI s.name, .int .i64 s.kind, .int .i64 s.ttl, v]) rfl rfl ?_
 intro p w1 x1 hp
 refine aA ?_
 refine aG (z := [aI [], .int .i64 0, .int .i64 0, aI []]) rfl (by decide +kernel) ?_
 intro w2 x2 s2 h2
 have hp := hp.ext x2
 refine_lift bY fun _ _ => ?_
 refine aQ (v := .agg #[aI s.name, .int .i64 s.kind, .int .i64 s.ttl, aI d]) rfl (Runs.build rfl (by kernel_rfl)) ?_
 refine aA ?_
 refine aC (v := .agg #[aI s.name, .int .i64 s.kind, .int .i64 s.ttl, aI d]) rfl rfl rfl h2 (show aO Tryz.prog 47 4 = true by decide +kernel) rfl (by simp [Value.cells, Value.oneCell', aI]) ?_
 intro w3 p3
 have x13 : Ext w w3 := (x1.trans x2).move p3.mv (by rintro k ⟨⟩; exact x1.size)
 have h3 := p3.this
 refine_lift aS ?_
 exact bodyPost_ret (fL (cs := [aI s.name, .int .i64 s.kind, .int .i64 s.ttl, aI d]) rfl rfl h3 (show dY Tryz.prog 47 4 = true by decide +kernel)) rfl ⟨rfl, x13⟩
structure SetsAt (w : World) (v : Value) (l : List RSet) : Prop where
 out : ∃ css, Sl 4 w v css ∧ css.length = l.length ∧ ∀ (i : Nat) (s : RSet), l[i]? = some s → ∃ x, css[i]? = some [aI s.name, .int .i64 s.kind, .int .i64 s.ttl, x] ∧ Sl 1 w x (aN s.data)
theorem SetsAt.ext {w w' : World} {v : Value} {l : List RSet} (h : SetsAt w v l) (hx : Ext w w') : SetsAt w' v l := by
 obtain ⟨css, h1, h2, h3⟩ := h
 exact ⟨css, h1.ext hx, h2, fun i s hi => let ⟨x, a, b⟩ := h3 i s hi; ⟨x, a, b.ext hx⟩⟩
theorem SetsAt.elem {w : World} {v : Value} {l : List RSet} (h : SetsAt w v l) {i : Nat} {s : RSet} (hi : l[i]? = some s) : ∃ x, Pts w (bX v (i * 4)) [aI s.name, .int .i64 s.kind, .int .i64 s.ttl, x] ∧ Sl 1 w x (aN s.data) := by
 obtain ⟨css, h1, h2, h3⟩ := h
 obtain ⟨x, a, b⟩ := h3 i s hi
 exact ⟨x, h1.elem a, b⟩
theorem SetsAt.sl {w : World} {v : Value} {l : List RSet} (h : SetsAt w v l) : ∃ css : List (List Value), Sl 4 w v css ∧ css.length = l.length := by
 obtain ⟨css, h1, h2, h3⟩ := h
 exact ⟨css, h1, h2⟩
def Rec.cells (r : Rec) : List Value := [aI r.name, .int .i64 r.kind, .int .i64 r.ttl, aI r.data]
def aD (l : List Rec) : List (List Value) := l.map Rec.cells
theorem aL (l : List Rec) : (aD l).length = l.length := by simp [aD]
theorem cT {l : List Rec} {k : Nat} (h : k < l.length) : (aD l)[k]? = some [aI l[k].name, .int .i64 l[k].kind, .int .i64 l[k].ttl, aI l[k].data] := by simp [aD, h, Rec.cells]
theorem gC {α : Type} {a b : List α} {k : Nat} (h : a.take k = b.take k) (ha : k < a.length) (hb : k < b.length) (he : a[k] = b[k]) : a.take (k + 1) = b.take (k + 1) := by
 rw [List.take_add_one, List.take_add_one, List.getElem?_eq_getElem ha, List.getElem?_eq_getElem hb, h, he]
theorem rI {α : Type} {a b : List α} {k : Nat} (ha : k < a.length) (hb : k < b.length) (he : a[k] ≠ b[k]) : a ≠ b := by
 rintro rfl; exact he rfl
theorem WO (u v : Value) (a b : List (List UInt8)) (w : World) (hu : Sl 1 w u (aN a)) (hv : Sl 1 w v (aN b)) : Calls Tryz.prog 174 #[u, v] w (bG w (.bool (decide (a = b)))) := by
 have hal := hu.le
 have ha := aR a
 have hb := aR b
 go_enter Tryz.func174, Tryz.ntmps174
 (repeat' first | ((with_reducible refine cY ?_); go_step) | ((with_reducible refine bR ?_); first | refine fM ?_ | (refine dN ?_ ?_ <;> intro hc)) | fail)
 ·have hne := ‹(!decide (((aN a).length : Int) = ((aN b).length : Int))) = true›
  go_ret
  refine ⟨?_, Ext.refl _⟩
  have : a ≠ b := by rintro rfl; simp at hne
  simp [this]
 ·have hne := ‹(!decide (((aN a).length : Int) = ((aN b).length : Int))) = false›
  have hlen : a.length = b.length := by simp at hne; omega
  go_loopw [5] (fun i wr => ∃ k : Nat, k ≤ a.length ∧ i = .int .i64 k ∧ Ext w wr ∧ a.take k = b.take k) (fun i _ => a.length - (intOf i).toNat)
  case atStart => exact ⟨0, Nat.zero_le _, rfl, Ext.refl _, rfl⟩
  case round =>
   obtain ⟨k, hk, rfl, hx, hall⟩ := hrel
   by_cases hlt : k < a.length
   ·have hlt2 : k < b.length := by omega
    have h1 := (hu.ext hx).elem (eA hlt)
    have h2 := (hv.ext hx).elem (eA hlt2)
    have hu2 := hu.ext hx
    have hv2 := hv.ext hx
    refine_lift oM ?_; intro _ _ _ _ _ _
    refine cC (S := Ext wr) (by decide +kernel) ?_
    intro w2 x2 _
    refine tk 0 ?_; refine aA ?_; refine tk 1 ?_; refine aA ?_; refine tk 2 ?_; refine aA ?_; refine tk 3 ?_; refine aA ?_; refine tk 4 ?_; refine aA ?_; refine tk 5 ?_; refine aA ?_; refine tk 6 ?_; refine aA ?_; refine tk 7 ?_; refine aA ?_; refine tk 8 ?_; refine aA ?_
    refine cB (by decide +kernel) ?_
    by_cases he : a[k] = b[k]
    ·have e1 : decide (a[k] = b[k]) = true := decide_eq_true he
     simp only [e1, Bool.not_true]
     refine_lift aS ?_
     exact ⟨⟨k + 1, by omega, rfl, by exact dV, gC hall hlt hlt2 he⟩, by simp [intOf]; omega⟩
    ·have e1 : decide (a[k] = b[k]) = false := decide_eq_false he
     simp only [e1, Bool.not_false]
     refine_lift aS ?_
     go_ret
     refine ⟨?_, by exact dV⟩
     simp [rI hlt hlt2 he]
   ·have hk2 : k = a.length := by omega
    subst hk2
    refine_lift fP fun _ => ?_
    go_ret
    refine ⟨?_, by exact dV⟩
    rw [List.take_length, hlen, List.take_length] at hall
    simp [hall]
def FW (a b : Int) : Int := if a < b then -1 else if b < a then 1 else 0
def dQ (na nb : List UInt8) (ka kb : Int) : Int := if gP na nb ≠ 0 then gP na nb else FW ka kb
theorem WP (a b : Int) (w : World) : Calls Tryz.prog 180 #[.int .i64 a, .int .i64 b] w (bG w (.int .i64 (FW a b))) := by
 refine (Tryz.cmp_Compare_int a b w).mono ?_
 rintro e w' ⟨rfl, rfl⟩
 refine ⟨?_, Ext.refl _⟩
 unfold FW Lib.compareInt
 rfl
set_option maxHeartbeats 1000000 in
theorem VT (na nb : List UInt8) (ka kb ta tb : Int) (va vb : Value) (w : World) : Calls Tryz.prog 131 #[.agg #[aI na, .int .i64 ka, .int .i64 ta, va], .agg #[aI nb, .int .i64 kb, .int .i64 tb, vb]] w (bG w (.int .i64 (dQ na nb ka kb))) := by
 go_enter Tryz.func131, Tryz.ntmps131
 refine_lift hY fun _ _ => ?_
 refine aZ (vs := [aI na, .int .i64 ka, .int .i64 ta, va]) rfl rfl ?_
 intro p w1 x1 hp
 refine aA ?_
 refine aZ (vs := [aI nb, .int .i64 kb, .int .i64 tb, vb]) rfl rfl ?_
 intro q w2 x2 hq
 refine aA ?_
 refine_lift bY fun _ _ => ?_
 refine cC (S := Ext w2) (by decide +kernel) ?_
 intro w3 x3 _
 refine tk 0 ?_; refine aA ?_; refine tk 1 ?_; refine aA ?_; refine tk 2 ?_; refine aA ?_; refine tk 3 ?_; refine aA ?_; refine tk 5 ?_; refine aA ?_; refine tk 6 ?_; refine aA ?_; refine tk 7 ?_; refine aA ?_; refine tk 8 ?_; refine aA ?_
 refine aT (i := 4) (by decide +kernel) rfl rfl ?_
 refine aB (enters_of Tryz.func179 rfl rfl) rfl rfl (WJ _ _ _) ?_; intro w4 x4; refine aA ?_
 refine aJ ⟨by exact dV, ?_⟩
 refine aT (i := 9) (by decide +kernel) rfl rfl ?_
 refine aB (enters_of Tryz.func180 rfl rfl) rfl rfl (WP _ _ _) ?_; intro w5 x5; refine aA ?_
 refine aJ ⟨by exact dV, ?_⟩
 refine aT (i := 10) (by decide +kernel) rfl rfl ?_
 refine bZ (e := 3) (k := 1) (bytes := 8) (xs := [.int .i64 (gP na nb), .int .i64 (FW ka kb)]) rfl rfl rfl (by simp [Value.cells]) (by decide +kernel) (by simp) ?_
 intro v w6 x6 _ h6 _
 refine aA ?_
 refine aJ ⟨by exact dV, ?_⟩
 refine aT (i := 11) (by decide +kernel) rfl rfl ?_
 refine aB (enters_of Tryz.func178 rfl rfl) rfl rfl (WN _ _ _ _ h6) ?_; intro w7 x7; refine aA ?_
 refine aJ ⟨by exact dV, ?_⟩
 refine tk 12 ?_; refine aA ?_
 refine cB (by decide +kernel) ?_
 refine_lift aS ?_
 go_ret
 exact ⟨rfl, by exact dV⟩
structure SetC where
 name : List UInt8
 kind : Int
 ttl : Int
 a : Option Addr
 n : Nat
 c : Nat
 d : List (List UInt8)
 deriving Inhabited
def SetC.v (s : SetC) : Value := .slice s.a s.n s.c
def SetC.cells (s : SetC) : List Value := [aI s.name, .int .i64 s.kind, .int .i64 s.ttl, s.v]
def NX (x y : SetC) : Int := dQ x.name y.name x.kind y.kind
theorem iO : TPO (fun x y : List UInt8 × Int => dQ x.1 y.1 x.2 y.2) :=
 (DH.comap Prod.fst).lex (NQ.comap Prod.snd)
theorem LA : TPO NX := iO.comap fun s : SetC => (s.name, s.kind)
theorem WQ {B g cap : Nat} (l : List SetC) (w : World) (h : Own B 4 119 w (.slice (some ⟨g, 0, none⟩) l.length cap) (l.map SetC.cells)) (hl : l.length < 4611686018427387904) :
 Calls Tryz.prog 144 #[.slice (some ⟨g, 0, none⟩) l.length cap, .func (.func 131) #[] #[]] w fun e w' => e = .returned (.tuple #[]) ∧ ∃ l' : List SetC, l'.Perm l ∧ (∀ i j (hi : i < j) (hj : j < l'.length), 0 ≤ NX l'[j] l'[i]) ∧ Own B 4 119 w' (.slice (some ⟨g, 0, none⟩) l'.length cap) (l'.map SetC.cells) ∧ Mv (some g) w w' := by
 have hlen : (l.map SetC.cells).length = l.length := by simp
 have h0 := h
 rw [← hlen] at h0
 have eg : ∀ args w, (callFunc 131 args).run Tryz.prog w = .ok (.enter 131 args) w := enters_of Tryz.func131 (by kernel_rfl) rfl
 have hk : ∀ x, (SetC.cells x).length = 4 := fun _ => rfl
 have hfl := rD SetC.cells 4 hk l
 have hH : Sort.HoldsK SetC.cells 4 w g 0 l.toArray := by
  unfold Sort.HoldsK
  have := h.holdsF
  rw [← hfl] at this
  simpa using this
 have hcmp : Go.Proofs.CmpLays Tryz.prog 131 #[] SetC.cells 4 NX g 0 l.toArray.size w := by
  intro m os dk hdk x y
  refine (VT x.name y.name x.kind y.kind x.ttl y.ttl x.v y.v _).mono ?_
  rintro e w' ⟨rfl, hx⟩
  exact ⟨rfl, hx.grown⟩
 have hc := Go.Proofs.AnyQ.slices_SortFunc Tryz.sortSet 4 (fun w => oI (u := (Tryz.prog.underlying 119).getD (.struct #[])) (by rfl) (by rfl)) (fun w => by obtain ⟨i, hq, hz⟩ := lT (fQ (show aO Tryz.prog 119 4 = true by decide +kernel)); exact (by simp [sizeOf, typeInfo, hq, hz] : (Go.sizeOf 119).run Tryz.prog w = .ok 4 w)) SetC.cells hk (fun x v hv => by
  simp only [SetC.cells, List.mem_cons, List.not_mem_nil, or_false] at hv
  rcases hv with rfl | rfl | rfl | rfl <;> rfl) NX LA.swo 131 #[] g 0 cap l.toArray w eg hcmp hH (h.block g rfl).2 (by simpa using hl)
 change Calls Tryz.prog 144 _ _ _ at hc
 refine hc.mono ?_
 rintro e w' ⟨rfl, d', n, os, hp, hs, rfl⟩
 obtain ⟨p1, p2, p3⟩ := hp
 have hd : d'.toList.length = l.length := by simpa using p1
 have hfl2 := rD SetC.cells 4 hk d'.toList
 have hperm : d'.toList.Perm l := by
  have e1 : d'.extract 0 l.toArray.size = d' := by rw [← p1]; simp
  have e2 : l.toArray.extract 0 l.toArray.size = l.toArray := by simp
  rw [e1, e2] at p3
  simpa using p3
 have hput := h0.putRowF (fs := d'.toList.map SetC.cells) (by simpa using hd) (by intro x hx; obtain ⟨y, _, rfl⟩ := List.mem_map.1 hx; rfl) n os
 have hrow : Go.Proofs.sortWorldK SetC.cells 4 w g 0 n d' os = Sort.grow (Sort.putRow id (Sort.ahead w n) g 0 (d'.toList.map SetC.cells).flatten.toArray) os := by
  unfold Go.Proofs.sortWorldK Sort.putRowK
  rw [← hfl2]
 rw [hrow]
 refine ⟨rfl, d'.toList, hperm, ?_, ?_, hput.2⟩
 ·intro i j hi hj
  have hjs : j < d'.size := by simpa using hj
  have := hs i j (Nat.zero_le _) hi (by rw [← p1]; exact hjs)
  rw [getElem!_pos d' j hjs, getElem!_pos d' i (by omega)] at this
  simp only [Go.Proofs.ltOf, decide_eq_false_iff_not] at this
  simp only [Array.getElem_toList]
  omega
 ·have := hput.1
  rw [hlen] at this
  rw [hd]
  exact this
theorem QP (v : Value) (w : World) : Calls Tryz.prog 144 #[.slice none 0 0, v] w fun e w' => e = .returned (.tuple #[]) ∧ w' = w := by
 have h := Go.Proofs.AnyF.slices_SortFunc_none Tryz.sortSet none 0 v w
 change Calls Tryz.prog 144 _ _ _ at h
 exact h
def bI (s : RSet) (r : Rec) : Bool := decide (s.name = fold r.name) && decide (s.kind = r.kind)
def jI (s : RSet) (r : Rec) : RSet := ⟨s.name, s.kind, min s.ttl r.ttl, s.data ++ [r.data]⟩
def dG : List RSet → Rec → List RSet
 | [], r => [⟨fold r.name, r.kind, r.ttl, [r.data]⟩]
 | s :: l, r => if bI s r = true then jI s r :: l else s :: dG l r
def tK (gs : List RSet) : Prop := ∀ (i j : Nat) s t, gs[i]? = some s → gs[j]? = some t → i ≠ j → ¬ (s.name = t.name ∧ s.kind = t.kind)
theorem zS {r : Rec} : ∀ {gs : List RSet} {i : Nat} {s : RSet}, gs[i]? = some s → bI s r = true → tK gs → dG gs r = gs.set i (jI s r)
 | [], i, s, h, _, _ => by simp at h
 | a :: l, 0, s, h, hm, _ => by
   cases h
   simp [dG, hm]
 | a :: l, i + 1, s, h, hm, hd => by
   have ha : bI a r = false := by
    cases hx : bI a r with
    | false => rfl
    | true =>
     exfalso
     simp only [bI, Bool.and_eq_true, decide_eq_true_eq] at hm hx
     exact hd 0 (i + 1) a s rfl h (by omega) ⟨by rw [hx.1, hm.1], by rw [hx.2, hm.2]⟩
   have := zS (gs := l) (i := i) (by simpa using h) hm (fun p q s t hp hq hpq => hd (p + 1) (q + 1) s t (by simpa using hp) (by simpa using hq) (by omega))
   simp [dG, ha, this]
theorem vM {r : Rec} : ∀ {gs : List RSet}, (∀ s ∈ gs, bI s r = false) → dG gs r = gs ++ [⟨fold r.name, r.kind, r.ttl, [r.data]⟩]
 | [], _ => rfl
 | a :: l, h => by
   have := vM (gs := l) (fun s hs => h s (by simp [hs]))
   simp [dG, h a (by simp), this]
theorem qO {r : Rec} : ∀ {gs : List RSet} {s : RSet}, s ∈ dG gs r → (∃ t ∈ gs, t.name = s.name ∧ t.kind = s.kind) ∨ (s.name = fold r.name ∧ s.kind = r.kind)
 | [], s, h => by
   simp only [dG, List.mem_singleton] at h
   subst h; exact .inr ⟨rfl, rfl⟩
 | a :: l, s, h => by
   unfold dG at h
   split at h
   ·rename_i hm
    simp only [bI, Bool.and_eq_true, decide_eq_true_eq] at hm
    rcases List.mem_cons.1 h with rfl | h
    ·exact .inr ⟨hm.1, hm.2⟩
    ·exact .inl ⟨s, by simp [h], rfl, rfl⟩
   ·rcases List.mem_cons.1 h with rfl | h
    ·exact .inl ⟨s, by simp, rfl, rfl⟩
    ·rcases qO h with ⟨t, ht, h2⟩ | h2
     ·exact .inl ⟨t, by simp [ht], h2⟩
     ·exact .inr h2
theorem gJ {gs : List RSet} : tK gs ↔ gs.Pairwise fun s t => ¬ (s.name = t.name ∧ s.kind = t.kind) := by
 rw [List.pairwise_iff_getElem]
 constructor
 ·intro h i j hi hj hij
  exact h i j _ _ (List.getElem?_eq_getElem hi) (List.getElem?_eq_getElem hj) (by omega)
 ·intro h i j s t hs ht hij
  obtain ⟨hi, rfl⟩ := List.getElem?_eq_some_iff.1 hs
  obtain ⟨hj, rfl⟩ := List.getElem?_eq_some_iff.1 ht
  rcases Nat.lt_or_ge i j with h1 | h1
  ·exact h i j hi hj h1
  ·have := h j i hj hi (by omega)
   exact fun ⟨a, b⟩ => this ⟨a.symm, b.symm⟩
theorem tL {r : Rec} : ∀ {gs : List RSet}, tK gs → tK (dG gs r)
 | [], _ => by rw [gJ]; simp [dG]
 | a :: l, h => by
   rw [gJ] at h ⊢
   obtain ⟨h1, h2⟩ := List.pairwise_cons.1 h
   unfold dG
   split
   ·rename_i hm
    exact List.pairwise_cons.2 ⟨fun t ht => h1 t ht, h2⟩
   ·rename_i hm
    refine List.pairwise_cons.2 ⟨fun t ht => ?_, gJ.1 (tL (gJ.2 h2))⟩
    rcases qO ht with ⟨u, hu, e1, e2⟩ | ⟨e1, e2⟩
    ·have := h1 u hu
     rw [e1, e2] at this
     exact this
    ·rintro ⟨f1, f2⟩
     exact hm (by simp [bI, f1, f2, e1, e2])
def cL (l : List Rec) : List RSet := l.foldl dG []
theorem jR (l : List Rec) : tK (cL l) := by
 unfold cL
 suffices ∀ (l : List Rec) gs, tK gs → tK (l.foldl dG gs) from this l [] (by intro i j s t h; simp at h)
 intro l
 induction l with
 | nil => exact fun _ h => h
 | cons r l ih => exact fun gs h => ih _ (tL h)
theorem nN {l : List Rec} {k : Nat} (h : k < l.length) : cL (l.take (k + 1)) = dG (cL (l.take k)) l[k] := by
 unfold cL
 rw [List.take_add_one, List.getElem?_eq_getElem h, List.foldl_append]
 rfl
theorem zT {r : Rec} : ∀ {gs : List RSet}, (dG gs r).length ≤ gs.length + 1
 | [] => by simp [dG]
 | a :: l => by
   have := zT (r := r) (gs := l)
   unfold dG
   split <;> simp <;> omega
def mS (gs : List RSet) : Nat := (gs.map fun s => s.data.length).sum
theorem tN {r : Rec} : ∀ {gs : List RSet}, mS (dG gs r) = mS gs + 1
 | [] => by simp [dG, mS]
 | a :: l => by
   have := tN (r := r) (gs := l)
   unfold mS at this
   unfold dG
   split
   ·simp [mS, jI]; omega
   ·simp [mS, this]; omega
theorem rJ (l : List Rec) : mS (cL l) = l.length := by
 unfold cL
 suffices ∀ (l : List Rec) gs, mS (l.foldl dG gs) = mS gs + l.length from by simpa [mS] using this l []
 intro l
 induction l with
 | nil => intro gs; simp
 | cons r l ih => intro gs; rw [List.foldl_cons, ih, tN]; simp; omega
theorem vO (l : List Rec) : (cL l).length ≤ l.length := by
 unfold cL
 suffices ∀ (l : List Rec) gs, (l.foldl dG gs).length ≤ gs.length + l.length from by simpa using this l []
 intro l
 induction l with
 | nil => intro gs; simp
 | cons r l ih => intro gs; rw [List.foldl_cons]; have := ih (dG gs r); have := zT (r := r) (gs := gs); simp; omega
theorem DN {gs : List RSet} {s : RSet} (h : s ∈ gs) : s.data.length ≤ mS gs := by
 induction gs with
 | nil => simp at h
 | cons a l ih =>
  unfold mS at *
  rcases List.mem_cons.1 h with rfl | h
  ·simp
  ·have := ih h; simp; omega
structure GC where
 b : Nat
 v : Value
 s : RSet
def GC.cells (c : GC) : List Value := [aI c.s.name, .int .i64 c.s.kind, .int .i64 c.s.ttl, c.v]
def GC.key (c : GC) : Value × Value := (.agg #[aI c.s.name, .int .i64 c.s.kind], .pointer (some ⟨c.b, 0, none⟩))
def GC.kcells (c : GC) : List Value := [aI c.s.name, .int .i64 c.s.kind]
structure GOK (w : World) (B : Nat) (c : GC) : Prop where
 blk : w.heap[c.b]? = some (.cells c.cells.toArray 119 (0, 0))
 ge : B ≤ c.b
 own : Own B 1 9 w c.v (aN c.s.data)
structure GS (w : World) (B : Nat) (gcs : List GC) : Prop where
 each : ∀ c ∈ gcs, GOK w B c
 apart : gcs.Pairwise fun c c' => c.b ≠ c'.b ∧ (c.v.ownBlock = none ∨ c'.v.ownBlock = none ∨ c.v.ownBlock ≠ c'.v.ownBlock)
theorem Own.type {B k e : Nat} {w : World} {v : Value} {es : List (List Value)} (h : Own B k e w v es) {r : Nat} (hr : v.ownBlock = some r) : ∃ cur fz, w.heap[r]? = some (.cells cur e fz) := by
 rcases h.row.2 with ⟨rfl, _⟩ | ⟨g, cap, cur, fz, rfl, hb, hg, _⟩
 ·simp [Value.ownBlock] at hr
 ·simp [Value.ownBlock] at hr; subst hr; exact ⟨cur, fz, hg⟩
theorem Own.neBlock {B k e t b : Nat} {w : World} {v : Value} {es : List (List Value)} {cs : Array Value} {fz : Nat × Nat} (h : Own B k e w v es) (hb : w.heap[b]? = some (.cells cs t fz)) (ht : t ≠ e) : v.ownBlock ≠ some b := fun e' => by
 obtain ⟨cur, fz', h'⟩ := h.type e'
 rw [hb] at h'
 simp only [Option.some.injEq, Obj.cells.injEq] at h'
 exact ht h'.2.1
theorem Own.neMap {B k e m c : Nat} {es' : Array MapEntry} {w : World} {v : Value} {es : List (List Value)} (h : Own B k e w v es) (hb : w.heap[m]? = some (.map es' c)) : v.ownBlock ≠ some m := fun e' => by
 obtain ⟨cur, fz', h'⟩ := h.type e'
 rw [hb] at h'
 cases h'
theorem Own.ne {B k e B' k' e' : Nat} {w : World} {v v' : Value} {es es' : List (List Value)} (h : Own B k e w v es) (h' : Own B' k' e' w v' es') (he : e ≠ e') : v.ownBlock = none ∨ v.ownBlock ≠ v'.ownBlock := by
 cases hv : v.ownBlock with
 | none => exact .inl rfl
 | some r =>
  refine .inr fun e2 => ?_
  obtain ⟨cur, fz, h1⟩ := h.type hv
  exact h'.neBlock h1 he e2.symm
theorem GOK.mv {w w' : World} {B : Nat} {c : GC} {row : Option Nat} (h : GOK w B c) (hm : Mv row w w') (h1 : some c.b ≠ row) (h2 : c.v.ownBlock = none ∨ c.v.ownBlock ≠ row) : GOK w' B c :=
 ⟨hm.at h.blk h1, h.ge, h.own.mv hm h2⟩
theorem GS.ext {w w' : World} {B : Nat} {gcs : List GC} (h : GS w B gcs) (hx : Ext w w') : GS w' B gcs :=
 ⟨fun c hc => (h.each c hc).mv (hx.mv none) (by simp) (by cases c.v.ownBlock <;> simp), h.apart⟩
theorem Sl.slf {k : Nat} {w : World} {v : Value} {es : List (List Value)} (h : Sl k w v es) : ∃ a n c, v = .slice a n c := by
 obtain ⟨a, c, h1, _⟩ := h
 exact ⟨a, _, c, h1⟩
structure SetsC (w : World) (css : List (List Value)) (l : List RSet) : Prop where
 len : css.length = l.length
 at' : ∀ (i : Nat) (s : RSet), l[i]? = some s → ∃ x, css[i]? = some [aI s.name, .int .i64 s.kind, .int .i64 s.ttl, x] ∧ Sl 1 w x (aN s.data)
theorem SetsAt.rows {w : World} {v : Value} {l : List RSet} (h : SetsAt w v l) : ∃ css, Sl 4 w v css ∧ SetsC w css l := by
 obtain ⟨css, h1, h2, h3⟩ := h.out
 exact ⟨css, h1, h2, h3⟩
theorem SetsC.sets {w : World} {v : Value} {l : List RSet} {css : List (List Value)} (h : SetsC w css l) (hv : Sl 4 w v css) : SetsAt w v l := ⟨css, hv, h.len, h.at'⟩
theorem SetsC.ext {w w' : World} {l : List RSet} {css : List (List Value)} (h : SetsC w css l) (hx : Ext w w') : SetsC w' css l :=
 ⟨h.len, fun i s hi => let ⟨x, a, b⟩ := h.at' i s hi; ⟨x, a, b.ext hx⟩⟩
theorem SetsC.append {w : World} {l m : List RSet} {c d : List (List Value)} (h : SetsC w c l) (k : SetsC w d m) : SetsC w (c ++ d) (l ++ m) := by
 refine ⟨by rw [List.length_append, List.length_append, h.len, k.len], fun i s hi => ?_⟩
 rw [List.getElem?_append] at hi ⊢
 rw [h.len]
 split at hi
 ·rw [if_pos ‹_›]; exact h.at' i s hi
 ·rw [if_neg ‹_›]; exact k.at' _ s hi
theorem SetsC.take {w : World} {l : List RSet} {c : List (List Value)} (h : SetsC w c l) (n : Nat) : SetsC w (c.take n) (l.take n) := by
 refine ⟨by simp [h.len], fun i s hi => ?_⟩
 rw [List.getElem?_take] at hi ⊢
 split at hi
 ·rw [if_pos ‹_›]; exact h.at' i s hi
 ·cases hi
theorem SetsC.drop {w : World} {l : List RSet} {c : List (List Value)} (h : SetsC w c l) (n : Nat) : SetsC w (c.drop n) (l.drop n) := by
 refine ⟨by simp [h.len], fun i s hi => ?_⟩
 rw [List.getElem?_drop] at hi ⊢
 exact h.at' _ s hi
theorem SetsC.one {w : World} {s : RSet} {x : Value} (h : Sl 1 w x (aN s.data)) : SetsC w [[aI s.name, .int .i64 s.kind, .int .i64 s.ttl, x]] [s] :=
 ⟨rfl, fun i t hi => by
  match i, hi with
  | 0, hi => cases hi; exact ⟨x, rfl, h⟩⟩
theorem SetsC.cell {w : World} {l : List RSet} {c : List (List Value)} (h : SetsC w c l) : ∀ f ∈ c, ∀ u ∈ f, u.oneCell' = true := by
 intro f hf u hu
 obtain ⟨i, hi, rfl⟩ := List.mem_iff_getElem.1 hf
 obtain ⟨x, h1, h2⟩ := h.at' i _ (List.getElem?_eq_getElem (by rw [← h.len]; exact hi))
 rw [List.getElem?_eq_getElem hi] at h1
 rw [Option.some.inj h1] at hu
 simp only [List.mem_cons, List.not_mem_nil, or_false] at hu
 rcases hu with rfl | rfl | rfl | rfl
 ·rfl
 ·rfl
 ·rfl
 ·exact h2.one
def From (B : Nat) (v : Value) : Prop := ∀ b o s n c, v = .slice (some ⟨b, o, s⟩) n c → B ≤ b
theorem From.weaken {B C : Nat} {v : Value} (h : From B v) (hc : C ≤ B) : From C v := fun b o s n c e => Nat.le_trans hc (h b o s n c e)
theorem Own.from' {B C k e : Nat} {w : World} {v : Value} {es : List (List Value)} (h : Own B k e w v es) (hc : C ≤ B) : From C v := by
 intro b o s n c hv
 rcases h.form with ⟨rfl, _⟩ | ⟨g, cap, rfl, _, hg, _⟩
 ·cases hv
 ·simp only [Value.slice.injEq, Option.some.injEq, Addr.mk.injEq] at hv
  obtain ⟨⟨rfl, _⟩, _⟩ := hv
  exact Nat.le_trans hc hg
def FromC (B : Nat) (css : List (List Value)) : Prop := ∀ f ∈ css, ∀ u ∈ f, From B u
theorem FromC.append {B : Nat} {c d : List (List Value)} (h : FromC B c) (k : FromC B d) : FromC B (c ++ d) := fun f hf => by
 rcases List.mem_append.1 hf with hf | hf
 ·exact h f hf
 ·exact k f hf
theorem FromC.take {B : Nat} {c : List (List Value)} (h : FromC B c) (n : Nat) : FromC B (c.take n) := fun f hf => h f (List.mem_of_mem_take hf)
theorem FromC.drop {B : Nat} {c : List (List Value)} (h : FromC B c) (n : Nat) : FromC B (c.drop n) := fun f hf => h f (List.mem_of_mem_drop hf)
theorem FromC.one {B : Nat} {n : List UInt8} {k t : Int} {x : Value} (h : From B x) : FromC B [[aI n, .int .i64 k, .int .i64 t, x]] := by
 intro f hf u hu
 simp only [List.mem_cons, List.not_mem_nil, or_false] at hf
 subst hf
 simp only [List.mem_cons, List.not_mem_nil, or_false] at hu
 rcases hu with rfl | rfl | rfl | rfl
 ·intro b o s n c e; cases e
 ·intro b o s n c e; cases e
 ·intro b o s n c e; cases e
 ·exact h
structure SetsO (B : Nat) (w : World) (v : Value) (l : List RSet) : Prop where
 out : ∃ css, Sl 4 w v css ∧ From B v ∧ SetsC w css l ∧ FromC B css
theorem SetsO.sets {B : Nat} {w : World} {v : Value} {l : List RSet} (h : SetsO B w v l) : SetsAt w v l := by
 obtain ⟨css, h1, _, h2, _⟩ := h
 exact h2.sets h1
theorem SetsO.ext {B : Nat} {w w' : World} {v : Value} {l : List RSet} (h : SetsO B w v l) (hx : Ext w w') : SetsO B w' v l := by
 obtain ⟨css, h1, h2, h3, h4⟩ := h
 exact ⟨css, h1.ext hx, h2, h3.ext hx, h4⟩
theorem SetsO.weaken {B C : Nat} {w : World} {v : Value} {l : List RSet} (h : SetsO B w v l) (hc : C ≤ B) : SetsO C w v l := by
 obtain ⟨css, h1, h2, h3, h4⟩ := h
 exact ⟨css, h1, h2.weaken hc, h3, fun f hf u hu => (h4 f hf u hu).weaken hc⟩
theorem Sl.put {B k b : Nat} {w w' : World} {v : Value} {es : List (List Value)} {o : Obj} (h : Sl k w v es) (hf : From B v) (hp : Put w w' b o) (hb : b < B) : Sl k w' v es := by
 obtain ⟨a, cap, h1, h2, h3, h4, h5, h6⟩ := h
 refine ⟨a, cap, h1, h2, h3, h4, h5, fun hn => ?_⟩
 obtain ⟨g, o, e, hc⟩ := h6 hn
 have hg : B ≤ g := hf g o none _ _ (by rw [h1, e])
 exact ⟨g, o, e, fun i e j x h1 h2 => (World.cell?_of_block (hp.other g (by omega))).trans (hc i e j x h1 h2)⟩
theorem SetsO.put {B b : Nat} {w w' : World} {v : Value} {l : List RSet} {o : Obj} (h : SetsO B w v l) (hp : Put w w' b o) (hb : b < B) : SetsO B w' v l := by
 obtain ⟨css, h1, h2, h3, h4⟩ := h
 refine ⟨css, h1.put h2 hp hb, h2, ⟨h3.len, fun i s hi => ?_⟩, h4⟩
 obtain ⟨x, e, hx⟩ := h3.at' i s hi
 exact ⟨x, e, hx.put (h4 _ (List.mem_of_getElem? e) x (by simp)) hp hb⟩
theorem SetsO.nil (B : Nat) (w : World) : SetsO B w (.slice none 0 0) [] := ⟨[], Sl.nil _ _, (by intro b o s n c e; cases e), ⟨rfl, by simp⟩, by intro f hf; cases hf⟩
theorem DO (a b : List UInt8) (w : World) : Calls Tryz.prog 225 #[aI a, aI b] w (bG w (.int .i64 (jH a b))) := by
 go_enter Tryz.func225, Tryz.ntmps225
 refine_lift KT (fun _ _ _ _ => ?_) (fun _ _ => ?_) (fun _ => ?_)
 ·have h := ‹Op.bytesLess a b = true›
  go_ret
  exact ⟨by simp [jH, h], Ext.refl _⟩
 ·have h := ‹Op.bytesLess a b = false›
  have h2 := ‹(!(Op.bytesLess a b || a == b)) = true›
  go_ret
  exact ⟨by simp [h] at h2; simp [jH, h, h2], Ext.refl _⟩
 ·have h := ‹Op.bytesLess a b = false›
  have h2 := ‹(!(Op.bytesLess a b || a == b)) = false›
  go_ret
  exact ⟨by simp [h] at h2; subst h2; simp [jH, h], Ext.refl _⟩
theorem zU (nm : List UInt8) (w : World) : Calls Tryz.prog 191 #[aI nm] w (jE w fun v w' => Own w.heap.size 1 9 w' v (aN ((bF nm).getD []))) := by
 go_enter Tryz.func191, Tryz.ntmps191
 refine_lift kL ?_; intro _ _ _
 refine aK (enters_of Tryz.func112 rfl rfl) rfl rfl (mA nm _) ?_
 intro v w1 x1 hv
 cases hl : bF nm with
 | none =>
  rw [hl] at hv
  subst hv
  refine_lift aS ?_
  go_ret
  refine ⟨_, rfl, x1, ?_⟩
  simp only [hl, Option.getD_none]
  exact Own.nil _ _ _ _
 | some ls =>
  rw [hl] at hv
  obtain ⟨s, rfl, o⟩ := hv
  refine_lift aS ?_
  go_ret
  refine ⟨_, rfl, x1, ?_⟩
  simp only [hl, Option.getD_some]
  exact o
theorem QR {ls : List (List UInt8)} (h : ls.all kS = true) : 2 * ls.length ≤ (enc ls).length := by
 induction ls with
 | nil => simp [enc]
 | cons x ls ih =>
  simp only [List.all_cons, Bool.and_eq_true] at h
  have := ih h.2
  have e : enc (x :: ls) = UInt8.ofNat x.length :: x ++ enc ls := by simp [enc]
  have hx : 1 ≤ x.length := by have := h.1; simp [kS] at this; omega
  rw [e]; simp; omega
theorem JC {ls : List (List UInt8)} (h : 127 < ls.length) : lW ls = none := by
 rw [lW, if_neg]
 rintro ⟨h1, h2⟩
 have := QR h1
 omega
set_option maxHeartbeats 1000000 in
theorem NY (v : Value) (ls : List (List UInt8)) (w : World) (h : Sl 1 w v (aN ls)) : Calls Tryz.prog 115 #[v] w (bG w (match lW ls with | some n => .tuple #[aI n, .int .i64 0] | none => .tuple #[aI [], .int .i64 1])) := by
 have hlt0 : (aN ls).length = ls.length := aR ls
 by_cases h127 : 127 < ls.length
 ·go_enter Tryz.func115, Tryz.ntmps115
  refine_lift fP fun _ => ?_
  go_ret2
  exact ⟨by rw [JC h127]; rfl, Ext.refl _⟩
 ·go_enter Tryz.func115, Tryz.ntmps115
  refine_lift gV ?_; intro _ _ _ _
  go_loopw [4, 5] (fun s i wr => ∃ k : Nat, k ≤ ls.length ∧ i = .int .i64 k ∧ s = aI (enc (ls.take k)) ∧ Ext w wr ∧ (ls.take k).all kS = true ∧ (enc (ls.take k)).length ≤ 64 * k) (fun _ i _ => ls.length - (intOf i).toNat)
  case atStart => exact ⟨0, Nat.zero_le _, rfl, rfl, Ext.refl _, rfl, by simp [enc]⟩
  case round =>
   obtain ⟨k, hk, rfl, rfl, hx, hall, hlen⟩ := hrel
   have hsl := h.ext hx
   by_cases hlt : k < ls.length
   ·have hp := hsl.elem (eA hlt)
    (repeat' first | ((with_reducible refine cY ?_); go_step) | ((with_reducible refine bR ?_); first | refine fM ?_ | (refine dN ?_ ?_ <;> intro hc)) | fail)
    rotate_left
    ·have h63 : ls[k].length ≤ 63 := by omega
     have h1 : 1 ≤ ls[k].length := by omega
     refine cC (S := fun w' => Ext wr w') (by decide +kernel) ?_
     intro w1 x1 hh1
     refine tk 0 ?_; refine aA ?_; refine tk 1 ?_; refine aA ?_; refine tk 2 ?_; refine aA ?_; refine tk 3 ?_; refine aA ?_; refine tk 4 ?_; refine aA ?_; refine tk 5 ?_; refine aA ?_; refine tk 6 ?_; refine aA ?_; refine tk 10 ?_; refine aA ?_; refine tk 11 ?_; refine aA ?_; refine tk 12 ?_; refine aA ?_; refine tk 13 ?_; refine aA ?_
     refine aT (i := 7) (by decide +kernel) rfl rfl ?_
     refine bZ (e := 5) (k := 1) (bytes := 1) (xs := [.int .u8 (IntKind.wrap .u8 (ls[k].length : Nat))]) rfl rfl rfl (by simp [Value.cells]) (by decide +kernel) (by simp) ?_
     intro v2 w2 x2 _ s2 _
     have s2 : Sl 1 w2 v2 (bJ [UInt8.ofNat ls[k].length]) := by simpa [bJ, Value.cells, zQ] using s2
     refine aA ?_
     refine aJ ⟨by exact dV, ?_⟩
     refine aT (i := 8) (by decide +kernel) rfl rfl ?_
     refine_lift aS ?_
     refine ⟨by exact dV, ?_⟩
     refine aT (i := 9) (by decide +kernel) rfl rfl ?_
     refine_lift aS ?_
     refine ⟨by exact dV, ?_⟩
     refine aT (i := 14) (by decide +kernel) rfl rfl ?_
     refine_lift aS ?_
     refine ⟨by exact dV, ?_⟩
     refine aT (i := 15) (by decide +kernel) rfl rfl ?_
     refine_lift aS ?_
     refine ⟨by exact dV, ?_⟩
     refine cB (by decide +kernel) ?_
     have e : enc (ls.take k) ++ [UInt8.ofNat ls[k].length] ++ ls[k] = enc (ls.take (k + 1)) := by
      rw [List.take_add_one, List.getElem?_eq_getElem hlt, Option.toList_some, lZ, BO]; simp
     rw [e]
     refine_lift aS ?_
     refine ⟨⟨k + 1, by omega, by go_num, rfl, by exact dV, ?_, ?_⟩, by simp [intOf]; omega⟩
     ·rw [List.take_add_one, List.getElem?_eq_getElem hlt, Option.toList_some, List.all_append, hall]
      simp [kS]; omega
     ·rw [← e]; simp; omega
    all_goals
     go_ret2
     refine ⟨?_, hx⟩
     rw [vJ (List.getElem_mem hlt) (by simp [kS]; omega)]
     rfl
   ·have : k = ls.length := by omega
    subst this
    rw [List.take_length] at hall hlen ⊢
    refine_lift DK (fun _ _ => ?_) (fun _ _ _ _ => ?_)
    ·go_ret2
     refine ⟨?_, hx⟩
     rw [lW, if_neg (by omega)]
     rfl
    ·go_ret2
     refine ⟨?_, hx⟩
     rw [lW, if_pos ⟨hall, by omega⟩]
     rfl
end Go.Proofs.X
