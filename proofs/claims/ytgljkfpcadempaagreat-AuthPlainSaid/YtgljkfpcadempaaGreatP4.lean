/- Laws and walks that the proof of the statement is made of (part 4). -/
import Derived.Test.YtgljkfpcadempaaGreatP3
set_option linter.unusedSimpArgs false
set_option linter.unusedVariables false
namespace Go.Proofs.X
open Go.RowKit
set_option maxRecDepth 100000
theorem Ext.heapEq {w w1 : World} (h : w1.heap = w.heap) {k : Nat} {o : Obj} (hk : w.heap[k]? = some o) : w1.heap[k]? = some o := by rw [h]; exact hk
theorem CA {w0 w : World} (h : Ext w0 w) {g n : Nat} (hg : w0.heap.size ≤ g) : Ext w0 (w.freeze ⟨g, 0, none⟩ n) := by
 unfold World.freeze
 split
 ·exact h
 ·refine ⟨h.os, h.tape, h.output, by simpa using h.size, fun k hk => ?_, h.drawn⟩
  have hne : g ≠ k := by omega
  simp only [Array.getElem?_modify]
  rw [if_neg hne]
  exact h.block k hk
set_option maxHeartbeats 1000000 in
theorem T.Builder_String (B b : Nat) (l : List UInt8) (w0 w : World) (h : Lib.IsBuilder 188 5 B b (Lib.byteCells l) w) (hx0 : Ext w0 w) (hB : w0.heap.size ≤ B) (hlen : l.length ≤ 9223372036854775807) :
 Calls Tryz.prog 130 #[.pointer (some ⟨b, 0, none⟩)] w fun e w' => e = .returned (aH l) ∧ Ext w0 w' := by
 obtain ⟨p, hbB, v, hbk, hown, hne⟩ : ∃ p, Lib.BuilderAt 188 5 B b p (Lib.byteCells l) w := by
  rcases h with h | h <;> exact ⟨_, h⟩
 go_enter Tryz.func130, Tryz.ntmps130
 refine_lift JS ?_; intro _ _ _
 refine dB (S := fun w' => Ext w0 w' ∧ w'.heap[b]? = some (.cells #[p, v] 188 (0, 0))) (by decide +kernel) ?_
 intro w1 x1 hh1
 have hS : Ext w0 w1 ∧ w1.heap[b]? = some (.cells #[p, v] 188 (0, 0)) := ⟨hx0.trans x1, Ext.heapEq hh1 hbk⟩
 have hsl' := (Own.sl (B := B) (k := 1) (e := 5) (es := aQ l) ⟨by rw [mE]; simpa [aQ, Lib.byteCells] using jH hown, by simp [aQ]⟩)
 ((with_reducible apply cJ (i := 0)); (rfl); (rfl); (decide +kernel); (decide +kernel); (decide +kernel); (rfl); (exact hS); (intro w9 hS9; (have hp := aD (cs := [p, v]) hS9.2); exact rn); (exact fun _ _ _ h => h); (refine aA ?_)); ((with_reducible apply cJ (i := 1)); (rfl); (rfl); (decide +kernel); (decide +kernel); (decide +kernel); (rfl); (exact hS); (intro w9 hS9; (have hp := aD (cs := [p, v]) hS9.2); exact rn); (exact fun _ _ _ h => h); (refine aA ?_)); ((with_reducible apply cJ (i := 2)); (rfl); (rfl); (decide +kernel); (decide +kernel); (decide +kernel); (rfl); (exact hS); (intro w9 hS9; (have hp := aD (cs := [p, v]) hS9.2); exact rn); (exact fun _ _ _ h => h); (refine aA ?_)); ((with_reducible apply cJ (i := 3)); (rfl); (rfl); (decide +kernel); (decide +kernel); (decide +kernel); (rfl); (exact hS); (intro w9 hS9; (have hp := aD (cs := [p, v]) hS9.2); exact rn); (exact fun _ _ _ h => h); (refine aA ?_)); ((with_reducible apply cJ (i := 5)); (rfl); (rfl); (decide +kernel); (decide +kernel); (decide +kernel); (rfl); (exact hS); (intro w9 hS9; (have hp := aD (cs := [p, v]) hS9.2); exact rn); (exact fun _ _ _ h => h); (refine aA ?_)); ((with_reducible apply cJ (i := 6)); (rfl); (rfl); (decide +kernel); (decide +kernel); (decide +kernel); (rfl); (exact hS); (intro w9 hS9; (have hp := aD (cs := [p, v]) hS9.2); exact rn); (exact fun _ _ _ h => h); (refine aA ?_)); ((with_reducible apply cJ (i := 7)); (rfl); (rfl); (decide +kernel); (decide +kernel); (decide +kernel); (rfl); (exact hS); (intro w9 hS9; (have hp := aD (cs := [p, v]) hS9.2); exact rn); (exact fun _ _ _ h => h); (refine aA ?_)); ((with_reducible apply cJ (i := 8)); (rfl); (rfl); (decide +kernel); (decide +kernel); (decide +kernel); (rfl); (exact hS); (intro w9 hS9; (have hp := aD (cs := [p, v]) hS9.2); exact rn); (exact fun _ _ _ h => h); (refine aA ?_))
 have hsz : ∀ w', (Sl 1 w' v (aQ l)) ∨ True := fun _ => .inr trivial
 refine cJ (i := 9) (v := .int .i64 ((aQ l).length : Nat)) rfl rfl (by decide +kernel) (by decide +kernel) (by decide +kernel) rfl hS (fun w' _ => ?_) (fun _ _ _ h => h) ?_
 ·obtain ⟨ad, cap, h1, _⟩ := hsl'.out
  obtain ⟨e, i, ht, _⟩ := dQ (P := Tryz.prog) (t := 97) (k := 1) (by decide +kernel)
  exact ⟨by simp [execOp, resolve, invoke, builtin, Act.eval, h1, Builtin.len_, run_underlying ht, goInt]⟩
 refine aA ?_
 have hlb : (aQ l).length = l.length := by simp [aQ]
 have hE : Ext w0 w1 := hx0.trans x1
 obtain ⟨q, w2, hr2, x2, hq⟩ : ∃ q w2, (Builtin.unsafeSliceData_ #[97] 221 #[v]).run Tryz.prog w1 = .ok (.pointer q) w2 ∧ Ext w1 w2 ∧ (l ≠ [] → ∃ g cur, q = some ⟨g, 0, none⟩ ∧ B ≤ g ∧ w2.heap[g]? = some (.cells cur 5 (0, 0)) ∧ l.length ≤ cur.size ∧ ∀ j x, l[j]? = some x → w2.cell? ⟨g, j, none⟩ = some (.int .u8 (x.toNat : Nat))) := by
  rcases hown.2 with ⟨rfl, h0⟩ | ⟨g, cap, cur, rfl, hbg, hg, hnc, hcm, hcs, htake⟩
  ·refine ⟨none, w1, rfl, Ext.refl _, fun hne => absurd (List.eq_nil_of_length_eq_zero ?_) hne⟩
   simpa [Lib.byteCells] using h0
  ·have hg1 : w1.heap[g]? = some (.cells cur 5 (0, 0)) := Ext.heapEq hh1 hg
   by_cases hc : cap = 0
   ·subst hc
    have hl0 : l = [] := List.eq_nil_of_length_eq_zero (by simpa [Lib.byteCells] using hnc)
    exact ⟨_, _, Lib.run_unsafeSliceData_zero w1 _ _ 5 Tryz.underlying221 ⟨g, 0, none⟩ _ (5, cur.size) (by simp [World.shape?, hg1]), Ext.alloc _ _, fun hne => absurd hl0 hne⟩
   ·refine ⟨_, w1, Lib.run_unsafeSliceData_row _ _ _ _ _ _ hc, Ext.refl _, fun _ => ⟨g, cur, rfl, hbg, hg1, ?_, fun j x hj => ?_⟩⟩
    ·have : l.length ≤ cap := by simpa [Lib.byteCells] using hnc
     omega
    ·rw [cell_of_row w1 g j cur 5 _ hg1]
     have := congrArg (·[j]?) htake
     have hjl : j < l.length := (List.getElem?_eq_some_iff.1 hj).1
     simp only [List.getElem?_take] at this
     rw [if_pos (by simpa [Lib.byteCells] using hjl)] at this
     rw [← Array.getElem?_toList, this]
     simp [Lib.byteCells, hj]
 refine dO (i := 4) (by decide +kernel) rfl rfl ?_
 refine sK rfl (w' := w2) (v := .pointer q) (by simp [execOp, resolve, invoke, builtin, eN, Act.eval, hr2]) ?_
 refine aA ?_
 have hb1 : b < w1.heap.size := (Array.getElem?_eq_some_iff.1 hS.2).1
 refine aK ⟨⟨hE.trans x2, x2.at hS.2⟩, ?_⟩
 have hE2 : Ext w0 w2 := hE.trans x2
 obtain ⟨w3, hr3, x3, hb3⟩ : ∃ w3, (Builtin.unsafeString_ #[221, 3] 9 #[.pointer q, .int .i64 ((aQ l).length : Nat)]).run Tryz.prog w2 = .ok (aH l) w3 ∧ Ext w0 w3 ∧ w3.heap[b]? = some (.cells #[p, v] 188 (0, 0)) := by
  by_cases hl0 : l = []
  ·subst hl0
   exact ⟨w2, Lib.run_unsafeString_none w2 _ _ _ q, hE2, x2.at hS.2⟩
  ·obtain ⟨g, cur, rfl, hbg, hg2, hcl, hcell⟩ := hq hl0
   refine ⟨_, by rw [hlb]; exact Lib.run_unsafeString_row w2 221 3 9 5 Tryz.underlying221 (by decide +kernel) g cur.size (by simp [World.shape?, hg2]) l hl0 hcl hlen (fun j x hj => by rw [cY, Nat.zero_add]; exact hcell j x hj), CA hE2 (by omega), ?_⟩
   have hgb : g ≠ b := by
    rintro rfl
    rw [x2.at hS.2] at hg2
    simp at hg2
   unfold World.freeze
   split
   ·exact x2.at hS.2
   ·simp only [Array.getElem?_modify]
    rw [if_neg hgb]
    exact x2.at hS.2
 refine dO (i := 10) (by decide +kernel) rfl rfl ?_
 refine sK rfl (w' := w3) (v := aH l) (by rw [hlb] at hr3; simp [execOp, resolve, invoke, builtin, Act.eval, hlb, hr3]) ?_
 refine aA ?_
 refine aK ⟨⟨x3, hb3⟩, ?_⟩
 refine dO (i := 11) (by decide +kernel) rfl rfl ?_
 refine_lift dE ?_
 refine ⟨⟨x3, hb3⟩, ?_⟩
 refine cW (by decide +kernel) ?_
 refine_lift dE ?_
 go_ret
 exact ⟨rfl, x3⟩
theorem oE (a b : List (List UInt8)) : enc (a ++ b) = enc a ++ enc b := by simp [enc]
theorem DH (x : List UInt8) : enc [x] = UInt8.ofNat x.length :: x := by simp [enc]
theorem zS {ls : List (List UInt8)} {x : List UInt8} (h : x ∈ ls) (hb : jF x = false) : nM ls = none := by
 rw [nM, if_neg]
 rintro ⟨h1, _⟩
 have := List.all_eq_true.1 h1 x h
 rw [hb] at this
 cases this
theorem wH {ls : List (List UInt8)} {k : Nat} (h : 254 < (enc (ls.take k)).length) : nM ls = none := by
 rw [nM, if_neg]
 rintro ⟨_, h2⟩
 have : enc ls = enc (ls.take k) ++ enc (ls.drop k) := by rw [← oE, List.take_append_drop]
 rw [this, List.length_append] at h2
 omega
theorem qP (a b : List UInt8) : Lib.byteCells (a ++ b) = Lib.byteCells a ++ Lib.byteCells b := by simp [Lib.byteCells]
theorem gS (a : List UInt8) : (Lib.byteCells a).length = a.length := by simp [Lib.byteCells]
set_option maxHeartbeats 1000000 in
theorem RK (v : Value) (ls : List (List UInt8)) (w : World) (h : Sl 1 w v (aS ls)) (hl : ls.length ≤ 9223372036854775806) : Calls Tryz.prog 71 #[v] w (bO w (match nM ls with | some n => .tuple #[aH n, .int .i64 0] | none => .tuple #[aH [], .int .i64 1])) := by
 go_enter Tryz.func71, Tryz.ntmps71
 refine_lift NR ?_; intro _ _ _
 refine_lift fD fun _ _ => ?_
 refine aP (z := [.pointer none, .slice none 0 0]) rfl (by decide +kernel) ?_
 intro w1 x1 s1 h1
 refine aA ?_
 have hb : Lib.IsBuilder 188 5 w.heap.size w.heap.size (Lib.byteCells []) w1 := .inl ⟨Nat.le_refl _, .slice none 0 0, h1, World.ownsRow_nil _ _ _ _, by simp [Value.ownBlock]⟩
 have hs := h.ext x1
 refine_lift fD fun _ _ => ?_
 clear hs
 have hlt : (aS ls).length = ls.length := by simp [aS]
 rw [hlt]
 go_loopw [9] (fun i wr => ∃ k : Nat, k ≤ ls.length ∧ i = .int .i64 k ∧ Ext w wr ∧ Lib.IsBuilder 188 5 w.heap.size w.heap.size (Lib.byteCells (enc (ls.take k))) wr ∧ (ls.take k).all jF = true ∧ (enc (ls.take k)).length ≤ 318) (fun i _ => ls.length - (intOf i).toNat)
 case atStart => exact ⟨0, Nat.zero_le _, rfl, x1, hb, rfl, by simp [enc]⟩
 case round =>
  obtain ⟨k, hk, rfl, hx, hbk, hall, h318⟩ := hrel
  have hsl := h.ext hx
  by_cases hlt : k < ls.length
  ·have hp := hsl.elem (e := [aH ls[k]]) (i := k) (by simp [aS, hlt])
   have hmem : ls[k] ∈ ls := List.getElem_mem hlt
   (repeat' first | ((with_reducible refine aJ ?_); go_step) | ((with_reducible refine aI ?_); first | refine bM ?_ | (refine aL ?_ ?_ <;> intro hc)) | fail)
   ·rename_i hc0 hc1 hc2
    refine aF (enters_of Tryz.func127 rfl rfl) rfl rfl (Tryz.Builder_Len _ _ _ _ hbk) ?_
    rintro e w2 ⟨rfl, rfl⟩
    refine ⟨_, rfl, ?_⟩
    refine aA ?_
    rw [gS]
    refine_lift EP (fun _ _ _ => ?_) (fun _ => ?_)
    ·rename_i hc3
     go_ret2
     refine ⟨?_, hx⟩
     rw [wH (k := k) (by omega)]
     rfl
    ·rename_i hc3
     have h63 : ls[k].length ≤ 63 := by omega
     have e8 : IntKind.wrap .u8 ((ls[k].length : Nat) : Int) = ((ls[k].length : Nat) : Int) := by simp [IntKind.wrap, IntKind.bits, IntKind.signed]; omega
     rw [e8]
     refine aF (enters_of Tryz.func128 rfl rfl) rfl rfl (T.Builder_WriteByte _ _ _ _ _ hbk (by rw [gS]; omega) hx.size) ?_
     rintro e w3 ⟨rfl, hb3, bl3, dr3⟩
     refine ⟨_, rfl, ?_⟩
     refine aA ?_
     refine_lift dE ?_
     refine aF (enters_of Tryz.func129 rfl rfl) rfl rfl (T.Builder_WriteString _ _ _ _ _ (.inr hb3) (by rw [List.length_append, gS, eE]; simp; omega) (Nat.le_trans hx.size bl3.size)) ?_
     rintro e w4 ⟨rfl, hb4, bl4, dr4⟩
     refine ⟨_, rfl, ?_⟩
     refine aA ?_
     have hx4 : Ext w w4 := hx.below' (bl3.trans bl4) (Nat.le_trans dr3 dr4)
     have hb5 : Lib.IsBuilder 188 5 w.heap.size w.heap.size (Lib.byteCells (enc (ls.take (k + 1)))) w4 := by
      rw [List.take_add_one, List.getElem?_eq_getElem hlt, Option.toList_some, oE, DH, qP]
      have e : Lib.byteCells (UInt8.ofNat ls[k].length :: ls[k]) = Value.int .u8 (ls[k].length : Nat) :: Lib.strCells ⟨ls[k].toArray⟩ := by
       have : (UInt8.ofNat ls[k].length).toNat = ls[k].length := by simp; omega
       simp [Lib.byteCells, Lib.strCells, this]
      rw [e]
      refine .inr ?_
      simpa using hb4
     have hall2 : (ls.take (k + 1)).all jF = true := by
      rw [List.take_add_one, List.getElem?_eq_getElem hlt, Option.toList_some, List.all_append, hall]
      have : ls[k].length ≠ 0 := fun e => hc2 (List.eq_nil_of_length_eq_zero e)
      simp [jF]; omega
     have h3182 : (enc (ls.take (k + 1))).length ≤ 318 := by
      rw [List.take_add_one, List.getElem?_eq_getElem hlt, Option.toList_some, oE, DH]
      simp; omega
     clear hbk hb3 hb4 bl3 bl4 hsl hp
     refine_lift dE ?_
     exact ⟨⟨k + 1, by omega, rfl, hx4, hb5, hall2, h3182⟩, by simp [intOf]; omega⟩
   ·go_ret2
    refine ⟨?_, hx⟩
    rw [zS hmem (by simp [jF]; omega)]
    rfl
   ·go_ret2
    refine ⟨?_, hx⟩
    rw [zS hmem (by simp [jF, hc])]
    rfl
  ·have : k = ls.length := by omega
   subst this
   rw [List.take_length] at hbk hall h318
   refine_lift RG fun _ _ _ _ _ => ?_
   refine aF (enters_of Tryz.func127 rfl rfl) rfl rfl (Tryz.Builder_Len _ _ _ _ hbk) ?_
   rintro e w2 ⟨rfl, rfl⟩
   refine ⟨_, rfl, ?_⟩
   refine aA ?_
   rw [gS]
   refine_lift EP (fun _ _ _ => ?_) (fun _ => ?_)
   ·go_ret2
    refine ⟨?_, hx⟩
    rw [wH (k := ls.length) (by rw [List.take_length]; omega)]
    rfl
   ·refine aF (enters_of Tryz.func130 rfl rfl) rfl rfl (T.Builder_String _ _ _ w _ hbk hx (Nat.le_refl _) (by omega)) ?_
    rintro e w3 ⟨rfl, x3⟩
    refine ⟨_, rfl, ?_⟩
    refine aA ?_
    refine_lift dE ?_
    go_ret2
    refine ⟨?_, x3⟩
    rw [nM, if_pos ⟨hall, by omega⟩]
    rfl
theorem oF (l : List (List UInt8)) (k : Nat) (b : List UInt8) (h : l[k]? = some b) : (aS l)[k]? = some [aH b] := by simp [aS, h]
theorem CB (l : List (List UInt8)) (k : Nat) (b : List UInt8) : (aS l).set k [aH b] = aS (l.set k b) := by simp [aS, List.map_set]
theorem bC (l : List (List UInt8)) : (aS l).length = l.length := by simp [aS]
set_option maxHeartbeats 1000000 in
theorem GP (nm : List UInt8) (w : World) : Calls Tryz.prog 32 #[aH nm] w (bO w (aH (fold nm))) := by
 go_enter Tryz.func32, Tryz.ntmps32
 refine_lift fD fun _ _ => ?_
 refine aR (enters_of Tryz.func69 rfl rfl) rfl rfl (PH nm _) ?_
 intro v w1 x1 hv
 cases hl : aV nm with
 | none =>
  rw [hl] at hv
  subst hv
  refine_lift dE ?_
  go_ret
  exact ⟨by simp [fold, hl], x1⟩
 | some ls =>
  rw [hl] at hv
  obtain ⟨s, rfl, hs⟩ := hv
  have hfit := eA hl
  have hlen := gL ls
  rw [hfit.2.1] at hlen
  have hsl := hs.sl
  refine_lift fD fun _ _ => ?_
  clear hsl
  rw [bC]
  go_loopw [19] (fun i wr => ∃ k : Nat, k ≤ ls.length ∧ i = .int .i64 k ∧ Ext w wr ∧ Own w.heap.size 1 9 wr s (aS (qO low ls k))) (fun i _ => ls.length - (intOf i).toNat)
  case atStart => exact ⟨0, Nat.zero_le _, rfl, x1, by simpa [EM] using hs⟩
  case round =>
   obtain ⟨k, hk, rfl, hx, ho⟩ := hrel
   have hsl := ho.sl
   have hlen2 : (aS (qO low ls k)).length = ls.length := by rw [bC, zL]
   by_cases hlt : k < ls.length
   ·have hp := hsl.elem (oF _ _ _ (GL low ls k hlt))
    have h254 : ls[k].length ≤ 254 := by have := lE (List.getElem_mem hlt); rw [hfit.2.1] at this; omega
    refine_lift zQ ?_; intro _ _ _ _
    refine aE (enters_of Tryz.func70 rfl rfl) rfl rfl (RZ _ _ h254) ?_
    intro w2 x2
    refine aA ?_
    have hsl := hsl.ext x2
    have ho := ho.ext x2
    have hx := hx.trans x2
    clear hp
    refine_lift dE ?_
    refine eX (c := aH (low ls[k])) (i := k) rfl rfl rfl ho (by omega) (by decide +kernel) rfl ?_
    intro w3 o3 m3
    have hx3 := ho.mvx m3 hx (Nat.le_refl _)
    rw [CB, ← EN low ls k hlt] at o3
    clear hx ho hsl
    refine_lift dE ?_
    exact ⟨⟨k + 1, by omega, rfl, hx3, o3⟩, by simp [intOf]; omega⟩
   ·have : k = ls.length := by omega
    subst this
    rw [GK] at hsl
    refine_lift JS fun _ _ _ => ?_
    refine aE (enters_of Tryz.func71 rfl rfl) rfl rfl (RK _ _ _ hsl (by simp; omega)) ?_
    intro w2 x2
    refine aA ?_
    cases hj : nM (ls.map low) with
    | none =>
     refine_lift dE ?_
     go_ret
     exact ⟨by simp [fold, hl, hj], hx.trans x2⟩
    | some n =>
     refine_lift dE ?_
     go_ret
     exact ⟨by simp [fold, hl, hj], hx.trans x2⟩
theorem GQ {l : List UInt8} {i : Nat} (h : i < l.length) : l.drop i = l[i] :: l.drop (i + 1) := List.drop_eq_getElem_cons h
theorem GR {l : List UInt8} {i : Nat} (h : i < l.length) : l.getD i 0 = l[i] := by simp [h]
theorem GT {l : List UInt8} {i : Nat} (h : i < l.length) : fJ (l.drop i) = if (l.getD i 0).toNat < 1 ∨ 63 < (l.getD i 0).toNat ∨ l.length - i - 1 < (l.getD i 0).toNat then none else (fJ (l.drop (i + 1 + (l.getD i 0).toNat))).map ((l.take (i + 1 + (l.getD i 0).toNat)).drop (i + 1) :: ·) := by
 rw [GQ h, GR h, iW]
 simp only [List.length_drop]
 rw [show l.length - (i + 1) = l.length - i - 1 by omega]
 congr 1
 rw [List.drop_drop, List.drop_take]
 rw [show i + 1 + l[i].toNat - (i + 1) = l[i].toNat by omega]
set_option maxHeartbeats 1000000 in
theorem yC (nm : List UInt8) (w : World) : Calls Tryz.prog 85 #[aH nm] w (oT w fun v w' => match aV nm with
 | none => v = .tuple #[.slice none 0 0, .bool false]
 | some ls => ∃ s, v = .tuple #[s, .bool true] ∧ Own w.heap.size 1 9 w' s (aS ls)) := by
 by_cases h254 : 254 < nm.length
 ·go_enter Tryz.func85, Tryz.ntmps85
  refine_lift sM fun _ => ?_
  go_ret2
  exact ⟨_, rfl, Ext.refl _, by simp [aV, h254]⟩
 ·have hlab : aV nm = fJ nm := by rw [aV, if_neg h254]
  rw [hlab]
  go_enter Tryz.func85, Tryz.ntmps85
  refine_lift zQ ?_; intro _ _ _ _
  have h0 : 0 ≤ nm.length := Nat.zero_le _
  go_loopw [4, 5, 6] (fun o a _ wr => ∃ (i : Nat) (pre : List (List UInt8)), i ≤ nm.length ∧ a = .int .i64 i ∧ Ext w wr ∧ Own w.heap.size 1 9 wr o (aS pre) ∧ pre.length ≤ i ∧ fJ nm = (fJ (nm.drop i)).map (pre ++ ·)) (fun _ a _ _ => nm.length - (intOf a).toNat)
  case atStart => exact ⟨0, [], Nat.zero_le _, rfl, Ext.refl _, Own.nil _ _ _ _, Nat.le_refl _, by simp⟩
  case round =>
   obtain ⟨i, pre, hi, rfl, hx, ho, hpl, hpar⟩ := hrel
   by_cases hlt : i < nm.length
   ·rw [GT hlt] at hpar
    have hb : (nm.getD i 0).toNat < 256 := UInt8.toNat_lt _
    (repeat' first | ((with_reducible refine aJ ?_); go_step) | ((with_reducible refine aI ?_); first | refine bM ?_ | (refine aL ?_ ?_ <;> intro hc)) | fail)
    rotate_left
    ·rw [if_neg (by omega), Option.map_map] at hpar
     refine RE [aH ((nm.take (i + 1 + (nm.getD i 0).toNat)).drop (i + 1))] hx ho (by rw [bC]; omega) ?_
     intro s2 v2 w1 w2 _ _ x2 o2
     refine aA ?_
     refine_lift dE ?_
     refine ⟨⟨i + 1 + (nm.getD i 0).toNat, pre ++ [(nm.take (i + 1 + (nm.getD i 0).toNat)).drop (i + 1)], by omega, by go_num, x2, ?_, by simp; omega, ?_⟩, by simp [intOf]; omega⟩
     ·simpa [aS] using o2
     ·rw [hpar]; congr 1; funext x; simp
    all_goals
     go_ret2
     exact ⟨_, rfl, hx, by rw [hpar, if_pos (by omega)]; rfl⟩
   ·have : i = nm.length := by omega
    subst this
    rw [List.drop_length, qK, Option.map_some, List.append_nil] at hpar
    refine_lift sM fun _ => ?_
    go_ret2
    exact ⟨_, rfl, hx, by rw [hpar]; exact ⟨_, rfl, ho⟩⟩
theorem ER {b : UInt8} (h : 65 ≤ b.toNat) (h2 : b.toNat ≤ 90) : IntKind.wrap .u8 ((b.toNat : Int) + 32) = ((qL b).toNat : Int) := by
 rw [qL, if_pos ⟨h, h2⟩]
 have : (b + 32).toNat = b.toNat + 32 := by rw [UInt8.toNat_add]; simp; omega
 rw [this]
 simp [IntKind.wrap, IntKind.bits, IntKind.signed]; omega
set_option maxHeartbeats 1000000 in
theorem zT (l : List UInt8) (w : World) (hl : l.length ≤ 4611686018427387904) : Calls Tryz.prog 86 #[aH l] w (bO w (aH (low l))) := by
 go_enter Tryz.func86, Tryz.ntmps86
 refine_lift fD fun _ _ => ?_
 refine nD (e := 5) (l := l) rfl rfl (by decide +kernel) (by decide +kernel) (by omega) ?_
 intro v w1 x1 o1
 refine aA ?_
 have hlb : (aQ l).length = l.length := by simp [aQ]
 refine_lift fD fun _ _ => ?_
 go_loopw [4] (fun i wr => ∃ k : Nat, k ≤ l.length ∧ i = .int .i64 k ∧ Ext w wr ∧ Own w.heap.size 1 5 wr v (aQ (jT l k))) (fun i _ => l.length - (intOf i).toNat)
 case atStart => exact ⟨0, Nat.zero_le _, rfl, x1, by simpa [wE] using o1⟩
 case round =>
  obtain ⟨k, hk, rfl, hx, ho⟩ := hrel
  have hsl := ho.sl
  have hlen : (aQ (jT l k)).length = l.length := by simp [aQ, mH]
  by_cases hlt : k < l.length
  ·have hp := hsl.elem (tJ _ _ _ (tF l k hlt))
   (repeat' first | ((with_reducible refine aJ ?_); go_step) | ((with_reducible refine aI ?_); first | refine bM ?_ | (refine aL ?_ ?_ <;> intro hc)) | fail)
   ·refine eX (c := .int .u8 _) (i := k) rfl rfl rfl ho (by omega) (by decide +kernel) rfl ?_
    intro w2 o2 m2
    have hx2 := ho.mvx m2 hx (Nat.le_refl _)
    have e2 : (aQ (jT l k)).set k [Value.int .u8 (IntKind.u8.wrap (↑l[k].toNat + 32))] = aQ (jT l (k + 1)) := by
     rw [qM l k hlt, ← tK, ER (by omega) (by omega)]
    rw [e2] at o2
    clear hx ho hsl hp
    refine_lift dE ?_
    exact ⟨⟨k + 1, by omega, by go_num, hx2, o2⟩, by simp [intOf]; omega⟩
   all_goals
    refine ⟨⟨k + 1, by omega, by go_num, hx, ?_⟩, by simp [intOf]; omega⟩
    rw [qN l k hlt (xY (by omega))]; exact ho
  ·have : k = l.length := by omega
   subst this
   rw [zK] at hsl hlen
   refine_lift sM fun _ => ?_
   go_ret
   exact ⟨rfl, hx⟩
theorem RL {B : Nat} {v : Value} {ls : List (List UInt8)} {w : World} (h : Own B 1 9 w v (aS ls)) : Calls Tryz.prog 171 #[v] w fun e w' => e = .returned (.tuple #[]) ∧ Own B 1 9 w' v (aS ls.reverse) ∧ Mv v.ownBlock w w' := by
 rcases h.form with ⟨rfl, h0⟩ | ⟨g, cap, rfl, hg, hB, hc, hm⟩
 ·have : ls = [] := by simpa [aS] using h0
  subst this
  refine (Tryz.slices_Reverse_string_empty none 0 w).mono ?_
  rintro e w' ⟨rfl, rfl⟩
  exact ⟨rfl, h, Mv.refl _ _⟩
 ·rw [bC] at h hm ⊢
  refine (Tryz.slices_Reverse_string g 0 cap ls w (Own.holds h) hm).mono ?_
  rintro e w' ⟨rfl, n, rfl⟩
  have := Own.putRow (ys := ls.reverse) h (by simp) n #[]
  rw [Sort.grow_empty] at this
  exact ⟨rfl, this.1, this.2⟩
theorem SC {B : Nat} {v : Value} {ls : List (List UInt8)} {w : World} (h : Own B 1 9 w v (aS ls)) (hl : ls.length < 4611686018427387904) : Calls Tryz.prog 107 #[v] w fun e w' => e = .returned (.tuple #[]) ∧ Own B 1 9 w' v (aS (ls.mergeSort fun x y => decide (x ≤ y))) ∧ Mv v.ownBlock w w' := by
 rcases h.form with ⟨rfl, h0⟩ | ⟨g, cap, rfl, hg, hB, hc, hm⟩
 ·have : ls = [] := by simpa [aS] using h0
  subst this
  refine (Tryz.slices_Sort_string_none none 0 w).mono ?_
  rintro e w' ⟨rfl, rfl⟩
  exact ⟨rfl, by simpa using h, Mv.refl _ _⟩
 ·rw [bC] at h hm ⊢
  refine (Tryz.slices_Sort_string g 0 cap ls w (Own.holds h) hg hl).mono ?_
  rintro e w' ⟨rfl, n, os, rfl⟩
  have := Own.putRow (ys := ls.mergeSort fun x y => decide (x ≤ y)) h (List.length_mergeSort _) n os
  exact ⟨rfl, this.1, this.2⟩
theorem CC (ls : List (List UInt8)) : (Lib.compact ls).length ≤ ls.length := by
 unfold Lib.compact Lib.compactUpTo
 rw [List.length_map]
 exact Nat.le_trans (List.length_filter_le _ _) (by simp)
theorem SD {B : Nat} {v : Value} {ls : List (List UInt8)} {w : World} (h : Own B 1 9 w v (aS ls)) : Calls Tryz.prog 108 #[v] w fun e w' => ∃ v', e = .returned v' ∧ Own B 1 9 w' v' (aS (Lib.compact ls)) ∧ Mv v.ownBlock w w' ∧ v'.ownBlock = v.ownBlock := by
 rcases h.form with ⟨rfl, h0⟩ | ⟨g, cap, rfl, hg, hB, hc, hm⟩
 ·have : ls = [] := by simpa [aS] using h0
  subst this
  refine (Tryz.slices_Compact_string_empty none 0 w).mono ?_
  rintro e w' ⟨rfl, rfl⟩
  exact ⟨_, rfl, h, Mv.refl _ _, rfl⟩
 ·rw [bC] at h hm hc ⊢
  refine (Tryz.slices_Compact_string g 0 cap ls w (Own.holds h) hm hc).mono ?_
  rintro e w' ⟨rfl, n, rfl⟩
  have hle := CC ls
  have := Own.putRow (ys := Lib.compact ls ++ List.replicate (ls.length - (Lib.compact ls).length) []) h (by simp; omega) n #[]
  rw [Sort.grow_empty] at this
  refine ⟨_, rfl, ?_, this.2, rfl⟩
  have h2 := this.1.short (m := (Lib.compact ls).length) (by simp)
  rw [List.map_append, List.take_left' (by simp)] at h2
  exact h2
theorem NT (nm : List UInt8) (w : World) : Calls Tryz.prog 116 #[aH nm] w (oT w fun v w' => match dC nm with
 | some ls => ∃ s, v = .tuple #[s, .bool true] ∧ Sl 1 w' s (aS ls) ∧ ls.length ≤ 254
 | none => ∃ s, v = .tuple #[s, .bool false]) := by
 go_enter Tryz.func116, Tryz.ntmps116
 refine_lift JS ?_; intro _ _ _
 refine aE (enters_of Tryz.func32 rfl rfl) rfl rfl (GP nm _) ?_
 intro w1 x1
 refine aA ?_
 refine aR (enters_of Tryz.func69 rfl rfl) rfl rfl (PH _ _) ?_
 intro v w2 x2 hv
 cases hl : aV (fold nm) with
 | none =>
  rw [hl] at hv
  subst hv
  refine_lift fD fun _ _ => ?_
  refine aF (enters_of Tryz.func171 rfl rfl) rfl rfl (RL (ls := []) (Own.nil w2.heap.size 1 9 w2)) ?_
  rintro e w3 ⟨rfl, _, m3⟩
  refine ⟨_, rfl, ?_⟩
  refine_lift dE ?_
  go_ret2
  refine ⟨_, rfl, (x1.trans x2).move m3 (by rintro k ⟨⟩), ?_⟩
  simp [dC, hl]
 | some ls =>
  rw [hl] at hv
  obtain ⟨s, rfl, hs⟩ := hv
  refine_lift fD fun _ _ => ?_
  refine aF (enters_of Tryz.func171 rfl rfl) rfl rfl (RL hs) ?_
  rintro e w3 ⟨rfl, o3, m3⟩
  refine ⟨_, rfl, ?_⟩
  refine_lift dE ?_
  go_ret2
  refine ⟨_, rfl, hs.mvx m3 (x1.trans x2) x1.size, ?_⟩
  have := eA hl
  simp only [dC, hl, Option.map_some]
  refine ⟨s, rfl, o3.sl, ?_⟩
  have h2 := gL ls
  rw [this.2.1] at h2
  simp; omega
theorem RM (a : List UInt8) (w : World) : Calls Tryz.prog 230 #[aH a] w (bO w (.bool false)) := by
 go_enter Tryz.func230, Tryz.ntmps230
 refine_lift dE ?_
 go_ret
 exact ⟨by simp, Ext.refl _⟩
theorem RN (a : List UInt8) (w : World) : Calls Tryz.prog 226 #[aH a] w (bO w (.bool false)) := by
 go_enter Tryz.func226, Tryz.ntmps226
 refine_lift dE ?_
 go_ret
 exact ⟨by simp, Ext.refl _⟩
theorem SE (a b : List UInt8) (w : World) : Calls Tryz.prog 207 #[aH a, aH b] w (bO w (.int .i64 (mI a b))) := by
 go_enter Tryz.func207, Tryz.ntmps207
 refine_lift fD fun _ _ => ?_
 refine aE (enters_of Tryz.func230 rfl rfl) rfl rfl (RM _ _) ?_
 intro w1 x1
 refine_lift fD fun _ _ => ?_
 refine aE (enters_of Tryz.func230 rfl rfl) rfl rfl (RM _ _) ?_
 intro w2 x2
 refine_lift LE (fun _ _ _ _ => ?_) (fun _ _ => ?_) (fun _ => ?_)
 ·rename_i h
  go_ret
  exact ⟨by simp [mI, h], x1.trans x2⟩
 ·have h := ‹Op.bytesLess a b = false›
  have h2 := ‹(!(Op.bytesLess a b || a == b)) = true›
  go_ret
  have h3 : a ≠ b := by intro e; subst e; simp at h2
  exact ⟨by simp [mI, h, h3], x1.trans x2⟩
 ·have h := ‹Op.bytesLess a b = false›
  have h2 := ‹(!(Op.bytesLess a b || a == b)) = false›
  go_ret
  rw [h] at h2
  have h3 : a = b := by simpa using h2
  subst h3
  exact ⟨by simp [mI, h], x1.trans x2⟩
theorem SF (a b : List UInt8) (w : World) : Calls Tryz.prog 231 #[aH a, aH b] w (bO w (.int .i64 (mI a b))) := by
 go_enter Tryz.func231, Tryz.ntmps231
 refine_lift fD fun _ _ => ?_
 refine aE (enters_of Tryz.func226 rfl rfl) rfl rfl (RN _ _) ?_
 intro w1 x1
 refine_lift fD fun _ _ => ?_
 refine aE (enters_of Tryz.func226 rfl rfl) rfl rfl (RN _ _) ?_
 intro w2 x2
 refine_lift LE (fun _ _ _ _ => ?_) (fun _ _ => ?_) (fun _ => ?_)
 ·rename_i h
  go_ret
  exact ⟨by simp [mI, h], x1.trans x2⟩
 ·have h := ‹Op.bytesLess a b = false›
  have h2 := ‹(!(Op.bytesLess a b || a == b)) = true›
  go_ret
  have h3 : a ≠ b := by intro e; subst e; simp at h2
  exact ⟨by simp [mI, h, h3], x1.trans x2⟩
 ·have h := ‹Op.bytesLess a b = false›
  have h2 := ‹(!(Op.bytesLess a b || a == b)) = false›
  go_ret
  rw [h] at h2
  have h3 : a = b := by simpa using h2
  subst h3
  exact ⟨by simp [mI, h], x1.trans x2⟩
theorem gM {l : List (List UInt8)} {k : Nat} (h : k < l.length) : (aS l)[k]? = some [aH l[k]] := oF l k _ (List.getElem?_eq_getElem h)
theorem SG (u v : Value) (xs ys : List (List UInt8)) (w : World) (hu : Sl 1 w u (aS xs)) (hv : Sl 1 w v (aS ys)) : Calls Tryz.prog 208 #[u, v] w (bO w (.int .i64 (fU xs ys))) := by
 have hxl := hu.le
 have hyl := hv.le
 have hxe := bC xs
 have hye := bC ys
 go_enter Tryz.func208, Tryz.ntmps208
 refine_lift fD fun _ _ => ?_
 rw [hxe]
 go_loopw [11] (fun i wr => ∃ k : Nat, k ≤ xs.length ∧ k ≤ ys.length ∧ i = .int .i64 k ∧ Ext w wr ∧ fU xs ys = fU (xs.drop k) (ys.drop k)) (fun i _ => xs.length - (intOf i).toNat)
 case atStart => exact ⟨0, Nat.zero_le _, Nat.zero_le _, rfl, Ext.refl _, rfl⟩
 case round =>
  obtain ⟨k, hk, hk2, rfl, hx, hrec⟩ := hrel
  have hul := hu.ext hx
  have hvl := hv.ext hx
  by_cases hlt : k < xs.length
  ·have hp := hul.elem (gM hlt)
   have hd := List.drop_eq_getElem_cons hlt
   by_cases hlt2 : k < ys.length
   ·have hp2 := hvl.elem (gM hlt2)
    have hd2 := List.drop_eq_getElem_cons hlt2
    refine_lift RX ?_; intro _ _ _ _ _ _ _
    refine aE (enters_of Tryz.func231 rfl rfl) rfl rfl (SF _ _ _) ?_
    intro w2 x2
    have hx2 := hx.trans x2
    clear hx hul hvl hp hp2
    refine_lift zP (fun _ => ?_) (fun _ => ?_)
    ·rename_i hc
     go_ret
     refine ⟨?_, hx2⟩
     rw [hrec, hd, hd2, fU, if_pos (by simpa using hc)]
     rfl
    ·rename_i hc
     refine ⟨⟨k + 1, by omega, by omega, rfl, hx2, ?_⟩, by simp [intOf]; omega⟩
     rw [hrec, hd, hd2, fU, if_neg (by simpa using hc)]
   ·have : k = ys.length := by omega
    subst this
    refine_lift EQ fun _ _ _ _ _ _ => ?_
    go_ret
    refine ⟨?_, hx⟩
    rw [hrec, hd, List.drop_length, fU]
    rfl
  ·have : k = xs.length := by omega
   subst this
   refine_lift JT (fun _ _ => ?_) (fun _ _ _ _ => ?_)
   ·rename_i hc
    go_ret
    refine ⟨?_, hx⟩
    have hlt2 : xs.length < ys.length := by rw [hxe, hye] at hc; omega
    rw [hrec, List.drop_length, List.drop_eq_getElem_cons hlt2, fU]
    rfl
   ·rename_i hc
    go_ret
    refine ⟨?_, hx⟩
    have hlt2 : xs.length = ys.length := by rw [hxe, hye] at hc; omega
    rw [hrec, List.drop_length, hlt2, List.drop_length, fU]
    rfl
theorem SH (a b : List UInt8) (w : World) : Calls Tryz.prog 159 #[aH a, aH b] w (bO w (.int .i64 (lF a b))) := by
 go_enter Tryz.func159, Tryz.ntmps159
 refine_lift fD fun _ _ => ?_
 refine aR (enters_of Tryz.func116 rfl rfl) rfl rfl (NT a _) ?_
 intro v w1 x1 hv
 cases ha : dC a with
 | none =>
  rw [ha] at hv
  obtain ⟨s, rfl⟩ := hv
  refine_lift fD fun _ _ => ?_
  refine aR (enters_of Tryz.func116 rfl rfl) rfl rfl (NT b _) ?_
  intro v w2 x2 hv
  cases hb : dC b with
  | none =>
   rw [hb] at hv
   obtain ⟨s2, rfl⟩ := hv
   refine_lift zQ fun _ _ _ _ => ?_
   refine aE (enters_of Tryz.func207 rfl rfl) rfl rfl (SE _ _ _) ?_
   intro w3 x3
   refine_lift dE ?_
   go_ret
   exact ⟨by simp [lF, ha, hb], (x1.trans x2).trans x3⟩
  | some ys =>
   rw [hb] at hv
   obtain ⟨s2, rfl, hs2, _⟩ := hv
   refine_lift dE ?_
   go_ret
   exact ⟨by simp [lF, ha, hb], x1.trans x2⟩
 | some xs =>
  rw [ha] at hv
  obtain ⟨s, rfl, hs, _⟩ := hv
  refine_lift fD fun _ _ => ?_
  refine aR (enters_of Tryz.func116 rfl rfl) rfl rfl (NT b _) ?_
  intro v w2 x2 hv
  cases hb : dC b with
  | none =>
   rw [hb] at hv
   obtain ⟨s2, rfl⟩ := hv
   refine_lift dE ?_
   go_ret
   exact ⟨by simp [lF, ha, hb], x1.trans x2⟩
  | some ys =>
   rw [hb] at hv
   obtain ⟨s2, rfl, hs2, _⟩ := hv
   have hs := hs.ext x2
   refine_lift fD fun _ _ => ?_
   refine aE (enters_of Tryz.func208 rfl rfl) rfl rfl (SG _ _ _ _ _ hs hs2) ?_
   intro w3 x3
   refine_lift dE ?_
   go_ret
   exact ⟨by simp [lF, ha, hb], (x1.trans x2).trans x3⟩
theorem MH (nm : List UInt8) (w : World) : Calls Tryz.prog 65 #[aH nm] w (bO w (.int .i64 (if (aV nm).isSome then 0 else 1))) := by
 go_enter Tryz.func65, Tryz.ntmps65
 refine_lift zQ fun _ _ _ _ => ?_
 refine aR (enters_of Tryz.func69 rfl rfl) rfl rfl (PH nm _) ?_
 intro v w1 x1 hv
 cases hl : aV nm with
 | none =>
  rw [hl] at hv
  subst hv
  refine_lift dE ?_
  go_ret
  exact ⟨by simp [hl], x1⟩
 | some ls =>
  rw [hl] at hv
  obtain ⟨s, rfl, _⟩ := hv
  refine_lift dE ?_
  go_ret
  exact ⟨by simp [hl], x1⟩
theorem PW (nm : List UInt8) (w : World) (hl : nm.length ≤ 9223372036854775806) : Calls Tryz.prog 184 #[aH nm] w (bO w (if (aV nm).isSome = true then .tuple #[aH (nm ++ [0]), .int .i64 0] else .tuple #[aH [], .int .i64 1])) := by
 have h27 := fun w => MH nm w
 cases hls : aV nm with
 | none =>
  simp only [hls, Option.isSome_none, Bool.false_eq_true, if_false] at h27 ⊢
  go_enter Tryz.func184, Tryz.ntmps184
  refine_lift zQ fun _ _ _ _ => ?_
  refine aE (enters_of Tryz.func65 rfl rfl) rfl rfl (h27 _) ?_
  intro w1 x1
  refine_lift sM fun _ => ?_
  go_ret2
  exact ⟨rfl, x1⟩
 | some ls =>
  simp only [hls, Option.isSome_some, if_true] at h27 ⊢
  go_enter Tryz.func184, Tryz.ntmps184
  refine_lift zQ fun _ _ _ _ => ?_
  refine aE (enters_of Tryz.func65 rfl rfl) rfl rfl (h27 _) ?_
  intro w1 x1
  refine_lift dE ?_
  go_ret2
  exact ⟨rfl, x1⟩
theorem RO (s : List UInt8) (w : World) (hl : s.length ≤ 9223372036854775807) : Calls Tryz.prog 151 #[aH s] w (bO w (.tuple #[aH ((gX s).getD []), .bool (gX s).isSome])) := by
 have h27 := fun w => MH (Lib.trimSuffix s [0]) w
 go_enter Tryz.func151, Tryz.ntmps151
 refine_lift fD fun _ _ => ?_
 refine aF (vs := [aH s, aH [0]]) (enters_of Tryz.func186 rfl rfl) rfl rfl (Tryz.strings_CutSuffix ⟨s.toArray⟩ ⟨[0].toArray⟩ _ (by rw [eE]; exact hl)) ?_
 rintro e w1 ⟨rfl, rfl⟩
 refine ⟨_, rfl, ?_⟩
 refine aA ?_
 cases hh : Lib.hasSuffix s [0] with
 | false =>
  refine_lift dE ?_
  go_ret2
  refine ⟨?_, Ext.refl _⟩
  simp only [gX, hh, Bool.false_eq_true, false_and, if_false]
  rfl
 | true =>
  cases hls : aV (Lib.trimSuffix s [0]) with
  | none =>
   simp only [hls, Option.isSome_none, Bool.false_eq_true, if_false] at h27
   refine_lift zQ fun _ _ _ _ => ?_
   all_goals try (exact absurd ‹false = true› Bool.false_ne_true)
   refine aE (enters_of Tryz.func65 rfl rfl) rfl rfl (h27 _) ?_
   intro w2 x2
   refine_lift sM fun _ => ?_
   go_ret2
   refine ⟨?_, x2⟩
   simp only [gX, hh, hls, Option.isSome_none, Bool.false_eq_true, and_false, if_false]
   rfl
  | some ls =>
   simp only [hls, Option.isSome_some, if_true] at h27
   refine_lift zQ fun _ _ _ _ => ?_
   all_goals try (exact absurd ‹false = true› Bool.false_ne_true)
   refine aE (enters_of Tryz.func65 rfl rfl) rfl rfl (h27 _) ?_
   intro w2 x2
   refine_lift dE ?_
   go_ret2
   refine ⟨?_, x2⟩
   simp only [gX, hh, hls, Option.isSome_some, and_self, if_true]
   rfl
theorem SI (k : Int) (w : World) : Calls Tryz.prog 150 #[.int .i64 k] w (bO w (.int .i64 (iC k))) := by
 go_enter Tryz.func150, Tryz.ntmps150
 (repeat' first | ((with_reducible refine aJ ?_); go_step) | ((with_reducible refine aI ?_); first | refine bM ?_ | (refine aL ?_ ?_ <;> intro hc)) | fail)
 all_goals
  go_ret
  refine ⟨?_, Ext.refl _⟩
  simp [iC, *]
theorem SJ (s : List UInt8) (w : World) (hl : s.length ≤ 4611686018427387904) : Calls Tryz.prog 185 #[aH s] w (bO w (.bool (xZ s))) := by
 go_enter Tryz.func185, Tryz.ntmps185
 refine_lift fD fun _ _ => ?_
 go_loopw [0] (fun s2 wr => wr = w ∧ ∃ r : List UInt8, s2 = aH r ∧ r.length ≤ s.length ∧ oD s = oD r) (fun s2 _ => xS s2)
 case atStart => exact ⟨rfl, s, rfl, Nat.le_refl _, rfl⟩
 case round =>
  obtain ⟨rfl, r, rfl, hr, hrec⟩ := hrel
  cases r with
  | nil =>
   refine_lift dE ?_
   go_ret
   refine ⟨?_, Ext.refl _⟩
   rw [xZ, hrec]
   simp [oD, oA]
  | cons k t =>
   have hk : k.toNat < 256 := k.toNat_lt
   have hne : s ≠ [] := by intro e; subst e; simp at hr
   refine_lift JT (fun _ _ => ?_) (fun _ _ _ _ => ?_)
   ·have hc := ‹((k :: t).length : Int) < 1 + (k.toNat : Int)›
    go_ret
    refine ⟨?_, Ext.refl _⟩
    rw [xZ, hrec, rJ, if_pos (by simp at hc; omega)]
    simp
   ·have hc := ‹1 + (k.toNat : Int) ≤ ((k :: t).length : Int)›
    have e : (1 + (k.toNat : Int)).toNat = k.toNat + 1 := by omega
    rw [e, List.drop_succ_cons]
    refine ⟨⟨trivial, _, rfl, by simp at hr ⊢; omega, ?_⟩, by simp [sS]; omega⟩
    rw [hrec, rJ, if_neg (by simp at hc; omega)]
theorem PI (k : Int) (d : List UInt8) (w : World) (hl : d.length ≤ 9223372036854775807) : Calls Tryz.prog 105 #[.int .i64 k, aH d] w (bO w (.tuple #[aH (bE k d).1, .int .i64 (bE k d).2])) := by
 go_enter Tryz.func105, Tryz.ntmps105
 refine_lift fD fun _ _ => ?_
 refine aE (enters_of Tryz.func150 rfl rfl) rfl rfl (SI _ _) ?_
 intro w1 x1
 refine_lift OB (fun _ _ => ?_) (fun _ _ _ _ => ?_) (fun _ => ?_)
 ·have hc := ‹iC k < 0›
  go_ret2
  refine ⟨?_, x1⟩
  rw [bE, if_pos hc]
  rfl
 ·have hc : ¬ iC k < 0 := by have := ‹0 ≤ iC k›; omega
  have hc2 := ‹(d.length : Int) < iC k›
  go_ret2
  refine ⟨?_, x1⟩
  rw [bE, if_neg hc, if_pos hc2]
  rfl
 ·have hc : ¬ iC k < 0 := by have := ‹0 ≤ iC k›; omega
  have hc2 : ¬ (d.length : Int) < iC k := by have := ‹iC k ≤ (d.length : Int)›; omega
  refine aE (enters_of Tryz.func151 rfl rfl) rfl rfl (RO (d.drop (iC k).toNat) _ (by simp; omega)) ?_
  intro w2 x2
  cases hh : gX (d.drop (iC k).toNat) with
  | none =>
   simp only [hh, Option.isSome_none, Option.getD_none]
   refine_lift dE ?_
   go_ret2
   refine ⟨?_, x1.trans x2⟩
   rw [bE, if_neg hc, if_neg hc2, hh]
   rfl
  | some n =>
   simp only [hh, Option.isSome_some, Option.getD_some]
   refine_lift dE ?_
   go_ret2
   refine ⟨?_, x1.trans x2⟩
   rw [bE, if_neg hc, if_neg hc2, hh]
   rfl
theorem JV {s : List UInt8} {k : Nat} (h : k < s.length) : s.getD k 0 = s[k] := by simp [h]
theorem RP (s : List UInt8) (w : World) (hl : s.length ≤ 4611686018427387904) : Calls Tryz.prog 152 #[aH s] w (bO w (.tuple #[aH (bZ s).1, aH (bZ s).2.1, .bool (bZ s).2.2])) := by
 go_enter Tryz.func152, Tryz.ntmps152
 refine_lift fD fun _ _ => ?_
 go_loopw [5] (fun i wr => wr = w ∧ ∃ k : Nat, i = .int .i64 k ∧ k ≤ s.length + 256 ∧ kK s = k + kK (s.drop k)) (fun i _ => s.length + 256 - (intOf i).toNat)
 case atStart => exact ⟨rfl, 0, rfl, by omega, by simp⟩
 case round =>
  obtain ⟨rfl, k, rfl, hk, hrec⟩ := hrel
  by_cases hlt : k < s.length
  ·have hd := List.drop_eq_getElem_cons hlt
   have hb : (s.getD k 0).toNat < 256 := UInt8.toNat_lt _
   have hg := JV hlt
   refine_lift PQ (fun hc _ _ _ _ => ?_) (fun hc _ => ?_)
   ·have hc := ‹(!decide (((s.getD k 0).toNat : Int) = 0)) = true›
    have hne : (s.getD k 0).toNat ≠ 0 := by simpa using hc
    go_roundw
    case rel =>
     refine ⟨trivial, k + (1 + (s.getD k 0).toNat), by congr 1, by omega, ?_⟩
     rw [hrec, hd, tI, ← hg, if_neg hne, List.drop_drop]
     rw [show k + 1 + (s.getD k 0).toNat = k + (1 + (s.getD k 0).toNat) by omega]
     omega
    case measure => simp only [intOf]; omega
   ·have hc := ‹(!decide (((s.getD k 0).toNat : Int) = 0)) = false›
    have hz : (s.getD k 0).toNat = 0 := by simpa using hc
    have hw : kK s = k := by rw [hrec, hd, tI, ← hg, if_pos hz]; rfl
    have hf : bZ s = ((gX (s.take (k + 1))).getD [], s.drop (k + 1), (gX (s.take (k + 1))).isSome) := by
     rw [bZ, hw, if_neg (by omega)]
    refine aE (enters_of Tryz.func151 rfl rfl) rfl rfl (RO _ _ (by simp; omega)) ?_
    intro w2 x2
    refine aA ?_
    refine_lift fD fun _ _ => ?_
    refine dY (by decide +kernel) (by decide +kernel) ?_
    repeat' (first | ((first | (with_reducible apply kI) | ((with_reducible apply GH); (rfl); (rfl); (with_reducible rfl))); (intro _ _; exact rn); (refine aA ?_)) | ((with_reducible apply wD); (rfl); (rfl); (first | (with_reducible exact (rfl : true = !false)) | (with_reducible exact (rfl : false = !true)) | (exact Bool.not_false.symm) | (exact Bool.not_true.symm)); (refine aA ?_)) | (with_reducible (apply CZ)))
    intro w3 x3
    refine_lift dE ?_
    refine bodyPost_ret (results_tmp3 rfl _ _ _) rfl ⟨?_, x2.trans x3⟩
    rw [hf]
    rfl
  ·refine_lift zQ fun hc _ _ _ => ?_
   refine bodyPost_ret (results_tmp3 rfl _ _ _) rfl ⟨?_, Ext.refl _⟩
   have hw : s.length ≤ kK s := by omega
   rw [bZ, if_pos hw]
   rfl
theorem OH (r : List UInt8) (i : Nat) (p : Value) (w : World) (hp : Pts w p [aH r]) (hr : r.length = 20) (hi : i < 5) : Calls Tryz.prog 153 #[.int .i64 i, p] w (bO w (.int .i64 (numP r i 4 : Nat))) := by
 go_enter Tryz.func153, Tryz.ntmps153
 refine_lift fD fun _ _ => ?_
 go_loopw [4, 6] (fun n j wr => wr = w ∧ ∃ k : Nat, k ≤ 4 ∧ j = .int .i64 k ∧ n = .int .i64 (numP r i k : Nat)) (fun _ j _ => 4 - (intOf j).toNat)
 case atStart => exact ⟨rfl, 0, by omega, rfl, rfl⟩
 case round =>
  obtain ⟨rfl, k, hk, rfl, rfl⟩ := hrel
  by_cases hlt : k < 4
  ·have hn := DE r i k
   have hn2 : numP r i k * 256 < 4294967296 := by
    have : 256 ^ k ≤ 256 ^ 3 := Nat.pow_le_pow_right (by omega) (by omega)
    omega
   have hb : (r.getD (4 * i + k) 0).toNat < 256 := UInt8.toNat_lt _
   have hb2 : (r.getD (4 * (i : Int) + (k : Int)).toNat 0).toNat < 256 := UInt8.toNat_lt _
   have e3 : (4 * (i : Int) + (k : Int)).toNat = 4 * i + k := by omega
   refine_lift sM fun _ => ?_
   refine ⟨⟨trivial, k + 1, by omega, rfl, ?_⟩, by simp [intOf]; omega⟩
   rw [numP]
  ·have : k = 4 := by omega
   subst this
   refine_lift sM fun _ => ?_
   go_ret
   exact ⟨rfl, Ext.refl _⟩
theorem zU (n : Nat) : IntKind.wrap .u8 (n : Int) = ((UInt8.ofNat n).toNat : Nat) := by
 simp only [IntKind.wrap, IntKind.bits, IntKind.signed, UInt8.toNat_ofNat']
 simp
theorem RQ {B : Nat} {v : Value} {l : List UInt8} {w : World} (n : Nat) (h : Own B 1 5 w v (aQ l)) (hB : B ≤ w.heap.size) (hn : n < 4294967296) (hl : l.length ≤ 1000000) : Calls Tryz.prog 187 #[v, .int .i64 n] w fun e w' => ∃ v', e = .returned v' ∧ Own B 1 5 w' v' (aQ (l ++ BY n)) ∧ Mv v.ownBlock w w' := by
 go_enter Tryz.func187, Tryz.ntmps187
 refine_lift JS ?_; intro _ _ _
 have e1 : IntKind.wrap .u8 ((n : Int) / 2 ^ Int.toNat 24) = ((UInt8.ofNat (n / 16777216)).toNat : Nat) := by
  rw [← zU]; congr 1
 have e2 : IntKind.wrap .u8 ((n : Int) / 2 ^ Int.toNat 16) = ((UInt8.ofNat (n / 65536)).toNat : Nat) := by
  rw [← zU]; congr 1
 have e3 : IntKind.wrap .u8 ((n : Int) / 2 ^ Int.toNat 8) = ((UInt8.ofNat (n / 256)).toNat : Nat) := by
  rw [← zU]; congr 1
 have e4 : IntKind.wrap .u8 (n : Int) = ((UInt8.ofNat n).toNat : Nat) := zU n
 rw [e1, e2, e3, e4]
 refine bK (xs := [.int .u8 ((UInt8.ofNat (n / 16777216)).toNat : Nat), .int .u8 ((UInt8.ofNat (n / 65536)).toNat : Nat), .int .u8 ((UInt8.ofNat (n / 256)).toNat : Nat), .int .u8 ((UInt8.ofNat n).toNat : Nat)]) (k := 1) (e := 5) (bytes := 1) rfl rfl rfl (by intro y hy; simp at hy; rcases hy with rfl | rfl | rfl | rfl <;> rfl) (by decide +kernel) (by simp) ?_
 intro v1 w1 x1 s1 sl1 _
 refine aA ?_
 have hll : (aQ l).length = l.length := by simp [aQ]
 refine iT (B := B) (k := 1) (e := 5) (bytes := 1) (x := v1) rfl (h.ext x1) rfl sl1 (by decide +kernel) (by simp [Value.cells, Value.oneCell']) (Nat.le_trans hB x1.size) (by rw [hll]; simp; omega) (by rw [hll]; simp; omega) ?_
 intro v2 w2 o2 m2
 refine aA ?_
 refine_lift dE ?_
 go_ret
 refine ⟨v2, rfl, ?_, (x1.mv _).trans m2⟩
 have : aQ (l ++ BY n) = aQ l ++ aQ (BY n) := by simp [aQ]
 rw [this]
 exact o2
structure RSet where
 name : List UInt8
 kind : Int
 ttl : Int
 data : List (List UInt8)
 deriving DecidableEq, Inhabited
structure SetAt (w : World) (cs : List Value) (s : RSet) : Prop where
 out : ∃ v, cs = [aH s.name, .int .i64 s.kind, .int .i64 s.ttl, v] ∧ Sl 1 w v (aS s.data)
theorem SetAt.ext {w w' : World} {cs : List Value} {s : RSet} (h : SetAt w cs s) (hx : Ext w w') : SetAt w' cs s := by
 obtain ⟨v, h1, h2⟩ := h
 exact ⟨v, h1, h2.ext hx⟩
theorem SK (v : Value) (a b : Int) (w : World) (h : Sl 1 w v [[.int .i64 a], [.int .i64 b]]) : Calls Tryz.prog 158 #[v] w (bO w (.int .i64 (if a ≠ 0 then a else b))) := by
 have h0 := h.elem (i := 0) rfl
 have h1 := h.elem (i := 1) rfl
 go_enter Tryz.func158, Tryz.ntmps158
 refine_lift fD fun _ _ => ?_
 go_loopw [8] (fun i wr => wr = w ∧ ∃ k : Nat, i = .int .i64 k ∧ k ≤ 2 ∧ (1 ≤ k → a = 0) ∧ (2 ≤ k → b = 0)) (fun i _ => 2 - (intOf i).toNat)
 case atStart => exact ⟨rfl, 0, rfl, by omega, by omega, by omega⟩
 case round =>
  obtain ⟨rfl, k, rfl, hk, ha, hb⟩ := hrel
  have hk3 : k = 0 ∨ k = 1 ∨ k = 2 := by omega
  rcases hk3 with rfl | rfl | rfl
  ·refine_lift JT (fun _ _ => ?_) (fun _ _ _ _ => ?_)
   ·go_ret
    refine ⟨?_, Ext.refl _⟩
    have hne : a ≠ 0 := by simp at *; assumption
    rw [if_pos hne]
    rfl
   ·have h0 : a = 0 := by simp at *; assumption
    exact ⟨⟨trivial, 1, rfl, by omega, fun _ => h0, by omega⟩, by simp [intOf]⟩
  ·have ha := ha (by omega)
   refine_lift JT (fun _ _ => ?_) (fun _ _ _ _ => ?_)
   ·go_ret
    refine ⟨?_, Ext.refl _⟩
    rw [if_neg (by simpa using ha)]
    rfl
   ·have h0 : b = 0 := by simp at *; assumption
    exact ⟨⟨trivial, 2, rfl, by omega, fun _ => ha, fun _ => h0⟩, by simp [intOf]⟩
  ·have ha := ha (by omega)
   have hb := hb (by omega)
   refine_lift sM fun _ => ?_
   go_ret
   refine ⟨?_, Ext.refl _⟩
   rw [if_neg (by simpa using ha), hb]
   rfl
theorem RS (s : RSet) (v : Value) (d : List UInt8) (w : World) : Calls Tryz.prog 172 #[.agg #[aH s.name, .int .i64 s.kind, .int .i64 s.ttl, v], aH d] w (bO w (.agg #[aH s.name, .int .i64 s.kind, .int .i64 s.ttl, aH d])) := by
 go_enter Tryz.func172, Tryz.ntmps172
 refine_lift yA fun _ _ => ?_
 refine bR (vs := [aH s.name, .int .i64 s.kind, .int .i64 s.ttl, v]) rfl rfl ?_
 intro p w1 x1 hp
 refine aA ?_
 refine aP (z := [aH [], .int .i64 0, .int .i64 0, aH []]) rfl (by decide +kernel) ?_
 intro w2 x2 s2 h2
 have hp := hp.ext x2
 refine_lift fD fun _ _ => ?_
 refine cO (v := .agg #[aH s.name, .int .i64 s.kind, .int .i64 s.ttl, aH d]) rfl (Runs.build rfl (by kernel_rfl)) ?_
 refine aA ?_
 refine aG (v := .agg #[aH s.name, .int .i64 s.kind, .int .i64 s.ttl, aH d]) rfl rfl rfl h2 (show aX Tryz.prog 106 4 = true by decide +kernel) rfl (by simp [Value.cells, Value.oneCell', aH]) ?_
 intro w3 p3
 have x13 : Ext w w3 := (x1.trans x2).move p3.mv (by rintro k ⟨⟩; exact x1.size)
 have h3 := p3.this
 refine_lift dE ?_
 exact bodyPost_ret (cE (cs := [aH s.name, .int .i64 s.kind, .int .i64 s.ttl, aH d]) rfl rfl h3 (show dS Tryz.prog 106 4 = true by decide +kernel)) rfl ⟨rfl, x13⟩
structure SetsAt (w : World) (v : Value) (l : List RSet) : Prop where
 out : ∃ css, Sl 4 w v css ∧ css.length = l.length ∧ ∀ (i : Nat) (s : RSet), l[i]? = some s → ∃ x, css[i]? = some [aH s.name, .int .i64 s.kind, .int .i64 s.ttl, x] ∧ Sl 1 w x (aS s.data)
theorem SetsAt.ext {w w' : World} {v : Value} {l : List RSet} (h : SetsAt w v l) (hx : Ext w w') : SetsAt w' v l := by
 obtain ⟨css, h1, h2, h3⟩ := h
 exact ⟨css, h1.ext hx, h2, fun i s hi => let ⟨x, a, b⟩ := h3 i s hi; ⟨x, a, b.ext hx⟩⟩
theorem SetsAt.elem {w : World} {v : Value} {l : List RSet} (h : SetsAt w v l) {i : Nat} {s : RSet} (hi : l[i]? = some s) : ∃ x, Pts w (cZ v (i * 4)) [aH s.name, .int .i64 s.kind, .int .i64 s.ttl, x] ∧ Sl 1 w x (aS s.data) := by
 obtain ⟨css, h1, h2, h3⟩ := h
 obtain ⟨x, a, b⟩ := h3 i s hi
 exact ⟨x, h1.elem a, b⟩
theorem SetsAt.sl {w : World} {v : Value} {l : List RSet} (h : SetsAt w v l) : ∃ css : List (List Value), Sl 4 w v css ∧ css.length = l.length := by
 obtain ⟨css, h1, h2, h3⟩ := h
 exact ⟨css, h1, h2⟩
def Rec.cells (r : Rec) : List Value := [aH r.name, .int .i64 r.kind, .int .i64 r.ttl, aH r.data]
def aT (l : List Rec) : List (List Value) := l.map Rec.cells
theorem bA (l : List Rec) : (aT l).length = l.length := by simp [aT]
theorem gN {l : List Rec} {k : Nat} (h : k < l.length) : (aT l)[k]? = some [aH l[k].name, .int .i64 l[k].kind, .int .i64 l[k].ttl, aH l[k].data] := by simp [aT, h, Rec.cells]
theorem iJ {α : Type} {a b : List α} {k : Nat} (h : a.take k = b.take k) (ha : k < a.length) (hb : k < b.length) (he : a[k] = b[k]) : a.take (k + 1) = b.take (k + 1) := by
 rw [List.take_add_one, List.take_add_one, List.getElem?_eq_getElem ha, List.getElem?_eq_getElem hb, h, he]
theorem tM {α : Type} {a b : List α} {k : Nat} (ha : k < a.length) (hb : k < b.length) (he : a[k] ≠ b[k]) : a ≠ b := by
 rintro rfl; exact he rfl
def ES (a b : Int) : Int := if a < b then -1 else if b < a then 1 else 0
def dL (na nb : List UInt8) (ka kb : Int) : Int := if lF na nb ≠ 0 then lF na nb else ES ka kb
theorem SL (a b : Int) (w : World) : Calls Tryz.prog 160 #[.int .i64 a, .int .i64 b] w (bO w (.int .i64 (ES a b))) := by
 refine (Tryz.cmp_Compare_int a b w).mono ?_
 rintro e w' ⟨rfl, rfl⟩
 refine ⟨?_, Ext.refl _⟩
 unfold ES Lib.compareInt
 rfl
set_option maxHeartbeats 1000000 in
theorem RT (na nb : List UInt8) (ka kb ta tb : Int) (va vb : Value) (w : World) : Calls Tryz.prog 110 #[.agg #[aH na, .int .i64 ka, .int .i64 ta, va], .agg #[aH nb, .int .i64 kb, .int .i64 tb, vb]] w (bO w (.int .i64 (dL na nb ka kb))) := by
 go_enter Tryz.func110, Tryz.ntmps110
 refine_lift yA fun _ _ => ?_
 refine bR (vs := [aH na, .int .i64 ka, .int .i64 ta, va]) rfl rfl ?_
 intro p w1 x1 hp
 refine aA ?_
 refine bR (vs := [aH nb, .int .i64 kb, .int .i64 tb, vb]) rfl rfl ?_
 intro q w2 x2 hq
 refine aA ?_
 refine_lift fD fun _ _ => ?_
 refine dB (S := Ext w2) (by decide +kernel) ?_
 intro w3 x3 _
 refine tk 0 ?_; refine aA ?_; refine tk 1 ?_; refine aA ?_; refine tk 2 ?_; refine aA ?_; refine tk 3 ?_; refine aA ?_; refine tk 5 ?_; refine aA ?_; refine tk 6 ?_; refine aA ?_; refine tk 7 ?_; refine aA ?_; refine tk 8 ?_; refine aA ?_
 refine dO (i := 4) (by decide +kernel) rfl rfl ?_
 refine aE (enters_of Tryz.func159 rfl rfl) rfl rfl (SH _ _ _) ?_; intro w4 x4; refine aA ?_
 refine aK ⟨by exact eH, ?_⟩
 refine dO (i := 9) (by decide +kernel) rfl rfl ?_
 refine aE (enters_of Tryz.func160 rfl rfl) rfl rfl (SL _ _ _) ?_; intro w5 x5; refine aA ?_
 refine aK ⟨by exact eH, ?_⟩
 refine dO (i := 10) (by decide +kernel) rfl rfl ?_
 refine bK (e := 3) (k := 1) (bytes := 8) (xs := [.int .i64 (lF na nb), .int .i64 (ES ka kb)]) rfl rfl rfl (by simp [Value.cells]) (by decide +kernel) (by simp) ?_
 intro v w6 x6 _ h6 _
 refine aA ?_
 refine aK ⟨by exact eH, ?_⟩
 refine dO (i := 11) (by decide +kernel) rfl rfl ?_
 refine aE (enters_of Tryz.func158 rfl rfl) rfl rfl (SK _ _ _ _ h6) ?_; intro w7 x7; refine aA ?_
 refine aK ⟨by exact eH, ?_⟩
 refine tk 12 ?_; refine aA ?_
 refine cW (by decide +kernel) ?_
 refine_lift dE ?_
 go_ret
 exact ⟨rfl, by exact eH⟩
structure SetC where
 name : List UInt8
 kind : Int
 ttl : Int
 a : Option Addr
 n : Nat
 c : Nat
 d : List (List UInt8)
 deriving Inhabited
def SetC.v (s : SetC) : Value := .slice s.a s.n s.c
def SetC.cells (s : SetC) : List Value := [aH s.name, .int .i64 s.kind, .int .i64 s.ttl, s.v]
def JW (x y : SetC) : Int := dL x.name y.name x.kind y.kind
theorem iX : TPO (fun x y : List UInt8 × Int => dL x.1 y.1 x.2 y.2) :=
 (GM.comap Prod.fst).lex (JR.comap Prod.snd)
theorem GW : TPO JW := iX.comap fun s : SetC => (s.name, s.kind)
theorem SM {B g cap : Nat} (l : List SetC) (w : World) (h : Own B 4 131 w (.slice (some ⟨g, 0, none⟩) l.length cap) (l.map SetC.cells)) (hl : l.length < 4611686018427387904) :
 Calls Tryz.prog 109 #[.slice (some ⟨g, 0, none⟩) l.length cap, .func (.func 110) #[] #[]] w fun e w' => e = .returned (.tuple #[]) ∧ ∃ l' : List SetC, l'.Perm l ∧ (∀ i j (hi : i < j) (hj : j < l'.length), 0 ≤ JW l'[j] l'[i]) ∧ Own B 4 131 w' (.slice (some ⟨g, 0, none⟩) l'.length cap) (l'.map SetC.cells) ∧ Mv (some g) w w' := by
 have hlen : (l.map SetC.cells).length = l.length := by simp
 have h0 := h
 rw [← hlen] at h0
 have eg : ∀ args w, (callFunc 110 args).run Tryz.prog w = .ok (.enter 110 args) w := enters_of Tryz.func110 (by kernel_rfl) rfl
 have hk : ∀ x, (SetC.cells x).length = 4 := fun _ => rfl
 have hfl := pF SetC.cells 4 hk l
 have hH : Sort.HoldsK SetC.cells 4 w g 0 l.toArray := by
  unfold Sort.HoldsK
  have := h.holdsF
  rw [← hfl] at this
  simpa using this
 have hcmp : Go.Proofs.CmpLays Tryz.prog 110 #[] SetC.cells 4 JW g 0 l.toArray.size w := by
  intro m os dk hdk x y
  refine (RT x.name y.name x.kind y.kind x.ttl y.ttl x.v y.v _).mono ?_
  rintro e w' ⟨rfl, hx⟩
  exact ⟨rfl, hx.grown⟩
 have hc := Go.Proofs.AnyQ.slices_SortFunc Tryz.sortSet 4 (fun w => kE (u := (Tryz.prog.underlying 131).getD (.struct #[])) (by rfl) (by rfl)) (fun w => by obtain ⟨i, hq, hz⟩ := oU (gU (show aX Tryz.prog 131 4 = true by decide +kernel)); exact (by simp [sizeOf, typeInfo, hq, hz] : (Go.sizeOf 131).run Tryz.prog w = .ok 4 w)) SetC.cells hk (fun x v hv => by
  simp only [SetC.cells, List.mem_cons, List.not_mem_nil, or_false] at hv
  rcases hv with rfl | rfl | rfl | rfl <;> rfl) JW GW.swo 110 #[] g 0 cap l.toArray w eg hcmp hH (h.block g rfl).2 (by simpa using hl)
 change Calls Tryz.prog 109 _ _ _ at hc
 refine hc.mono ?_
 rintro e w' ⟨rfl, d', n, os, hp, hs, rfl⟩
 obtain ⟨p1, p2, p3⟩ := hp
 have hd : d'.toList.length = l.length := by simpa using p1
 have hfl2 := pF SetC.cells 4 hk d'.toList
 have hperm : d'.toList.Perm l := by
  have e1 : d'.extract 0 l.toArray.size = d' := by rw [← p1]; simp
  have e2 : l.toArray.extract 0 l.toArray.size = l.toArray := by simp
  rw [e1, e2] at p3
  simpa using p3
 have hput := h0.putRowF (fs := d'.toList.map SetC.cells) (by simpa using hd) (by intro x hx; obtain ⟨y, _, rfl⟩ := List.mem_map.1 hx; rfl) n os
 have hrow : Go.Proofs.sortWorldK SetC.cells 4 w g 0 n d' os = Sort.grow (Sort.putRow id (Sort.ahead w n) g 0 (d'.toList.map SetC.cells).flatten.toArray) os := by
  unfold Go.Proofs.sortWorldK Sort.putRowK
  rw [← hfl2]
 rw [hrow]
 refine ⟨rfl, d'.toList, hperm, ?_, ?_, hput.2⟩
 ·intro i j hi hj
  have hjs : j < d'.size := by simpa using hj
  have := hs i j (Nat.zero_le _) hi (by rw [← p1]; exact hjs)
  rw [getElem!_pos d' j hjs, getElem!_pos d' i (by omega)] at this
  simp only [Go.Proofs.ltOf, decide_eq_false_iff_not] at this
  simp only [Array.getElem_toList]
  omega
 ·have := hput.1
  rw [hlen] at this
  rw [hd]
  exact this
theorem MI (v : Value) (w : World) : Calls Tryz.prog 109 #[.slice none 0 0, v] w fun e w' => e = .returned (.tuple #[]) ∧ w' = w := by
 have h := Go.Proofs.AnyF.slices_SortFunc_none Tryz.sortSet none 0 v w
 change Calls Tryz.prog 109 _ _ _ at h
 exact h
def bF (s : RSet) (r : Rec) : Bool := decide (s.name = fold r.name) && decide (s.kind = r.kind)
def hY (s : RSet) (r : Rec) : RSet := ⟨s.name, s.kind, min s.ttl r.ttl, s.data ++ [r.data]⟩
def dF : List RSet → Rec → List RSet
 | [], r => [⟨fold r.name, r.kind, r.ttl, [r.data]⟩]
 | s :: l, r => if bF s r = true then hY s r :: l else s :: dF l r
def rK (gs : List RSet) : Prop := ∀ (i j : Nat) s t, gs[i]? = some s → gs[j]? = some t → i ≠ j → ¬ (s.name = t.name ∧ s.kind = t.kind)
theorem wI {r : Rec} : ∀ {gs : List RSet} {i : Nat} {s : RSet}, gs[i]? = some s → bF s r = true → rK gs → dF gs r = gs.set i (hY s r)
 | [], i, s, h, _, _ => by simp at h
 | a :: l, 0, s, h, hm, _ => by
   cases h
   simp [dF, hm]
 | a :: l, i + 1, s, h, hm, hd => by
   have ha : bF a r = false := by
    cases hx : bF a r with
    | false => rfl
    | true =>
     exfalso
     simp only [bF, Bool.and_eq_true, decide_eq_true_eq] at hm hx
     exact hd 0 (i + 1) a s rfl h (by omega) ⟨by rw [hx.1, hm.1], by rw [hx.2, hm.2]⟩
   have := wI (gs := l) (i := i) (by simpa using h) hm (fun p q s t hp hq hpq => hd (p + 1) (q + 1) s t (by simpa using hp) (by simpa using hq) (by omega))
   simp [dF, ha, this]
theorem tN {r : Rec} : ∀ {gs : List RSet}, (∀ s ∈ gs, bF s r = false) → dF gs r = gs ++ [⟨fold r.name, r.kind, r.ttl, [r.data]⟩]
 | [], _ => rfl
 | a :: l, h => by
   have := tN (gs := l) (fun s hs => h s (by simp [hs]))
   simp [dF, h a (by simp), this]
theorem oG {r : Rec} : ∀ {gs : List RSet} {s : RSet}, s ∈ dF gs r → (∃ t ∈ gs, t.name = s.name ∧ t.kind = s.kind) ∨ (s.name = fold r.name ∧ s.kind = r.kind)
 | [], s, h => by
   simp only [dF, List.mem_singleton] at h
   subst h; exact .inr ⟨rfl, rfl⟩
 | a :: l, s, h => by
   unfold dF at h
   split at h
   ·rename_i hm
    simp only [bF, Bool.and_eq_true, decide_eq_true_eq] at hm
    rcases List.mem_cons.1 h with rfl | h
    ·exact .inr ⟨hm.1, hm.2⟩
    ·exact .inl ⟨s, by simp [h], rfl, rfl⟩
   ·rcases List.mem_cons.1 h with rfl | h
    ·exact .inl ⟨s, by simp, rfl, rfl⟩
    ·rcases oG h with ⟨t, ht, h2⟩ | h2
     ·exact .inl ⟨t, by simp [ht], h2⟩
     ·exact .inr h2
theorem fL {gs : List RSet} : rK gs ↔ gs.Pairwise fun s t => ¬ (s.name = t.name ∧ s.kind = t.kind) := by
 rw [List.pairwise_iff_getElem]
 constructor
 ·intro h i j hi hj hij
  exact h i j _ _ (List.getElem?_eq_getElem hi) (List.getElem?_eq_getElem hj) (by omega)
 ·intro h i j s t hs ht hij
  obtain ⟨hi, rfl⟩ := List.getElem?_eq_some_iff.1 hs
  obtain ⟨hj, rfl⟩ := List.getElem?_eq_some_iff.1 ht
  rcases Nat.lt_or_ge i j with h1 | h1
  ·exact h i j hi hj h1
  ·have := h j i hj hi (by omega)
   exact fun ⟨a, b⟩ => this ⟨a.symm, b.symm⟩
theorem rL {r : Rec} : ∀ {gs : List RSet}, rK gs → rK (dF gs r)
 | [], _ => by rw [fL]; simp [dF]
 | a :: l, h => by
   rw [fL] at h ⊢
   obtain ⟨h1, h2⟩ := List.pairwise_cons.1 h
   unfold dF
   split
   ·rename_i hm
    exact List.pairwise_cons.2 ⟨fun t ht => h1 t ht, h2⟩
   ·rename_i hm
    refine List.pairwise_cons.2 ⟨fun t ht => ?_, fL.1 (rL (fL.2 h2))⟩
    rcases oG ht with ⟨u, hu, e1, e2⟩ | ⟨e1, e2⟩
    ·have := h1 u hu
     rw [e1, e2] at this
     exact this
    ·rintro ⟨f1, f2⟩
     exact hm (by simp [bF, f1, f2, e1, e2])
def cI (l : List Rec) : List RSet := l.foldl dF []
theorem iK (l : List Rec) : rK (cI l) := by
 unfold cI
 suffices ∀ (l : List Rec) gs, rK gs → rK (l.foldl dF gs) from this l [] (by intro i j s t h; simp at h)
 intro l
 induction l with
 | nil => exact fun _ h => h
 | cons r l ih => exact fun gs h => ih _ (rL h)
theorem mL {l : List Rec} {k : Nat} (h : k < l.length) : cI (l.take (k + 1)) = dF (cI (l.take k)) l[k] := by
 unfold cI
 rw [List.take_add_one, List.getElem?_eq_getElem h, List.foldl_append]
 rfl
theorem wJ {r : Rec} : ∀ {gs : List RSet}, (dF gs r).length ≤ gs.length + 1
 | [] => by simp [dF]
 | a :: l => by
   have := wJ (r := r) (gs := l)
   unfold dF
   split <;> simp <;> omega
def lT (gs : List RSet) : Nat := (gs.map fun s => s.data.length).sum
theorem rM {r : Rec} : ∀ {gs : List RSet}, lT (dF gs r) = lT gs + 1
 | [] => by simp [dF, lT]
 | a :: l => by
   have := rM (r := r) (gs := l)
   unfold lT at this
   unfold dF
   split
   ·simp [lT, hY]; omega
   ·simp [lT, this]; omega
theorem pH (l : List Rec) : lT (cI l) = l.length := by
 unfold cI
 suffices ∀ (l : List Rec) gs, lT (l.foldl dF gs) = lT gs + l.length from by simpa [lT] using this l []
 intro l
 induction l with
 | nil => intro gs; simp
 | cons r l ih => intro gs; rw [List.foldl_cons, ih, rM]; simp; omega
theorem tO (l : List Rec) : (cI l).length ≤ l.length := by
 unfold cI
 suffices ∀ (l : List Rec) gs, (l.foldl dF gs).length ≤ gs.length + l.length from by simpa using this l []
 intro l
 induction l with
 | nil => intro gs; simp
 | cons r l ih => intro gs; rw [List.foldl_cons]; have := ih (dF gs r); have := wJ (r := r) (gs := gs); simp; omega
theorem zV {gs : List RSet} {s : RSet} (h : s ∈ gs) : s.data.length ≤ lT gs := by
 induction gs with
 | nil => simp at h
 | cons a l ih =>
  unfold lT at *
  rcases List.mem_cons.1 h with rfl | h
  ·simp
  ·have := ih h; simp; omega
structure GC where
 b : Nat
 v : Value
 s : RSet
def GC.cells (c : GC) : List Value := [aH c.s.name, .int .i64 c.s.kind, .int .i64 c.s.ttl, c.v]
def GC.key (c : GC) : Value × Value := (.agg #[aH c.s.name, .int .i64 c.s.kind], .pointer (some ⟨c.b, 0, none⟩))
def GC.kcells (c : GC) : List Value := [aH c.s.name, .int .i64 c.s.kind]
structure GOK (w : World) (B : Nat) (c : GC) : Prop where
 blk : w.heap[c.b]? = some (.cells c.cells.toArray 131 (0, 0))
 ge : B ≤ c.b
 own : Own B 1 9 w c.v (aS c.s.data)
structure GS (w : World) (B : Nat) (gcs : List GC) : Prop where
 each : ∀ c ∈ gcs, GOK w B c
 apart : gcs.Pairwise fun c c' => c.b ≠ c'.b ∧ (c.v.ownBlock = none ∨ c'.v.ownBlock = none ∨ c.v.ownBlock ≠ c'.v.ownBlock)
theorem Own.type {B k e : Nat} {w : World} {v : Value} {es : List (List Value)} (h : Own B k e w v es) {r : Nat} (hr : v.ownBlock = some r) : ∃ cur fz, w.heap[r]? = some (.cells cur e fz) := by
 rcases h.row.2 with ⟨rfl, _⟩ | ⟨g, cap, cur, fz, rfl, hb, hg, _⟩
 ·simp [Value.ownBlock] at hr
 ·simp [Value.ownBlock] at hr; subst hr; exact ⟨cur, fz, hg⟩
theorem Own.neBlock {B k e t b : Nat} {w : World} {v : Value} {es : List (List Value)} {cs : Array Value} {fz : Nat × Nat} (h : Own B k e w v es) (hb : w.heap[b]? = some (.cells cs t fz)) (ht : t ≠ e) : v.ownBlock ≠ some b := fun e' => by
 obtain ⟨cur, fz', h'⟩ := h.type e'
 rw [hb] at h'
 simp only [Option.some.injEq, Obj.cells.injEq] at h'
 exact ht h'.2.1
theorem Own.neMap {B k e m c : Nat} {es' : Array MapEntry} {w : World} {v : Value} {es : List (List Value)} (h : Own B k e w v es) (hb : w.heap[m]? = some (.map es' c)) : v.ownBlock ≠ some m := fun e' => by
 obtain ⟨cur, fz', h'⟩ := h.type e'
 rw [hb] at h'
 cases h'
theorem Own.ne {B k e B' k' e' : Nat} {w : World} {v v' : Value} {es es' : List (List Value)} (h : Own B k e w v es) (h' : Own B' k' e' w v' es') (he : e ≠ e') : v.ownBlock = none ∨ v.ownBlock ≠ v'.ownBlock := by
 cases hv : v.ownBlock with
 | none => exact .inl rfl
 | some r =>
  refine .inr fun e2 => ?_
  obtain ⟨cur, fz, h1⟩ := h.type hv
  exact h'.neBlock h1 he e2.symm
theorem GOK.mv {w w' : World} {B : Nat} {c : GC} {row : Option Nat} (h : GOK w B c) (hm : Mv row w w') (h1 : some c.b ≠ row) (h2 : c.v.ownBlock = none ∨ c.v.ownBlock ≠ row) : GOK w' B c :=
 ⟨hm.at h.blk h1, h.ge, h.own.mv hm h2⟩
theorem GS.ext {w w' : World} {B : Nat} {gcs : List GC} (h : GS w B gcs) (hx : Ext w w') : GS w' B gcs :=
 ⟨fun c hc => (h.each c hc).mv (hx.mv none) (by simp) (by cases c.v.ownBlock <;> simp), h.apart⟩
theorem Sl.slf {k : Nat} {w : World} {v : Value} {es : List (List Value)} (h : Sl k w v es) : ∃ a n c, v = .slice a n c := by
 obtain ⟨a, c, h1, _⟩ := h
 exact ⟨a, _, c, h1⟩
structure SetsC (w : World) (css : List (List Value)) (l : List RSet) : Prop where
 len : css.length = l.length
 at' : ∀ (i : Nat) (s : RSet), l[i]? = some s → ∃ x, css[i]? = some [aH s.name, .int .i64 s.kind, .int .i64 s.ttl, x] ∧ Sl 1 w x (aS s.data)
theorem SetsC.sets {w : World} {v : Value} {l : List RSet} {css : List (List Value)} (h : SetsC w css l) (hv : Sl 4 w v css) : SetsAt w v l := ⟨css, hv, h.len, h.at'⟩
theorem SetsC.ext {w w' : World} {l : List RSet} {css : List (List Value)} (h : SetsC w css l) (hx : Ext w w') : SetsC w' css l :=
 ⟨h.len, fun i s hi => let ⟨x, a, b⟩ := h.at' i s hi; ⟨x, a, b.ext hx⟩⟩
theorem SetsC.append {w : World} {l m : List RSet} {c d : List (List Value)} (h : SetsC w c l) (k : SetsC w d m) : SetsC w (c ++ d) (l ++ m) := by
 refine ⟨by rw [List.length_append, List.length_append, h.len, k.len], fun i s hi => ?_⟩
 rw [List.getElem?_append] at hi ⊢
 rw [h.len]
 split at hi
 ·rw [if_pos ‹_›]; exact h.at' i s hi
 ·rw [if_neg ‹_›]; exact k.at' _ s hi
theorem SetsC.take {w : World} {l : List RSet} {c : List (List Value)} (h : SetsC w c l) (n : Nat) : SetsC w (c.take n) (l.take n) := by
 refine ⟨by simp [h.len], fun i s hi => ?_⟩
 rw [List.getElem?_take] at hi ⊢
 split at hi
 ·rw [if_pos ‹_›]; exact h.at' i s hi
 ·cases hi
theorem SetsC.drop {w : World} {l : List RSet} {c : List (List Value)} (h : SetsC w c l) (n : Nat) : SetsC w (c.drop n) (l.drop n) := by
 refine ⟨by simp [h.len], fun i s hi => ?_⟩
 rw [List.getElem?_drop] at hi ⊢
 exact h.at' _ s hi
theorem SetsC.one {w : World} {s : RSet} {x : Value} (h : Sl 1 w x (aS s.data)) : SetsC w [[aH s.name, .int .i64 s.kind, .int .i64 s.ttl, x]] [s] :=
 ⟨rfl, fun i t hi => by
  match i, hi with
  | 0, hi => cases hi; exact ⟨x, rfl, h⟩⟩
theorem SetsC.cell {w : World} {l : List RSet} {c : List (List Value)} (h : SetsC w c l) : ∀ f ∈ c, ∀ u ∈ f, u.oneCell' = true := by
 intro f hf u hu
 obtain ⟨i, hi, rfl⟩ := List.mem_iff_getElem.1 hf
 obtain ⟨x, h1, h2⟩ := h.at' i _ (List.getElem?_eq_getElem (by rw [← h.len]; exact hi))
 rw [List.getElem?_eq_getElem hi] at h1
 rw [Option.some.inj h1] at hu
 simp only [List.mem_cons, List.not_mem_nil, or_false] at hu
 rcases hu with rfl | rfl | rfl | rfl
 ·rfl
 ·rfl
 ·rfl
 ·exact h2.one
def From (B : Nat) (v : Value) : Prop := ∀ b o s n c, v = .slice (some ⟨b, o, s⟩) n c → B ≤ b
theorem From.weaken {B C : Nat} {v : Value} (h : From B v) (hc : C ≤ B) : From C v := fun b o s n c e => Nat.le_trans hc (h b o s n c e)
theorem Own.from' {B C k e : Nat} {w : World} {v : Value} {es : List (List Value)} (h : Own B k e w v es) (hc : C ≤ B) : From C v := by
 intro b o s n c hv
 rcases h.form with ⟨rfl, _⟩ | ⟨g, cap, rfl, _, hg, _⟩
 ·cases hv
 ·simp only [Value.slice.injEq, Option.some.injEq, Addr.mk.injEq] at hv
  obtain ⟨⟨rfl, _⟩, _⟩ := hv
  exact Nat.le_trans hc hg
def FromC (B : Nat) (css : List (List Value)) : Prop := ∀ f ∈ css, ∀ u ∈ f, From B u
theorem FromC.append {B : Nat} {c d : List (List Value)} (h : FromC B c) (k : FromC B d) : FromC B (c ++ d) := fun f hf => by
 rcases List.mem_append.1 hf with hf | hf
 ·exact h f hf
 ·exact k f hf
theorem FromC.take {B : Nat} {c : List (List Value)} (h : FromC B c) (n : Nat) : FromC B (c.take n) := fun f hf => h f (List.mem_of_mem_take hf)
theorem FromC.drop {B : Nat} {c : List (List Value)} (h : FromC B c) (n : Nat) : FromC B (c.drop n) := fun f hf => h f (List.mem_of_mem_drop hf)
theorem FromC.one {B : Nat} {n : List UInt8} {k t : Int} {x : Value} (h : From B x) : FromC B [[aH n, .int .i64 k, .int .i64 t, x]] := by
 intro f hf u hu
 simp only [List.mem_cons, List.not_mem_nil, or_false] at hf
 subst hf
 simp only [List.mem_cons, List.not_mem_nil, or_false] at hu
 rcases hu with rfl | rfl | rfl | rfl
 ·intro b o s n c e; cases e
 ·intro b o s n c e; cases e
 ·intro b o s n c e; cases e
 ·exact h
structure SetsO (B : Nat) (w : World) (v : Value) (l : List RSet) : Prop where
 out : ∃ css, Sl 4 w v css ∧ From B v ∧ SetsC w css l ∧ FromC B css
theorem SetsO.sets {B : Nat} {w : World} {v : Value} {l : List RSet} (h : SetsO B w v l) : SetsAt w v l := by
 obtain ⟨css, h1, _, h2, _⟩ := h
 exact h2.sets h1
theorem SetsO.ext {B : Nat} {w w' : World} {v : Value} {l : List RSet} (h : SetsO B w v l) (hx : Ext w w') : SetsO B w' v l := by
 obtain ⟨css, h1, h2, h3, h4⟩ := h
 exact ⟨css, h1.ext hx, h2, h3.ext hx, h4⟩
theorem SetsO.weaken {B C : Nat} {w : World} {v : Value} {l : List RSet} (h : SetsO B w v l) (hc : C ≤ B) : SetsO C w v l := by
 obtain ⟨css, h1, h2, h3, h4⟩ := h
 exact ⟨css, h1, h2.weaken hc, h3, fun f hf u hu => (h4 f hf u hu).weaken hc⟩
theorem Sl.put {B k b : Nat} {w w' : World} {v : Value} {es : List (List Value)} {o : Obj} (h : Sl k w v es) (hf : From B v) (hp : Put w w' b o) (hb : b < B) : Sl k w' v es := by
 obtain ⟨a, cap, h1, h2, h3, h4, h5, h6⟩ := h
 refine ⟨a, cap, h1, h2, h3, h4, h5, fun hn => ?_⟩
 obtain ⟨g, o, e, hc⟩ := h6 hn
 have hg : B ≤ g := hf g o none _ _ (by rw [h1, e])
 exact ⟨g, o, e, fun i e j x h1 h2 => (World.cell?_of_block (hp.other g (by omega))).trans (hc i e j x h1 h2)⟩
theorem SetsO.put {B b : Nat} {w w' : World} {v : Value} {l : List RSet} {o : Obj} (h : SetsO B w v l) (hp : Put w w' b o) (hb : b < B) : SetsO B w' v l := by
 obtain ⟨css, h1, h2, h3, h4⟩ := h
 refine ⟨css, h1.put h2 hp hb, h2, ⟨h3.len, fun i s hi => ?_⟩, h4⟩
 obtain ⟨x, e, hx⟩ := h3.at' i s hi
 exact ⟨x, e, hx.put (h4 _ (List.mem_of_getElem? e) x (by simp)) hp hb⟩
theorem SetsO.nil (B : Nat) (w : World) : SetsO B w (.slice none 0 0) [] := ⟨[], Sl.nil _ _, (by intro b o s n c e; cases e), ⟨rfl, by simp⟩, by intro f hf; cases hf⟩
theorem wK (nm : List UInt8) (w : World) : Calls Tryz.prog 53 #[aH nm] w (oT w fun v w' => Own w.heap.size 1 9 w' v (aS ((aV nm).getD []))) := by
 go_enter Tryz.func53, Tryz.ntmps53
 refine_lift JS ?_; intro _ _ _
 refine aR (enters_of Tryz.func85 rfl rfl) rfl rfl (yC nm _) ?_
 intro v w1 x1 hv
 cases hl : aV nm with
 | none =>
  rw [hl] at hv
  subst hv
  refine_lift dE ?_
  go_ret
  refine ⟨_, rfl, x1, ?_⟩
  simp only [hl, Option.getD_none]
  exact Own.nil _ _ _ _
 | some ls =>
  rw [hl] at hv
  obtain ⟨s, rfl, o⟩ := hv
  refine_lift dE ?_
  go_ret
  refine ⟨_, rfl, x1, ?_⟩
  simp only [hl, Option.getD_some]
  exact o
end Go.Proofs.X
