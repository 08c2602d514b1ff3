/- Laws and walks that the proof of the statement is made of (part 10). -/
import Derived.Test.YtgljkfpcadempaaGreatRows
import Derived.Test.YtgljkfpcadempaaGreatP9
set_option linter.unusedSimpArgs false
set_option linter.unusedVariables false
namespace Go.Proofs.X
open Go.RowKit
set_option maxRecDepth 100000
theorem BR (k : Int) (d : List UInt8) : (aX (fold (bA k d).1)).isSome = true := by
 have h0 : (aX (fold [])).isSome = true := rfl
 unfold bA
 split
 ·exact h0
 ·split
  ·exact h0
  ·split
   ·exact h0
   ·rename_i n hn
    unfold gU at hn
    split at hn
    ·rename_i hh
     cases hn
     rw [sN]
     exact hh.2
    ·cases hn
theorem yF (l : List RSet) (n : List UInt8) : (dH l n).length ≤ l.length := by
 unfold dH
 split <;> exact JK _ _ _
theorem zE : ∀ {L : List RSet}, (∀ s ∈ L, s.data.length ≤ 20) → (bG L).length ≤ 20 * L.length
 | [], _ => by simp [bG]
 | s :: L, h => by
   have e : bG (s :: L) = dT s ++ bG L := by simp [bG]
   have ih := zE (L := L) fun t ht => h t (by simp [ht])
   have := h s (by simp)
   rw [e, List.length_append, dT, List.length_map, List.length_cons]
   omega
structure StepA (w0 : World) (b : Nat) (o : List UInt8) (v : Value) (A : List Rec) (r : StepR) (w' : World) : Prop where
 ext : Ext w0 w'
 out : ∃ a u, w'.heap[b]? = some (.cells (gS o v r.kind a u (.slice none 0 0)).toArray 116 (0, 0)) ∧ Own w0.heap.size 4 106 w' a (aR (A ++ r.ans)) ∧ Own w0.heap.size 4 106 w' u (aR r.auth) ∧ (r.more = true → u = .slice none 0 0)
theorem StepA.of {w0 w1 w' : World} {b : Nat} {o : List UInt8} {v : Value} {A : List Rec} {r : StepR} {a u : Value} {row : Option Nat} {cs : List Value} (hx : Ext w0 w1) (hm : Mv row w1 w') (hrow : row = some b) (hbk : w0.heap.size ≤ b)
 (hb1 : w1.heap[b]? = some (.cells cs.toArray 116 (0, 0))) (hb : w'.heap[b]? = some (.cells (gS o v r.kind a u (.slice none 0 0)).toArray 116 (0, 0))) (ha : Own w0.heap.size 4 106 w1 a (aR (A ++ r.ans))) (hu : Own w0.heap.size 4 106 w1 u (aR r.auth)) (hn : r.more = true → u = .slice none 0 0 := by (intro h; cases h)) : StepA w0 b o v A r w' := by
 subst hrow
 exact ⟨hx.move hm (by rintro k ⟨⟩; exact hbk), a, u, hb, ha.mv hm (.inr (ha.neBlock hb1 (by decide))), hu.mv hm (.inr (hu.neBlock hb1 (by decide))), hn⟩
set_option maxHeartbeats 8000000 in
theorem OH (b : Nat) (o : List UInt8) (v : Value) (l : List RSet) (n : List UInt8) (k c : Int) (a : Value) (A : List Rec) (w0 w : World) (hx : Ext w0 w) (hv : SetsAt w0 v l) (hz : ZoneOk o l) (hbk : w0.heap.size ≤ b)
 (hb : w.heap[b]? = some (.cells (gS o v 0 a (.slice none 0 0) (.slice none 0 0)).toArray 116 (0, 0))) (ha : Own w0.heap.size 4 106 w a (aR A)) (hn : (aX n).isSome = true) (hA : A.length ≤ 100000) :
 Calls Tryz.prog 66 #[.pointer (some ⟨b, 0, none⟩), aI n, .int .i64 k, .int .i64 c] w fun e w' => e = .returned (.tuple #[aI (cS o l n k c).next, .bool (cS o l n k c).more]) ∧ StepA w0 b o v A (cS o l n k c) w' := by
 have hzb := rF hz
 have hzr := mU hz
 have hblt := (Array.getElem?_eq_some_iff.1 hb).1
 go_enter Tryz.func66, Tryz.ntmps66
 repeat' (first | ((with_reducible refine aJ ?_); go_step) | fail)
 refine bU (vs := [.int .i64 k]) rfl rfl ?_
 intro pk w1 x1 hk
 refine aA ?_
 have hx1 := hx.trans x1
 have hb1 := x1.at hb
 obtain ⟨hp, hp0, hp2⟩ := iY hb1
 have ha1 := ha.ext x1
 have hv1 := hv.ext hx1
 (repeat' first | ((with_reducible refine aJ ?_); go_step) | ((with_reducible refine aH ?_); first | refine bQ ?_ | (refine aK ?_ ?_ <;> intro hc)) | fail)
 refine aE (enters_of Tryz.func64 rfl rfl) rfl rfl (qD n o _) ?_; intro w2 x2; refine aA ?_
 have hb2 := x2.at hb1
 have hx2 := hx1.trans x2
 have ha2 := ha1.ext x2
 cases hu : cW n o with
 | false =>
  (repeat' first | ((with_reducible refine aJ ?_); go_step) | ((with_reducible refine aH ?_); first | refine bQ ?_ | (refine aK ?_ ?_ <;> intro hc)) | fail)
  ·refine aM (Runs.fieldA (off := 2) rfl (by decide +kernel)) ?_
   refine aA ?_
   (repeat' first | ((with_reducible refine aJ ?_); go_step) | ((with_reducible refine aH ?_); first | refine bQ ?_ | (refine aK ?_ ?_ <;> intro hc)) | fail)
   refine aO (n := 2) hb2 rfl rfl rfl (by simp [gS]) (by decide +kernel) rfl ?_
   intro w3 p3
   (repeat' first | ((with_reducible refine aJ ?_); go_step) | ((with_reducible refine aH ?_); first | refine bQ ?_ | (refine aK ?_ ?_ <;> intro hc)) | fail)
   go_ret2
   have hr : cS o l n k c = ⟨4, [], [], [], false⟩ := by rw [cS, if_pos hu, if_pos ‹c = 0›]
   rw [hr]
   exact ⟨rfl, StepA.of hx2 p3.mv rfl hbk hb2 p3.this (by rw [List.append_nil]; exact ha2) (Own.nil _ _ _ _)⟩
  ·have hr : cS o l n k c = ⟨0, [], [], [], false⟩ := by rw [cS, if_pos hu, if_neg ‹¬ c = 0›]
   go_ret2
   rw [hr]
   exact ⟨rfl, StepA.of hx2 (Mv.refl _ _) rfl hbk hb2 hb2 (by rw [List.append_nil]; exact ha2) (Own.nil _ _ _ _)⟩
 | true =>
  have hu' : ¬ cW n o = false := by simp [hu]
  (repeat' first | ((with_reducible refine aJ ?_); go_step) | ((with_reducible refine aH ?_); first | refine bQ ?_ | (refine aK ?_ ?_ <;> intro hc)) | fail)
  have c39 : ∀ w', SetsAt w' v l → Calls Tryz.prog 118 #[.agg #[aI o, v], aI n] w' (bS w' (.tuple #[aI (fU o l n).1, .bool (fU o l n).2])) := fun w' h => by
   have := PR o v l n w' h hzb
   rw [if_pos hzr, uW hz.chk] at this
   exact this
  have hv2 := hv1.ext x2
  refine aE (enters_of Tryz.func118 rfl rfl) rfl rfl (c39 _ hv2) ?_; intro w3 x3; refine aA ?_
  have hb3 := x3.at hb2
  have hx3 := hx2.trans x3
  have ha3 := ha2.ext x3
  have hv3 := hv2.ext x3
  have hk3 := (hk.ext x2).ext x3
  obtain ⟨qp, qp0, qp2⟩ := iY hb3
  clear hp hp0 hp2
  cases hc : (fU o l n).2 with
  | true =>
   (repeat' first | ((with_reducible refine aJ ?_); go_step) | ((with_reducible refine aH ?_); first | refine bQ ?_ | (refine aK ?_ ?_ <;> intro hc)) | fail)
   refine aT (enters_of Tryz.func112 rfl rfl) rfl rfl (PC v l (fU o l n).1 2 _ hv3 (fun s hs => by have := hzb s hs; omega)) ?_
   intro r4 w4 x4 hr4
   obtain ⟨y4, rfl, hy4⟩ := qE hr4
   clear hr4
   (repeat' first | ((with_reducible refine aJ ?_); go_step) | ((with_reducible refine aH ?_); first | refine bQ ?_ | (refine aK ?_ ?_ <;> intro hc)) | fail)
   refine aN (z := mS) rfl (by decide +kernel) ?_
   intro w5 x5 s5 h5
   refine aA ?_
   refine aG (v := .agg #[aI ((cC l (fU o l n).1 2).getD eA).name, .int .i64 ((cC l (fU o l n).1 2).getD eA).kind, .int .i64 ((cC l (fU o l n).1 2).getD eA).ttl, y4]) rfl rfl rfl h5 (show aZ Tryz.prog 131 4 = true by decide +kernel) rfl (iV rfl rfl rfl hy4.one) ?_
   intro w6 p6
   have x6 : Ext w4 w6 := x5.move p6.mv (by rintro k ⟨⟩; exact Nat.le_refl _)
   have h6 := aD (cs := [aI ((cC l (fU o l n).1 2).getD eA).name, .int .i64 ((cC l (fU o l n).1 2).getD eA).kind, .int .i64 ((cC l (fU o l n).1 2).getD eA).ttl, y4]) p6.this
   have x36 := x4.trans x6
   have hx6 := hx3.trans x36
   have hb6 := x36.at hb3
   have ha6 := ha3.ext x36
   have y6 := hy4.ext x6
   clear p6 h5 x5
   (repeat' first | ((with_reducible refine aJ ?_); go_step) | ((with_reducible refine aH ?_); first | refine bQ ?_ | (refine aK ?_ ?_ <;> intro hc)) | fail)
   refine bT (e := 131) (k := 4) (bytes := 56) (xs := [.agg #[aI ((cC l (fU o l n).1 2).getD eA).name, .int .i64 ((cC l (fU o l n).1 2).getD eA).kind, .int .i64 ((cC l (fU o l n).1 2).getD eA).ttl, y4]]) rfl rfl rfl (by simp [Value.cells]) (by decide +kernel) (by simp) ?_
   intro v8 w8 x8 _ sl8 _
   refine aA ?_
   have hs8 : SetsAt w8 v8 [(cC l (fU o l n).1 2).getD eA] := (SetsC.one (s := (cC l (fU o l n).1 2).getD eA) (y6.ext x8)).sets sl8
   have hlen : (bG [(cC l (fU o l n).1 2).getD eA]).length ≤ 1000000 := by
    rw [← jZ]
    have := hU (fun s hs => (mZ (hz.may hs)).2) (fU o l n).1 2
    omega
   (repeat' first | ((with_reducible refine aJ ?_); go_step) | ((with_reducible refine aH ?_); first | refine bQ ?_ | (refine aK ?_ ?_ <;> intro hc)) | fail)
   refine aT (enters_of Tryz.func119 rfl rfl) rfl rfl (PP v8 _ _ hs8 hlen) ?_
   intro r9 w9 x9 o9
   rw [← jZ] at o9
   refine aA ?_
   have x69 := x8.trans x9
   have hx9 := hx6.trans x69
   have hb9 := x69.at hb6
   have ha9 := ha6.ext x69
   have zz : w0.heap.size ≤ w8.heap.size := (hx6.trans x8).size
   (repeat' first | ((with_reducible refine aJ ?_); go_step) | ((with_reducible refine aH ?_); first | refine bQ ?_ | (refine aK ?_ ?_ <;> intro hc)) | fail)
   refine aM (Runs.fieldA (off := 2) rfl (by decide +kernel)) ?_
   refine aA ?_
   (repeat' first | ((with_reducible refine aJ ?_); go_step) | ((with_reducible refine aH ?_); first | refine bQ ?_ | (refine aK ?_ ?_ <;> intro hc)) | fail)
   refine aO (n := 2) hb9 rfl rfl rfl (by simp [gS]) (by decide +kernel) rfl ?_
   intro w10 p10
   have hb10 : w10.heap[b]? = some (.cells (gS o v 3 a (.slice none 0 0) (.slice none 0 0)).toArray 116 (0, 0)) := p10.this
   obtain ⟨ap, ap0, ap2⟩ := iY hb10
   (repeat' first | ((with_reducible refine aJ ?_); go_step) | ((with_reducible refine aH ?_); first | refine bQ ?_ | (refine aK ?_ ?_ <;> intro hc)) | fail)
   refine aM (Runs.fieldA (off := 2) rfl (by decide +kernel)) ?_
   refine aA ?_
   (repeat' first | ((with_reducible refine aJ ?_); go_step) | ((with_reducible refine aH ?_); first | refine bQ ?_ | (refine aK ?_ ?_ <;> intro hc)) | fail)
   refine aO (n := 4) hb10 rfl rfl rfl (by simp [gS]) (by decide +kernel) o9.sl.one ?_
   intro w11 p11
   (repeat' first | ((with_reducible refine aJ ?_); go_step) | ((with_reducible refine aH ?_); first | refine bQ ?_ | (refine aK ?_ ?_ <;> intro hc)) | fail)
   go_ret2
   have hr : cS o l n k c = ⟨3, [], fP (cC l (fU o l n).1 2), [], false⟩ := by rw [cS, if_neg hu', if_pos hc]
   rw [hr]
   exact ⟨rfl, StepA.of hx9 (p10.mv.trans p11.mv) rfl hbk hb9 p11.this (by rw [List.append_nil]; exact ha9) (o9.weaken zz)⟩
  | false =>
   have hc' : ¬ (fU o l n).2 = true := by simp [hc]
   (repeat' first | ((with_reducible refine aJ ?_); go_step) | ((with_reducible refine aH ?_); first | refine bQ ?_ | (refine aK ?_ ?_ <;> intro hc)) | fail)
   refine aT (enters_of Tryz.func120 rfl rfl) rfl rfl (OG o v l n w0 _ hx3 hv hz hn) ?_
   intro r4 w4 x4 hr4
   obtain ⟨u, css, rfl, ho, hcs⟩ := hr4
   have hx4 := hx3.trans x4
   have hb4 := x4.at hb3
   have ha4 := ha3.ext x4
   have hk4 := hk3.ext x4
   have z34 := hx3.size
   obtain ⟨sp, sp0, sp2⟩ := iY hb4
   clear qp qp0 qp2
   have hne : a.ownBlock ≠ some b := ha4.neBlock hb4 (by decide)
   cases hsb : yC l n with
   | false =>
    (repeat' first | ((with_reducible refine aJ ?_); go_step) | ((with_reducible refine aH ?_); first | refine bQ ?_ | (refine aK ?_ ?_ <;> intro hc)) | fail)
    refine aF (enters_of Tryz.func121 rfl rfl) rfl rfl (BP b o v l 0 2 a w0 _ hx4 hv hz hbk hb4 ha4.sl.one) ?_
    rintro e w5 ⟨rfl, x5, m5, u5, b5, o5⟩
    refine ⟨_, rfl, ?_⟩
    refine aA ?_
    (repeat' first | ((with_reducible refine aJ ?_); go_step) | ((with_reducible refine aH ?_); first | refine bQ ?_ | (refine aK ?_ ?_ <;> intro hc)) | fail)
    go_ret2
    have hr : cS o l n k c = ⟨2, [], [fI o l], [], false⟩ := by rw [cS, if_neg hu', if_neg hc', if_pos hsb]
    rw [hr]
    exact ⟨rfl, x5, a, u5, b5, by rw [List.append_nil]; exact ha4.mv m5 (.inr hne), o5.weaken hx4.size, fun h => by cases h⟩
   | true =>
    have hsb' : ¬ yC l n = false := by simp [hsb]
    have hL : SetsAt w4 u (dH l n) := (hcs.ext hx4).sets ho.sl
    have hf1 : SetFn w4 123 #[] (dH l n) eU := fun s _ x w' _ _ => LR s x w'
    have hcl := hcs.len
    have hl200 := vL hz
    have hspl := yF l n
    (repeat' first | ((with_reducible refine aJ ?_); go_step) | ((with_reducible refine aH ?_); first | refine bQ ?_ | (refine aK ?_ ?_ <;> intro hc)) | fail)
    refine aE (enters_of Tryz.func122 rfl rfl) rfl rfl (jX u (dH l n) 123 #[] eU _ hL (enters_of Tryz.func123 rfl rfl) hf1) ?_; intro w5 x5; refine aA ?_
    have hx5 := hx4.trans x5
    have hb5 := x5.at hb4
    have ha5 := ha4.ext x5
    have ho5 := ho.ext x5
    have hk5 := hk4.ext x5
    by_cases hal : (dH l n).any eU = true ∧ k ≠ 5 ∧ k ≠ 255
    ·rcases nH eU (dH l n) with ⟨i, hi, hidx, hpi, hfind⟩ | ⟨_, hno⟩
     ·rw [hidx]
      have hset : dA l n = (dH l n)[i] := by rw [dA, hfind]; rfl
      obtain ⟨h51, h52⟩ := hal.2
      have hcut : ((dH l n).take (i + 1)).drop i = [dA l n] := by
       rw [hset, List.take_succ_eq_append_getElem hi, List.drop_append]
       simp [Nat.min_eq_left (Nat.le_of_lt hi)]
      obtain ⟨x, hcx, hdx⟩ := hcs.row hi
      rw [← hset] at hcx hdx
      have hmem : dA l n ∈ dH l n := by rw [hset]; exact List.getElem_mem hi
      obtain ⟨hrne, hd20, hd1⟩ := nA hz.chk hmem
      have hsl5 := ho5.sl
      have hdl : ((dA l n).data.getD 0 []).length ≤ 9223372036854775807 := by
       obtain ⟨t, ht, _, _, e3, _⟩ := oP hz.chk hmem
       have := lV hz t ht ((dA l n).data.getD 0 []) (by rw [e3, List.getD_eq_getElem?_getD, List.getElem?_eq_getElem (by rw [← e3]; omega)]; simp)
       omega
      have hd0 : (aS (dA l n).data)[0]? = some [aI ((dA l n).data.getD 0 [])] := oG _ _ _ (by rw [List.getD_eq_getElem?_getD, List.getElem?_eq_getElem (by omega)]; simp)
      (repeat' first | ((with_reducible refine aJ ?_); go_step) | ((with_reducible refine aH ?_); first | refine bQ ?_ | (refine aK ?_ ?_ <;> intro hc)) | fail)
      ·have hr : cS o l n k c = ⟨0, [], [], [], false⟩ := by rw [cS, if_neg hu', if_neg hc', if_neg hsb', if_pos hal, if_pos ‹c = 8›]
       go_ret2
       rw [hr]
       exact ⟨rfl, StepA.of hx5 (Mv.refl _ _) rfl hbk hb5 hb5 (by rw [List.append_nil]; exact ha5) (Own.nil _ _ _ _)⟩
      ·have hc8 := ‹¬ c = 8›
       refine cA 12 (Ext w5) (by decide +kernel) ?_
       intro w6 x6 _
       refine ⟨x6, ?_⟩
       refine NP 0 ?_
       refine CH 1 ?_; refine CH 2 ?_
       refine cU (i := 3) rfl rfl rfl (by decide +kernel) (by decide +kernel) (by decide +kernel) rfl (fun _ => Runs.fieldA (off := 2) rfl (by decide +kernel)) (fun _ _ _ h => h) ?_; refine aA ?_
       refine CH 4 ?_; refine CH 5 ?_; refine CH 6 ?_; refine CH 7 ?_; refine CH 8 ?_; refine CH 9 ?_
       refine bB (i := 10) (v := eG u 4 i (i + 1)) rfl rfl (by decide +kernel) (by decide +kernel) (by decide +kernel) (by decide +kernel) (by decide +kernel) rfl (fun w' hF => Runs.cut (k := 4) (m := i) (n := i + 1) (es := css) rfl rfl (hsl5.ext hF) (by omega) (by omega) (by decide +kernel)) (fun _ _ _ h => h) ?_
       refine aA ?_
       refine bJ (i := 11) (by decide +kernel) rfl rfl ?_
       have hs6 : SetsAt w6 (eG u 4 i (i + 1)) [dA l n] := by
        have h1 := ((hcs.ext (hx5.trans x6)).take (i + 1)).drop i
        rw [hcut] at h1
        exact h1.sets ((hsl5.ext x6).cut (by omega) (by omega))
       refine aT (enters_of Tryz.func119 rfl rfl) rfl rfl (PP _ _ _ hs6 (by rw [jY, dT, List.length_map]; omega)) ?_
       intro r7 w7 x7 o7
       rw [jY] at o7
       refine aA ?_
       have x57 := x6.trans x7
       have hb7 := x57.at hb5
       have ha7 := ha5.ext x57
       refine aL ⟨bY x57, ?_⟩
       refine bJ (i := 12) (by decide +kernel) rfl rfl ?_
       refine dZ (e := 106) (k := 4) rfl ha7 rfl o7.sl lU (hx5.trans x57).size (by rw [bD, bD, dT, List.length_map]; omega) ?_
       intro a8 w8 o8 m8 _
       refine aA ?_
       have hb8 := m8.at hb7 (fun e => hne e.symm)
       have hx8 := ha7.mvx m8 (hx5.trans x57) (Nat.le_refl _)
       have ho7 := ho5.ext x57
       have ho8 := ho7.mv m8 (ho7.ne ha7 (by decide))
       have hrc : aR A ++ aR (dT (dA l n)) = aR (A ++ dT (dA l n)) := by simp [aR]
       rw [hrc] at o8
       refine aL ⟨bZ rfl, ?_⟩
       refine NP 13 ?_
       refine cU (i := 14) rfl rfl rfl (by decide +kernel) (by decide +kernel) (by decide +kernel) rfl (fun _ => Runs.fieldA (off := 2) rfl (by decide +kernel)) (fun _ _ _ h => h) ?_; refine aA ?_
       refine cU (i := 15) rfl rfl rfl (by decide +kernel) (by decide +kernel) (by decide +kernel) rfl (fun _ => Runs.fieldA (off := 1) rfl (by decide +kernel)) (fun _ _ _ h => h) ?_; refine aA ?_
       refine bJ (i := 16) (by decide +kernel) rfl rfl ?_
       refine aO (n := 3) hb8 rfl rfl rfl (by simp [gS]) (by decide +kernel) o8.sl.one ?_
       intro w9 p9
       refine aL ⟨bZ rfl, ?_⟩
       refine cV (by decide +kernel) ?_
       have hb9 : w9.heap[b]? = some (.cells (gS o v 0 a8 (.slice none 0 0) (.slice none 0 0)).toArray 116 (0, 0)) := p9.this
       have hx9 : Ext w0 w9 := hx8.move p9.mv (by rintro k ⟨⟩; exact hbk)
       have ho9 := ho8.mv p9.mv (.inr (ho8.neBlock hb8 (by decide)))
       have ha9 := o8.mv p9.mv (.inr (o8.neBlock hb8 (by decide)))
       have hs9 := ho9.sl
       have el9 := hs9.elem hcx
       have hd9 := hdx.ext hx9
       have ed9 := hd9.elem hd0
       have htl := bN (dA l n).data
       clear sp sp0 sp2 hsl5
       (repeat' first | ((with_reducible refine aJ ?_); go_step) | ((with_reducible refine aH ?_); first | refine bQ ?_ | (refine aK ?_ ?_ <;> intro hc)) | fail)
       refine aE (enters_of Tryz.func105 rfl rfl) rfl rfl (QP 5 ((dA l n).data.getD 0 []) _ hdl) ?_; intro w10 x10; refine aA ?_
       (repeat' first | ((with_reducible refine aJ ?_); go_step) | ((with_reducible refine aH ?_); first | refine bQ ?_ | (refine aK ?_ ?_ <;> intro hc)) | fail)
       refine aE (enters_of Tryz.func32 rfl rfl) rfl rfl (IK (bA 5 ((dA l n).data.getD 0 [])).1 _) ?_; intro w11 x11; refine aA ?_
       (repeat' first | ((with_reducible refine aJ ?_); go_step) | ((with_reducible refine aH ?_); first | refine bQ ?_ | (refine aK ?_ ?_ <;> intro hc)) | fail)
       go_ret2
       have hr : cS o l n k c = ⟨0, dT (dA l n), [], fold (bA 5 ((dA l n).data.getD 0 [])).1, true⟩ := by rw [cS, if_neg hu', if_neg hc', if_neg hsb', if_pos hal, if_neg hc8]
       rw [hr]
       have x911 := x10.trans x11
       exact ⟨rfl, hx9.trans x911, a8, .slice none 0 0, x911.at hb9, ha9.ext x911, Own.nil _ _ _ _, fun _ => rfl⟩
      all_goals
       exfalso
       first
        | (have hq : ¬ (0 : Int) ≤ (i : Int) := by assumption
           omega)
        | (have hq : (!decide (k = 255)) = false := by assumption
           simp [h52] at hq)
        | (have hq : (!decide (k = 5)) = false := by assumption
           simp [h51] at hq)
     ·rw [hno.1] at hal; cases hal.1
    ·have hf2 : SetFn w1 125 #[pk] (dH l n) (fun s => !hO k s) := fun s _ x w' hx' _ => LS pk k s x w' (hk.ext hx')
     have x15 : Ext w1 w5 := x2.trans (x3.trans (x4.trans x5))
     have zb : w1.heap.size ≤ w3.heap.size := (x2.trans x3).size
     have hb5' := hb5
     have hkk : (dH l n).any eU = true → k = 5 ∨ k = 255 := fun h => by
      by_cases h5 : k = 5
      ·exact .inl h5
      ·by_cases h6 : k = 255
       ·exact .inr h6
       ·exact absurd ⟨h, h5, h6⟩ hal
     have hfe : (dH l n).filter (fun s => !!hO k s) = (dH l n).filter (hO k) := by simp only [Bool.not_not]
     have hMl : ((dH l n).filter (hO k)).length ≤ 200 := Nat.le_trans (List.length_filter_le _ _) (by omega)
     have hM20 := zE (L := (dH l n).filter (hO k)) fun s hs => (nA hz.chk (List.mem_filter.1 hs).1).2.1
     have hany : mH eU (dH l n) = -1 ∨ ∃ i : Nat, mH eU (dH l n) = i ∧ (k = 5 ∨ k = 255) := by
      rcases nH eU (dH l n) with ⟨i, hi, hidx, hpi, hfind⟩ | ⟨hidx, hno⟩
      ·exact .inr ⟨i, hidx, hkk (List.any_eq_true.2 ⟨_, List.getElem_mem hi, hpi⟩)⟩
      ·exact .inl hidx
     obtain ⟨j, hj, hjk⟩ : ∃ j : Int, mH eU (dH l n) = j ∧ (0 ≤ j → k = 5 ∨ k = 255) := by
      rcases hany with h | ⟨i, h, h2⟩
      ·exact ⟨-1, h, by omega⟩
      ·exact ⟨i, h, fun _ => h2⟩
     rw [hj]
     clear hany hj sp sp0 sp2
     (repeat' first | ((with_reducible refine aJ ?_); go_step) | ((with_reducible refine aH ?_); first | refine bQ ?_ | (refine aK ?_ ?_ <;> intro hc)) | fail)
     all_goals first
      | (exfalso
         have q1 : (!decide (k = 5)) = true := by assumption
         have q2 : (!decide (k = 255)) = true := by assumption
         have q3 : 0 ≤ j := by assumption
         simp at q1 q2
         rcases hjk q3 with h | h
         ·exact q1 h
         ·exact q2 h)
      | skip
     all_goals
      refine aF (enters_of Tryz.func124 rfl rfl) rfl rfl (zD u (dH l n) css 125 #[pk] (fun s => !hO k s) w1 _ x15 zb ho5 (hcs.ext hx1) (enters_of Tryz.func125 rfl rfl) hf2) ?_
      rintro e w6 ⟨v6, css6, rfl, o6, c6, x6⟩
      refine ⟨_, rfl, ?_⟩
      refine aA ?_
      rw [hfe] at c6
      have hb6 := x6.at hb1
      have ha6 := ha1.ext x6
      have hx6 := hx1.trans x6
      have hs6 := (c6.ext x6).sets o6.sl
      have sl6 := o6.sl
      have cl6 := c6.len
      obtain ⟨rp, rp0, rp2⟩ := iY hb6
      generalize hM : (dH l n).filter (hO k) = M at *
      (repeat' first | ((with_reducible refine aJ ?_); go_step) | ((with_reducible refine aH ?_); first | refine bQ ?_ | (refine aK ?_ ?_ <;> intro hc)) | fail)
      refine cA 8 (Ext w6) (by decide +kernel) ?_
      intro w7 x7 _
      refine ⟨x7, ?_⟩
      refine NP 0 ?_
      refine CH 1 ?_; refine CH 2 ?_
      refine cU (i := 3) rfl rfl rfl (by decide +kernel) (by decide +kernel) (by decide +kernel) rfl (fun _ => Runs.fieldA (off := 2) rfl (by decide +kernel)) (fun _ _ _ h => h) ?_; refine aA ?_
      refine CH 4 ?_; refine CH 5 ?_; refine CH 6 ?_
      refine bJ (i := 7) (by decide +kernel) rfl rfl ?_
      refine aT (enters_of Tryz.func119 rfl rfl) rfl rfl (PP v6 M _ (hs6.ext x7) (by omega)) ?_
      intro r8 w8 x8 o8
      refine aA ?_
      have x68 := x7.trans x8
      have hb8 := x68.at hb6
      have ha8 := ha6.ext x68
      refine aL ⟨bY x68, ?_⟩
      refine bJ (i := 8) (by decide +kernel) rfl rfl ?_
      refine dZ (e := 106) (k := 4) rfl ha8 rfl o8.sl lU (hx6.trans x68).size (by rw [bD, bD]; omega) ?_
      intro a9 w9 o9 m9 _
      refine aA ?_
      have hb9 := m9.at hb8 (fun e => hne e.symm)
      have hx9 := ha8.mvx m9 (hx6.trans x68) (Nat.le_refl _)
      have o69 := (o6.ext x68).mv m9 ((o6.ext x68).ne ha8 (by decide))
      have hrc : aR A ++ aR (bG M) = aR (A ++ bG M) := by simp [aR]
      rw [hrc] at o9
      refine aL ⟨bZ rfl, ?_⟩
      refine NP 9 ?_
      refine cU (i := 10) rfl rfl rfl (by decide +kernel) (by decide +kernel) (by decide +kernel) rfl (fun _ => Runs.fieldA (off := 2) rfl (by decide +kernel)) (fun _ _ _ h => h) ?_; refine aA ?_
      refine cU (i := 11) rfl rfl rfl (by decide +kernel) (by decide +kernel) (by decide +kernel) rfl (fun _ => Runs.fieldA (off := 1) rfl (by decide +kernel)) (fun _ _ _ h => h) ?_; refine aA ?_
      refine bJ (i := 12) (by decide +kernel) rfl rfl ?_
      refine aO (n := 3) hb9 rfl rfl rfl (by simp [gS]) (by decide +kernel) o9.sl.one ?_
      intro w10 p10
      refine aL ⟨bZ rfl, ?_⟩
      refine cV (by decide +kernel) ?_
      have hb10 : w10.heap[b]? = some (.cells (gS o v 0 a9 (.slice none 0 0) (.slice none 0 0)).toArray 116 (0, 0)) := p10.this
      have hx10 : Ext w0 w10 := hx9.move p10.mv (by rintro k ⟨⟩; exact hbk)
      have ha10 := o9.mv p10.mv (.inr (o9.neBlock hb9 (by decide)))
      have o610 := o69.mv p10.mv (.inr (o69.neBlock hb9 (by decide)))
      have sl10 := o610.sl
      clear rp rp0 rp2 sl6
      (repeat' first | ((with_reducible refine aJ ?_); go_step) | ((with_reducible refine aH ?_); first | refine bQ ?_ | (refine aK ?_ ?_ <;> intro hc)) | fail)
      ·have hl0 : css6.length = 0 := by have := ‹(css6.length : Int) = 0›; omega
       have hM0 : M = [] := List.eq_nil_of_length_eq_zero (by omega)
       refine aF (enters_of Tryz.func121 rfl rfl) rfl rfl (BP b o v l 0 1 a9 w0 _ hx10 hv hz hbk hb10 ha10.sl.one) ?_
       rintro e w11 ⟨rfl, x11, m11, u11, b11, o11⟩
       refine ⟨_, rfl, ?_⟩
       refine aA ?_
       (repeat' first | ((with_reducible refine aJ ?_); go_step) | ((with_reducible refine aH ?_); first | refine bQ ?_ | (refine aK ?_ ?_ <;> intro hc)) | fail)
       go_ret2
       have hr : cS o l n k c = ⟨1, [], [fI o l], [], false⟩ := by rw [cS, if_neg hu', if_neg hc', if_neg hsb', if_neg hal, hM, if_pos hM0]
       rw [hr]
       rw [hM0, show bG [] = [] from rfl] at ha10
       exact ⟨rfl, x11, a9, u11, b11, ha10.mv m11 (.inr (ha10.neBlock hb10 (by decide))), o11.weaken hx10.size, fun h => by cases h⟩
      ·have hl0 : css6.length ≠ 0 := by have := ‹¬ (css6.length : Int) = 0›; omega
       have hM0 : M ≠ [] := by rintro rfl; exact hl0 cl6
       go_ret2
       have hr : cS o l n k c = ⟨0, bG M, [], [], false⟩ := by rw [cS, if_neg hu', if_neg hc', if_neg hsb', if_neg hal, hM, if_neg hM0]
       rw [hr]
       exact ⟨rfl, hx10, a9, .slice none 0 0, hb10, ha10, Own.nil _ _ _ _, fun h => by cases h⟩
def FromL (l : List RSet) (r : Rec) : Prop := ∃ t ∈ l, r.data ∈ t.data
theorem FromL.opt {l : List RSet} {n : List UInt8} {k : Int} : ∀ r ∈ fP (cC l n k), FromL l r := by
 intro r hr
 cases hf : cC l n k with
 | none => rw [hf] at hr; cases hr
 | some s =>
  rw [hf] at hr
  obtain ⟨d, hd, rfl⟩ := List.mem_map.1 hr
  exact ⟨s, (nG hf).1, hd⟩
theorem FromL.sets {l : List RSet} (h : dM l = 0) {n : List UInt8} {s : RSet} (hs : s ∈ dH l n) : ∀ r ∈ dT s, FromL l r := by
 intro r hr
 obtain ⟨d, hd, rfl⟩ := List.mem_map.1 hr
 obtain ⟨t, ht, _, _, e, _⟩ := oP h hs
 exact ⟨t, ht, by rw [← e]; exact hd⟩
theorem yG {o : List UInt8} {l : List RSet} (h : dM l = 0) (n : List UInt8) (k c : Int) : (∀ r ∈ (cS o l n k c).ans, FromL l r) ∧ ((cS o l n k c).kind = 3 → ∀ r ∈ (cS o l n k c).auth, FromL l r) := by
 unfold cS
 split
 ·exact ⟨by simp, by simp⟩
 ·split
  ·exact ⟨by simp, fun _ => FromL.opt⟩
  ·split
   ·exact ⟨by simp, by simp⟩
   ·split
    ·rename_i h4
     split
     ·exact ⟨by simp, by simp⟩
     ·exact ⟨FromL.sets h (rE h4.1).1, by simp⟩
    ·split
     ·exact ⟨by simp, by simp⟩
     ·refine ⟨fun r hr => ?_, by simp⟩
      obtain ⟨s, hs, d, hd, rfl⟩ := BM hr
      exact FromL.sets h (List.mem_filter.1 hs).1 _ (List.mem_map_of_mem hd)
theorem BS {o : List UInt8} {l : List RSet} (h : dM l = 0) (k : Int) : ∀ (f : Nat) (c : Int) (n : List UInt8), (∀ r ∈ (gI o l k f c n).ans, FromL l r) ∧ ((gI o l k f c n).kind = 3 → ∀ r ∈ (gI o l k f c n).auth, FromL l r)
 | 0, c, n => by simp [gI]
 | f + 1, c, n => by
   rw [gI]
   split
   ·obtain ⟨h1, h2⟩ := BS h k f (c + 1) (cS o l n k c).next
    refine ⟨fun r hr => ?_, h2⟩
    rcases List.mem_append.1 hr with hr | hr
    ·exact (yG h n k c).1 r hr
    ·exact h1 r hr
   ·exact yG h n k c
theorem GT {o : List UInt8} {l : List RSet} (h : dM l = 0) {n : List UInt8} {k c : Int} (hm : (cS o l n k c).more = true) :
 (cS o l n k c).kind = 0 ∧ (cS o l n k c).auth = [] ∧ c ≠ 8 ∧ (aX (cS o l n k c).next).isSome = true ∧ (cS o l n k c).ans.length ≤ 20 := by
 generalize hr : cS o l n k c = r at *
 unfold cS at hr
 split at hr
 ·subst hr; cases hm
 ·split at hr
  ·subst hr; cases hm
  ·split at hr
   ·subst hr; cases hm
   ·split at hr
    ·rename_i h4
     split at hr
     ·subst hr; cases hm
     ·rename_i h5
      subst hr
      refine ⟨rfl, rfl, h5, BR _ _, ?_⟩
      simp only [dT, List.length_map]
      exact (nA h (rE h4.1).1).2.1
    ·split at hr <;> (subst hr; cases hm)
theorem JT {o : List UInt8} {l : List RSet} (h : dM l = 0) (hl : l.length ≤ 200) (n : List UInt8) (k c : Int) : (cS o l n k c).ans.length ≤ 4000 ∧ (cS o l n k c).auth.length ≤ 20 := by
 unfold cS
 split
 ·simp
 ·split
  ·have := hU (fun s hs => (mZ (yD h hs)).2) (fU o l n).1 2
   exact ⟨by simp, this⟩
  ·split
   ·simp
   ·split
    ·rename_i h4
     split
     ·simp
     ·have := (nA h (rE h4.1).1).2.1
      simp only [dT, List.length_map]
      exact ⟨by omega, by simp⟩
    ·split
     ·simp
     ·have h1 := zE (L := (dH l n).filter (hO k)) fun s hs => (nA h (List.mem_filter.1 hs).1).2.1
      have h2 := List.length_filter_le (hO k) (dH l n)
      have h3 := yF l n
      exact ⟨by simp only; omega, by simp⟩
def vO : List Value := [.int .i64 0, .slice none 0 0, .slice none 0 0, .slice none 0 0]
def AnsO (B : Nat) (a : AnsR) (y : Value) (w : World) : Prop :=
 ∃ u1 u2 u3, y = .agg #[.int .i64 a.kind, u1, u2, u3] ∧ Own B 4 106 w u1 (aR a.ans) ∧ Own B 4 106 w u2 (aR a.auth) ∧ Own B 4 106 w u3 (aR a.extra)
def AnsA (a : AnsR) (y : Value) (w : World) : Prop :=
 ∃ u1 u2 u3, y = .agg #[.int .i64 a.kind, u1, u2, u3] ∧ Sl 4 w u1 (aR a.ans) ∧ Sl 4 w u2 (aR a.auth) ∧ Sl 4 w u3 (aR a.extra)
theorem AnsO.a {B : Nat} {a : AnsR} {y : Value} {w : World} (h : AnsO B a y w) : AnsA a y w := let ⟨u1, u2, u3, e, a, b, c⟩ := h; ⟨u1, u2, u3, e, a.sl, b.sl, c.sl⟩
theorem AnsA.ext {a : AnsR} {y : Value} {w w' : World} (h : AnsA a y w) (hx : Ext w w') : AnsA a y w' := let ⟨u1, u2, u3, e, a, b, c⟩ := h; ⟨u1, u2, u3, e, a.ext hx, b.ext hx, c.ext hx⟩
theorem AnsO.zero (B : Nat) (w : World) : AnsO B JL (.agg vO.toArray) w := ⟨_, _, _, rfl, Own.nil _ _ _ _, Own.nil _ _ _ _, Own.nil _ _ _ _⟩
set_option maxHeartbeats 8000000 in
theorem QC (o : List UInt8) (v : Value) (l : List RSet) (q : List UInt8) (k : Int) (w : World) (hv : SetsAt w v l) (hb : ∀ s ∈ l, s.data.length ≤ 1000000) :
 Calls Tryz.prog 31 #[.agg #[aI o, v], .agg #[aI q, .int .i64 k]] w (sX w fun r w' => ∃ y, r = .tuple #[y, .int .i64 (vJ o l q)] ∧ AnsO w.heap.size (zC o l q k) y w') := by
 go_enter Tryz.func31, Tryz.ntmps31
 repeat' (first | ((with_reducible refine aJ ?_); go_step) | fail)
 refine bU (vs := [aI o, v]) rfl rfl ?_
 intro p w1 x1 hp
 refine aA ?_
 refine bU (vs := [aI q, .int .i64 k]) rfl rfl ?_
 intro pq w2 x2 hq
 refine aA ?_
 refine aN (z := vO) rfl (by decide +kernel) ?_
 intro w3 x3 s3 h3
 refine aA ?_
 have hx3 := x1.trans (x2.trans x3)
 have hp3 := hp.ext (x2.trans x3)
 have hq3 := hq.ext x3
 have hv3 := hv.ext hx3
 have z2 := (x1.trans x2).size
 (repeat' first | ((with_reducible refine aJ ?_); go_step) | ((with_reducible refine aH ?_); first | refine bQ ?_ | (refine aK ?_ ?_ <;> intro hc)) | fail)
 go_step3
 (repeat' first | ((with_reducible refine aJ ?_); go_step) | ((with_reducible refine aH ?_); first | refine bQ ?_ | (refine aK ?_ ?_ <;> intro hc)) | fail)
 refine aE (enters_of Tryz.func61 rfl rfl) rfl rfl (tI o v l _ hv3 hb) ?_; intro w4 x4; refine aA ?_
 have h4 := x4.at h3
 have hx4 := hx3.trans x4
 have hp4 := hp3.ext x4
 have hq4 := hq3.ext x4
 have hv4 := hv3.ext x4
 have ret0 : ∀ e : Int, e ≠ 0 → vJ o l q = e → zC o l q k = JL := fun e he h => by rw [zC, if_pos (by rw [h]; exact he)]
 (repeat' first | ((with_reducible refine aJ ?_); go_step) | ((with_reducible refine aH ?_); first | refine bQ ?_ | (refine aK ?_ ?_ <;> intro hc)) | fail)
 ·have q1 : ¬ cJ o l = 0 := by simpa using (by assumption : (!decide (cJ o l = 0)) = true)
  have hE : vJ o l q = cJ o l := by rw [vJ, if_pos q1]
  refine cT (v := .agg vO.toArray) rfl (Runs.build0 (by kernel_rfl)) ?_
  refine aA ?_
  (repeat' first | ((with_reducible refine aJ ?_); go_step) | ((with_reducible refine aH ?_); first | refine bQ ?_ | (refine aK ?_ ?_ <;> intro hc)) | fail)
  refine aG (v := .agg vO.toArray) rfl rfl rfl h4 (by decide +kernel) rfl (by decide +kernel) ?_
  intro w5 p5
  (repeat' first | ((with_reducible refine aJ ?_); go_step) | ((with_reducible refine aH ?_); first | refine bQ ?_ | (refine aK ?_ ?_ <;> intro hc)) | fail)
  rw [Exit.noGoto_ret]
  refine bodyPost_ret (bK (cs := vO) rfl rfl p5.this (by decide +kernel)) rfl ⟨_, rfl, hx4.move p5.mv (by rintro k ⟨⟩; exact z2), ?_⟩
  rw [ret0 _ q1 hE, hE]
  exact ⟨_, rfl, AnsO.zero _ _⟩
 ·have q1 : cJ o l = 0 := by simpa using (by assumption : (!decide (cJ o l = 0)) = false)
  refine aE (enters_of Tryz.func65 rfl rfl) rfl rfl (NV q _) ?_; intro w5 x5; refine aA ?_
  have h5 := x5.at h4
  have hx5 := hx4.trans x5
  have hp5 := hp4.ext x5
  have hq5 := hq4.ext x5
  have hv5 := hv4.ext x5
  have hE : vJ o l q = eP q := by rw [vJ, if_neg (by simp [q1])]
  have hCE : (if (aX q).isSome = true then (0 : Int) else 1) = eP q := rfl
  rw [hCE]
  (repeat' first | ((with_reducible refine aJ ?_); go_step) | ((with_reducible refine aH ?_); first | refine bQ ?_ | (refine aK ?_ ?_ <;> intro hc)) | fail)
  ·have q2 : ¬ eP q = 0 := by simpa using (by assumption : (!decide (eP q = 0)) = true)
   refine cT (v := .agg vO.toArray) rfl (Runs.build0 (by kernel_rfl)) ?_
   refine aA ?_
   (repeat' first | ((with_reducible refine aJ ?_); go_step) | ((with_reducible refine aH ?_); first | refine bQ ?_ | (refine aK ?_ ?_ <;> intro hc)) | fail)
   refine aG (v := .agg vO.toArray) rfl rfl rfl h5 (by decide +kernel) rfl (by decide +kernel) ?_
   intro w6 p6
   (repeat' first | ((with_reducible refine aJ ?_); go_step) | ((with_reducible refine aH ?_); first | refine bQ ?_ | (refine aK ?_ ?_ <;> intro hc)) | fail)
   rw [Exit.noGoto_ret]
   refine bodyPost_ret (bK (cs := vO) rfl rfl p6.this (by decide +kernel)) rfl ⟨_, rfl, hx5.move p6.mv (by rintro k ⟨⟩; exact z2), ?_⟩
   rw [ret0 _ q2 hE, hE]
   exact ⟨_, rfl, AnsO.zero _ _⟩
  ·have q2 : eP q = 0 := by simpa using (by assumption : (!decide (eP q = 0)) = false)
   have hz := jW q1
   have hl200 := vL hz
   have hA : zC o l q k = ⟨(gI o l k 9 0 (fold q)).kind, (gI o l k 9 0 (fold q)).ans, (gI o l k 9 0 (fold q)).auth, DG l (fQ (gI o l k 9 0 (fold q)))⟩ := by rw [zC, if_neg (by rw [hE]; simp [q2])]
   have hlq : (aX (fold q)).isSome = true := by
    rw [sN]
    unfold eP at q2
    split at q2
    ·assumption
    ·cases q2
   rw [q2] at hE
   clear hCE ret0
   obtain ⟨va, vn, vc, hvs⟩ : ∃ a n c, v = .slice a n c := by obtain ⟨cv, h, _⟩ := hv.sl; exact h.slf
   refine cT (v := .agg (gS o v 0 (.slice none 0 0) (.slice none 0 0) (.slice none 0 0)).toArray) rfl (Runs.build (vals := [(0, .agg #[aI o, v])]) rfl (by rw [hvs]; kernel_rfl)) ?_
   refine aA ?_
   refine fF (vs := gS o v 0 (.slice none 0 0) (.slice none 0 0) (.slice none 0 0)) rfl rfl ?_
   intro w6 x6 s6 b6
   refine aA ?_
   have h6 := x6.at h5
   have hp6 := hp5.ext x6
   have hq6 := hq5.ext x6
   (repeat' first | ((with_reducible refine aJ ?_); go_step) | ((with_reducible refine aH ?_); first | refine bQ ?_ | (refine aK ?_ ?_ <;> intro hc)) | fail)
   refine aE (enters_of Tryz.func32 rfl rfl) rfl rfl (IK q _) ?_; intro w7 x7; refine aA ?_
   have b7 := x7.at b6
   have h7 := x7.at h6
   have hx57 := x6.trans x7
   (repeat' first | ((with_reducible refine aJ ?_); go_step) | ((with_reducible refine aH ?_); first | refine bQ ?_ | (refine aK ?_ ?_ <;> intro hc)) | fail)
   go_step3
   (repeat' first | ((with_reducible refine aJ ?_); go_step) | ((with_reducible refine aH ?_); first | refine bQ ?_ | (refine aK ?_ ?_ <;> intro hc)) | fail)
   have hbk : w5.heap.size ≤ w5.heap.size := Nat.le_refl _
   go_loopw [9, 10, 11] (fun nv _ cv wr => ∃ (c : Nat) (n : List UInt8) (a : Value) (A : List Rec), nv = aI n ∧ cv = .int .i64 c ∧ c ≤ 8 ∧ Ext w5 wr ∧ wr.heap[w5.heap.size]? = some (.cells (gS o v 0 a (.slice none 0 0) (.slice none 0 0)).toArray 116 (0, 0)) ∧ Own w5.heap.size 4 106 wr a (aR A) ∧ (aX n).isSome = true ∧ A.length ≤ 20 * c ∧
    (gI o l k 9 0 (fold q)).kind = (gI o l k (9 - c) c n).kind ∧ (gI o l k 9 0 (fold q)).ans = A ++ (gI o l k (9 - c) c n).ans ∧ (gI o l k 9 0 (fold q)).auth = (gI o l k (9 - c) c n).auth) (fun _ _ c _ => 9 - (intOf c).toNat)
   case atStart => exact ⟨0, fold q, .slice none 0 0, [], rfl, rfl, by omega, hx57, b7, Own.nil _ _ _ _, hlq, by simp, rfl, rfl, rfl⟩
   case round =>
    obtain ⟨c, n, a, A, rfl, rfl, hc, hx, hbr, har, hln, hAl, e1, e2, e3⟩ := hrel
    have hqr := hq5.ext hx
    (repeat' first | ((with_reducible refine aJ ?_); go_step) | ((with_reducible refine aH ?_); first | refine bQ ?_ | (refine aK ?_ ?_ <;> intro hc)) | fail)
    refine aF (enters_of Tryz.func66 rfl rfl) rfl rfl (OH w5.heap.size o v l n k c a A w5 _ hx hv5 hz hbk hbr har hln (by omega)) ?_
    rintro e w8 ⟨rfl, hx8, a8, u8, b8, oa8, ou8, hn8⟩
    refine ⟨_, rfl, ?_⟩
    refine aA ?_
    have e9 : 9 - c = (8 - c) + 1 := by omega
    have hsl := JT (o := o) hz.chk hl200 n k c
    have eu : gI o l k (9 - c) c n = if (cS o l n k c).more = true then
     ⟨(gI o l k (8 - c) (c + 1) (cS o l n k c).next).kind, (cS o l n k c).ans ++ (gI o l k (8 - c) (c + 1) (cS o l n k c).next).ans, (gI o l k (8 - c) (c + 1) (cS o l n k c).next).auth, [], false⟩
     else cS o l n k c := by rw [e9, gI]
    rw [eu] at e1 e2 e3
    clear eu e9
    cases hm : (cS o l n k c).more with
    | true =>
     rw [if_pos hm] at e1 e2 e3
     simp only at e1 e2 e3
     obtain ⟨m1, m2, m3, m4, m5⟩ := GT hz.chk hm
     have hu8 := hn8 hm
     rw [m1, hu8] at b8
     have hc8 : c ≠ 8 := fun e => m3 (by rw [e]; rfl)
     rw [← List.append_assoc] at e2
     (repeat' first | ((with_reducible refine aJ ?_); go_step) | ((with_reducible refine aH ?_); first | refine bQ ?_ | (refine aK ?_ ?_ <;> intro hc)) | fail)
     refine ⟨⟨c + 1, _, a8, A ++ (cS o l n k c).ans, rfl, by go_num, by omega, hx8, b8, oa8, m4, by rw [List.length_append]; omega, ?_, ?_, ?_⟩, by simp [intOf]; omega⟩
     ·rw [e1, show 9 - (c + 1) = 8 - c by omega]; rfl
     ·rw [e2, show 9 - (c + 1) = 8 - c by omega]; rfl
     ·rw [e3, show 9 - (c + 1) = 8 - c by omega]; rfl
    | false =>
     rw [if_neg (by simp [hm])] at e1 e2 e3
     have hfrom := BS (o := o) hz.chk k 9 0 (fold q)
     rw [← e2] at oa8
     rw [← e3] at ou8
     rw [← e1] at b8
     have hal : (gI o l k 9 0 (fold q)).ans.length ≤ 4200 := by rw [e2, List.length_append]; omega
     have hul : (gI o l k 9 0 (fold q)).auth.length ≤ 20 := by rw [e3]; omega
     generalize gI o l k 9 0 (fold q) = R at *
     clear e1 e2 e3 hsl
     obtain ⟨sp, sp0, sp2⟩ := iY b8
     have sa8 := oa8.sl
     have h8 : w8.heap[w2.heap.size]? = some (.cells vO.toArray 71 (0, 0)) := by
      have a1 := (Array.getElem?_eq_some_iff.1 h5).1
      exact hx8.at h5
     (repeat' first | ((with_reducible refine aJ ?_); go_step) | ((with_reducible refine aH ?_); first | refine bQ ?_ | (refine aK ?_ ?_ <;> intro hc)) | fail)
     refine aM (Runs.fieldA (off := 2) rfl (by decide +kernel)) ?_
     refine aA ?_
     (repeat' first | ((with_reducible refine aJ ?_); go_step) | ((with_reducible refine aH ?_); first | refine bQ ?_ | (refine aK ?_ ?_ <;> intro hc)) | fail)
     refine aT (enters_of Tryz.func67 rfl rfl) rfl rfl (qI a8 R.ans _ sa8 (by omega)) ?_
     intro v9 w9 x9 o9
     refine aA ?_
     have su9 := (ou8.ext x9).sl
     have hv8 := hv5.ext hx8
     have hp8 := hp5.ext hx8
     have zq : w2.heap.size ≠ w5.heap.size := by
      have a1 := (Array.getElem?_eq_some_iff.1 h5).1
      omega
     (repeat' first | ((with_reducible refine aJ ?_); go_step) | ((with_reducible refine aH ?_); first | refine bQ ?_ | (refine aK ?_ ?_ <;> intro hc)) | fail)
     refine aM (Runs.fieldA (off := 2) rfl (by decide +kernel)) ?_
     refine aA ?_
     (repeat' first | ((with_reducible refine aJ ?_); go_step) | ((with_reducible refine aH ?_); first | refine bQ ?_ | (refine aK ?_ ?_ <;> intro hc)) | fail)
     ·have h3k := ‹R.kind = 3›
      refine aM (Runs.fieldA (off := 2) rfl (by decide +kernel)) ?_
      refine aA ?_
      (repeat' first | ((with_reducible refine aJ ?_); go_step) | ((with_reducible refine aH ?_); first | refine bQ ?_ | (refine aK ?_ ?_ <;> intro hc)) | fail)
      refine dZ (e := 106) (k := 4) rfl o9 rfl su9 lU x9.size (by rw [bD, bD]; omega) ?_
      intro v10 w10 o10 m10 _
      refine aA ?_
      have xt : Ext w8 w10 := o9.mvx m10 x9 (Nat.le_refl _)
      have hrc : aR R.ans ++ aR R.auth = aR (fQ R) := by rw [fQ, if_pos h3k]; simp [aR]
      rw [hrc] at o10
      have ot := o10.sl
      have hfr : ∀ r ∈ fQ R, FromL l r := by
       intro r hr
       rw [fQ, if_pos h3k] at hr
       rcases List.mem_append.1 hr with hr | hr
       ·exact hfrom.1 r hr
       ·exact hfrom.2 h3k r hr
      clear su9
      (repeat' first | ((with_reducible refine aJ ?_); go_step) | ((with_reducible refine aH ?_); first | refine bQ ?_ | (refine aK ?_ ?_ <;> intro hc)) | fail)
      have htl : (fQ R).length ≤ 10000 := by
       unfold fQ
       rw [List.length_append]
       split <;> first | omega | (simp; omega)
      have hdat : ∀ r ∈ fQ R, r.data.length ≤ 9223372036854775807 := fun r hr => by
       obtain ⟨t, ht, hd⟩ := hfr r hr
       have := lV hz t ht _ hd
       omega
      refine aT (enters_of Tryz.func68 rfl rfl) rfl rfl (ER o v _ l (fQ R) _ (hv8.ext xt) ot hz htl hdat) ?_
      intro r11 w11 x11 o11
      refine aA ?_
      have zt := xt.size
      have xx := xt.trans x11
      have b11 := xx.at b8
      have h11 := xx.at h8
      (repeat' first | ((with_reducible refine aJ ?_); go_step) | ((with_reducible refine aH ?_); first | refine bQ ?_ | (refine aK ?_ ?_ <;> intro hc)) | fail)
      refine aM (Runs.fieldA (off := 2) rfl (by decide +kernel)) ?_
      refine aA ?_
      (repeat' first | ((with_reducible refine aJ ?_); go_step) | ((with_reducible refine aH ?_); first | refine bQ ?_ | (refine aK ?_ ?_ <;> intro hc)) | fail)
      refine aO (n := 5) b11 rfl rfl rfl (by simp [gS]) (by decide +kernel) o11.sl.one ?_
      intro w12 p12
      have b12 : w12.heap[w5.heap.size]? = some (.cells (gS o v R.kind a8 u8 r11).toArray 116 (0, 0)) := p12.this
      have h12 := p12.at h11 zq
      have oa12 := (oa8.ext xx).mv p12.mv (.inr ((oa8.ext xx).neBlock b11 (by decide)))
      have ou12 := (ou8.ext xx).mv p12.mv (.inr ((ou8.ext xx).neBlock b11 (by decide)))
      have or12 := o11.mv p12.mv (.inr (o11.neBlock b11 (by decide)))
      obtain ⟨tp, tp0, tp2⟩ := iY b12
      clear sp sp0 sp2
      (repeat' first | ((with_reducible refine aJ ?_); go_step) | ((with_reducible refine aH ?_); first | refine bQ ?_ | (refine aK ?_ ?_ <;> intro hc)) | fail)
      refine aM (Runs.fieldA (off := 2) rfl (by decide +kernel)) ?_
      refine aA ?_
      (repeat' first | ((with_reducible refine aJ ?_); go_step) | ((with_reducible refine aH ?_); first | refine bQ ?_ | (refine aK ?_ ?_ <;> intro hc)) | fail)
      refine aG (v := .agg #[.int .i64 R.kind, a8, u8, r11]) rfl rfl rfl h12 (show aZ Tryz.prog 71 4 = true by decide +kernel) rfl (iV rfl oa12.sl.one ou12.sl.one or12.sl.one) ?_
      intro w13 p13
      (repeat' first | ((with_reducible refine aJ ?_); go_step) | ((with_reducible refine aH ?_); first | refine bQ ?_ | (refine aK ?_ ?_ <;> intro hc)) | fail)
      rw [Exit.noGoto_ret]
      have zw : w.heap.size ≤ w5.heap.size := hx5.size
      have x12 : Ext w w12 := (hx5.trans (hx8.trans xx)).move p12.mv (by rintro k ⟨⟩; exact zw)
      refine bodyPost_ret (bK (cs := [.int .i64 R.kind, a8, u8, r11]) rfl rfl p13.this (show dY Tryz.prog 71 4 = true by decide +kernel)) rfl ⟨_, rfl, x12.move p13.mv (by rintro k ⟨⟩; exact z2), ?_⟩
      rw [hA, hE]
      refine ⟨_, rfl, a8, u8, r11, rfl, (oa12.mv p13.mv (.inr (oa12.neBlock h12 (by decide)))).weaken zw, (ou12.mv p13.mv (.inr (ou12.neBlock h12 (by decide)))).weaken zw, (or12.mv p13.mv (.inr (or12.neBlock h12 (by decide)))).weaken ?_⟩
      have a1 := hx8.size
      omega
     ·have h3k := ‹¬ R.kind = 3›
      have xt := x9
      have hrc : R.ans = fQ R := by rw [fQ, if_neg h3k]; simp
      have ot := o9.sl
      rw [hrc] at ot
      have hfr : ∀ r ∈ fQ R, FromL l r := by rw [← hrc]; exact hfrom.1
      clear su9
      have htl : (fQ R).length ≤ 10000 := by
       unfold fQ
       rw [List.length_append]
       split <;> first | omega | (simp; omega)
      have hdat : ∀ r ∈ fQ R, r.data.length ≤ 9223372036854775807 := fun r hr => by
       obtain ⟨t, ht, hd⟩ := hfr r hr
       have := lV hz t ht _ hd
       omega
      refine aT (enters_of Tryz.func68 rfl rfl) rfl rfl (ER o v _ l (fQ R) _ (hv8.ext xt) ot hz htl hdat) ?_
      intro r11 w11 x11 o11
      refine aA ?_
      have zt := xt.size
      have xx := xt.trans x11
      have b11 := xx.at b8
      have h11 := xx.at h8
      (repeat' first | ((with_reducible refine aJ ?_); go_step) | ((with_reducible refine aH ?_); first | refine bQ ?_ | (refine aK ?_ ?_ <;> intro hc)) | fail)
      refine aM (Runs.fieldA (off := 2) rfl (by decide +kernel)) ?_
      refine aA ?_
      (repeat' first | ((with_reducible refine aJ ?_); go_step) | ((with_reducible refine aH ?_); first | refine bQ ?_ | (refine aK ?_ ?_ <;> intro hc)) | fail)
      refine aO (n := 5) b11 rfl rfl rfl (by simp [gS]) (by decide +kernel) o11.sl.one ?_
      intro w12 p12
      have b12 : w12.heap[w5.heap.size]? = some (.cells (gS o v R.kind a8 u8 r11).toArray 116 (0, 0)) := p12.this
      have h12 := p12.at h11 zq
      have oa12 := (oa8.ext xx).mv p12.mv (.inr ((oa8.ext xx).neBlock b11 (by decide)))
      have ou12 := (ou8.ext xx).mv p12.mv (.inr ((ou8.ext xx).neBlock b11 (by decide)))
      have or12 := o11.mv p12.mv (.inr (o11.neBlock b11 (by decide)))
      obtain ⟨tp, tp0, tp2⟩ := iY b12
      clear sp sp0 sp2
      (repeat' first | ((with_reducible refine aJ ?_); go_step) | ((with_reducible refine aH ?_); first | refine bQ ?_ | (refine aK ?_ ?_ <;> intro hc)) | fail)
      refine aM (Runs.fieldA (off := 2) rfl (by decide +kernel)) ?_
      refine aA ?_
      (repeat' first | ((with_reducible refine aJ ?_); go_step) | ((with_reducible refine aH ?_); first | refine bQ ?_ | (refine aK ?_ ?_ <;> intro hc)) | fail)
      refine aG (v := .agg #[.int .i64 R.kind, a8, u8, r11]) rfl rfl rfl h12 (show aZ Tryz.prog 71 4 = true by decide +kernel) rfl (iV rfl oa12.sl.one ou12.sl.one or12.sl.one) ?_
      intro w13 p13
      (repeat' first | ((with_reducible refine aJ ?_); go_step) | ((with_reducible refine aH ?_); first | refine bQ ?_ | (refine aK ?_ ?_ <;> intro hc)) | fail)
      rw [Exit.noGoto_ret]
      have zw : w.heap.size ≤ w5.heap.size := hx5.size
      have x12 : Ext w w12 := (hx5.trans (hx8.trans xx)).move p12.mv (by rintro k ⟨⟩; exact zw)
      refine bodyPost_ret (bK (cs := [.int .i64 R.kind, a8, u8, r11]) rfl rfl p13.this (show dY Tryz.prog 71 4 = true by decide +kernel)) rfl ⟨_, rfl, x12.move p13.mv (by rintro k ⟨⟩; exact z2), ?_⟩
      rw [hA, hE]
      refine ⟨_, rfl, a8, u8, r11, rfl, (oa12.mv p13.mv (.inr (oa12.neBlock h12 (by decide)))).weaken zw, (ou12.mv p13.mv (.inr (ou12.neBlock h12 (by decide)))).weaken zw, (or12.mv p13.mv (.inr (or12.neBlock h12 (by decide)))).weaken ?_⟩
      have a1 := hx8.size
      omega
def AppU (B : Nat) (o : List UInt8) (l : List RSet) (d : DeltaR) (q : Value) (w : World) : Prop := ∃ y, q = .tuple #[.agg #[aI (BN o l d), y], .int .i64 (oN o l d)] ∧ SetsO B w y (DF o l d)
theorem AppU.bad {B : Nat} {o : List UInt8} {l : List RSet} {d : DeltaR} {e : Int} {w : World} (h : oN o l d = e) (he : e ≠ 0) : AppU B o l d (.tuple #[.agg kX.toArray, .int .i64 e]) w := by
 refine ⟨.slice none 0 0, ?_, ?_⟩
 ·rw [BN, if_neg (by rw [h]; exact he), h]; rfl
 ·rw [DF, if_neg (by rw [h]; exact he)]; exact SetsO.nil _ _
def vP (r : Rec) : Bool := decide (r.kind = 6)
def dQ (d : List UInt8) : SoaR := match cI d with | some s => s | none => zR
def JU (r : Rec) : Int := (dQ r.data).serial
def tJ : List Rec → Nat
 | [] => 0
 | r :: t => if vP r then 0 else tJ t + 1
theorem vQ : ∀ l : List Rec, tJ l ≤ l.length
 | [] => Nat.le_refl _
 | r :: t => by
   rw [tJ]
   split
   ·omega
   ·have := vQ t
    rw [List.length_cons]; omega
def bP (l : List Rec) : Nat := 1 + tJ (l.drop 1)
theorem kY {l : List Rec} (h : l ≠ []) : 1 ≤ bP l ∧ bP l ≤ l.length := by
 have := vQ (l.drop 1)
 cases l with
 | nil => exact absurd rfl h
 | cons r t =>
  unfold bP
  simp only [List.drop_succ_cons, List.drop_zero, List.length_cons] at *
  omega
def zF : Rec := ⟨[], 0, 0, []⟩
def rG (l : List Rec) : Rec := l.headD zF
def jK (gone come : List Rec) : DeltaR := ⟨JU (rG gone), JU (rG come), gone, come⟩
structure ZE where
 e : Int
 o : List UInt8
 l : List RSet
def ZE.bad (e : Int) : ZE := ⟨e, [], []⟩
def LT : Nat → List UInt8 → List RSet → List Rec → ZE
 | 0, o, l, _ => ⟨0, o, l⟩
 | f + 1, o, l, rs =>
  if rs = [] then ⟨0, o, l⟩ else
  let gone := rs.take (bP rs)
  let rest := rs.drop (bP rs)
  if rest = [] then ZE.bad 2 else
  let come := rest.take (bP rest)
  if oN o l (jK gone come) = 0 then LT f (BN o l (jK gone come)) (DF o l (jK gone come)) (rest.drop (bP rest))
  else ZE.bad (if oN o l (jK gone come) = 5 then 2 else oN o l (jK gone come))
def wJ (o : List UInt8) (l : List RSet) (rs : List Rec) : ZE := LT rs.length o l rs
theorem vR (f : Nat) (o : List UInt8) (l : List RSet) {rs : List Rec} (h : rs ≠ []) : LT (f + 1) o l rs =
 if rs.drop (bP rs) = [] then ZE.bad 2 else
 if oN o l (jK (rs.take (bP rs)) ((rs.drop (bP rs)).take (bP (rs.drop (bP rs))))) = 0 then
  LT f (BN o l (jK (rs.take (bP rs)) ((rs.drop (bP rs)).take (bP (rs.drop (bP rs)))))) (DF o l (jK (rs.take (bP rs)) ((rs.drop (bP rs)).take (bP (rs.drop (bP rs)))))) ((rs.drop (bP rs)).drop (bP (rs.drop (bP rs))))
 else ZE.bad (if oN o l (jK (rs.take (bP rs)) ((rs.drop (bP rs)).take (bP (rs.drop (bP rs))))) = 5 then 2 else oN o l (jK (rs.take (bP rs)) ((rs.drop (bP rs)).take (bP (rs.drop (bP rs)))))) := by
 rw [LT, if_neg h]
theorem ES : ∀ (f : Nat) (o : List UInt8) (l : List RSet), LT f o l [] = ⟨0, o, l⟩
 | 0, o, l => rfl
 | f + 1, o, l => by rw [LT, if_pos rfl]
theorem BT : ∀ (n f g : Nat) (o : List UInt8) (l : List RSet) (rs : List Rec), rs.length ≤ n → rs.length ≤ f → rs.length ≤ g → LT f o l rs = LT g o l rs
 | n, f, g, o, l, [], _, _, _ => by rw [ES, ES]
 | 0, f, g, o, l, r :: t, h, _, _ => by simp at h
 | n + 1, 0, g, o, l, r :: t, _, h, _ => by simp at h
 | n + 1, f + 1, 0, o, l, r :: t, _, _, h => by simp at h
 | n + 1, f + 1, g + 1, o, l, r :: t, hn, hf, hg => by
   have h1 := kY (l := r :: t) (by simp)
   rw [vR f o l (by simp), vR g o l (by simp)]
   by_cases hr : (r :: t).drop (bP (r :: t)) = []
   ·rw [if_pos hr, if_pos hr]
   ·rw [if_neg hr, if_neg hr]
    have h2 := kY hr
    have h3 : (((r :: t).drop (bP (r :: t))).drop (bP ((r :: t).drop (bP (r :: t))))).length ≤ t.length := by
     have e1 : ((r :: t).drop (bP (r :: t))).length = (r :: t).length - bP (r :: t) := List.length_drop ..
     rw [List.length_drop, e1]
     simp only [List.length_cons] at h1 ⊢
     omega
    simp only [List.length_cons] at hn hf hg
    rw [BT n f g _ _ _ (by omega) (by omega) (by omega)]
theorem JV (o : List UInt8) (l : List RSet) : wJ o l [] = ⟨0, o, l⟩ := rfl
theorem GW (o : List UInt8) (l : List RSet) {rs : List Rec} (h : rs ≠ []) : wJ o l rs =
 if rs.drop (bP rs) = [] then ZE.bad 2 else
 if oN o l (jK (rs.take (bP rs)) ((rs.drop (bP rs)).take (bP (rs.drop (bP rs))))) = 0 then
  wJ (BN o l (jK (rs.take (bP rs)) ((rs.drop (bP rs)).take (bP (rs.drop (bP rs)))))) (DF o l (jK (rs.take (bP rs)) ((rs.drop (bP rs)).take (bP (rs.drop (bP rs)))))) ((rs.drop (bP rs)).drop (bP (rs.drop (bP rs))))
 else ZE.bad (if oN o l (jK (rs.take (bP rs)) ((rs.drop (bP rs)).take (bP (rs.drop (bP rs))))) = 5 then 2 else oN o l (jK (rs.take (bP rs)) ((rs.drop (bP rs)).take (bP (rs.drop (bP rs)))))) := by
 cases rs with
 | nil => exact absurd rfl h
 | cons r t =>
  have h1 := kY (l := r :: t) (by simp)
  conv => lhs; unfold wJ
  rw [List.length_cons, vR _ _ _ h]
  by_cases hr : (r :: t).drop (bP (r :: t)) = []
  ·rw [if_pos hr, if_pos hr]
  ·rw [if_neg hr, if_neg hr]
   have h2 := kY hr
   have h3 : (((r :: t).drop (bP (r :: t))).drop (bP ((r :: t).drop (bP (r :: t))))).length ≤ t.length := by
    have e1 : ((r :: t).drop (bP (r :: t))).length = (r :: t).length - bP (r :: t) := List.length_drop ..
    rw [List.length_drop, e1]
    simp only [List.length_cons] at h1 ⊢
    omega
   unfold wJ
   rw [BT _ _ _ _ _ _ (Nat.le_refl _) h3 (Nat.le_refl _)]
def sP (oo : List UInt8) (lo : List RSet) (og : List UInt8) (l : List Rec) : ZE :=
 if vP (l.getD 1 zF) = false then ⟨iS og l.dropLast, mX og l.dropLast, mY og l.dropLast⟩ else
 if lo = [] then ZE.bad 5 else wJ oo lo (l.dropLast.drop 1)
def sQ (oo : List UInt8) (lo : List RSet) (og : List UInt8) (l : List Rec) : ZE :=
 if eP og ≠ 0 ∨ l.any (fun r => !decide (bF r = 0)) = true then ZE.bad 1 else
 if l = [] then ZE.bad 2 else
 if vP (rG l) = false ∨ fold (rG l).name ≠ fold og then ZE.bad 2 else
 if l.length = 1 then ZE.bad 5 else
 if l.length = 2 ∨ l.getD (l.length - 1) zF ≠ rG l then ZE.bad 3 else
 let q := sP oo lo og l
 if q.e ≠ 0 then ZE.bad q.e else
 if (eK q.o q.l).serial ≠ JU (rG l) then ZE.bad 2 else
 if lo ≠ [] ∧ oO (eK q.o q.l).serial (eK oo lo).serial = false then ZE.bad 7 else q
theorem yH {o : List UInt8} {l : List Rec} (h : iS o l = 0) : ZoneOk (mX o l) (mY o l) := by
 have h0 := h
 unfold iS at h
 split at h
 ·rw [mX, if_pos h0, mY, if_pos h0]; exact jW h
 ·rename_i q; exact absurd h q
theorem vS {o : List UInt8} {l : List Rec} (h : iS o l = 0) : mX o l = fold o := by rw [mX, if_pos h]
theorem JW {o : List UInt8} {l : List RSet} {d : DeltaR} (h : oN o l d = 0) : ZoneOk (BN o l d) (DF o l d) ∧ BN o l d = o := by
 have h0 := h
 unfold oN at h
 split at h
 ·rename_i q0
  split at h
  ·cases hx : EP (bG l) d with
   | none => rw [hx] at h; cases h
   | some m =>
    rw [hx] at h
    simp only at h
    unfold PZ at h
    split at h
    ·rename_i q1
     have hz := yH q1
     rw [BN, if_pos h0, DF, if_pos h0, hx]
     simp only [Option.getD_some]
     refine ⟨hz, ?_⟩
     rw [vS q1]
     exact (jW q0).fold
    ·rename_i q1; exact absurd h q1
  ·cases h
 ·rename_i q; exact absurd h q
theorem BU : ∀ (n : Nat) (rs : List Rec), rs.length ≤ n → ∀ (o : List UInt8) (l : List RSet), (wJ o l rs).e = 0 → rs ≠ [] → ZoneOk (wJ o l rs).o (wJ o l rs).l ∧ (wJ o l rs).o = o
 | 0, rs, hn, o, l, h, hne => by
   have : rs = [] := List.eq_nil_of_length_eq_zero (by omega)
   exact absurd this hne
 | n + 1, rs, hn, o, l, h, hne => by
   have h1 := kY hne
   rw [GW o l hne] at h ⊢
   split at h
   ·cases h
   ·rename_i hr
    have h2 := kY hr
    rw [if_neg hr]
    split at h
    ·rename_i ha
     rw [if_pos ha]
     obtain ⟨z1, z2⟩ := JW ha
     by_cases hq : (rs.drop (bP rs)).drop (bP (rs.drop (bP rs))) = []
     ·rw [hq, JV]
      exact ⟨z1, z2⟩
     ·obtain ⟨a, b⟩ := BU n _ (by simp only [List.length_drop] at *; omega) _ _ h hq
      exact ⟨a, b.trans z2⟩
    ·rename_i ha
     split at h
     ·cases h
     ·exact absurd h ha
theorem LU {oo : List UInt8} {lo : List RSet} {og : List UInt8} {l : List Rec} (h : (sQ oo lo og l).e = 0) :
 ZoneOk (sQ oo lo og l).o (sQ oo lo og l).l ∧ ((lo = [] ∨ oo = fold og) → (sQ oo lo og l).o = fold og) ∧ (lo ≠ [] → oO (eK (sQ oo lo og l).o (sQ oo lo og l).l).serial (eK oo lo).serial = true) := by
 unfold sQ at h ⊢
 split at h
 ·cases h
 ·rename_i c1
  rw [if_neg c1]
  split at h
  ·cases h
  ·rename_i c2
   rw [if_neg c2]
   split at h
   ·cases h
   ·rename_i c3
    rw [if_neg c3]
    split at h
    ·cases h
    ·rename_i c4
     rw [if_neg c4]
     split at h
     ·cases h
     ·rename_i c5
      rw [if_neg c5]
      simp only at h ⊢
      split at h
      ·rename_i c6; exact absurd h c6
      ·rename_i c6
       rw [if_neg c6]
       split at h
       ·cases h
       ·rename_i c7
        rw [if_neg c7]
        split at h
        ·cases h
        ·rename_i c8
         rw [if_neg c8]
         have hz : ZoneOk (sP oo lo og l).o (sP oo lo og l).l ∧ ((lo = [] ∨ oo = fold og) → (sP oo lo og l).o = fold og) := by
          have h6 : (sP oo lo og l).e = 0 := by simpa using c6
          unfold sP at h6 ⊢
          split at h6
          ·rename_i d1
           rw [if_pos d1]
           exact ⟨yH h6, fun _ => vS h6⟩
          ·rename_i d1
           rw [if_neg d1]
           split at h6
           ·cases h6
           ·rename_i d2
            rw [if_neg d2]
            have hl : 2 < l.length := by
             have n0 : l.length ≠ 0 := fun e => c2 (List.eq_nil_of_length_eq_zero e)
             have n2 : l.length ≠ 2 := fun e => c5 (.inl e)
             omega
            obtain ⟨a, b⟩ := BU _ _ (Nat.le_refl _) oo lo h6 (by
             intro e
             have := congrArg List.length e
             simp at this
             omega)
            exact ⟨a, fun hh => by rcases hh with hh | hh; exact absurd hh d2; exact b.trans hh⟩
         refine ⟨hz.1, hz.2, fun hne => ?_⟩
         cases hb : oO (eK (sP oo lo og l).o (sP oo lo og l).l).serial (eK oo lo).serial with
         | true => rfl
         | false => exact absurd ⟨hne, hb⟩ c8
structure SecR where
 og : List UInt8
 retry : Int
 z : Option (List UInt8 × List RSet)
 next : Int
 til : Int
 take : Bool
def SecR.soa (s : SecR) : SoaR := match s.z with | none => ⟨[], [], 0, s.retry, s.retry, 0, 0⟩ | some z => eK z.1 z.2
def SecR.o (s : SecR) : List UInt8 := match s.z with | none => [] | some z => z.1
def SecR.l (s : SecR) : List RSet := match s.z with | none => [] | some z => z.2
def DJ (n : Int) : Bool := decide (0 ≤ n) && decide (n ≤ 1099511627776)
def SecR.news (s : SecR) (n : Int) : Bool := s.z.isNone || oO n s.soa.serial
def SecR.failed (s : SecR) (now : Int) : SecR := if DJ now = true then { s with take := false, next := now + s.soa.retry } else s
def SecR.fresh (s : SecR) (now : Int) : SecR := { s with take := false, next := now + s.soa.refresh, til := now + s.soa.expire }
def SecR.inst (s : SecR) (l : List Rec) : ZE := sQ s.o s.l s.og l
def SecR.withZ (s : SecR) (q : ZE) : SecR := { s with z := some (q.o, q.l) }
def SecR.got (s : SecR) (l : List Rec) (now : Int) : SecR :=
 if DJ now = false then s else
 if (s.inst l).e = 5 ∧ s.z.isSome = true then s.fresh now else
 if (s.inst l).e ≠ 0 then s.failed now else (s.withZ (s.inst l)).fresh now
def SecR.up (s : SecR) (now : Int) : Bool := DJ now && (s.z.isSome && decide (now < s.til))
def QD (og : List UInt8) (retry : Int) : Int := if eP og ≠ 0 ∨ retry < 1 ∨ 2147483647 < retry then 1 else 0
def DK (og : List UInt8) (retry : Int) : SecR := ⟨og, retry, none, 0, 0, false⟩
structure SecOk (s : SecR) : Prop where
 og : eP s.og = 0
 retry : 1 ≤ s.retry ∧ s.retry ≤ 2147483647
 zone : ∀ o l, s.z = some (o, l) → ZoneOk o l ∧ o = fold s.og
theorem LV {o : List UInt8} {l : List RSet} (h : ZoneOk o l) : (eK o l).ok = true := by
 obtain ⟨s, _, _, _, _, _, hp, _⟩ := h.soaSet
 rw [eK, if_pos (mU h)]
 exact JG hp
theorem GX {o : List UInt8} {l : List RSet} (h : ZoneOk o l) : 0 ≤ (eK o l).serial ∧ (eK o l).serial ≤ 4294967295 ∧ 0 ≤ (eK o l).refresh ∧ (eK o l).refresh ≤ 2147483647 ∧ 0 ≤ (eK o l).retry ∧ (eK o l).retry ≤ 2147483647 ∧ 0 ≤ (eK o l).expire ∧ (eK o l).expire ≤ 2147483647 := by
 have := LV h
 simp only [SoaR.ok, iQ, Bool.and_eq_true, decide_eq_true_eq] at this
 omega
theorem ZoneOk.ne {o : List UInt8} {l : List RSet} (h : ZoneOk o l) : l ≠ [] := by
 rintro rfl
 have := h.soa
 simp [cC] at this
theorem SecOk.soa {s : SecR} (h : SecOk s) : 0 ≤ s.soa.refresh ∧ s.soa.refresh ≤ 2147483647 ∧ 0 ≤ s.soa.retry ∧ s.soa.retry ≤ 2147483647 ∧ 0 ≤ s.soa.expire ∧ s.soa.expire ≤ 2147483647 := by
 have hr := h.retry
 unfold SecR.soa
 split
 ·simp only; omega
 ·rename_i z hz
  have := GX (h.zone z.1 z.2 hz).1
  omega
theorem SecOk.old {s : SecR} (h : SecOk s) : (s.l = [] ↔ s.z = none) ∧ (s.l = [] ∨ s.o = fold s.og) := by
 unfold SecR.l SecR.o
 split
 ·rename_i hz; simp [hz]
 ·rename_i z hz
  have := h.zone z.1 z.2 hz
  refine ⟨⟨fun e => absurd e this.1.ne, fun e => by rw [hz] at e; cases e⟩, .inr this.2⟩
theorem SecOk.of {s t : SecR} (h : SecOk s) (h1 : t.og = s.og) (h2 : t.retry = s.retry) (h3 : t.z = s.z) : SecOk t := ⟨by rw [h1]; exact h.og, by rw [h2]; exact h.retry, by rw [h1, h3]; exact h.zone⟩
theorem SecOk.new {og : List UInt8} {retry : Int} (h : QD og retry = 0) : SecOk (DK og retry) := by
 unfold QD at h
 split at h
 ·cases h
 ·rename_i c
  refine ⟨?_, ?_, ?_⟩
  ·unfold DK; simp only
   exact Decidable.byContradiction fun e => c (.inl e)
  ·unfold DK; simp only
   omega
  ·intro o l e; cases e
theorem SecOk.failed {s : SecR} (h : SecOk s) (now : Int) : SecOk (s.failed now) := by
 unfold SecR.failed; split <;> first | exact h | exact h.of rfl rfl rfl
theorem SecOk.fresh {s : SecR} (h : SecOk s) (now : Int) : SecOk (s.fresh now) := h.of rfl rfl rfl
theorem SecOk.inst {s : SecR} (h : SecOk s) {l : List Rec} (he : (s.inst l).e = 0) : ZoneOk (s.inst l).o (s.inst l).l ∧ (s.inst l).o = fold s.og ∧ (∀ o l', s.z = some (o, l') → oO (eK (s.inst l).o (s.inst l).l).serial (eK o l').serial = true) := by
 obtain ⟨a, b, c⟩ := LU (oo := s.o) (lo := s.l) (og := s.og) he
 obtain ⟨h1, h2⟩ := h.old
 refine ⟨a, b h2, fun o l' hz => ?_⟩
 have := c (fun e => by rw [h1.1 e] at hz; cases hz)
 unfold SecR.o SecR.l at this
 rw [hz] at this
 unfold SecR.inst SecR.o SecR.l
 rw [hz]
 exact this
theorem SecOk.got {s : SecR} (h : SecOk s) (l : List Rec) (now : Int) : SecOk (s.got l now) := by
 unfold SecR.got
 split
 ·exact h
 ·split
  ·exact h.fresh now
  ·split
   ·exact h.failed now
   ·rename_i c
    obtain ⟨a, b, _⟩ := h.inst (l := l) (by simpa using c)
    refine SecOk.fresh (s := s.withZ (s.inst l)) ⟨h.og, h.retry, ?_⟩ now
    intro o l' e
    simp only [SecR.withZ, Option.some.injEq, Prod.mk.injEq] at e
    obtain ⟨rfl, rfl⟩ := e
    exact ⟨a, b⟩
open Go.ChangeShapes Go.WideShapes Go.ChangeAt Go.RowKit
theorem DL {H : Type} {enc : TypeId × Value → H} {w : World} {base : Nat} {spare : Nat → Bool} {held : Bool} {fuel : Nat} {v : Value} {x : DataW H × List MemPlace} (h : DataW.trod enc Tryz.prog w base spare held fuel 93 [v] = some x) : ∃ l : List (List UInt8), Sl 1 w v (aS l) := by
 obtain ⟨es, hs, he⟩ := qY Tryz.underlying93 (show Tryz.prog.cellsOf 9 = 1 by kernel_rfl) (by omega) h
 obtain ⟨l, rfl⟩ : ∃ l : List (List UInt8), es = l.map fun s => [aI s] := by
  refine tF fun c hc => ?_
  obtain ⟨n, y, hy⟩ := he c hc
  have hl : c.length = 1 := by
   obtain ⟨_, _, _, _, _, h4, _, _⟩ := hs
   exact h4 c hc
  match c, hl with
  | [a], _ =>
   obtain ⟨s, rfl, _⟩ := pK Tryz.underlying9 hy
   exact ⟨s, rfl⟩
 exact ⟨l, hs⟩
theorem GY {H : Type} {enc : TypeId × Value → H} {w : World} {base : Nat} {spare : Nat → Bool} {held : Bool} {fuel : Nat} {v : Value} {x : DataW H × List MemPlace} (h : DataW.trod enc Tryz.prog w base spare held fuel 48 [v] = some x) : ∃ l : List RSet, SetsAt w v l := by
 obtain ⟨es, hs, he⟩ := qY Tryz.underlying48 (show Tryz.prog.cellsOf 131 = 4 by kernel_rfl) (by omega) h
 obtain ⟨l, rfl⟩ : ∃ l : List {p : RSet × Value // Sl 1 w p.2 (aS p.1.data)}, es = l.map fun p => [aI p.1.1.name, .int .i64 p.1.1.kind, .int .i64 p.1.1.ttl, p.1.2] := by
  refine tF fun c hc => ?_
  obtain ⟨n, y, hy⟩ := he c hc
  obtain ⟨xs, n', _, _, hl, hxl, hf⟩ := DataW.trod_struct Tryz.underlying131 hy
  have c30 : Tryz.prog.cellsOf 47 = 1 := by kernel_rfl
  have c3 : Tryz.prog.cellsOf 3 = 1 := by kernel_rfl
  have c35 : Tryz.prog.cellsOf 93 = 1 := by kernel_rfl
  have c37 : Tryz.prog.cellsOf 131 = 4 := by kernel_rfl
  rw [c37] at hl
  match c, hl, xs, hxl with
  | [a, b, d, e], _, [y0, y1, y2, y3], _ =>
   have g0 := hf 0 _ rfl
   have g1 := hf 1 _ rfl
   have g2 := hf 2 _ rfl
   have g3 := hf 3 _ rfl
   simp [c30, c3, c35] at g0 g1 g2 g3
   obtain ⟨s0, rfl, _⟩ := pK Tryz.underlying47 g0
   obtain ⟨n1, rfl, _⟩ := AH Tryz.underlying3 g1
   obtain ⟨n2, rfl, _⟩ := AH Tryz.underlying3 g2
   obtain ⟨ts, hts⟩ := DL g3
   exact ⟨⟨(⟨s0, n1, n2, ts⟩, e), hts⟩, rfl⟩
 refine ⟨l.map fun p => p.1.1, _, hs, by simp, ?_⟩
 intro i s hi
 rw [List.getElem?_map] at hi
 obtain ⟨p, hp, rfl⟩ := Option.map_eq_some_iff.1 hi
 exact ⟨p.1.2, by rw [List.getElem?_map, hp]; rfl, p.2⟩
open Go.ChangeShapes Go.WideShapes Go.ChangeAt Go.RowKit
theorem GZ {H : Type} {enc : TypeId × Value → H} {w : World} {base : Nat} {spare : Nat → Bool} {held : Bool} {fuel : Nat} {c : Array Value} {x : DataW H × List MemPlace} (h : DataW.trod enc Tryz.prog w base spare held fuel 50 (Value.agg c).cells.toList = some x) : ∃ (o : List UInt8) (l : List RSet) (u : Value), c = #[aI o, u] ∧ SetsAt w u l := by
 have e : (Value.agg c).cells.toList = c.toList := rfl
 rw [e] at h
 obtain ⟨xs, n', _, _, hl, hxl, hf⟩ := DataW.trod_struct Tryz.underlying50 h
 have c30 : Tryz.prog.cellsOf 47 = 1 := by kernel_rfl
 have c25 : Tryz.prog.cellsOf 48 = 1 := by kernel_rfl
 have c43 : Tryz.prog.cellsOf 50 = 2 := by kernel_rfl
 rw [c43] at hl
 obtain ⟨cl⟩ := c
 match cl, hl, xs, hxl with
 | [a, b], _, [y0, y1], _ =>
  have g0 := hf 0 _ rfl
  have g1 := hf 1 _ rfl
  simp [c30, c25] at g0 g1
  obtain ⟨s0, rfl, _⟩ := pK Tryz.underlying47 g0
  obtain ⟨l, hls⟩ := GY g1
  exact ⟨s0, l, b, rfl, hls⟩
abbrev mJ := List UInt8 × Int
structure MsgR where
 id : Int
 resp : Bool
 op : Int
 auth : Bool
 trunc : Bool
 want : Bool
 avail : Bool
 rcode : Int
 qs : List mJ
 an : List Rec
 au : List Rec
 ex : List Rec
 size : Int
 deriving DecidableEq, Inhabited
def cH (l : List mJ) : List (List Value) := l.map fun q => [aI q.1, .int .i64 q.2]
theorem cB (l : List mJ) : (cH l).length = l.length := by simp [cH]
def aV (m : MsgR) (q a u e : Value) : List Value := [.int .i64 m.id, .bool m.resp, .int .i64 m.op, .bool m.auth, .bool m.trunc, .bool m.want, .bool m.avail, .int .i64 m.rcode, q, a, u, e, .int .i64 m.size]
structure MsgV (w : World) (m : MsgR) (q a u e : Value) : Prop where
 qs : Sl 2 w q (cH m.qs)
 an : Sl 4 w a (aR m.an)
 au : Sl 4 w u (aR m.au)
 ex : Sl 4 w e (aR m.ex)
theorem MsgV.ext {w w' : World} {m : MsgR} {q a u e : Value} (h : MsgV w m q a u e) (hx : Ext w w') : MsgV w' m q a u e := ⟨h.qs.ext hx, h.an.ext hx, h.au.ext hx, h.ex.ext hx⟩
theorem MsgV.one {w : World} {m : MsgR} {q a u e : Value} (h : MsgV w m q a u e) : ∀ x ∈ aV m q a u e, x.oneCell' = true := by
 intro x hx
 simp only [aV, List.mem_cons, List.not_mem_nil, or_false] at hx
 rcases hx with rfl | rfl | rfl | rfl | rfl | rfl | rfl | rfl | rfl | rfl | rfl | rfl | rfl
 all_goals first | rfl | exact h.qs.one | exact h.an.one | exact h.au.one | exact h.ex.one
def zeroM : MsgR := ⟨0, false, 0, false, false, false, false, 0, [], [], [], [], 0⟩
theorem MsgV.zero (w : World) : MsgV w zeroM (.slice none 0 0) (.slice none 0 0) (.slice none 0 0) (.slice none 0 0) := ⟨Sl.nil _ _, Sl.nil _ _, Sl.nil _ _, Sl.nil _ _⟩
def qU (q : mJ) : Bool := decide (eP q.1 = 0) && (decide (1 ≤ q.2) && decide (q.2 ≤ 65535)) && !decide (q.2 = 41)
def fX (l : List Rec) : Bool := decide (l.length ≤ 200) && !(l.any fun r => !decide (bF r = 0))
def fY (n least most : Int) : Bool := decide (least ≤ n) && decide (n ≤ most)
def cL (m : MsgR) : Int :=
 if fY m.id 0 65535 && fY m.op 0 15 && fY m.rcode 0 15 && (decide (m.size = 0) || fY m.size 512 65535) && (decide (m.qs.length ≤ 10) && m.qs.all qU) && (fX m.an && fX m.au && fX m.ex) then 0 else 1
open Go.ChangeShapes Go.WideShapes Go.ChangeAt Go.RowKit
theorem own : ownKnob Tryz.prog.godebug = none := by kernel_rfl
theorem QS : laidOutB Tryz.prog = true := by kernel_rfl
def OI : List UInt8 := [2, 110, 115, 1, 97, 0, 1, 109, 0, 0, 0, 0, 5, 0, 0, 0, 10, 0, 0, 0, 3, 0, 0, 0, 100, 0, 0, 0, 4]
def BV : List Rec := [⟨[1, 97], 6, 9, OI⟩, ⟨[1, 97], 2, 9, [2, 110, 115, 1, 97, 0]⟩, ⟨[2, 110, 115, 1, 97], 1, 9, [49, 49, 49, 49]⟩]
def LW : List RSet := [⟨[1, 97], 2, 9, [[2, 110, 115, 1, 97, 0]]⟩, ⟨[1, 97], 6, 9, [OI]⟩, ⟨[2, 110, 115, 1, 97], 1, 9, [[49, 49, 49, 49]]⟩]
theorem QE : ∀ s ∈ LW, s.data.length ≤ 1000000 := by decide +kernel
theorem QF : ∀ r ∈ BV, r.data.length ≤ 4611686018427387904 := by decide +kernel
theorem JX (w : World) : Calls Tryz.prog 27 #[] w (sX w fun r w' => Sl 4 w' r (aR BV)) := by
 go_enter Tryz.func27, Tryz.ntmps27
 refine_lift OZ ?_; intro _ _ _
 refine_lift gA fun _ _ => ?_
 refine cT (v := .agg #[aI [1, 97], .int .i64 6, .int .i64 9, aI OI]) rfl (Runs.build rfl (by kernel_rfl)) ?_
 refine aA ?_
 refine cT (v := .agg #[aI [1, 97], .int .i64 2, .int .i64 9, aI [2, 110, 115, 1, 97, 0]]) rfl (Runs.build rfl (by kernel_rfl)) ?_
 refine aA ?_
 refine cT (v := .agg #[aI [2, 110, 115, 1, 97], .int .i64 1, .int .i64 9, aI [49, 49, 49, 49]]) rfl (Runs.build rfl (by kernel_rfl)) ?_
 refine aA ?_
 refine bT (e := 106) (k := 4) (bytes := 48) (xs := BV.map fun r => .agg r.cells.toArray) rfl rfl rfl (by intro x hx; obtain ⟨r, _, rfl⟩ := List.mem_map.1 hx; rfl) (by decide +kernel) (by decide +kernel) ?_
 intro v1 w1 x1 s1 sl1 _
 have sl1' : Sl 4 w1 v1 (aR BV) := by simpa [aR, Value.cells, List.map_map, Function.comp_def] using sl1
 refine aA ?_
 refine_lift dL ?_
 go_ret
 exact ⟨_, rfl, x1, sl1'⟩
end Go.Proofs.X
set_option linter.unusedSimpArgs false
set_option linter.unusedVariables false
namespace Go.Proofs.X
open Go.RowKit
end Go.Proofs.X
set_option linter.unusedSimpArgs false
set_option linter.unusedVariables false
namespace Go.Proofs.X
open Go.RowKit
set_option maxRecDepth 100000
end Go.Proofs.X
