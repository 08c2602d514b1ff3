/- Laws and walks that the proof of the statement is made of (part 10). -/
import Derived.Test.YtgljkfpcadempaaGreatRows
import Derived.Test.YtgljkfpcadempaaGreatP9
set_option linter.unusedSimpArgs false
set_option linter.unusedVariables false
namespace Go.Proofs.X
open Go.RowKit
set_option maxRecDepth 100000
theorem AZ (k : Int) (d : List UInt8) : (aV (fold (bE k d).1)).isSome = true := by
 have h0 : (aV (fold [])).isSome = true := rfl
 unfold bE
 split
 ·exact h0
 ·split
  ·exact h0
  ·split
   ·exact h0
   ·rename_i n hn
    unfold gX at hn
    split at hn
    ·rename_i hh
     cases hn
     rw [rV]
     exact hh.2
    ·cases hn
theorem xK (l : List RSet) (n : List UInt8) : (dG l n).length ≤ l.length := by
 unfold dG
 split <;> exact HV _ _ _
theorem yN : ∀ {L : List RSet}, (∀ s ∈ L, s.data.length ≤ 20) → (bD L).length ≤ 20 * L.length
 | [], _ => by simp [bD]
 | s :: L, h => by
   have e : bD (s :: L) = dM s ++ bD L := by simp [bD]
   have ih := yN (L := L) fun t ht => h t (by simp [ht])
   have := h s (by simp)
   rw [e, List.length_append, dM, List.length_map, List.length_cons]
   omega
structure StepA (w0 : World) (b : Nat) (o : List UInt8) (v : Value) (A : List Rec) (r : StepR) (w' : World) : Prop where
 ext : Ext w0 w'
 out : ∃ a u, w'.heap[b]? = some (.cells (gH o v r.kind a u (.slice none 0 0)).toArray 116 (0, 0)) ∧ Own w0.heap.size 4 106 w' a (aT (A ++ r.ans)) ∧ Own w0.heap.size 4 106 w' u (aT r.auth) ∧ (r.more = true → u = .slice none 0 0)
theorem StepA.of {w0 w1 w' : World} {b : Nat} {o : List UInt8} {v : Value} {A : List Rec} {r : StepR} {a u : Value} {row : Option Nat} {cs : List Value} (hx : Ext w0 w1) (hm : Mv row w1 w') (hrow : row = some b) (hbk : w0.heap.size ≤ b)
 (hb1 : w1.heap[b]? = some (.cells cs.toArray 116 (0, 0))) (hb : w'.heap[b]? = some (.cells (gH o v r.kind a u (.slice none 0 0)).toArray 116 (0, 0))) (ha : Own w0.heap.size 4 106 w1 a (aT (A ++ r.ans))) (hu : Own w0.heap.size 4 106 w1 u (aT r.auth)) (hn : r.more = true → u = .slice none 0 0 := by (intro h; cases h)) : StepA w0 b o v A r w' := by
 subst hrow
 exact ⟨hx.move hm (by rintro k ⟨⟩; exact hbk), a, u, hb, ha.mv hm (.inr (ha.neBlock hb1 (by decide))), hu.mv hm (.inr (hu.neBlock hb1 (by decide))), hn⟩
set_option maxHeartbeats 8000000 in
theorem MT (b : Nat) (o : List UInt8) (v : Value) (l : List RSet) (n : List UInt8) (k c : Int) (a : Value) (A : List Rec) (w0 w : World) (hx : Ext w0 w) (hv : SetsAt w0 v l) (hz : ZoneOk o l) (hbk : w0.heap.size ≤ b)
 (hb : w.heap[b]? = some (.cells (gH o v 0 a (.slice none 0 0) (.slice none 0 0)).toArray 116 (0, 0))) (ha : Own w0.heap.size 4 106 w a (aT A)) (hn : (aV n).isSome = true) (hA : A.length ≤ 100000) :
 Calls Tryz.prog 66 #[.pointer (some ⟨b, 0, none⟩), aH n, .int .i64 k, .int .i64 c] w fun e w' => e = .returned (.tuple #[aH (cN o l n k c).next, .bool (cN o l n k c).more]) ∧ StepA w0 b o v A (cN o l n k c) w' := by
 have hzb := qV hz
 have hzr := mO hz
 have hblt := (Array.getElem?_eq_some_iff.1 hb).1
 go_enter Tryz.func66, Tryz.ntmps66
 repeat' (first | ((with_reducible refine aJ ?_); go_step) | fail)
 refine bR (vs := [.int .i64 k]) rfl rfl ?_
 intro pk w1 x1 hk
 refine aA ?_
 have hx1 := hx.trans x1
 have hb1 := x1.at hb
 obtain ⟨hp, hp0, hp2⟩ := iM hb1
 have ha1 := ha.ext x1
 have hv1 := hv.ext hx1
 (repeat' first | ((with_reducible refine aJ ?_); go_step) | ((with_reducible refine aI ?_); first | refine bM ?_ | (refine aL ?_ ?_ <;> intro hc)) | fail)
 refine aE (enters_of Tryz.func64 rfl rfl) rfl rfl (pP n o _) ?_; intro w2 x2; refine aA ?_
 have hb2 := x2.at hb1
 have hx2 := hx1.trans x2
 have ha2 := ha1.ext x2
 cases hu : bS n o with
 | false =>
  (repeat' first | ((with_reducible refine aJ ?_); go_step) | ((with_reducible refine aI ?_); first | refine bM ?_ | (refine aL ?_ ?_ <;> intro hc)) | fail)
  ·refine aN (Runs.fieldA (off := 2) rfl (by decide +kernel)) ?_
   refine aA ?_
   (repeat' first | ((with_reducible refine aJ ?_); go_step) | ((with_reducible refine aI ?_); first | refine bM ?_ | (refine aL ?_ ?_ <;> intro hc)) | fail)
   refine aO (n := 2) hb2 rfl rfl rfl (by simp [gH]) (by decide +kernel) rfl ?_
   intro w3 p3
   (repeat' first | ((with_reducible refine aJ ?_); go_step) | ((with_reducible refine aI ?_); first | refine bM ?_ | (refine aL ?_ ?_ <;> intro hc)) | fail)
   go_ret2
   have hr : cN o l n k c = ⟨4, [], [], [], false⟩ := by rw [cN, if_pos hu, if_pos ‹c = 0›]
   rw [hr]
   exact ⟨rfl, StepA.of hx2 p3.mv rfl hbk hb2 p3.this (by rw [List.append_nil]; exact ha2) (Own.nil _ _ _ _)⟩
  ·have hr : cN o l n k c = ⟨0, [], [], [], false⟩ := by rw [cN, if_pos hu, if_neg ‹¬ c = 0›]
   go_ret2
   rw [hr]
   exact ⟨rfl, StepA.of hx2 (Mv.refl _ _) rfl hbk hb2 hb2 (by rw [List.append_nil]; exact ha2) (Own.nil _ _ _ _)⟩
 | true =>
  have hu' : ¬ bS n o = false := by simp [hu]
  (repeat' first | ((with_reducible refine aJ ?_); go_step) | ((with_reducible refine aI ?_); first | refine bM ?_ | (refine aL ?_ ?_ <;> intro hc)) | fail)
  have c39 : ∀ w', SetsAt w' v l → Calls Tryz.prog 118 #[.agg #[aH o, v], aH n] w' (bO w' (.tuple #[aH (fF o l n).1, .bool (fF o l n).2])) := fun w' h => by
   have := OK o v l n w' h hzb
   rw [if_pos hzr, uA hz.chk] at this
   exact this
  have hv2 := hv1.ext x2
  refine aE (enters_of Tryz.func118 rfl rfl) rfl rfl (c39 _ hv2) ?_; intro w3 x3; refine aA ?_
  have hb3 := x3.at hb2
  have hx3 := hx2.trans x3
  have ha3 := ha2.ext x3
  have hv3 := hv2.ext x3
  have hk3 := (hk.ext x2).ext x3
  obtain ⟨qp, qp0, qp2⟩ := iM hb3
  clear hp hp0 hp2
  cases hc : (fF o l n).2 with
  | true =>
   (repeat' first | ((with_reducible refine aJ ?_); go_step) | ((with_reducible refine aI ?_); first | refine bM ?_ | (refine aL ?_ ?_ <;> intro hc)) | fail)
   refine aR (enters_of Tryz.func112 rfl rfl) rfl rfl (NU v l (fF o l n).1 2 _ hv3 (fun s hs => by have := hzb s hs; omega)) ?_
   intro r4 w4 x4 hr4
   obtain ⟨y4, rfl, hy4⟩ := pQ hr4
   clear hr4
   (repeat' first | ((with_reducible refine aJ ?_); go_step) | ((with_reducible refine aI ?_); first | refine bM ?_ | (refine aL ?_ ?_ <;> intro hc)) | fail)
   refine aP (z := mN) rfl (by decide +kernel) ?_
   intro w5 x5 s5 h5
   refine aA ?_
   refine aG (v := .agg #[aH ((cB l (fF o l n).1 2).getD dU).name, .int .i64 ((cB l (fF o l n).1 2).getD dU).kind, .int .i64 ((cB l (fF o l n).1 2).getD dU).ttl, y4]) rfl rfl rfl h5 (show aX Tryz.prog 131 4 = true by decide +kernel) rfl (iI rfl rfl rfl hy4.one) ?_
   intro w6 p6
   have x6 : Ext w4 w6 := x5.move p6.mv (by rintro k ⟨⟩; exact Nat.le_refl _)
   have h6 := aD (cs := [aH ((cB l (fF o l n).1 2).getD dU).name, .int .i64 ((cB l (fF o l n).1 2).getD dU).kind, .int .i64 ((cB l (fF o l n).1 2).getD dU).ttl, y4]) p6.this
   have x36 := x4.trans x6
   have hx6 := hx3.trans x36
   have hb6 := x36.at hb3
   have ha6 := ha3.ext x36
   have y6 := hy4.ext x6
   clear p6 h5 x5
   (repeat' first | ((with_reducible refine aJ ?_); go_step) | ((with_reducible refine aI ?_); first | refine bM ?_ | (refine aL ?_ ?_ <;> intro hc)) | fail)
   refine bK (e := 131) (k := 4) (bytes := 56) (xs := [.agg #[aH ((cB l (fF o l n).1 2).getD dU).name, .int .i64 ((cB l (fF o l n).1 2).getD dU).kind, .int .i64 ((cB l (fF o l n).1 2).getD dU).ttl, y4]]) rfl rfl rfl (by simp [Value.cells]) (by decide +kernel) (by simp) ?_
   intro v8 w8 x8 _ sl8 _
   refine aA ?_
   have hs8 : SetsAt w8 v8 [(cB l (fF o l n).1 2).getD dU] := (SetsC.one (s := (cB l (fF o l n).1 2).getD dU) (y6.ext x8)).sets sl8
   have hlen : (bD [(cB l (fF o l n).1 2).getD dU]).length ≤ 1000000 := by
    rw [← jP]
    have := gP (fun s hs => (mT (hz.may hs)).2) (fF o l n).1 2
    omega
   (repeat' first | ((with_reducible refine aJ ?_); go_step) | ((with_reducible refine aI ?_); first | refine bM ?_ | (refine aL ?_ ?_ <;> intro hc)) | fail)
   refine aR (enters_of Tryz.func119 rfl rfl) rfl rfl (OI v8 _ _ hs8 hlen) ?_
   intro r9 w9 x9 o9
   rw [← jP] at o9
   refine aA ?_
   have x69 := x8.trans x9
   have hx9 := hx6.trans x69
   have hb9 := x69.at hb6
   have ha9 := ha6.ext x69
   have zz : w0.heap.size ≤ w8.heap.size := (hx6.trans x8).size
   (repeat' first | ((with_reducible refine aJ ?_); go_step) | ((with_reducible refine aI ?_); first | refine bM ?_ | (refine aL ?_ ?_ <;> intro hc)) | fail)
   refine aN (Runs.fieldA (off := 2) rfl (by decide +kernel)) ?_
   refine aA ?_
   (repeat' first | ((with_reducible refine aJ ?_); go_step) | ((with_reducible refine aI ?_); first | refine bM ?_ | (refine aL ?_ ?_ <;> intro hc)) | fail)
   refine aO (n := 2) hb9 rfl rfl rfl (by simp [gH]) (by decide +kernel) rfl ?_
   intro w10 p10
   have hb10 : w10.heap[b]? = some (.cells (gH o v 3 a (.slice none 0 0) (.slice none 0 0)).toArray 116 (0, 0)) := p10.this
   obtain ⟨ap, ap0, ap2⟩ := iM hb10
   (repeat' first | ((with_reducible refine aJ ?_); go_step) | ((with_reducible refine aI ?_); first | refine bM ?_ | (refine aL ?_ ?_ <;> intro hc)) | fail)
   refine aN (Runs.fieldA (off := 2) rfl (by decide +kernel)) ?_
   refine aA ?_
   (repeat' first | ((with_reducible refine aJ ?_); go_step) | ((with_reducible refine aI ?_); first | refine bM ?_ | (refine aL ?_ ?_ <;> intro hc)) | fail)
   refine aO (n := 4) hb10 rfl rfl rfl (by simp [gH]) (by decide +kernel) o9.sl.one ?_
   intro w11 p11
   (repeat' first | ((with_reducible refine aJ ?_); go_step) | ((with_reducible refine aI ?_); first | refine bM ?_ | (refine aL ?_ ?_ <;> intro hc)) | fail)
   go_ret2
   have hr : cN o l n k c = ⟨3, [], eY (cB l (fF o l n).1 2), [], false⟩ := by rw [cN, if_neg hu', if_pos hc]
   rw [hr]
   exact ⟨rfl, StepA.of hx9 (p10.mv.trans p11.mv) rfl hbk hb9 p11.this (by rw [List.append_nil]; exact ha9) (o9.weaken zz)⟩
  | false =>
   have hc' : ¬ (fF o l n).2 = true := by simp [hc]
   (repeat' first | ((with_reducible refine aJ ?_); go_step) | ((with_reducible refine aI ?_); first | refine bM ?_ | (refine aL ?_ ?_ <;> intro hc)) | fail)
   refine aR (enters_of Tryz.func120 rfl rfl) rfl rfl (MS o v l n w0 _ hx3 hv hz hn) ?_
   intro r4 w4 x4 hr4
   obtain ⟨u, css, rfl, ho, hcs⟩ := hr4
   have hx4 := hx3.trans x4
   have hb4 := x4.at hb3
   have ha4 := ha3.ext x4
   have hk4 := hk3.ext x4
   have z34 := hx3.size
   obtain ⟨sp, sp0, sp2⟩ := iM hb4
   clear qp qp0 qp2
   have hne : a.ownBlock ≠ some b := ha4.neBlock hb4 (by decide)
   cases hsb : xG l n with
   | false =>
    (repeat' first | ((with_reducible refine aJ ?_); go_step) | ((with_reducible refine aI ?_); first | refine bM ?_ | (refine aL ?_ ?_ <;> intro hc)) | fail)
    refine aF (enters_of Tryz.func121 rfl rfl) rfl rfl (AX b o v l 0 2 a w0 _ hx4 hv hz hbk hb4 ha4.sl.one) ?_
    rintro e w5 ⟨rfl, x5, m5, u5, b5, o5⟩
    refine ⟨_, rfl, ?_⟩
    refine aA ?_
    (repeat' first | ((with_reducible refine aJ ?_); go_step) | ((with_reducible refine aI ?_); first | refine bM ?_ | (refine aL ?_ ?_ <;> intro hc)) | fail)
    go_ret2
    have hr : cN o l n k c = ⟨2, [], [eS o l], [], false⟩ := by rw [cN, if_neg hu', if_neg hc', if_pos hsb]
    rw [hr]
    exact ⟨rfl, x5, a, u5, b5, by rw [List.append_nil]; exact ha4.mv m5 (.inr hne), o5.weaken hx4.size, fun h => by cases h⟩
   | true =>
    have hsb' : ¬ xG l n = false := by simp [hsb]
    have hL : SetsAt w4 u (dG l n) := (hcs.ext hx4).sets ho.sl
    have hf1 : SetFn w4 123 #[] (dG l n) eJ := fun s _ x w' _ _ => KK s x w'
    have hcl := hcs.len
    have hl200 := uS hz
    have hspl := xK l n
    (repeat' first | ((with_reducible refine aJ ?_); go_step) | ((with_reducible refine aI ?_); first | refine bM ?_ | (refine aL ?_ ?_ <;> intro hc)) | fail)
    refine aE (enters_of Tryz.func122 rfl rfl) rfl rfl (jN u (dG l n) 123 #[] eJ _ hL (enters_of Tryz.func123 rfl rfl) hf1) ?_; intro w5 x5; refine aA ?_
    have hx5 := hx4.trans x5
    have hb5 := x5.at hb4
    have ha5 := ha4.ext x5
    have ho5 := ho.ext x5
    have hk5 := hk4.ext x5
    by_cases hal : (dG l n).any eJ = true ∧ k ≠ 5 ∧ k ≠ 255
    ·rcases nG eJ (dG l n) with ⟨i, hi, hidx, hpi, hfind⟩ | ⟨_, hno⟩
     ·rw [hidx]
      have hset : cX l n = (dG l n)[i] := by rw [cX, hfind]; rfl
      obtain ⟨h51, h52⟩ := hal.2
      have hcut : ((dG l n).take (i + 1)).drop i = [cX l n] := by
       rw [hset, List.take_succ_eq_append_getElem hi, List.drop_append]
       simp [Nat.min_eq_left (Nat.le_of_lt hi)]
      obtain ⟨x, hcx, hdx⟩ := hcs.row hi
      rw [← hset] at hcx hdx
      have hmem : cX l n ∈ dG l n := by rw [hset]; exact List.getElem_mem hi
      obtain ⟨hrne, hd20, hd1⟩ := mU hz.chk hmem
      have hsl5 := ho5.sl
      have hdl : ((cX l n).data.getD 0 []).length ≤ 9223372036854775807 := by
       obtain ⟨t, ht, _, _, e3, _⟩ := oN hz.chk hmem
       have := lN hz t ht ((cX l n).data.getD 0 []) (by rw [e3, List.getD_eq_getElem?_getD, List.getElem?_eq_getElem (by rw [← e3]; omega)]; simp)
       omega
      have hd0 : (aS (cX l n).data)[0]? = some [aH ((cX l n).data.getD 0 [])] := oF _ _ _ (by rw [List.getD_eq_getElem?_getD, List.getElem?_eq_getElem (by omega)]; simp)
      (repeat' first | ((with_reducible refine aJ ?_); go_step) | ((with_reducible refine aI ?_); first | refine bM ?_ | (refine aL ?_ ?_ <;> intro hc)) | fail)
      ·have hr : cN o l n k c = ⟨0, [], [], [], false⟩ := by rw [cN, if_neg hu', if_neg hc', if_neg hsb', if_pos hal, if_pos ‹c = 8›]
       go_ret2
       rw [hr]
       exact ⟨rfl, StepA.of hx5 (Mv.refl _ _) rfl hbk hb5 hb5 (by rw [List.append_nil]; exact ha5) (Own.nil _ _ _ _)⟩
      ·have hc8 := ‹¬ c = 8›
       refine cA 12 (Ext w5) (by decide +kernel) ?_
       intro w6 x6 _
       refine ⟨x6, ?_⟩
       refine MB 0 ?_
       refine BR 1 ?_; refine BR 2 ?_
       refine cQ (i := 3) rfl rfl rfl (by decide +kernel) (by decide +kernel) (by decide +kernel) rfl (fun _ => Runs.fieldA (off := 2) rfl (by decide +kernel)) (fun _ _ _ h => h) ?_; refine aA ?_
       refine BR 4 ?_; refine BR 5 ?_; refine BR 6 ?_; refine BR 7 ?_; refine BR 8 ?_; refine BR 9 ?_
       refine aY (i := 10) (v := dX u 4 i (i + 1)) rfl rfl (by decide +kernel) (by decide +kernel) (by decide +kernel) (by decide +kernel) (by decide +kernel) rfl (fun w' hF => Runs.cut (k := 4) (m := i) (n := i + 1) (es := css) rfl rfl (hsl5.ext hF) (by omega) (by omega) (by decide +kernel)) (fun _ _ _ h => h) ?_
       refine aA ?_
       refine bG (i := 11) (by decide +kernel) rfl rfl ?_
       have hs6 : SetsAt w6 (dX u 4 i (i + 1)) [cX l n] := by
        have h1 := ((hcs.ext (hx5.trans x6)).take (i + 1)).drop i
        rw [hcut] at h1
        exact h1.sets ((hsl5.ext x6).cut (by omega) (by omega))
       refine aR (enters_of Tryz.func119 rfl rfl) rfl rfl (OI _ _ _ hs6 (by rw [jO, dM, List.length_map]; omega)) ?_
       intro r7 w7 x7 o7
       rw [jO] at o7
       refine aA ?_
       have x57 := x6.trans x7
       have hb7 := x57.at hb5
       have ha7 := ha5.ext x57
       refine aK ⟨bW x57, ?_⟩
       refine bG (i := 12) (by decide +kernel) rfl rfl ?_
       refine dT (e := 106) (k := 4) rfl ha7 rfl o7.sl lM (hx5.trans x57).size (by rw [bA, bA, dM, List.length_map]; omega) ?_
       intro a8 w8 o8 m8 _
       refine aA ?_
       have hb8 := m8.at hb7 (fun e => hne e.symm)
       have hx8 := ha7.mvx m8 (hx5.trans x57) (Nat.le_refl _)
       have ho7 := ho5.ext x57
       have ho8 := ho7.mv m8 (ho7.ne ha7 (by decide))
       have hrc : aT A ++ aT (dM (cX l n)) = aT (A ++ dM (cX l n)) := by simp [aT]
       rw [hrc] at o8
       refine aK ⟨bX rfl, ?_⟩
       refine MB 13 ?_
       refine cQ (i := 14) rfl rfl rfl (by decide +kernel) (by decide +kernel) (by decide +kernel) rfl (fun _ => Runs.fieldA (off := 2) rfl (by decide +kernel)) (fun _ _ _ h => h) ?_; refine aA ?_
       refine cQ (i := 15) rfl rfl rfl (by decide +kernel) (by decide +kernel) (by decide +kernel) rfl (fun _ => Runs.fieldA (off := 1) rfl (by decide +kernel)) (fun _ _ _ h => h) ?_; refine aA ?_
       refine bG (i := 16) (by decide +kernel) rfl rfl ?_
       refine aO (n := 3) hb8 rfl rfl rfl (by simp [gH]) (by decide +kernel) o8.sl.one ?_
       intro w9 p9
       refine aK ⟨bX rfl, ?_⟩
       refine cR (by decide +kernel) ?_
       have hb9 : w9.heap[b]? = some (.cells (gH o v 0 a8 (.slice none 0 0) (.slice none 0 0)).toArray 116 (0, 0)) := p9.this
       have hx9 : Ext w0 w9 := hx8.move p9.mv (by rintro k ⟨⟩; exact hbk)
       have ho9 := ho8.mv p9.mv (.inr (ho8.neBlock hb8 (by decide)))
       have ha9 := o8.mv p9.mv (.inr (o8.neBlock hb8 (by decide)))
       have hs9 := ho9.sl
       have el9 := hs9.elem hcx
       have hd9 := hdx.ext hx9
       have ed9 := hd9.elem hd0
       have htl := bC (cX l n).data
       clear sp sp0 sp2 hsl5
       (repeat' first | ((with_reducible refine aJ ?_); go_step) | ((with_reducible refine aI ?_); first | refine bM ?_ | (refine aL ?_ ?_ <;> intro hc)) | fail)
       refine aE (enters_of Tryz.func105 rfl rfl) rfl rfl (PI 5 ((cX l n).data.getD 0 []) _ hdl) ?_; intro w10 x10; refine aA ?_
       (repeat' first | ((with_reducible refine aJ ?_); go_step) | ((with_reducible refine aI ?_); first | refine bM ?_ | (refine aL ?_ ?_ <;> intro hc)) | fail)
       refine aE (enters_of Tryz.func32 rfl rfl) rfl rfl (GP (bE 5 ((cX l n).data.getD 0 [])).1 _) ?_; intro w11 x11; refine aA ?_
       (repeat' first | ((with_reducible refine aJ ?_); go_step) | ((with_reducible refine aI ?_); first | refine bM ?_ | (refine aL ?_ ?_ <;> intro hc)) | fail)
       go_ret2
       have hr : cN o l n k c = ⟨0, dM (cX l n), [], fold (bE 5 ((cX l n).data.getD 0 [])).1, true⟩ := by rw [cN, if_neg hu', if_neg hc', if_neg hsb', if_pos hal, if_neg hc8]
       rw [hr]
       have x911 := x10.trans x11
       exact ⟨rfl, hx9.trans x911, a8, .slice none 0 0, x911.at hb9, ha9.ext x911, Own.nil _ _ _ _, fun _ => rfl⟩
      all_goals
       exfalso
       first
        | (have hq : ¬ (0 : Int) ≤ (i : Int) := by assumption
           omega)
        | (have hq : (!decide (k = 255)) = false := by assumption
           simp [h52] at hq)
        | (have hq : (!decide (k = 5)) = false := by assumption
           simp [h51] at hq)
     ·rw [hno.1] at hal; cases hal.1
    ·have hf2 : SetFn w1 125 #[pk] (dG l n) (fun s => !gO k s) := fun s _ x w' hx' _ => KL pk k s x w' (hk.ext hx')
     have x15 : Ext w1 w5 := x2.trans (x3.trans (x4.trans x5))
     have zb : w1.heap.size ≤ w3.heap.size := (x2.trans x3).size
     have hb5' := hb5
     have hkk : (dG l n).any eJ = true → k = 5 ∨ k = 255 := fun h => by
      by_cases h5 : k = 5
      ·exact .inl h5
      ·by_cases h6 : k = 255
       ·exact .inr h6
       ·exact absurd ⟨h, h5, h6⟩ hal
     have hfe : (dG l n).filter (fun s => !!gO k s) = (dG l n).filter (gO k) := by simp only [Bool.not_not]
     have hMl : ((dG l n).filter (gO k)).length ≤ 200 := Nat.le_trans (List.length_filter_le _ _) (by omega)
     have hM20 := yN (L := (dG l n).filter (gO k)) fun s hs => (mU hz.chk (List.mem_filter.1 hs).1).2.1
     have hany : lZ eJ (dG l n) = -1 ∨ ∃ i : Nat, lZ eJ (dG l n) = i ∧ (k = 5 ∨ k = 255) := by
      rcases nG eJ (dG l n) with ⟨i, hi, hidx, hpi, hfind⟩ | ⟨hidx, hno⟩
      ·exact .inr ⟨i, hidx, hkk (List.any_eq_true.2 ⟨_, List.getElem_mem hi, hpi⟩)⟩
      ·exact .inl hidx
     obtain ⟨j, hj, hjk⟩ : ∃ j : Int, lZ eJ (dG l n) = j ∧ (0 ≤ j → k = 5 ∨ k = 255) := by
      rcases hany with h | ⟨i, h, h2⟩
      ·exact ⟨-1, h, by omega⟩
      ·exact ⟨i, h, fun _ => h2⟩
     rw [hj]
     clear hany hj sp sp0 sp2
     (repeat' first | ((with_reducible refine aJ ?_); go_step) | ((with_reducible refine aI ?_); first | refine bM ?_ | (refine aL ?_ ?_ <;> intro hc)) | fail)
     all_goals first
      | (exfalso
         have q1 : (!decide (k = 5)) = true := by assumption
         have q2 : (!decide (k = 255)) = true := by assumption
         have q3 : 0 ≤ j := by assumption
         simp at q1 q2
         rcases hjk q3 with h | h
         ·exact q1 h
         ·exact q2 h)
      | skip
     all_goals
      refine aF (enters_of Tryz.func124 rfl rfl) rfl rfl (yM u (dG l n) css 125 #[pk] (fun s => !gO k s) w1 _ x15 zb ho5 (hcs.ext hx1) (enters_of Tryz.func125 rfl rfl) hf2) ?_
      rintro e w6 ⟨v6, css6, rfl, o6, c6, x6⟩
      refine ⟨_, rfl, ?_⟩
      refine aA ?_
      rw [hfe] at c6
      have hb6 := x6.at hb1
      have ha6 := ha1.ext x6
      have hx6 := hx1.trans x6
      have hs6 := (c6.ext x6).sets o6.sl
      have sl6 := o6.sl
      have cl6 := c6.len
      obtain ⟨rp, rp0, rp2⟩ := iM hb6
      generalize hM : (dG l n).filter (gO k) = M at *
      (repeat' first | ((with_reducible refine aJ ?_); go_step) | ((with_reducible refine aI ?_); first | refine bM ?_ | (refine aL ?_ ?_ <;> intro hc)) | fail)
      refine cA 8 (Ext w6) (by decide +kernel) ?_
      intro w7 x7 _
      refine ⟨x7, ?_⟩
      refine MB 0 ?_
      refine BR 1 ?_; refine BR 2 ?_
      refine cQ (i := 3) rfl rfl rfl (by decide +kernel) (by decide +kernel) (by decide +kernel) rfl (fun _ => Runs.fieldA (off := 2) rfl (by decide +kernel)) (fun _ _ _ h => h) ?_; refine aA ?_
      refine BR 4 ?_; refine BR 5 ?_; refine BR 6 ?_
      refine bG (i := 7) (by decide +kernel) rfl rfl ?_
      refine aR (enters_of Tryz.func119 rfl rfl) rfl rfl (OI v6 M _ (hs6.ext x7) (by omega)) ?_
      intro r8 w8 x8 o8
      refine aA ?_
      have x68 := x7.trans x8
      have hb8 := x68.at hb6
      have ha8 := ha6.ext x68
      refine aK ⟨bW x68, ?_⟩
      refine bG (i := 8) (by decide +kernel) rfl rfl ?_
      refine dT (e := 106) (k := 4) rfl ha8 rfl o8.sl lM (hx6.trans x68).size (by rw [bA, bA]; omega) ?_
      intro a9 w9 o9 m9 _
      refine aA ?_
      have hb9 := m9.at hb8 (fun e => hne e.symm)
      have hx9 := ha8.mvx m9 (hx6.trans x68) (Nat.le_refl _)
      have o69 := (o6.ext x68).mv m9 ((o6.ext x68).ne ha8 (by decide))
      have hrc : aT A ++ aT (bD M) = aT (A ++ bD M) := by simp [aT]
      rw [hrc] at o9
      refine aK ⟨bX rfl, ?_⟩
      refine MB 9 ?_
      refine cQ (i := 10) rfl rfl rfl (by decide +kernel) (by decide +kernel) (by decide +kernel) rfl (fun _ => Runs.fieldA (off := 2) rfl (by decide +kernel)) (fun _ _ _ h => h) ?_; refine aA ?_
      refine cQ (i := 11) rfl rfl rfl (by decide +kernel) (by decide +kernel) (by decide +kernel) rfl (fun _ => Runs.fieldA (off := 1) rfl (by decide +kernel)) (fun _ _ _ h => h) ?_; refine aA ?_
      refine bG (i := 12) (by decide +kernel) rfl rfl ?_
      refine aO (n := 3) hb9 rfl rfl rfl (by simp [gH]) (by decide +kernel) o9.sl.one ?_
      intro w10 p10
      refine aK ⟨bX rfl, ?_⟩
      refine cR (by decide +kernel) ?_
      have hb10 : w10.heap[b]? = some (.cells (gH o v 0 a9 (.slice none 0 0) (.slice none 0 0)).toArray 116 (0, 0)) := p10.this
      have hx10 : Ext w0 w10 := hx9.move p10.mv (by rintro k ⟨⟩; exact hbk)
      have ha10 := o9.mv p10.mv (.inr (o9.neBlock hb9 (by decide)))
      have o610 := o69.mv p10.mv (.inr (o69.neBlock hb9 (by decide)))
      have sl10 := o610.sl
      clear rp rp0 rp2 sl6
      (repeat' first | ((with_reducible refine aJ ?_); go_step) | ((with_reducible refine aI ?_); first | refine bM ?_ | (refine aL ?_ ?_ <;> intro hc)) | fail)
      ·have hl0 : css6.length = 0 := by have := ‹(css6.length : Int) = 0›; omega
       have hM0 : M = [] := List.eq_nil_of_length_eq_zero (by omega)
       refine aF (enters_of Tryz.func121 rfl rfl) rfl rfl (AX b o v l 0 1 a9 w0 _ hx10 hv hz hbk hb10 ha10.sl.one) ?_
       rintro e w11 ⟨rfl, x11, m11, u11, b11, o11⟩
       refine ⟨_, rfl, ?_⟩
       refine aA ?_
       (repeat' first | ((with_reducible refine aJ ?_); go_step) | ((with_reducible refine aI ?_); first | refine bM ?_ | (refine aL ?_ ?_ <;> intro hc)) | fail)
       go_ret2
       have hr : cN o l n k c = ⟨1, [], [eS o l], [], false⟩ := by rw [cN, if_neg hu', if_neg hc', if_neg hsb', if_neg hal, hM, if_pos hM0]
       rw [hr]
       rw [hM0, show bD [] = [] from rfl] at ha10
       exact ⟨rfl, x11, a9, u11, b11, ha10.mv m11 (.inr (ha10.neBlock hb10 (by decide))), o11.weaken hx10.size, fun h => by cases h⟩
      ·have hl0 : css6.length ≠ 0 := by have := ‹¬ (css6.length : Int) = 0›; omega
       have hM0 : M ≠ [] := by rintro rfl; exact hl0 cl6
       go_ret2
       have hr : cN o l n k c = ⟨0, bD M, [], [], false⟩ := by rw [cN, if_neg hu', if_neg hc', if_neg hsb', if_neg hal, hM, if_neg hM0]
       rw [hr]
       exact ⟨rfl, hx10, a9, .slice none 0 0, hb10, ha10, Own.nil _ _ _ _, fun h => by cases h⟩
def FromL (l : List RSet) (r : Rec) : Prop := ∃ t ∈ l, r.data ∈ t.data
theorem FromL.opt {l : List RSet} {n : List UInt8} {k : Int} : ∀ r ∈ eY (cB l n k), FromL l r := by
 intro r hr
 cases hf : cB l n k with
 | none => rw [hf] at hr; cases hr
 | some s =>
  rw [hf] at hr
  obtain ⟨d, hd, rfl⟩ := List.mem_map.1 hr
  exact ⟨s, (nF hf).1, hd⟩
theorem FromL.sets {l : List RSet} (h : dI l = 0) {n : List UInt8} {s : RSet} (hs : s ∈ dG l n) : ∀ r ∈ dM s, FromL l r := by
 intro r hr
 obtain ⟨d, hd, rfl⟩ := List.mem_map.1 hr
 obtain ⟨t, ht, _, _, e, _⟩ := oN h hs
 exact ⟨t, ht, by rw [← e]; exact hd⟩
theorem xL {o : List UInt8} {l : List RSet} (h : dI l = 0) (n : List UInt8) (k c : Int) : (∀ r ∈ (cN o l n k c).ans, FromL l r) ∧ ((cN o l n k c).kind = 3 → ∀ r ∈ (cN o l n k c).auth, FromL l r) := by
 unfold cN
 split
 ·exact ⟨by simp, by simp⟩
 ·split
  ·exact ⟨by simp, fun _ => FromL.opt⟩
  ·split
   ·exact ⟨by simp, by simp⟩
   ·split
    ·rename_i h4
     split
     ·exact ⟨by simp, by simp⟩
     ·exact ⟨FromL.sets h (qT h4.1).1, by simp⟩
    ·split
     ·exact ⟨by simp, by simp⟩
     ·refine ⟨fun r hr => ?_, by simp⟩
      obtain ⟨s, hs, d, hd, rfl⟩ := AS hr
      exact FromL.sets h (List.mem_filter.1 hs).1 _ (List.mem_map_of_mem hd)
theorem BA {o : List UInt8} {l : List RSet} (h : dI l = 0) (k : Int) : ∀ (f : Nat) (c : Int) (n : List UInt8), (∀ r ∈ (fV o l k f c n).ans, FromL l r) ∧ ((fV o l k f c n).kind = 3 → ∀ r ∈ (fV o l k f c n).auth, FromL l r)
 | 0, c, n => by simp [fV]
 | f + 1, c, n => by
   rw [fV]
   split
   ·obtain ⟨h1, h2⟩ := BA h k f (c + 1) (cN o l n k c).next
    refine ⟨fun r hr => ?_, h2⟩
    rcases List.mem_append.1 hr with hr | hr
    ·exact (xL h n k c).1 r hr
    ·exact h1 r hr
   ·exact xL h n k c
theorem FO {o : List UInt8} {l : List RSet} (h : dI l = 0) {n : List UInt8} {k c : Int} (hm : (cN o l n k c).more = true) :
 (cN o l n k c).kind = 0 ∧ (cN o l n k c).auth = [] ∧ c ≠ 8 ∧ (aV (cN o l n k c).next).isSome = true ∧ (cN o l n k c).ans.length ≤ 20 := by
 generalize hr : cN o l n k c = r at *
 unfold cN at hr
 split at hr
 ·subst hr; cases hm
 ·split at hr
  ·subst hr; cases hm
  ·split at hr
   ·subst hr; cases hm
   ·split at hr
    ·rename_i h4
     split at hr
     ·subst hr; cases hm
     ·rename_i h5
      subst hr
      refine ⟨rfl, rfl, h5, AZ _ _, ?_⟩
      simp only [dM, List.length_map]
      exact (mU h (qT h4.1).1).2.1
    ·split at hr <;> (subst hr; cases hm)
theorem IH {o : List UInt8} {l : List RSet} (h : dI l = 0) (hl : l.length ≤ 200) (n : List UInt8) (k c : Int) : (cN o l n k c).ans.length ≤ 4000 ∧ (cN o l n k c).auth.length ≤ 20 := by
 unfold cN
 split
 ·simp
 ·split
  ·have := gP (fun s hs => (mT (xH h hs)).2) (fF o l n).1 2
   exact ⟨by simp, this⟩
  ·split
   ·simp
   ·split
    ·rename_i h4
     split
     ·simp
     ·have := (mU h (qT h4.1).1).2.1
      simp only [dM, List.length_map]
      exact ⟨by omega, by simp⟩
    ·split
     ·simp
     ·have h1 := yN (L := (dG l n).filter (gO k)) fun s hs => (mU h (List.mem_filter.1 hs).1).2.1
      have h2 := List.length_filter_le (gO k) (dG l n)
      have h3 := xK l n
      exact ⟨by simp only; omega, by simp⟩
def uU : List Value := [.int .i64 0, .slice none 0 0, .slice none 0 0, .slice none 0 0]
def AnsO (B : Nat) (a : AnsR) (y : Value) (w : World) : Prop :=
 ∃ u1 u2 u3, y = .agg #[.int .i64 a.kind, u1, u2, u3] ∧ Own B 4 106 w u1 (aT a.ans) ∧ Own B 4 106 w u2 (aT a.auth) ∧ Own B 4 106 w u3 (aT a.extra)
def AnsA (a : AnsR) (y : Value) (w : World) : Prop :=
 ∃ u1 u2 u3, y = .agg #[.int .i64 a.kind, u1, u2, u3] ∧ Sl 4 w u1 (aT a.ans) ∧ Sl 4 w u2 (aT a.auth) ∧ Sl 4 w u3 (aT a.extra)
theorem AnsO.a {B : Nat} {a : AnsR} {y : Value} {w : World} (h : AnsO B a y w) : AnsA a y w := let ⟨u1, u2, u3, e, a, b, c⟩ := h; ⟨u1, u2, u3, e, a.sl, b.sl, c.sl⟩
theorem AnsA.ext {a : AnsR} {y : Value} {w w' : World} (h : AnsA a y w) (hx : Ext w w') : AnsA a y w' := let ⟨u1, u2, u3, e, a, b, c⟩ := h; ⟨u1, u2, u3, e, a.ext hx, b.ext hx, c.ext hx⟩
theorem AnsO.zero (B : Nat) (w : World) : AnsO B HW (.agg uU.toArray) w := ⟨_, _, _, rfl, Own.nil _ _ _ _, Own.nil _ _ _ _, Own.nil _ _ _ _⟩
set_option maxHeartbeats 8000000 in
theorem OX (o : List UInt8) (v : Value) (l : List RSet) (q : List UInt8) (k : Int) (w : World) (hv : SetsAt w v l) (hb : ∀ s ∈ l, s.data.length ≤ 1000000) :
 Calls Tryz.prog 31 #[.agg #[aH o, v], .agg #[aH q, .int .i64 k]] w (oT w fun r w' => ∃ y, r = .tuple #[y, .int .i64 (uM o l q)] ∧ AnsO w.heap.size (yK o l q k) y w') := by
 go_enter Tryz.func31, Tryz.ntmps31
 repeat' (first | ((with_reducible refine aJ ?_); go_step) | fail)
 refine bR (vs := [aH o, v]) rfl rfl ?_
 intro p w1 x1 hp
 refine aA ?_
 refine bR (vs := [aH q, .int .i64 k]) rfl rfl ?_
 intro pq w2 x2 hq
 refine aA ?_
 refine aP (z := uU) rfl (by decide +kernel) ?_
 intro w3 x3 s3 h3
 refine aA ?_
 have hx3 := x1.trans (x2.trans x3)
 have hp3 := hp.ext (x2.trans x3)
 have hq3 := hq.ext x3
 have hv3 := hv.ext hx3
 have z2 := (x1.trans x2).size
 (repeat' first | ((with_reducible refine aJ ?_); go_step) | ((with_reducible refine aI ?_); first | refine bM ?_ | (refine aL ?_ ?_ <;> intro hc)) | fail)
 go_step3
 (repeat' first | ((with_reducible refine aJ ?_); go_step) | ((with_reducible refine aI ?_); first | refine bM ?_ | (refine aL ?_ ?_ <;> intro hc)) | fail)
 refine aE (enters_of Tryz.func61 rfl rfl) rfl rfl (sO o v l _ hv3 hb) ?_; intro w4 x4; refine aA ?_
 have h4 := x4.at h3
 have hx4 := hx3.trans x4
 have hp4 := hp3.ext x4
 have hq4 := hq3.ext x4
 have hv4 := hv3.ext x4
 have ret0 : ∀ e : Int, e ≠ 0 → uM o l q = e → yK o l q k = HW := fun e he h => by rw [yK, if_pos (by rw [h]; exact he)]
 (repeat' first | ((with_reducible refine aJ ?_); go_step) | ((with_reducible refine aI ?_); first | refine bM ?_ | (refine aL ?_ ?_ <;> intro hc)) | fail)
 ·have q1 : ¬ cH o l = 0 := by simpa using (by assumption : (!decide (cH o l = 0)) = true)
  have hE : uM o l q = cH o l := by rw [uM, if_pos q1]
  refine cO (v := .agg uU.toArray) rfl (Runs.build0 (by kernel_rfl)) ?_
  refine aA ?_
  (repeat' first | ((with_reducible refine aJ ?_); go_step) | ((with_reducible refine aI ?_); first | refine bM ?_ | (refine aL ?_ ?_ <;> intro hc)) | fail)
  refine aG (v := .agg uU.toArray) rfl rfl rfl h4 (by decide +kernel) rfl (by decide +kernel) ?_
  intro w5 p5
  (repeat' first | ((with_reducible refine aJ ?_); go_step) | ((with_reducible refine aI ?_); first | refine bM ?_ | (refine aL ?_ ?_ <;> intro hc)) | fail)
  rw [Exit.noGoto_ret]
  refine bodyPost_ret (bH (cs := uU) rfl rfl p5.this (by decide +kernel)) rfl ⟨_, rfl, hx4.move p5.mv (by rintro k ⟨⟩; exact z2), ?_⟩
  rw [ret0 _ q1 hE, hE]
  exact ⟨_, rfl, AnsO.zero _ _⟩
 ·have q1 : cH o l = 0 := by simpa using (by assumption : (!decide (cH o l = 0)) = false)
  refine aE (enters_of Tryz.func65 rfl rfl) rfl rfl (MH q _) ?_; intro w5 x5; refine aA ?_
  have h5 := x5.at h4
  have hx5 := hx4.trans x5
  have hp5 := hp4.ext x5
  have hq5 := hq4.ext x5
  have hv5 := hv4.ext x5
  have hE : uM o l q = eI q := by rw [uM, if_neg (by simp [q1])]
  have hCE : (if (aV q).isSome = true then (0 : Int) else 1) = eI q := rfl
  rw [hCE]
  (repeat' first | ((with_reducible refine aJ ?_); go_step) | ((with_reducible refine aI ?_); first | refine bM ?_ | (refine aL ?_ ?_ <;> intro hc)) | fail)
  ·have q2 : ¬ eI q = 0 := by simpa using (by assumption : (!decide (eI q = 0)) = true)
   refine cO (v := .agg uU.toArray) rfl (Runs.build0 (by kernel_rfl)) ?_
   refine aA ?_
   (repeat' first | ((with_reducible refine aJ ?_); go_step) | ((with_reducible refine aI ?_); first | refine bM ?_ | (refine aL ?_ ?_ <;> intro hc)) | fail)
   refine aG (v := .agg uU.toArray) rfl rfl rfl h5 (by decide +kernel) rfl (by decide +kernel) ?_
   intro w6 p6
   (repeat' first | ((with_reducible refine aJ ?_); go_step) | ((with_reducible refine aI ?_); first | refine bM ?_ | (refine aL ?_ ?_ <;> intro hc)) | fail)
   rw [Exit.noGoto_ret]
   refine bodyPost_ret (bH (cs := uU) rfl rfl p6.this (by decide +kernel)) rfl ⟨_, rfl, hx5.move p6.mv (by rintro k ⟨⟩; exact z2), ?_⟩
   rw [ret0 _ q2 hE, hE]
   exact ⟨_, rfl, AnsO.zero _ _⟩
  ·have q2 : eI q = 0 := by simpa using (by assumption : (!decide (eI q = 0)) = false)
   have hz := jM q1
   have hl200 := uS hz
   have hA : yK o l q k = ⟨(fV o l k 9 0 (fold q)).kind, (fV o l k 9 0 (fold q)).ans, (fV o l k 9 0 (fold q)).auth, CM l (eZ (fV o l k 9 0 (fold q)))⟩ := by rw [yK, if_neg (by rw [hE]; simp [q2])]
   have hlq : (aV (fold q)).isSome = true := by
    rw [rV]
    unfold eI at q2
    split at q2
    ·assumption
    ·cases q2
   rw [q2] at hE
   clear hCE ret0
   obtain ⟨va, vn, vc, hvs⟩ : ∃ a n c, v = .slice a n c := by obtain ⟨cv, h, _⟩ := hv.sl; exact h.slf
   refine cO (v := .agg (gH o v 0 (.slice none 0 0) (.slice none 0 0) (.slice none 0 0)).toArray) rfl (Runs.build (vals := [(0, .agg #[aH o, v])]) rfl (by rw [hvs]; kernel_rfl)) ?_
   refine aA ?_
   refine dP (vs := gH o v 0 (.slice none 0 0) (.slice none 0 0) (.slice none 0 0)) rfl rfl ?_
   intro w6 x6 s6 b6
   refine aA ?_
   have h6 := x6.at h5
   have hp6 := hp5.ext x6
   have hq6 := hq5.ext x6
   (repeat' first | ((with_reducible refine aJ ?_); go_step) | ((with_reducible refine aI ?_); first | refine bM ?_ | (refine aL ?_ ?_ <;> intro hc)) | fail)
   refine aE (enters_of Tryz.func32 rfl rfl) rfl rfl (GP q _) ?_; intro w7 x7; refine aA ?_
   have b7 := x7.at b6
   have h7 := x7.at h6
   have hx57 := x6.trans x7
   (repeat' first | ((with_reducible refine aJ ?_); go_step) | ((with_reducible refine aI ?_); first | refine bM ?_ | (refine aL ?_ ?_ <;> intro hc)) | fail)
   go_step3
   (repeat' first | ((with_reducible refine aJ ?_); go_step) | ((with_reducible refine aI ?_); first | refine bM ?_ | (refine aL ?_ ?_ <;> intro hc)) | fail)
   have hbk : w5.heap.size ≤ w5.heap.size := Nat.le_refl _
   go_loopw [9, 10, 11] (fun nv _ cv wr => ∃ (c : Nat) (n : List UInt8) (a : Value) (A : List Rec), nv = aH n ∧ cv = .int .i64 c ∧ c ≤ 8 ∧ Ext w5 wr ∧ wr.heap[w5.heap.size]? = some (.cells (gH o v 0 a (.slice none 0 0) (.slice none 0 0)).toArray 116 (0, 0)) ∧ Own w5.heap.size 4 106 wr a (aT A) ∧ (aV n).isSome = true ∧ A.length ≤ 20 * c ∧
    (fV o l k 9 0 (fold q)).kind = (fV o l k (9 - c) c n).kind ∧ (fV o l k 9 0 (fold q)).ans = A ++ (fV o l k (9 - c) c n).ans ∧ (fV o l k 9 0 (fold q)).auth = (fV o l k (9 - c) c n).auth) (fun _ _ c _ => 9 - (intOf c).toNat)
   case atStart => exact ⟨0, fold q, .slice none 0 0, [], rfl, rfl, by omega, hx57, b7, Own.nil _ _ _ _, hlq, by simp, rfl, rfl, rfl⟩
   case round =>
    obtain ⟨c, n, a, A, rfl, rfl, hc, hx, hbr, har, hln, hAl, e1, e2, e3⟩ := hrel
    have hqr := hq5.ext hx
    (repeat' first | ((with_reducible refine aJ ?_); go_step) | ((with_reducible refine aI ?_); first | refine bM ?_ | (refine aL ?_ ?_ <;> intro hc)) | fail)
    refine aF (enters_of Tryz.func66 rfl rfl) rfl rfl (MT w5.heap.size o v l n k c a A w5 _ hx hv5 hz hbk hbr har hln (by omega)) ?_
    rintro e w8 ⟨rfl, hx8, a8, u8, b8, oa8, ou8, hn8⟩
    refine ⟨_, rfl, ?_⟩
    refine aA ?_
    have e9 : 9 - c = (8 - c) + 1 := by omega
    have hsl := IH (o := o) hz.chk hl200 n k c
    have eu : fV o l k (9 - c) c n = if (cN o l n k c).more = true then
     ⟨(fV o l k (8 - c) (c + 1) (cN o l n k c).next).kind, (cN o l n k c).ans ++ (fV o l k (8 - c) (c + 1) (cN o l n k c).next).ans, (fV o l k (8 - c) (c + 1) (cN o l n k c).next).auth, [], false⟩
     else cN o l n k c := by rw [e9, fV]
    rw [eu] at e1 e2 e3
    clear eu e9
    cases hm : (cN o l n k c).more with
    | true =>
     rw [if_pos hm] at e1 e2 e3
     simp only at e1 e2 e3
     obtain ⟨m1, m2, m3, m4, m5⟩ := FO hz.chk hm
     have hu8 := hn8 hm
     rw [m1, hu8] at b8
     have hc8 : c ≠ 8 := fun e => m3 (by rw [e]; rfl)
     rw [← List.append_assoc] at e2
     (repeat' first | ((with_reducible refine aJ ?_); go_step) | ((with_reducible refine aI ?_); first | refine bM ?_ | (refine aL ?_ ?_ <;> intro hc)) | fail)
     refine ⟨⟨c + 1, _, a8, A ++ (cN o l n k c).ans, rfl, by go_num, by omega, hx8, b8, oa8, m4, by rw [List.length_append]; omega, ?_, ?_, ?_⟩, by simp [intOf]; omega⟩
     ·rw [e1, show 9 - (c + 1) = 8 - c by omega]; rfl
     ·rw [e2, show 9 - (c + 1) = 8 - c by omega]; rfl
     ·rw [e3, show 9 - (c + 1) = 8 - c by omega]; rfl
    | false =>
     rw [if_neg (by simp [hm])] at e1 e2 e3
     have hfrom := BA (o := o) hz.chk k 9 0 (fold q)
     rw [← e2] at oa8
     rw [← e3] at ou8
     rw [← e1] at b8
     have hal : (fV o l k 9 0 (fold q)).ans.length ≤ 4200 := by rw [e2, List.length_append]; omega
     have hul : (fV o l k 9 0 (fold q)).auth.length ≤ 20 := by rw [e3]; omega
     generalize fV o l k 9 0 (fold q) = R at *
     clear e1 e2 e3 hsl
     obtain ⟨sp, sp0, sp2⟩ := iM b8
     have sa8 := oa8.sl
     have h8 : w8.heap[w2.heap.size]? = some (.cells uU.toArray 71 (0, 0)) := by
      have a1 := (Array.getElem?_eq_some_iff.1 h5).1
      exact hx8.at h5
     (repeat' first | ((with_reducible refine aJ ?_); go_step) | ((with_reducible refine aI ?_); first | refine bM ?_ | (refine aL ?_ ?_ <;> intro hc)) | fail)
     refine aN (Runs.fieldA (off := 2) rfl (by decide +kernel)) ?_
     refine aA ?_
     (repeat' first | ((with_reducible refine aJ ?_); go_step) | ((with_reducible refine aI ?_); first | refine bM ?_ | (refine aL ?_ ?_ <;> intro hc)) | fail)
     refine aR (enters_of Tryz.func67 rfl rfl) rfl rfl (pY a8 R.ans _ sa8 (by omega)) ?_
     intro v9 w9 x9 o9
     refine aA ?_
     have su9 := (ou8.ext x9).sl
     have hv8 := hv5.ext hx8
     have hp8 := hp5.ext hx8
     have zq : w2.heap.size ≠ w5.heap.size := by
      have a1 := (Array.getElem?_eq_some_iff.1 h5).1
      omega
     (repeat' first | ((with_reducible refine aJ ?_); go_step) | ((with_reducible refine aI ?_); first | refine bM ?_ | (refine aL ?_ ?_ <;> intro hc)) | fail)
     refine aN (Runs.fieldA (off := 2) rfl (by decide +kernel)) ?_
     refine aA ?_
     (repeat' first | ((with_reducible refine aJ ?_); go_step) | ((with_reducible refine aI ?_); first | refine bM ?_ | (refine aL ?_ ?_ <;> intro hc)) | fail)
     ·have h3k := ‹R.kind = 3›
      refine aN (Runs.fieldA (off := 2) rfl (by decide +kernel)) ?_
      refine aA ?_
      (repeat' first | ((with_reducible refine aJ ?_); go_step) | ((with_reducible refine aI ?_); first | refine bM ?_ | (refine aL ?_ ?_ <;> intro hc)) | fail)
      refine dT (e := 106) (k := 4) rfl o9 rfl su9 lM x9.size (by rw [bA, bA]; omega) ?_
      intro v10 w10 o10 m10 _
      refine aA ?_
      have xt : Ext w8 w10 := o9.mvx m10 x9 (Nat.le_refl _)
      have hrc : aT R.ans ++ aT R.auth = aT (eZ R) := by rw [eZ, if_pos h3k]; simp [aT]
      rw [hrc] at o10
      have ot := o10.sl
      have hfr : ∀ r ∈ eZ R, FromL l r := by
       intro r hr
       rw [eZ, if_pos h3k] at hr
       rcases List.mem_append.1 hr with hr | hr
       ·exact hfrom.1 r hr
       ·exact hfrom.2 h3k r hr
      clear su9
      (repeat' first | ((with_reducible refine aJ ?_); go_step) | ((with_reducible refine aI ?_); first | refine bM ?_ | (refine aL ?_ ?_ <;> intro hc)) | fail)
      have htl : (eZ R).length ≤ 10000 := by
       unfold eZ
       rw [List.length_append]
       split <;> first | omega | (simp; omega)
      have hdat : ∀ r ∈ eZ R, r.data.length ≤ 9223372036854775807 := fun r hr => by
       obtain ⟨t, ht, hd⟩ := hfr r hr
       have := lN hz t ht _ hd
       omega
      refine aR (enters_of Tryz.func68 rfl rfl) rfl rfl (DQ o v _ l (eZ R) _ (hv8.ext xt) ot hz htl hdat) ?_
      intro r11 w11 x11 o11
      refine aA ?_
      have zt := xt.size
      have xx := xt.trans x11
      have b11 := xx.at b8
      have h11 := xx.at h8
      (repeat' first | ((with_reducible refine aJ ?_); go_step) | ((with_reducible refine aI ?_); first | refine bM ?_ | (refine aL ?_ ?_ <;> intro hc)) | fail)
      refine aN (Runs.fieldA (off := 2) rfl (by decide +kernel)) ?_
      refine aA ?_
      (repeat' first | ((with_reducible refine aJ ?_); go_step) | ((with_reducible refine aI ?_); first | refine bM ?_ | (refine aL ?_ ?_ <;> intro hc)) | fail)
      refine aO (n := 5) b11 rfl rfl rfl (by simp [gH]) (by decide +kernel) o11.sl.one ?_
      intro w12 p12
      have b12 : w12.heap[w5.heap.size]? = some (.cells (gH o v R.kind a8 u8 r11).toArray 116 (0, 0)) := p12.this
      have h12 := p12.at h11 zq
      have oa12 := (oa8.ext xx).mv p12.mv (.inr ((oa8.ext xx).neBlock b11 (by decide)))
      have ou12 := (ou8.ext xx).mv p12.mv (.inr ((ou8.ext xx).neBlock b11 (by decide)))
      have or12 := o11.mv p12.mv (.inr (o11.neBlock b11 (by decide)))
      obtain ⟨tp, tp0, tp2⟩ := iM b12
      clear sp sp0 sp2
      (repeat' first | ((with_reducible refine aJ ?_); go_step) | ((with_reducible refine aI ?_); first | refine bM ?_ | (refine aL ?_ ?_ <;> intro hc)) | fail)
      refine aN (Runs.fieldA (off := 2) rfl (by decide +kernel)) ?_
      refine aA ?_
      (repeat' first | ((with_reducible refine aJ ?_); go_step) | ((with_reducible refine aI ?_); first | refine bM ?_ | (refine aL ?_ ?_ <;> intro hc)) | fail)
      refine aG (v := .agg #[.int .i64 R.kind, a8, u8, r11]) rfl rfl rfl h12 (show aX Tryz.prog 71 4 = true by decide +kernel) rfl (iI rfl oa12.sl.one ou12.sl.one or12.sl.one) ?_
      intro w13 p13
      (repeat' first | ((with_reducible refine aJ ?_); go_step) | ((with_reducible refine aI ?_); first | refine bM ?_ | (refine aL ?_ ?_ <;> intro hc)) | fail)
      rw [Exit.noGoto_ret]
      have zw : w.heap.size ≤ w5.heap.size := hx5.size
      have x12 : Ext w w12 := (hx5.trans (hx8.trans xx)).move p12.mv (by rintro k ⟨⟩; exact zw)
      refine bodyPost_ret (bH (cs := [.int .i64 R.kind, a8, u8, r11]) rfl rfl p13.this (show dS Tryz.prog 71 4 = true by decide +kernel)) rfl ⟨_, rfl, x12.move p13.mv (by rintro k ⟨⟩; exact z2), ?_⟩
      rw [hA, hE]
      refine ⟨_, rfl, a8, u8, r11, rfl, (oa12.mv p13.mv (.inr (oa12.neBlock h12 (by decide)))).weaken zw, (ou12.mv p13.mv (.inr (ou12.neBlock h12 (by decide)))).weaken zw, (or12.mv p13.mv (.inr (or12.neBlock h12 (by decide)))).weaken ?_⟩
      have a1 := hx8.size
      omega
     ·have h3k := ‹¬ R.kind = 3›
      have xt := x9
      have hrc : R.ans = eZ R := by rw [eZ, if_neg h3k]; simp
      have ot := o9.sl
      rw [hrc] at ot
      have hfr : ∀ r ∈ eZ R, FromL l r := by rw [← hrc]; exact hfrom.1
      clear su9
      have htl : (eZ R).length ≤ 10000 := by
       unfold eZ
       rw [List.length_append]
       split <;> first | omega | (simp; omega)
      have hdat : ∀ r ∈ eZ R, r.data.length ≤ 9223372036854775807 := fun r hr => by
       obtain ⟨t, ht, hd⟩ := hfr r hr
       have := lN hz t ht _ hd
       omega
      refine aR (enters_of Tryz.func68 rfl rfl) rfl rfl (DQ o v _ l (eZ R) _ (hv8.ext xt) ot hz htl hdat) ?_
      intro r11 w11 x11 o11
      refine aA ?_
      have zt := xt.size
      have xx := xt.trans x11
      have b11 := xx.at b8
      have h11 := xx.at h8
      (repeat' first | ((with_reducible refine aJ ?_); go_step) | ((with_reducible refine aI ?_); first | refine bM ?_ | (refine aL ?_ ?_ <;> intro hc)) | fail)
      refine aN (Runs.fieldA (off := 2) rfl (by decide +kernel)) ?_
      refine aA ?_
      (repeat' first | ((with_reducible refine aJ ?_); go_step) | ((with_reducible refine aI ?_); first | refine bM ?_ | (refine aL ?_ ?_ <;> intro hc)) | fail)
      refine aO (n := 5) b11 rfl rfl rfl (by simp [gH]) (by decide +kernel) o11.sl.one ?_
      intro w12 p12
      have b12 : w12.heap[w5.heap.size]? = some (.cells (gH o v R.kind a8 u8 r11).toArray 116 (0, 0)) := p12.this
      have h12 := p12.at h11 zq
      have oa12 := (oa8.ext xx).mv p12.mv (.inr ((oa8.ext xx).neBlock b11 (by decide)))
      have ou12 := (ou8.ext xx).mv p12.mv (.inr ((ou8.ext xx).neBlock b11 (by decide)))
      have or12 := o11.mv p12.mv (.inr (o11.neBlock b11 (by decide)))
      obtain ⟨tp, tp0, tp2⟩ := iM b12
      clear sp sp0 sp2
      (repeat' first | ((with_reducible refine aJ ?_); go_step) | ((with_reducible refine aI ?_); first | refine bM ?_ | (refine aL ?_ ?_ <;> intro hc)) | fail)
      refine aN (Runs.fieldA (off := 2) rfl (by decide +kernel)) ?_
      refine aA ?_
      (repeat' first | ((with_reducible refine aJ ?_); go_step) | ((with_reducible refine aI ?_); first | refine bM ?_ | (refine aL ?_ ?_ <;> intro hc)) | fail)
      refine aG (v := .agg #[.int .i64 R.kind, a8, u8, r11]) rfl rfl rfl h12 (show aX Tryz.prog 71 4 = true by decide +kernel) rfl (iI rfl oa12.sl.one ou12.sl.one or12.sl.one) ?_
      intro w13 p13
      (repeat' first | ((with_reducible refine aJ ?_); go_step) | ((with_reducible refine aI ?_); first | refine bM ?_ | (refine aL ?_ ?_ <;> intro hc)) | fail)
      rw [Exit.noGoto_ret]
      have zw : w.heap.size ≤ w5.heap.size := hx5.size
      have x12 : Ext w w12 := (hx5.trans (hx8.trans xx)).move p12.mv (by rintro k ⟨⟩; exact zw)
      refine bodyPost_ret (bH (cs := [.int .i64 R.kind, a8, u8, r11]) rfl rfl p13.this (show dS Tryz.prog 71 4 = true by decide +kernel)) rfl ⟨_, rfl, x12.move p13.mv (by rintro k ⟨⟩; exact z2), ?_⟩
      rw [hA, hE]
      refine ⟨_, rfl, a8, u8, r11, rfl, (oa12.mv p13.mv (.inr (oa12.neBlock h12 (by decide)))).weaken zw, (ou12.mv p13.mv (.inr (ou12.neBlock h12 (by decide)))).weaken zw, (or12.mv p13.mv (.inr (or12.neBlock h12 (by decide)))).weaken ?_⟩
      have a1 := hx8.size
      omega
open Go.ChangeShapes Go.WideShapes Go.ChangeAt Go.RowKit
theorem CR {H : Type} {enc : TypeId × Value → H} {w : World} {base : Nat} {spare : Nat → Bool} {held : Bool} {fuel : Nat} {v : Value} {x : DataW H × List MemPlace} (h : DataW.trod enc Tryz.prog w base spare held fuel 93 [v] = some x) : ∃ l : List (List UInt8), Sl 1 w v (aS l) := by
 obtain ⟨es, hs, he⟩ := kJ Tryz.underlying93 (show Tryz.prog.cellsOf 9 = 1 by kernel_rfl) (by omega) h
 obtain ⟨l, rfl⟩ : ∃ l : List (List UInt8), es = l.map fun s => [aH s] := by
  refine nE fun c hc => ?_
  obtain ⟨n, y, hy⟩ := he c hc
  have hl : c.length = 1 := by
   obtain ⟨_, _, _, _, _, h4, _, _⟩ := hs
   exact h4 c hc
  match c, hl with
  | [a], _ =>
   obtain ⟨s, rfl, _⟩ := gW Tryz.underlying9 hy
   exact ⟨s, rfl⟩
 exact ⟨l, hs⟩
theorem FP {H : Type} {enc : TypeId × Value → H} {w : World} {base : Nat} {spare : Nat → Bool} {held : Bool} {fuel : Nat} {v : Value} {x : DataW H × List MemPlace} (h : DataW.trod enc Tryz.prog w base spare held fuel 48 [v] = some x) : ∃ l : List RSet, SetsAt w v l := by
 obtain ⟨es, hs, he⟩ := kJ Tryz.underlying48 (show Tryz.prog.cellsOf 131 = 4 by kernel_rfl) (by omega) h
 obtain ⟨l, rfl⟩ : ∃ l : List {p : RSet × Value // Sl 1 w p.2 (aS p.1.data)}, es = l.map fun p => [aH p.1.1.name, .int .i64 p.1.1.kind, .int .i64 p.1.1.ttl, p.1.2] := by
  refine nE fun c hc => ?_
  obtain ⟨n, y, hy⟩ := he c hc
  obtain ⟨xs, n', _, _, hl, hxl, hf⟩ := DataW.trod_struct Tryz.underlying131 hy
  have c30 : Tryz.prog.cellsOf 47 = 1 := by kernel_rfl
  have c3 : Tryz.prog.cellsOf 3 = 1 := by kernel_rfl
  have c35 : Tryz.prog.cellsOf 93 = 1 := by kernel_rfl
  have c37 : Tryz.prog.cellsOf 131 = 4 := by kernel_rfl
  rw [c37] at hl
  match c, hl, xs, hxl with
  | [a, b, d, e], _, [y0, y1, y2, y3], _ =>
   have g0 := hf 0 _ rfl
   have g1 := hf 1 _ rfl
   have g2 := hf 2 _ rfl
   have g3 := hf 3 _ rfl
   simp [c30, c3, c35] at g0 g1 g2 g3
   obtain ⟨s0, rfl, _⟩ := gW Tryz.underlying47 g0
   obtain ⟨n1, rfl, _⟩ := fH Tryz.underlying3 g1
   obtain ⟨n2, rfl, _⟩ := fH Tryz.underlying3 g2
   obtain ⟨ts, hts⟩ := CR g3
   exact ⟨⟨(⟨s0, n1, n2, ts⟩, e), hts⟩, rfl⟩
 refine ⟨l.map fun p => p.1.1, _, hs, by simp, ?_⟩
 intro i s hi
 rw [List.getElem?_map] at hi
 obtain ⟨p, hp, rfl⟩ := Option.map_eq_some_iff.1 hi
 exact ⟨p.1.2, by rw [List.getElem?_map, hp]; rfl, p.2⟩
open Go.ChangeShapes Go.WideShapes Go.ChangeAt Go.RowKit
theorem FQ {H : Type} {enc : TypeId × Value → H} {w : World} {base : Nat} {spare : Nat → Bool} {held : Bool} {fuel : Nat} {c : Array Value} {x : DataW H × List MemPlace} (h : DataW.trod enc Tryz.prog w base spare held fuel 50 (Value.agg c).cells.toList = some x) : ∃ (o : List UInt8) (l : List RSet) (u : Value), c = #[aH o, u] ∧ SetsAt w u l := by
 have e : (Value.agg c).cells.toList = c.toList := rfl
 rw [e] at h
 obtain ⟨xs, n', _, _, hl, hxl, hf⟩ := DataW.trod_struct Tryz.underlying50 h
 have c30 : Tryz.prog.cellsOf 47 = 1 := by kernel_rfl
 have c25 : Tryz.prog.cellsOf 48 = 1 := by kernel_rfl
 have c43 : Tryz.prog.cellsOf 50 = 2 := by kernel_rfl
 rw [c43] at hl
 obtain ⟨cl⟩ := c
 match cl, hl, xs, hxl with
 | [a, b], _, [y0, y1], _ =>
  have g0 := hf 0 _ rfl
  have g1 := hf 1 _ rfl
  simp [c30, c25] at g0 g1
  obtain ⟨s0, rfl, _⟩ := gW Tryz.underlying47 g0
  obtain ⟨l, hls⟩ := FP g1
  exact ⟨s0, l, b, rfl, hls⟩
abbrev mD := List UInt8 × Int
structure MsgR where
 id : Int
 resp : Bool
 op : Int
 auth : Bool
 trunc : Bool
 want : Bool
 avail : Bool
 rcode : Int
 qs : List mD
 an : List Rec
 au : List Rec
 ex : List Rec
 size : Int
 deriving DecidableEq, Inhabited
def bQ (l : List mD) : List (List Value) := l.map fun q => [aH q.1, .int .i64 q.2]
theorem bP (l : List mD) : (bQ l).length = l.length := by simp [bQ]
def aU (m : MsgR) (q a u e : Value) : List Value := [.int .i64 m.id, .bool m.resp, .int .i64 m.op, .bool m.auth, .bool m.trunc, .bool m.want, .bool m.avail, .int .i64 m.rcode, q, a, u, e, .int .i64 m.size]
structure MsgV (w : World) (m : MsgR) (q a u e : Value) : Prop where
 qs : Sl 2 w q (bQ m.qs)
 an : Sl 4 w a (aT m.an)
 au : Sl 4 w u (aT m.au)
 ex : Sl 4 w e (aT m.ex)
theorem MsgV.ext {w w' : World} {m : MsgR} {q a u e : Value} (h : MsgV w m q a u e) (hx : Ext w w') : MsgV w' m q a u e := ⟨h.qs.ext hx, h.an.ext hx, h.au.ext hx, h.ex.ext hx⟩
theorem MsgV.one {w : World} {m : MsgR} {q a u e : Value} (h : MsgV w m q a u e) : ∀ x ∈ aU m q a u e, x.oneCell' = true := by
 intro x hx
 simp only [aU, List.mem_cons, List.not_mem_nil, or_false] at hx
 rcases hx with rfl | rfl | rfl | rfl | rfl | rfl | rfl | rfl | rfl | rfl | rfl | rfl | rfl
 all_goals first | rfl | exact h.qs.one | exact h.an.one | exact h.au.one | exact h.ex.one
def zeroM : MsgR := ⟨0, false, 0, false, false, false, false, 0, [], [], [], [], 0⟩
theorem MsgV.zero (w : World) : MsgV w zeroM (.slice none 0 0) (.slice none 0 0) (.slice none 0 0) (.slice none 0 0) := ⟨Sl.nil _ _, Sl.nil _ _, Sl.nil _ _, Sl.nil _ _⟩
def uV (q : mD) : Bool := decide (eI q.1 = 0) && (decide (1 ≤ q.2) && decide (q.2 ≤ 65535)) && !decide (q.2 = 41)
def gE (l : List Rec) : Bool := decide (l.length ≤ 200) && !(l.any fun r => !decide (bI r = 0))
def fQ (n least most : Int) : Bool := decide (least ≤ n) && decide (n ≤ most)
def cC (m : MsgR) : Int :=
 if fQ m.id 0 65535 && fQ m.op 0 15 && fQ m.rcode 0 15 && (decide (m.size = 0) || fQ m.size 512 65535) && (decide (m.qs.length ≤ 10) && m.qs.all uV) && (gE m.an && gE m.au && gE m.ex) then 0 else 1
open Go.ChangeShapes Go.WideShapes Go.ChangeAt Go.RowKit
theorem own : ownKnob Tryz.prog.godebug = none := by kernel_rfl
theorem PK : laidOutB Tryz.prog = true := by kernel_rfl
theorem qX {H : Type} {enc : TypeId × Value → H} {w : World} {base : Nat} {spare : Nat → Bool} {held : Bool} {fuel : Nat} {v : Value} {x : DataW H × List MemPlace} (h : DataW.trod enc Tryz.prog w base spare held fuel 24 [v] = some x) : ∃ l : List Rec, Sl 4 w v (aT l) := by
 obtain ⟨es, hs, he⟩ := kJ Tryz.underlying24 (show Tryz.prog.cellsOf 106 = 4 by kernel_rfl) (by omega) h
 obtain ⟨l, rfl⟩ : ∃ l : List Rec, es = l.map Rec.cells := by
  refine nE fun c hc => ?_
  obtain ⟨n, y, hy⟩ := he c hc
  obtain ⟨xs, n', _, _, hl, hxl, hf⟩ := DataW.trod_struct Tryz.underlying106 hy
  have c30 : Tryz.prog.cellsOf 47 = 1 := by kernel_rfl
  have c3 : Tryz.prog.cellsOf 3 = 1 := by kernel_rfl
  have c9 : Tryz.prog.cellsOf 9 = 1 := by kernel_rfl
  have c32 : Tryz.prog.cellsOf 106 = 4 := by kernel_rfl
  rw [c32] at hl
  match c, hl, xs, hxl with
  | [a, b, d, e], _, [y0, y1, y2, y3], _ =>
   have g0 := hf 0 _ rfl
   have g1 := hf 1 _ rfl
   have g2 := hf 2 _ rfl
   have g3 := hf 3 _ rfl
   simp [c30, c3, c9] at g0 g1 g2 g3
   obtain ⟨s0, rfl, _⟩ := gW Tryz.underlying47 g0
   obtain ⟨n1, rfl, _⟩ := fH Tryz.underlying3 g1
   obtain ⟨n2, rfl, _⟩ := fH Tryz.underlying3 g2
   obtain ⟨s3, rfl, _⟩ := gW Tryz.underlying9 g3
   exact ⟨⟨s0, n1, n2, s3⟩, rfl⟩
 exact ⟨l, hs⟩
def MU : List UInt8 := [2, 110, 115, 1, 97, 0, 1, 109, 0, 0, 0, 0, 5, 0, 0, 0, 10, 0, 0, 0, 3, 0, 0, 0, 100, 0, 0, 0, 4]
def BC : List Rec := [⟨[1, 97], 6, 9, MU⟩, ⟨[1, 97], 2, 9, [2, 110, 115, 1, 97, 0]⟩, ⟨[2, 110, 115, 1, 97], 1, 9, [49, 49, 49, 49]⟩]
def KM : List RSet := [⟨[1, 97], 2, 9, [[2, 110, 115, 1, 97, 0]]⟩, ⟨[1, 97], 6, 9, [MU]⟩, ⟨[2, 110, 115, 1, 97], 1, 9, [[49, 49, 49, 49]]⟩]
theorem OY : ∀ s ∈ KM, s.data.length ≤ 1000000 := by decide +kernel
theorem OZ : ∀ r ∈ BC, r.data.length ≤ 4611686018427387904 := by decide +kernel
theorem II (w : World) : Calls Tryz.prog 27 #[] w (oT w fun r w' => Sl 4 w' r (aT BC)) := by
 go_enter Tryz.func27, Tryz.ntmps27
 refine_lift NR ?_; intro _ _ _
 refine_lift fD fun _ _ => ?_
 refine cO (v := .agg #[aH [1, 97], .int .i64 6, .int .i64 9, aH MU]) rfl (Runs.build rfl (by kernel_rfl)) ?_
 refine aA ?_
 refine cO (v := .agg #[aH [1, 97], .int .i64 2, .int .i64 9, aH [2, 110, 115, 1, 97, 0]]) rfl (Runs.build rfl (by kernel_rfl)) ?_
 refine aA ?_
 refine cO (v := .agg #[aH [2, 110, 115, 1, 97], .int .i64 1, .int .i64 9, aH [49, 49, 49, 49]]) rfl (Runs.build rfl (by kernel_rfl)) ?_
 refine aA ?_
 refine bK (e := 106) (k := 4) (bytes := 48) (xs := BC.map fun r => .agg r.cells.toArray) rfl rfl rfl (by intro x hx; obtain ⟨r, _, rfl⟩ := List.mem_map.1 hx; rfl) (by decide +kernel) (by decide +kernel) ?_
 intro v1 w1 x1 s1 sl1 _
 have sl1' : Sl 4 w1 v1 (aT BC) := by simpa [aT, Value.cells, List.map_map, Function.comp_def] using sl1
 refine aA ?_
 refine_lift dE ?_
 go_ret
 exact ⟨_, rfl, x1, sl1'⟩
end Go.Proofs.X
set_option linter.unusedSimpArgs false
set_option linter.unusedVariables false
namespace Go.Proofs.X
open Go.RowKit
end Go.Proofs.X
set_option linter.unusedSimpArgs false
set_option linter.unusedVariables false
namespace Go.Proofs.X
open Go.RowKit
set_option maxRecDepth 100000
section
variable {P : Program} {w : World} {ts : List Value} {df : List Deferred} {d : Option Nat} {ty : TypeId} {ps : String} {af : Array Edge} {g : Option (Nat × Bool)}
def qY (P : Program) (t : TypeId) : Bool := match P.underlying t with | some .bool => true | _ => false
theorem Runs.eqlB {t u : TypeId} {x y : Operand} {a b : Bool} (hx : (Act.mk ts.toArray df).eval x = .bool a) (hy : (Act.mk ts.toArray df).eval y = .bool b) (ht : qY P t = true) :
 Runs P (Oper.mk d (.binOp .eql t x y u) ty ps af g) (Act.mk ts.toArray df) w (.bool (a == b)) := by
 have hu : P.underlying t = some .bool := by
  unfold qY at ht; split at ht
  ·assumption
  ·cases ht
 constructor
 simp [execOp, hx, hy, eqGuard, binOp, run_equal_bool w t a b hu]
end
theorem CS {l : List RSet} (h : pI l = true) : l.length ≤ 25 ∧ (∀ s ∈ l, s.data.length ≤ 12) ∧ (∀ s ∈ l, s.name.length ≤ 300) ∧ ∀ s ∈ l, ∀ d ∈ s.data, d.length ≤ 300 := by
 simp only [pI, Bool.and_eq_true, decide_eq_true_eq, List.all_eq_true, nQ] at h
 exact ⟨h.1, fun s hs => (h.2 s hs).1.1, fun s hs => (h.2 s hs).1.2, fun s hs d hd => (h.2 s hs).2 d hd⟩
section
variable {P : Program} {ops : Array Oper} {Q : Exit → Act → World → Prop} {w : World} {rest : List Oper} {ts : List Value} {df : List Deferred} {ty : TypeId} {ps : String} {af : Array Edge} {g : Option (Nat × Bool)}
theorem Own.slf {B k e : Nat} {w : World} {v : Value} {es : List (List Value)} (h : Own B k e w v es) : v = .slice none 0 0 ∧ es = [] ∨ ∃ g cap, v = .slice (some ⟨g, 0, none⟩) es.length cap := by
 rcases h.row.2 with ⟨h0, h1⟩ | ⟨g', cap', cur, fz, hv, _⟩
 ·exact .inl ⟨h0, List.eq_nil_of_length_eq_zero h1⟩
 ·exact .inr ⟨g', cap', hv⟩
end
end Go.Proofs.X
set_option linter.unusedSimpArgs false
set_option linter.unusedVariables false
namespace Go.Proofs.X
open Go.RowKit
end Go.Proofs.X
set_option linter.unusedSimpArgs false
set_option linter.unusedVariables false
namespace Go.Proofs.X
open Go.RowKit
set_option maxRecDepth 100000
def LR (d : List UInt8) : Int := if (cS d).isSome then 0 else 2
theorem BD (d : List UInt8) (w : World) (hl : d.length ≤ 4611686018427387904) : Calls Tryz.prog 106 #[aH d] w (bO w (.tuple #[.agg (fA d).cells.toArray, .int .i64 (LR d)])) := by
 have h := PY d w hl
 unfold fA LR
 cases hp : cS d <;> (rw [hp] at h; exact h)
section
variable {α : Type} {os : List α} {q : Nat} {x : α}
end
def PL (x : Option Rec) (os : List Rec) : Nat := os.length + (match x with | some _ => 1 | none => 0)
structure Sx (x : Option Rec) (os : List Rec) (q : Nat) : Prop where
 non : ∀ r ∈ os, uN r = false
 is : ∀ r, x = some r → uN r = true ∧ q ≤ os.length
 no : x = none → os.length ≤ q
theorem Sx.to {x : Option Rec} {os : List Rec} {q q' : Nat} (h : Sx x os q) (hq : q < PL x os) (hq' : q' < PL x os) : Sx x os q' := by
 cases x with
 | none => have := h.no rfl; simp [PL] at hq; omega
 | some r => exact ⟨h.non, fun r' e => ⟨(h.is r' e).1, by simp [PL] at hq'; omega⟩, fun e => by cases e⟩
end Go.Proofs.X
set_option linter.unusedSimpArgs false
set_option linter.unusedVariables false
namespace Go.Proofs.X
open Go.RowKit
section
variable {P : Program} {w w' : World} {d : Option Nat} {ty : TypeId} {ps : String} {af : Array Edge} {g : Option (Nat × Bool)}
end
section
variable {P : Program} {w w' : World} {d : Option Nat} {ty : TypeId} {ps : String} {af : Array Edge} {g : Option (Nat × Bool)}
end
section
variable {P : Program} {ops : Array Oper} {rest : List Oper} {ts : List Value} {df : List Deferred} {ty : TypeId} {ps : String} {af : Array Edge} {g : Option (Nat × Bool)} {tys : Array TypeId}
end
end Go.Proofs.X
set_option linter.unusedSimpArgs false
set_option linter.unusedVariables false
namespace Go.Proofs.X
open Go.RowKit
set_option maxRecDepth 100000
def LS (f : FuncId) (l : List Rec) (p : Rec → Bool) : Prop := ∀ r ∈ l, ∀ w', Calls Tryz.prog f #[.agg #[aH r.name, .int .i64 r.kind, .int .i64 r.ttl, aH r.data]] w' (bO w' (.bool (p r)))
set_option maxHeartbeats 3000000 in
theorem yO (v : Value) (l : List Rec) (f : FuncId) (p : Rec → Bool) (w : World) (hv : Sl 4 w v (aT l)) (he : Enters Tryz.prog f) (hf : LS f l p) : Calls Tryz.prog 149 #[v, .func (.func f) #[] #[]] w (bO w (.int .i64 (lZ p l))) := by
 have hle := hv.le
 have hlen := bA l
 go_enter Tryz.func149, Tryz.ntmps149
 (repeat' first | ((with_reducible refine aJ ?_); go_step) | ((with_reducible refine aI ?_); first | refine bM ?_ | (refine aL ?_ ?_ <;> intro hc)) | fail)
 go_loopw [5, 8] (fun _ i wr => ∃ k : Nat, k ≤ l.length ∧ i = .int .i64 k ∧ Ext w wr ∧ (l.take k).any p = false) (fun _ i _ => l.length - (intOf i).toNat)
 case atStart => exact ⟨0, Nat.zero_le _, rfl, Ext.refl _, rfl⟩
 case round =>
  obtain ⟨k, hk, rfl, hx, hall⟩ := hrel
  have hv2 := hv.ext hx
  by_cases hlt : k < l.length
  ·have hpe := hv2.elem (gN hlt)
   (repeat' first | ((with_reducible refine aJ ?_); go_step) | ((with_reducible refine aI ?_); first | refine bM ?_ | (refine aL ?_ ?_ <;> intro hc)) | fail)
   refine eK he rfl rfl rfl (hf _ (List.getElem_mem hlt) _) ?_
   rintro e w2 ⟨rfl, x2⟩
   refine ⟨_, rfl, ?_⟩
   refine aA ?_
   cases hp : p l[k] with
   | true =>
    (repeat' first | ((with_reducible refine aJ ?_); go_step) | ((with_reducible refine aI ?_); first | refine bM ?_ | (refine aL ?_ ?_ <;> intro hc)) | fail)
    go_ret
    exact ⟨by rw [yI hlt hall hp]; rfl, hx.trans x2⟩
   | false =>
    (repeat' first | ((with_reducible refine aJ ?_); go_step) | ((with_reducible refine aI ?_); first | refine bM ?_ | (refine aL ?_ ?_ <;> intro hc)) | fail)
    exact ⟨⟨k + 1, by omega, by go_num, hx.trans x2, pO hlt hall hp⟩, by simp [intOf]; omega⟩
  ·have : k = l.length := by omega
   subst this
   rw [List.take_length] at hall
   (repeat' first | ((with_reducible refine aJ ?_); go_step) | ((with_reducible refine aI ?_); first | refine bM ?_ | (refine aL ?_ ?_ <;> intro hc)) | fail)
   go_ret
   exact ⟨by rw [yJ hall]; rfl, hx⟩
theorem sG (v : Value) (l : List Rec) (f : FuncId) (p : Rec → Bool) (w : World) (hv : Sl 4 w v (aT l)) (he : Enters Tryz.prog f) (hf : LS f l p) : Calls Tryz.prog 102 #[v, .func (.func f) #[] #[]] w (bO w (.bool (l.any p))) := by
 go_enter Tryz.func102, Tryz.ntmps102
 (repeat' first | ((with_reducible refine aJ ?_); go_step) | ((with_reducible refine aI ?_); first | refine bM ?_ | (refine aL ?_ ?_ <;> intro hc)) | fail)
 refine aE (enters_of Tryz.func149 rfl rfl) rfl rfl (yO v l f p _ hv he hf) ?_; intro w1 x1; refine aA ?_
 (repeat' first | ((with_reducible refine aJ ?_); go_step) | ((with_reducible refine aI ?_); first | refine bM ?_ | (refine aL ?_ ?_ <;> intro hc)) | fail)
 go_ret
 exact ⟨by rw [← sN]; rfl, x1⟩
theorem parts {v : Value} {l : List Rec} {w : World} (hv : Sl 4 w v (aT l)) {n : Nat} (hn : n ≤ l.length) : Sl 4 w (dX v 4 0 n) (aT (l.take n)) ∧ Sl 4 w (dX v 4 n l.length) (aT (l.drop n)) := by
 have hlen := bA l
 have a := hv.cut (m := 0) (n := n) (by omega) (by omega)
 have b := hv.cut (m := n) (n := l.length) (by omega) (by omega)
 rw [← hlen, List.take_length, hlen] at b
 exact ⟨by simpa [aT, List.map_take] using a, by simpa [aT, List.map_drop] using b⟩
end Go.Proofs.X
