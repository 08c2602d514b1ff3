/- Laws and walks that the proof of the statement is made of (part 16). -/
import Derived.Test.YteofaejlmdplhaaGreatP15
set_option linter.unusedSimpArgs false
set_option linter.unusedVariables false
namespace Go.Proofs.X
open Go.RowKit
set_option maxRecDepth 100000
structure MsgsAt (w : World) (v : Value) (ms : List MsgR) : Prop where
 out : ∃ css, Sl 13 w v css ∧ css.length = ms.length ∧ ∀ (i : Nat) (m : MsgR), ms[i]? = some m → ∃ q a u e, css[i]? = some (cR m q a u e) ∧ MsgV w m q a u e
theorem MsgsAt.ext {w w' : World} {v : Value} {ms : List MsgR} (h : MsgsAt w v ms) (hx : Ext w w') : MsgsAt w' v ms := by
 obtain ⟨css, h1, h2, h3⟩ := h
 exact ⟨css, h1.ext hx, h2, fun i m hi => let ⟨q, a, u, e, b, c⟩ := h3 i m hi; ⟨q, a, u, e, b, c.ext hx⟩⟩
def lO (q m : MsgR) : Bool := m.resp && decide (m.id = q.id) && decide (m.rcode = 0) && !m.trunc
def kX (q : MsgR) (ms : List MsgR) : Int := if q.qs.length ≠ 1 then 1 else if ms = [] then 2 else if ms.all (lO q) = true then 0 else 2
def mQ (q : MsgR) (ms : List MsgR) : List Rec := if kX q ms = 0 then (ms.map (·.an)).flatten else []
theorem AA {ms : List MsgR} {k : Nat} (h : k < ms.length) : ((ms.take (k + 1)).map (·.an)).flatten = ((ms.take k).map (·.an)).flatten ++ ms[k].an := by
 rw [List.take_add_one, List.getElem?_eq_getElem h, List.map_append, List.flatten_append]
 simp only [Option.toList_some, List.map_cons, List.map_nil, List.flatten_cons, List.flatten_nil, List.append_nil]
theorem kF (a b : List Rec) : aC (a ++ b) = aC a ++ aC b := by simp [aC]
def IQ : List Value := [.int .i64 0, .bool false, .int .i64 0, .bool false, .bool false, .bool false, .bool false, .int .i64 0, .slice none 0 0, .slice none 0 0, .slice none 0 0, .slice none 0 0, .int .i64 0]
theorem oN {w : World} {m : MsgR} {q a u e : Value} (h : MsgV w m q a u e) : (Value.agg (cR m q a u e).toArray).cells.all (·.oneCell') = true := by
 have := h.one
 simp only [Value.cells, List.all_toArray, List.all_eq_true]
 exact this
theorem GZ {ms : List MsgR} {n : Nat} (h : ∀ m ∈ ms, m.an.length ≤ n) : (ms.map (·.an)).flatten.length ≤ ms.length * n := by
 induction ms with
 | nil => simp
 | cons m t ih =>
  have h1 := h m (by simp)
  have h2 := ih (fun x hx => h x (by simp [hx]))
  simp only [List.map_cons, List.flatten_cons, List.length_append, List.length_cons]
  rw [Nat.succ_mul]
  omega
set_option maxHeartbeats 2000000 in
theorem wV (m : MsgR) (q a u e v : Value) (ms : List MsgR) (w : World) (hm : MsgV w m q a u e) (hv : MsgsAt w v ms) (hl : ms.length ≤ 1000) (ha : ∀ x ∈ ms, x.an.length ≤ 900) :
 Calls Tryz.prog 28 #[.agg (cR m q a u e).toArray, v] w (jK w fun r w' => ∃ y, r = .tuple #[y, .int .i64 (kX m ms)] ∧ Own w.heap.size 4 47 w' y (aC (mQ m ms))) := by
 have hql := bN m.qs
 obtain ⟨css, hs, hcl, hat⟩ := hv.out
 go_enter Tryz.func28, Tryz.ntmps28
 refine_lift rF ?_; intro _ _ _
 refine aT (vs := cR m q a u e) rfl rfl ?_
 intro p w1 x1 hp
 refine aA ?_
 unfold cR at hp
 have hq1 := hm.qs.ext x1
 have hs1 := hs.ext x1
 by_cases h1 : m.qs.length = 1
 ·have h1' : ((bQ m.qs).length : Int) = 1 := by omega
  by_cases h0 : ms = []
  ·have h0' : (css.length : Int) = 0 := by rw [hcl, h0]; rfl
   have hE : kX m ms = 2 := by rw [kX, if_neg (by simpa using h1), if_pos h0]
   refine_lift SI (fun _ _ => ?_) (fun _ => ?_)
   all_goals first
    | (exfalso; have hh := ‹(!decide (((bQ m.qs).length : Int) = 1)) = true›; simp [h1'] at hh; done)
    | (exfalso; omega)
    | skip
   go_ret2
   refine ⟨_, rfl, x1, .slice none 0 0, by rw [hE]; rfl, ?_⟩
   rw [mQ, if_neg (by rw [hE]; decide)]
   exact Own.nil _ _ _ _
  ·have h0' : ¬ (css.length : Int) = 0 := by
    have := List.length_pos_iff.2 h0
    omega
   have hE : kX m ms = if ms.all (lO m) = true then 0 else 2 := by rw [kX, if_neg (by simpa using h1), if_neg h0]
   refine_lift OZ (fun _ _ _ _ => ?_) (fun _ => ?_)
   all_goals first
    | (exfalso; have hh := ‹(!decide (((bQ m.qs).length : Int) = 1)) = true›; simp [h1'] at hh; done)
    | (exfalso; omega)
    | skip
   have hsz1 := x1.size
   go_loopw [6, 20] (fun o i wr => ∃ k : Nat, k ≤ ms.length ∧ i = .int .i64 k ∧ Ext w1 wr ∧ Own w1.heap.size 4 47 wr o (aC ((ms.take k).map (·.an)).flatten) ∧ (ms.take k).all (lO m) = true) (fun _ i _ => ms.length - (intOf i).toNat)
   case atStart => exact ⟨0, Nat.zero_le _, rfl, Ext.refl _, Own.nil _ _ _ _, rfl⟩
   case round =>
    obtain ⟨k, hk, rfl, hx, ho, hall⟩ := hrel
    have hpr := hp.ext hx
    have hsr := hs1.ext hx
    by_cases hlt : k < ms.length
    ·obtain ⟨qk, ak, uk, ek, hck, hmk⟩ := hat k _ (List.getElem?_eq_getElem hlt)
     have hpe := hsr.elem hck
     have hkc : k < css.length := by omega
     have hmr := (hmk.ext x1).ext hx
     have hak := ha _ (List.getElem_mem hlt)
     unfold cR at hpe
     refine_lift ME ?_; intro _ _ _ _ _ _
     refine aF (z := IQ) rfl (by decide +kernel) ?_
     intro w3 x3 s3 h3
     refine aA ?_
     refine aD (v := .agg (cR ms[k] qk ak uk ek).toArray) rfl rfl rfl h3 (show aO Tryz.prog 55 13 = true by decide +kernel) rfl (oN hmr) ?_
     intro w4 p4
     have x4 : Ext wr w4 := x3.move p4.mv (by rintro k ⟨⟩; exact Nat.le_refl _)
     have hk4 : w4.heap[wr.heap.size]? = some (.cells (cR ms[k] qk ak uk ek).toArray 55 (0, 0)) := p4.this
     have hx4 := hx.trans x4
     have hp4 := hpr.ext x4
     have ho4 := ho.ext x4
     have hm4 := hmr.ext x4
     clear p4 h3 x3 x4 hpe hpr ho hx
     generalize wr.heap.size = mk at *
     have hpm := aE (cs := cR ms[k] qk ak uk ek) hk4
     unfold cR at hpm
     obtain ⟨x, hx0⟩ : ∃ x, x = ms[k] := ⟨_, rfl⟩
     rw [← hx0] at hpm hm4 hak
     have hx0 := hx0.symm
     cases hre : x.resp with
     | false =>
      rw [hre] at hpm
      refine_lift cV ?_
      go_ret2
      refine ⟨_, rfl, x1.trans hx4, .slice none 0 0, by rw [hE, if_neg (by rw [dP hlt (p := lO m) (by rw [hx0]; simp [lO, hre])]; decide)]; rfl, ?_⟩
      rw [mQ, if_neg (by rw [hE, if_neg (by rw [dP hlt (p := lO m) (by rw [hx0]; simp [lO, hre])]; decide)]; decide)]
      exact Own.nil _ _ _ _
     | true =>
      rw [hre] at hpm
      by_cases hid : x.id = m.id
      ·by_cases hrc : x.rcode = 0
       ·cases htr : x.trunc with
        | true =>
         rw [htr] at hpm
         refine_lift CF (fun hc hc => ?_) (fun hc => ?_) (fun hc hc => ?_)
         all_goals first
          | (exfalso; have hh := ‹(!decide (x.id = m.id)) = true›; simp [hid] at hh; done)
          | (exfalso; have hh := ‹(!decide (x.id = m.id)) = false›; simp [hid] at hh; done)
          | (exfalso; have hh := ‹(!decide (x.rcode = 0)) = true›; simp [hrc] at hh; done)
          | (exfalso; have hh := ‹(!decide (x.rcode = 0)) = false›; simp [hrc] at hh; done)
          | skip
         go_ret2
         refine ⟨_, rfl, x1.trans hx4, .slice none 0 0, by rw [hE, if_neg (by rw [dP hlt (p := lO m) (by rw [hx0]; simp [lO, hre, hid, hrc, htr])]; decide)]; rfl, ?_⟩
         rw [mQ, if_neg (by rw [hE, if_neg (by rw [dP hlt (p := lO m) (by rw [hx0]; simp [lO, hre, hid, hrc, htr])]; decide)]; decide)]
         exact Own.nil _ _ _ _
        | false =>
         rw [htr] at hpm
         refine_lift CF (fun hc hc => ?_) (fun hc => ?_) (fun hc hc => ?_)
         all_goals first
          | (exfalso; have hh := ‹(!decide (x.id = m.id)) = true›; simp [hid] at hh; done)
          | (exfalso; have hh := ‹(!decide (x.id = m.id)) = false›; simp [hid] at hh; done)
          | (exfalso; have hh := ‹(!decide (x.rcode = 0)) = true›; simp [hrc] at hh; done)
          | (exfalso; have hh := ‹(!decide (x.rcode = 0)) = false›; simp [hrc] at hh; done)
          | skip
         have hfl := GZ (ms := ms.take k) (n := 900) (fun y hy => ha y (List.mem_of_mem_take hy))
         have htk : (ms.take k).length ≤ 999 := by rw [List.length_take]; omega
         have hfl2 := Nat.le_trans hfl (Nat.mul_le_mul_right 900 htk)
         refine bW rfl ho4 rfl hm4.an eK (Ext.size hx4) (by rw [aG, aG]; omega) ?_
         intro v5 w5 o5 m5 _
         refine aA ?_
         have hx5 := ho4.mvx m5 hx4 (Nat.le_refl _)
         refine_lift cV ?_
         have o5' : Own w1.heap.size 4 47 w5 v5 (aC ((ms.take (k + 1)).map (·.an)).flatten) := by
          rw [AA hlt, kF, hx0]
          exact o5
         exact ⟨⟨k + 1, by omega, rfl, hx5, o5', gW hlt hall (by rw [hx0]; simp [lO, hre, hid, hrc, htr])⟩, by simp [intOf]; omega⟩
       ·skip
        refine_lift uK (fun hc hc _ => ?_) (fun hc hc => ?_) (fun hc => ?_) (fun hc hc _ => ?_)
        all_goals first
         | (exfalso; have hh := ‹(!decide (x.id = m.id)) = true›; simp [hid] at hh; done)
         | (exfalso; have hh := ‹(!decide (x.id = m.id)) = false›; simp [hid] at hh; done)
         | (exfalso; have hh := ‹(!decide (x.rcode = 0)) = true›; simp [hrc] at hh; done)
         | (exfalso; have hh := ‹(!decide (x.rcode = 0)) = false›; simp [hrc] at hh; done)
         | skip
        go_ret2
        refine ⟨_, rfl, x1.trans hx4, .slice none 0 0, by rw [hE, if_neg (by rw [dP hlt (p := lO m) (by rw [hx0]; simp [lO, hre, hid, hrc])]; decide)]; rfl, ?_⟩
        rw [mQ, if_neg (by rw [hE, if_neg (by rw [dP hlt (p := lO m) (by rw [hx0]; simp [lO, hre, hid, hrc])]; decide)]; decide)]
        exact Own.nil _ _ _ _
      ·skip
       refine_lift uK (fun hc hc _ => ?_) (fun hc hc => ?_) (fun hc => ?_) (fun hc hc _ => ?_)
       all_goals first
        | (exfalso; have hh := ‹(!decide (x.id = m.id)) = true›; simp [hid] at hh; done)
        | (exfalso; have hh := ‹(!decide (x.id = m.id)) = false›; simp [hid] at hh; done)
        | skip
       go_ret2
       refine ⟨_, rfl, x1.trans hx4, .slice none 0 0, by rw [hE, if_neg (by rw [dP hlt (p := lO m) (by rw [hx0]; simp [lO, hre, hid])]; decide)]; rfl, ?_⟩
       rw [mQ, if_neg (by rw [hE, if_neg (by rw [dP hlt (p := lO m) (by rw [hx0]; simp [lO, hre, hid])]; decide)]; decide)]
       exact Own.nil _ _ _ _
    ·have hk2 : k = ms.length := by omega
     subst hk2
     rw [List.take_length] at hall ho
     refine_lift JK fun _ => ?_
     go_ret2
     refine ⟨_, rfl, x1.trans hx, _, by rw [hE, if_pos hall]; rfl, ?_⟩
     rw [mQ, if_pos (by rw [hE, if_pos hall])]
     exact ho.weaken hsz1
 ·have h1' : ¬ ((bQ m.qs).length : Int) = 1 := by omega
  have hE : kX m ms = 1 := by rw [kX, if_pos h1]
  refine_lift QU (fun _ _ => ?_) (fun _ _ _ _ => ?_) (fun _ => ?_)
  all_goals first
   | (exfalso; have hh := ‹(!decide (((bQ m.qs).length : Int) = 1)) = false›; simp [h1'] at hh; done)
   | skip
  go_ret2
  refine ⟨_, rfl, x1, .slice none 0 0, by rw [hE]; rfl, ?_⟩
  rw [mQ, if_neg (by rw [hE]; decide)]
  exact Own.nil _ _ _ _
theorem IR (nm : List UInt8) (w : World) : Calls Tryz.prog 65 #[aH nm] w (bC w (.int .i64 (eC nm))) := by
 have h := nH nm w
 rwa [show (if (bA nm).isSome then (0 : Int) else 1) = eC nm by unfold eC; rfl] at h
set_option maxHeartbeats 1000000 in
theorem DZ (q : xX) (w : World) : Calls Tryz.prog 126 #[.agg #[aH q.1, .int .i64 q.2]] w (bC w (.bool (BL q))) := by
 go_enter Tryz.func126, Tryz.ntmps126
 refine_lift gT fun _ _ => ?_
 refine aT (vs := [aH q.1, .int .i64 q.2]) rfl rfl ?_
 intro p w1 x1 hp
 refine aA ?_
 refine_lift kU fun _ _ => ?_
 refine aB (enters_of Tryz.func65 rfl rfl) rfl rfl (IR q.1 w1) ?_; intro w2 x2; refine aA ?_
 have hp2 := hp.ext x2
 have hx2 := x1.trans x2
 by_cases hcE : eC q.1 = 0
 ·rw [hcE]
  refine_lift CF (fun hc hc => ?_) (fun hc => ?_) (fun hc hc => ?_)
  all_goals
   go_ret
   refine ⟨?_, hx2⟩
   simp [BL, hcE]
   omega
 ·refine_lift uK (fun hc hc hc => ?_) (fun hc hc => ?_) (fun hc => ?_) (fun hc hc hc => ?_)
  all_goals first
   | (exfalso; contradiction)
   | skip
  go_ret
  refine ⟨?_, hx2⟩
  simp [BL, hcE]
set_option maxHeartbeats 1000000 in
theorem FU (v : Value) (l : List Rec) (w : World) (hv : Sl 4 w v (aC l)) (hd : ∀ r ∈ l, r.data.length ≤ 4611686018427387904) : Calls Tryz.prog 127 #[v] w (bC w (.bool (eD l))) := by
 have hlen := aG l
 have hle := hv.le
 go_enter Tryz.func127, Tryz.ntmps127
 refine_lift JL (fun _ _ _ => ?_) (fun _ => ?_)
 ·have h2 : decide (l.length ≤ 200) = false := decide_eq_false (by have := ‹200 < ((aC l).length : Int)›; omega)
  go_ret
  refine ⟨?_, Ext.refl _⟩
  rw [eD, h2]
  rfl
 ·have h2 : decide (l.length ≤ 200) = true := decide_eq_true (by have := ‹((aC l).length : Int) ≤ 200›; omega)
  go_loopw [3] (fun i wr => ∃ k : Nat, k ≤ l.length ∧ i = .int .i64 k ∧ Ext w wr ∧ (l.take k).any (fun r => !decide (aV r = 0)) = false) (fun i _ => l.length - (intOf i).toNat)
  case atStart => exact ⟨0, Nat.zero_le _, rfl, Ext.refl _, rfl⟩
  case round =>
   obtain ⟨k, hk, rfl, hx, hall⟩ := hrel
   have hv2 := hv.ext hx
   by_cases hlt : k < l.length
   ·have h1 := hv2.elem (dI hlt)
    have hdk := hd _ (List.getElem_mem hlt)
    refine_lift ME ?_; intro _ _ _ _ _ _
    refine aB (enters_of Tryz.func66 rfl rfl) rfl rfl (vF l[k] _ hdk) ?_; intro w4 x4; refine aA ?_
    by_cases hc0 : aV l[k] = 0
    ·rw [hc0]
     refine_lift cV ?_
     exact ⟨⟨k + 1, by omega, rfl, hx.trans x4, fR hlt hall (by simp [hc0])⟩, by simp [intOf]; omega⟩
    ·refine_lift xO (fun _ => ?_) (fun _ => ?_)
     all_goals first
      | (exfalso; have hh := ‹(!decide (aV l[k] = 0)) = false›; simp [hc0] at hh; done)
      | skip
     go_ret
     refine ⟨?_, hx.trans x4⟩
     have : l.any (fun r => !decide (aV r = 0)) = true := List.any_eq_true.2 ⟨l[k], List.getElem_mem hlt, by simp [hc0]⟩
     rw [eD, this, Bool.not_true, Bool.and_false]
     rfl
   ·have hk2 : k = l.length := by omega
    subst hk2
    rw [List.take_length] at hall
    refine_lift JK fun _ => ?_
    go_ret
    refine ⟨?_, hx⟩
    rw [eD, h2, hall]
    rfl
set_option maxHeartbeats 4000000 in
theorem LW (m : MsgR) (q a u e : Value) (w : World) (hm : MsgV w m q a u e) (hd : ∀ r, r ∈ m.an ∨ r ∈ m.au ∨ r ∈ m.ex → r.data.length ≤ 4611686018427387904) : Calls Tryz.prog 77 #[.agg (cR m q a u e).toArray] w (bC w (.int .i64 (dM m))) := by
 have hql := bN m.qs
 have hqle := hm.qs.le
 go_enter Tryz.func77, Tryz.ntmps77
 refine_lift gT fun _ _ => ?_
 refine aT (vs := cR m q a u e) rfl rfl ?_
 intro p w1 x1 hp
 refine aA ?_
 unfold cR at hp
 have hq1 := hm.qs.ext x1
 (repeat' first | ((with_reducible refine cI ?_); go_step) | ((with_reducible refine bJ ?_); first | refine gN ?_ | (refine cZ ?_ ?_ <;> intro hc)) | fail)
 all_goals try simp only [Bool.not_eq_true', decide_eq_false_iff_not, Bool.not_eq_false', decide_eq_true_eq] at *
 all_goals first
  | (go_ret
     refine ⟨?_, x1⟩
     rw [dM, if_neg (by simp only [eX, Bool.and_eq_true, decide_eq_true_eq, Bool.or_eq_true]; omega)]
     rfl)
  | skip
 all_goals
  have hA : (eX m.id 0 65535 && eX m.op 0 15 && eX m.rcode 0 15 && (decide (m.size = 0) || eX m.size 512 65535)) = true := by
   simp only [eX, Bool.and_eq_true, decide_eq_true_eq, Bool.or_eq_true]; omega
  have hB : decide (m.qs.length ≤ 10) = true := decide_eq_true (by omega)
  have hC : dM m = if m.qs.all BL && (eD m.an && eD m.au && eD m.ex) then 0 else 1 := by
   rw [dM, hA, hB, Bool.true_and, Bool.true_and]
  clear hA hB
  go_loopw [3] (fun i wr => ∃ k : Nat, k ≤ m.qs.length ∧ i = .int .i64 k ∧ Ext w1 wr ∧ (m.qs.take k).all BL = true) (fun i _ => m.qs.length - (intOf i).toNat)
  case atStart => exact ⟨0, Nat.zero_le _, rfl, Ext.refl _, rfl⟩
  case round =>
   obtain ⟨k, hk, rfl, hx, hall⟩ := hrel
   have hq2 := hq1.ext hx
   have hp2 := hp.ext hx
   by_cases hlt : k < m.qs.length
   ·have h1 := hq2.elem (lK hlt)
    refine_lift ME ?_; intro _ _ _ _ _ _
    refine aB (enters_of Tryz.func126 rfl rfl) rfl rfl (DZ m.qs[k] _) ?_; intro w4 x4; refine aA ?_
    cases hc0 : BL m.qs[k] with
    | true =>
     refine_lift cV ?_
     exact ⟨⟨k + 1, by omega, rfl, hx.trans x4, gW hlt hall hc0⟩, by simp [intOf]; omega⟩
    | false =>
     refine_lift cV ?_
     go_ret
     refine ⟨?_, x1.trans (hx.trans x4)⟩
     rw [hC, dP hlt hc0]
     rfl
   ·have hk2 : k = m.qs.length := by omega
    subst hk2
    rw [List.take_length] at hall
    rw [hall, Bool.true_and] at hC
    refine_lift UD fun _ _ _ _ _ => ?_
    refine aB (enters_of Tryz.func127 rfl rfl) rfl rfl (FU a m.an _ ((hm.an.ext x1).ext hx) (fun r hr => hd r (.inl hr))) ?_; intro w4 x4; refine aA ?_
    have hx4 := hx.trans x4
    have hp4 := hp.ext hx4
    cases h4 : eD m.an with
    | false =>
     refine_lift cV ?_
     go_ret
     refine ⟨?_, x1.trans hx4⟩
     rw [hC, h4]
     rfl
    | true =>
     refine_lift cV ?_
     refine aB (enters_of Tryz.func127 rfl rfl) rfl rfl (FU u m.au _ ((hm.au.ext x1).ext hx4) (fun r hr => hd r (.inr (.inl hr)))) ?_; intro w5 x5; refine aA ?_
     have hx5 := hx4.trans x5
     have hp5 := hp.ext hx5
     cases h5 : eD m.au with
     | false =>
      refine_lift cV ?_
      go_ret
      refine ⟨?_, x1.trans hx5⟩
      rw [hC, h4, h5]
      rfl
     | true =>
      refine_lift cV ?_
      refine aB (enters_of Tryz.func127 rfl rfl) rfl rfl (FU e m.ex _ ((hm.ex.ext x1).ext hx5) (fun r hr => hd r (.inr (.inr hr)))) ?_; intro w6 x6; refine aA ?_
      have hx6 := hx5.trans x6
      cases h6 : eD m.ex with
      | false =>
       refine_lift cV ?_
       go_ret
       refine ⟨?_, x1.trans hx6⟩
       rw [hC, h4, h5, h6]
       rfl
      | true =>
       refine_lift cV ?_
       go_ret
       refine ⟨?_, x1.trans hx6⟩
       rw [hC, h4, h5, h6]
       rfl
def cP (q : MsgR) (l : List Rec) : MsgR := ⟨q.id, true, 0, true, false, false, false, 0, q.qs, l, [], [], 0⟩
def dT : Nat → Nat → List Rec → List (List Rec)
 | 0, _, l => [l]
 | f + 1, n, l => if l.length ≤ n then [l] else l.take n :: dT f n (l.drop n)
def eE (n : Nat) (l : List Rec) : List (List Rec) := dT l.length n l
theorem tG {n : Nat} (hn : 1 ≤ n) : ∀ (k f g : Nat) (l : List Rec), l.length ≤ k → l.length ≤ f → l.length ≤ g → dT f n l = dT g n l
 | _, 0, 0, l, _, _, _ => rfl
 | _, 0, g + 1, l, _, h, _ => by
   have : l.length ≤ n := by omega
   rw [dT, dT, if_pos this]
 | _, f + 1, 0, l, _, _, h => by
   have : l.length ≤ n := by omega
   rw [dT, dT, if_pos this]
 | 0, f + 1, g + 1, l, h, _, _ => by
   have : l.length ≤ n := by omega
   rw [dT, dT, if_pos this, if_pos this]
 | k + 1, f + 1, g + 1, l, hk, hf, hg => by
   rw [dT, dT]
   by_cases h : l.length ≤ n
   ·rw [if_pos h, if_pos h]
   ·rw [if_neg h, if_neg h, tG hn k f g (l.drop n) (by rw [List.length_drop]; omega) (by rw [List.length_drop]; omega) (by rw [List.length_drop]; omega)]
theorem qF {n : Nat} {l : List Rec} (h : l.length ≤ n) : eE n l = [l] := by
 unfold eE
 cases hl : l.length with
 | zero => rfl
 | succ k => rw [dT, if_pos h]
theorem tH {n : Nat} {l : List Rec} (hn : 1 ≤ n) (h : n < l.length) : eE n l = l.take n :: eE n (l.drop n) := by
 unfold eE
 obtain ⟨k, hk⟩ : ∃ k, l.length = k + 1 := ⟨l.length - 1, by omega⟩
 rw [hk, dT, if_neg (by omega), tG hn k k (l.drop n).length (l.drop n) (by rw [List.length_drop]; omega) (by rw [List.length_drop]; omega) (Nat.le_refl _)]
def iD (q : MsgR) (l : List Rec) (most : Int) : Bool := decide (dM q = 0) && (decide (q.qs.length = 1) && (decide (1 ≤ most) && decide (most ≤ 200))) && !(l.any fun r => !decide (aV r = 0))
def gQ (q : MsgR) (l : List Rec) (most : Int) : Int := if iD q l most = true then 0 else 1
def fK (q : MsgR) (l : List Rec) (most : Int) : List MsgR := if iD q l most = true then (eE most.toNat l).map (cP q) else []
structure MsgsV (B : Nat) (w : World) (v : Value) (ms : List MsgR) : Prop where
 out : ∃ css, Own B 13 55 w v css ∧ css.length = ms.length ∧ ∀ (i : Nat) (m : MsgR), ms[i]? = some m → ∃ q a, css[i]? = some (cR m q a (.slice none 0 0) (.slice none 0 0)) ∧ Own B 2 78 w q (bQ m.qs) ∧ Own B 4 47 w a (aC m.an) ∧ m.au = [] ∧ m.ex = []
theorem MsgsV.nil (B : Nat) (w : World) : MsgsV B w (.slice none 0 0) [] := ⟨[], Own.nil _ _ _ _, rfl, by simp⟩
theorem MsgsV.ext {B : Nat} {w w' : World} {v : Value} {ms : List MsgR} (h : MsgsV B w v ms) (hx : Ext w w') : MsgsV B w' v ms := by
 obtain ⟨css, h1, h2, h3⟩ := h
 exact ⟨css, h1.ext hx, h2, fun i m hi => let ⟨q, a, b, c, d, e, f⟩ := h3 i m hi; ⟨q, a, b, c.ext hx, d.ext hx, e, f⟩⟩
theorem MsgsV.weaken {B C : Nat} {w : World} {v : Value} {ms : List MsgR} (h : MsgsV B w v ms) (hc : C ≤ B) : MsgsV C w v ms := by
 obtain ⟨css, h1, h2, h3⟩ := h
 exact ⟨css, h1.weaken hc, h2, fun i m hi => let ⟨q, a, b, c, d, e, f⟩ := h3 i m hi; ⟨q, a, b, c.weaken hc, d.weaken hc, e, f⟩⟩
theorem MsgsV.msgs {B : Nat} {w : World} {v : Value} {ms : List MsgR} (h : MsgsV B w v ms) : MsgsAt w v ms := by
 obtain ⟨css, h1, h2, h3⟩ := h
 exact ⟨css, h1.sl, h2, fun i m hi => let ⟨q, a, b, c, d, e, f⟩ := h3 i m hi; ⟨q, a, _, _, b, c.sl, d.sl, by rw [e]; exact Sl.nil _ _, by rw [f]; exact Sl.nil _ _⟩⟩
theorem MsgsV.put {B b t : Nat} {w w' : World} {v : Value} {ms : List MsgR} {cs : Array Value} {fz : Nat × Nat} {o : Obj} (h : MsgsV B w v ms) (hb : w.heap[b]? = some (.cells cs t fz)) (h1 : t ≠ 55) (h2 : t ≠ 78) (h3 : t ≠ 47) (hp : Put w w' b o) : MsgsV B w' v ms := by
 obtain ⟨css, a, c, e⟩ := h
 exact ⟨css, a.mv hp.mv (.inr (a.neBlock hb h1)), c, fun i d hi => let ⟨g, n, x, y, z, u⟩ := e i d hi; ⟨g, n, x, y.mv hp.mv (.inr (y.neBlock hb h2)), z.mv hp.mv (.inr (z.neBlock hb h3)), u⟩⟩
theorem MsgsV.notAt {B : Nat} {w : World} {v : Value} {ms : List MsgR} (h : MsgsV B w v ms) : v.ownBlock ≠ some w.heap.size := by
 obtain ⟨css, h1, _⟩ := h
 intro e
 have := (h1.block _ e).2
 omega
theorem MsgsV.putM {B b : Nat} {w w' : World} {v : Value} {ms : List MsgR} {cs : Array Value} {fz : Nat × Nat} {o : Obj} (h : MsgsV B w v ms) (hn : v.ownBlock ≠ some b) (hb : w.heap[b]? = some (.cells cs 55 fz)) (hp : Put w w' b o) : MsgsV B w' v ms := by
 obtain ⟨css, a, c, e⟩ := h
 exact ⟨css, a.mv hp.mv (.inr hn), c, fun i d hi => let ⟨g, n, x, y, z, u⟩ := e i d hi; ⟨g, n, x, y.mv hp.mv (.inr (y.neBlock hb (by decide))), z.mv hp.mv (.inr (z.neBlock hb (by decide))), u⟩⟩
theorem MsgsV.add {B : Nat} {w w' : World} {v v' q a : Value} {ms : List MsgR} {m : MsgR} {css : List (List Value)} (h1 : Own B 13 55 w v css) (h2 : css.length = ms.length)
 (h3 : ∀ (i : Nat) (m : MsgR), ms[i]? = some m → ∃ q a, css[i]? = some (cR m q a (.slice none 0 0) (.slice none 0 0)) ∧ Own B 2 78 w q (bQ m.qs) ∧ Own B 4 47 w a (aC m.an) ∧ m.au = [] ∧ m.ex = []) (hm : Mv v.ownBlock w w')
 (o : Own B 13 55 w' v' (css ++ [cR m q a (.slice none 0 0) (.slice none 0 0)])) (hq : Own B 2 78 w q (bQ m.qs)) (ha : Own B 4 47 w a (aC m.an)) (hu : m.au = []) (he : m.ex = []) : MsgsV B w' v' (ms ++ [m]) := by
 refine ⟨_, o, by simp [h2], fun i x hi => ?_⟩
 by_cases hlt : i < ms.length
 ·rw [List.getElem?_append_left hlt] at hi
  obtain ⟨q', a', b, c, d, e⟩ := h3 i x hi
  exact ⟨q', a', by rw [List.getElem?_append_left (by omega)]; exact b, c.mv hm (c.ne h1 (by decide)), d.mv hm (d.ne h1 (by decide)), e⟩
 ·rw [List.getElem?_append_right (by omega)] at hi
  have hi0 : i - ms.length = 0 := by
   have := (List.getElem?_eq_some_iff.1 hi).1
   simp only [List.length_cons, List.length_nil] at this
   omega
  rw [hi0] at hi
  have hx : m = x := by simpa using hi
  subst hx
  have : i = css.length := by omega
  subst this
  exact ⟨q, a, by rw [List.getElem?_append_right (Nat.le_refl _)]; simp, hq.mv hm (hq.ne h1 (by decide)), ha.mv hm (ha.ne h1 (by decide)), hu, he⟩
theorem wW {l : List xX} : ∀ f ∈ bQ l, ∀ u ∈ f, u.oneCell' = true := by
 intro f hf u hu
 simp only [bQ, List.mem_map] at hf
 obtain ⟨q, _, rfl⟩ := hf
 simp only [List.mem_cons, List.not_mem_nil, or_false] at hu
 rcases hu with rfl | rfl <;> rfl
set_option maxHeartbeats 4000000 in
theorem LX (m : MsgR) (q a u e v : Value) (l : List Rec) (most : Int) (w : World) (hm : MsgV w m q a u e) (hv : Sl 4 w v (aC l)) (hl : l.length ≤ 1000) (hd : ∀ r, r ∈ m.an ∨ r ∈ m.au ∨ r ∈ m.ex ∨ r ∈ l → r.data.length ≤ 4611686018427387904) :
 Calls Tryz.prog 27 #[.agg (cR m q a u e).toArray, v, .int .i64 most] w (jK w fun r w' => ∃ y, r = .tuple #[y, .int .i64 (gQ m l most)] ∧ MsgsV w.heap.size w' y (fK m l most)) := by
 have hql := bN m.qs
 have hlen := aG l
 go_enter Tryz.func27, Tryz.ntmps27
 refine_lift rF ?_; intro _ _ _
 refine aT (vs := cR m q a u e) rfl rfl ?_
 intro p w1 x1 hp
 refine aA ?_
 unfold cR at hp
 have hq1 := hm.qs.ext x1
 have hs1 := hv.ext x1
 have hm1 := hm.ext x1
 refine_lift PB fun _ _ _ _ => ?_
 refine aB (enters_of Tryz.func77 rfl rfl) rfl rfl (LW m q a u e _ hm1 (fun r hr => hd r (by rcases hr with h | h | h; exact .inl h; exact .inr (.inl h); exact .inr (.inr (.inl h))))) ?_; intro w2 x2; refine aA ?_
 have hx2 := x1.trans x2
 have hp2 := hp.ext x2
 have hq2 := hq1.ext x2
 have hs2 := hs1.ext x2
 by_cases hB : (dM m = 0 ∧ m.qs.length = 1 ∧ 1 ≤ most ∧ most ≤ 200)
 ·obtain ⟨b1, b2, b3, b4⟩ := hB
  have b2' : ((bQ m.qs).length : Int) = 1 := by omega
  rw [b1]
  refine_lift QY (fun hc hc => ?_) (fun hc => ?_) (fun hc hc _ _ _ => ?_)
  all_goals first
   | (exfalso; have hh := ‹(!decide (((bQ m.qs).length : Int) = 1)) = true›; simp [b2'] at hh; done)
   | (exfalso; omega)
   | (exfalso; have hh := ‹(!decide ((0 : Int) = 0)) = true›; simp at hh; done)
   | skip
  go_loopw [8] (fun i wr => ∃ k : Nat, k ≤ l.length ∧ i = .int .i64 k ∧ Ext w2 wr ∧ (l.take k).any (fun r => !decide (aV r = 0)) = false) (fun i _ => l.length - (intOf i).toNat)
  case atStart => exact ⟨0, Nat.zero_le _, rfl, Ext.refl _, rfl⟩
  case round =>
   obtain ⟨k, hk, rfl, hx, hall⟩ := hrel
   have hsr := hs2.ext hx
   by_cases hlt : k < l.length
   ·have hpe := hsr.elem (dI hlt)
    have hdk := hd _ (.inr (.inr (.inr (List.getElem_mem hlt))))
    refine_lift ME ?_; intro _ _ _ _ _ _
    refine aB (enters_of Tryz.func66 rfl rfl) rfl rfl (vF l[k] _ hdk) ?_; intro w4 x4; refine aA ?_
    by_cases hc0 : aV l[k] = 0
    ·rw [hc0]
     refine_lift cV ?_
     exact ⟨⟨k + 1, by omega, rfl, hx.trans x4, fR hlt hall (by simp [hc0])⟩, by simp [intOf]; omega⟩
    ·have hA : l.any (fun r => !decide (aV r = 0)) = true := List.any_eq_true.2 ⟨l[k], List.getElem_mem hlt, by simp [hc0]⟩
     have hP : iD m l most = false := by rw [iD, hA, Bool.not_true, Bool.and_false]
     refine_lift xO (fun _ => ?_) (fun _ => ?_)
     all_goals first
      | (exfalso; have hh := ‹(!decide (aV l[k] = 0)) = false›; simp [hc0] at hh; done)
      | skip
     go_ret2
     exact ⟨_, rfl, hx2.trans (hx.trans x4), .slice none 0 0, by rw [gQ, hP]; rfl, by rw [fK, hP]; exact MsgsV.nil _ _⟩
   ·have hk2 : k = l.length := by omega
    subst hk2
    rw [List.take_length] at hall
    have hP : iD m l most = true := by rw [iD, hall, decide_eq_true b1, decide_eq_true b2, decide_eq_true b3, decide_eq_true b4]; rfl
    obtain ⟨n, rfl⟩ : ∃ n : Nat, most = n := ⟨most.toNat, by omega⟩
    have hn : 1 ≤ n := by omega
    have hE : gQ m l n = 0 := by rw [gQ, if_pos hP]
    have hL : fK m l n = (eE n l).map (cP m) := by rw [fK, if_pos hP]; rfl
    obtain ⟨w9, rfl⟩ : ∃ w9, w9 = wr := ⟨wr, rfl⟩
    have hxr := hx2.trans hx
    have hpr := hp2.ext hx
    have hqr := hq2.ext hx
    clear hs2 hq1 hs1 hp hp2 hq2
    refine_lift JK fun _ => ?_
    go_loopw [1, 9] (fun lv o wl => ∃ (rest : List Rec) (ms : List MsgR), Sl 4 w9 lv (aC rest) ∧ MsgsV w9.heap.size wl o ms ∧ Ext w9 wl ∧ ms ++ (eE n rest).map (cP m) = (eE n l).map (cP m) ∧ ms.length + rest.length ≤ l.length) (fun lv _ _ => DW lv)
    case atStart => exact ⟨l, [], hsr, MsgsV.nil _ _, Ext.refl _, rfl, by simp⟩
    case round =>
     obtain ⟨rest, ms, hsl, hms, hxl, hch, hle⟩ := hrel
     have hlr := aG rest
     have hslr := hsl.ext hxl
     have hpl := hpr.ext hxl
     have hql2 := hqr.ext hxl
     obtain ⟨c, hc⟩ : ∃ c, c = min n rest.length := ⟨_, rfl⟩
     have hcI : min (n : Int) ((aC rest).length : Int) = (c : Int) := by omega
     have hsn := hsl.slLen
     have hna := hms.notAt
     refine_lift rF ?_; intro _ _ _
     iterate 4 ((with_reducible refine bJ ?_); (first | (refine fY ?_; refine rJ ?_) | (refine iH ?_; refine jG ?_; (with_reducible refine bJ ?_); refine fY ?_; refine rJ ?_)))
     rw [hcI]
     refine_lift kU fun _ _ => ?_
     refine aU (v := .agg #[.int .i64 m.id, .bool true, .int .i64 0, .bool true, .bool false, .bool false, .bool false, .int .i64 0, .slice none 0 0, .slice none 0 0, .slice none 0 0, .slice none 0 0, .int .i64 0]) rfl (Runs.build rfl (by kernel_rfl)) ?_
     refine aA ?_
     refine aF (z := IQ) rfl (by decide +kernel) ?_
     intro w3 x3 s3 h3
     refine aA ?_
     refine aD (v := .agg #[.int .i64 m.id, .bool true, .int .i64 0, .bool true, .bool false, .bool false, .bool false, .int .i64 0, .slice none 0 0, .slice none 0 0, .slice none 0 0, .slice none 0 0, .int .i64 0]) rfl rfl rfl h3 (show aO Tryz.prog 55 13 = true by decide +kernel) rfl (oN (w := w3) (m := ⟨m.id, true, 0, true, false, false, false, 0, [], [], [], [], 0⟩) ⟨Sl.nil _ _, Sl.nil _ _, Sl.nil _ _, Sl.nil _ _⟩) ?_
     intro w4 p4
     have x4 : Ext wr w4 := x3.move p4.mv (by rintro k ⟨⟩; exact Nat.le_refl _)
     have hk4 : w4.heap[wr.heap.size]? = some (.cells [.int .i64 m.id, .bool true, .int .i64 0, .bool true, .bool false, .bool false, .bool false, .int .i64 0, .slice none 0 0, .slice none 0 0, .slice none 0 0, .slice none 0 0, .int .i64 0].toArray 55 (0, 0)) := p4.this
     have hx4 := hxl.trans x4
     have hp4 := hpl.ext x4
     have hq4 := hql2.ext x4
     have hm4 := hms.ext x4
     have hsz4 : w9.heap.size ≤ wr.heap.size := hxl.size
     clear p4 h3 x3 x4 hxl hpl hql2 hslr hms
     generalize wr.heap.size = mk at *
     have hpm := aE (cs := [.int .i64 m.id, .bool true, .int .i64 0, .bool true, .bool false, .bool false, .bool false, .int .i64 0, .slice none 0 0, .slice none 0 0, .slice none 0 0, .slice none 0 0, .int .i64 0]) hk4
     refine_lift kU fun _ _ => ?_
     refine bW (B := w9.heap.size) rfl (Own.nil _ _ 78 _) rfl hq4 wW (Ext.size hx4) (by rw [bN, b2]; decide) ?_
     intro vq w5 oq mq _
     rw [List.nil_append] at oq
     have x5 : Ext w4 w5 := (Ext.refl w4).move mq (by rintro k ⟨⟩)
     have hk5 := x5.at hk4
     refine aA ?_
     refine_lift cV ?_
     refine cT (n := 8) (v := vq) hk5 rfl rfl rfl (by simp) (by decide +kernel) oq.one ?_
     intro w6 p6
     have hk6 : w6.heap[mk]? = some (.cells [.int .i64 m.id, .bool true, .int .i64 0, .bool true, .bool false, .bool false, .bool false, .int .i64 0, vq, .slice none 0 0, .slice none 0 0, .slice none 0 0, .int .i64 0].toArray 55 (0, 0)) := p6.this
     have hx6 : Ext w9 w6 := (hx4.trans x5).move p6.mv (by rintro k ⟨⟩; exact hsz4)
     have oq6 := oq.mv p6.mv (.inr (oq.neBlock hk5 (by decide)))
     have hm6 := (hm4.ext x5).putM hna hk5 p6
     have hs6 := hsl.ext hx6
     have hpm6 := aE (cs := [.int .i64 m.id, .bool true, .int .i64 0, .bool true, .bool false, .bool false, .bool false, .int .i64 0, vq, .slice none 0 0, .slice none 0 0, .slice none 0 0, .int .i64 0]) hk6
     clear hpm hk4 hp4 hq4 hm4 x5 oq hk5 p6 hx4
     refine_lift kU fun _ _ => ?_
     refine bT 7 (Ext w6) (by decide +kernel) ?_
     intro w7 x7 _
     refine ⟨x7, ?_⟩
     refine QD 0 ?_
     refine NV 1 ?_
     refine QD 2 ?_; refine QD 3 ?_
     refine NV 4 ?_
     have hc1 : c ≤ rest.length := by omega
     have hcut : Sl 4 w7 (cW u1 4 0 c) (aC (rest.take c)) := by
      have h := (hs6.ext x7).cut (m := 0) (n := c) (by omega) (by omega)
      rwa [show ((aC rest).take c).drop 0 = aC (rest.take c) by simp [aC, List.map_take]] at h
     refine bL (i := 5) (by decide +kernel) rfl rfl ?_
     refine bW (B := w9.heap.size) rfl (Own.nil _ _ 47 _) rfl hcut eK (Ext.size (hx6.trans x7)) (by rw [aG, List.length_take]; simp only [List.length_nil]; omega) ?_
     intro va w8 oa ma _
     rw [List.nil_append] at oa
     have x78 : Ext w7 w8 := (Ext.refl w7).move ma (by rintro k ⟨⟩)
     have x8 := x7.trans x78
     refine aA ?_
     refine aK ⟨cQ x8, ?_⟩
     refine QD 6 ?_
     refine bL (i := 7) (by decide +kernel) rfl rfl ?_
     have hk8 := x8.at hk6
     refine cT (n := 9) (v := va) hk8 rfl rfl rfl (by simp) (by decide +kernel) oa.one ?_
     intro wA pA
     refine aK ⟨bV rfl, ?_⟩
     refine cN (by decide +kernel) ?_
     have hkA : wA.heap[mk]? = some (.cells (cR (cP m (rest.take c)) vq va (.slice none 0 0) (.slice none 0 0)).toArray 55 (0, 0)) := pA.this
     have hxA : Ext w9 wA := (hx6.trans x8).move pA.mv (by rintro k ⟨⟩; exact hsz4)
     have oqA := (oq6.ext x8).mv pA.mv (.inr ((oq6.ext x8).neBlock hk8 (by decide)))
     have oaA := oa.mv pA.mv (.inr (oa.neBlock hk8 (by decide)))
     have hmA := (hm6.ext x8).putM hna hk8 pA
     clear hpm6 hk6 oq6 hm6 oa x8 x7 x78 hk8 pA hcut hs6
     have hpmA := aE (cs := cR (cP m (rest.take c)) vq va (.slice none 0 0) (.slice none 0 0)) hkA
     refine_lift gT fun _ _ => ?_
     ((with_reducible refine bJ ?_); (first | (refine fY ?_; refine rJ ?_) | (refine iH ?_; refine jG ?_; (with_reducible refine bJ ?_); refine fY ?_; refine rJ ?_)))
     refine aN (Runs.loadN hpmA rfl (show cY Tryz.prog 55 13 = true by decide +kernel)) ?_
     refine aA ?_
     obtain ⟨css, ho, hcl, hat⟩ := hmA.out
     refine JE (cR (cP m (rest.take c)) vq va (.slice none 0 0) (.slice none 0 0)) hxA ho (by omega) ?_ (hc := ElemIs.mk rfl rfl rfl (MsgV.one (w := wA) (m := cP m (rest.take c)) ⟨oqA.sl, oaA.sl, Sl.nil _ _, Sl.nil _ _⟩))
     intro sv v' wB wC xB mC xC oC
     refine aA ?_
     have hms' := MsgsV.add (m := cP m (rest.take c)) (ho.ext xB) hcl (fun i y hi => let ⟨q', a', b, c, d, e⟩ := hat i y hi; ⟨q', a', b, c.ext xB, d.ext xB, e⟩) mC oC (oqA.ext xB) (oaA.ext xB) rfl rfl
     have hdr : Sl 4 w9 (cW u1 4 c (aC rest).length) (aC (rest.drop c)) := by
      have h := hsl.cut (m := c) (n := (aC rest).length) (by omega) (Nat.le_refl _)
      rwa [List.take_length, show (aC rest).drop c = aC (rest.drop c) by simp [aC, List.map_drop]] at h
     have hdl : (aC (rest.drop c)).length = rest.length - c := by rw [aG, List.length_drop]
     have hslC := hsl.ext xC
     clear hpmA hkA hmA ho hat hcl xB mC oC oqA oaA hxA hna
     have hdrC := hdr.ext xC
     by_cases hfin : rest.length ≤ n
     ·have hcc : c = rest.length := by omega
      have hd0 : ((aC (rest.drop c)).length : Int) = 0 := by omega
      have hF : ms ++ [cP m (rest.take c)] = (eE n l).map (cP m) := by rw [← hch, qF hfin, hcc, List.take_length]; rfl
      rw [hF] at hms'
      refine_lift JK fun _ => ?_
      all_goals first
       | (exfalso; omega)
       | skip
      go_ret2
      exact ⟨_, rfl, hxr.trans xC, v', by rw [hE]; rfl, by rw [hL]; exact hms'.weaken hxr.size⟩
     ·have hcc : c = n := by omega
      have hd0 : ¬ ((aC (rest.drop c)).length : Int) = 0 := by omega
      have hF : (ms ++ [cP m (rest.take c)]) ++ (eE n (rest.drop c)).map (cP m) = (eE n l).map (cP m) := by
       rw [← hch, tH (n := n) (l := rest) hn (by omega), hcc, List.append_assoc]; rfl
      refine_lift JK fun _ => ?_
      all_goals first
       | (exfalso; omega)
       | skip
      exact ⟨⟨rest.drop c, _, hdr, hms', xC, hF, by rw [List.length_append, List.length_drop]; simp only [List.length_cons, List.length_nil]; omega⟩, by rw [hdr.slLen, hsn, hdl]; omega⟩
 ·have hP : iD m l most = false := by
   cases h : iD m l most with
   | false => rfl
   | true =>
    exfalso
    apply hB
    simp only [iD, Bool.and_eq_true, decide_eq_true_eq] at h
    exact ⟨h.1.1, h.1.2.1, h.1.2.2.1, h.1.2.2.2⟩
  (repeat' first | ((with_reducible refine cI ?_); go_step) | ((with_reducible refine bJ ?_); first | refine gN ?_ | (refine cZ ?_ ?_ <;> intro hc)) | fail)
  all_goals first
   | (go_ret2
      exact ⟨_, rfl, hx2, .slice none 0 0, by rw [gQ, hP]; rfl, by rw [fK, hP]; exact MsgsV.nil _ _⟩)
   | skip
  exfalso
  apply hB
  have h1 := ‹(!decide (dM m = 0)) = false›
  have h2 := ‹(!decide (((bQ m.qs).length : Int) = 1)) = false›
  simp only [Bool.not_eq_false', decide_eq_true_eq] at h1 h2
  exact ⟨h1, by omega, by omega, by omega⟩
set_option maxHeartbeats 1000000 in
theorem NQ (r : Rec) (w : World) : Calls Tryz.prog 73 #[.agg #[aH r.name, .int .i64 r.kind, .int .i64 r.ttl, aH r.data]] w (bC w (.bool (!decide (aV r = 0)))) := by
 go_enter Tryz.func73, Tryz.ntmps73
 refine_lift gT fun _ _ => ?_
 refine aT (vs := [aH r.name, .int .i64 r.kind, .int .i64 r.ttl, aH r.data]) rfl rfl ?_
 intro p w1 x1 hp
 refine aA ?_
 refine_lift kU fun _ _ => ?_
 refine aB (enters_of Tryz.func60 rfl rfl) rfl rfl (RB r _) ?_; intro w2 x2; refine aA ?_
 refine_lift cV ?_
 go_ret
 exact ⟨rfl, x1.trans x2⟩
set_option maxHeartbeats 3000000 in
theorem LY (v : Value) (l : List xX) (w : World) (hv : Sl 2 w v (bQ l)) (hl : l.length ≤ 1000000) : Calls Tryz.prog 75 #[v] w (jK w fun v' w' => Own w.heap.size 2 78 w' v' (bQ l)) := by
 have hlen := bN l
 go_enter Tryz.func75, Tryz.ntmps75
 (repeat' first | ((with_reducible refine cI ?_); go_step) | ((with_reducible refine bJ ?_); first | refine gN ?_ | (refine cZ ?_ ?_ <;> intro hc)) | fail)
 ·have hn := ‹uB v = true›
  go_ret
  have : bQ l = [] := hv.isNil hn
  refine ⟨_, rfl, Ext.refl _, ?_⟩
  rw [this]
  exact Own.nil _ _ _ _
 ·refine jV (t := 53) (e := 78) (k := 2) (bytes := 24) (by decide +kernel) rfl ?_
  intro v2 w2 x2 s2 o2
  refine aA ?_
  refine_lift cV ?_
  refine bW (B := w.heap.size) (e := 78) rfl o2 rfl (hv.ext x2) wW x2.size (by simp; omega) ?_
  intro v3 w3 o3 m3 _
  have x3 := o2.mvx m3 x2 (Nat.le_refl _)
  refine aA ?_
  refine_lift cV ?_
  go_ret
  exact ⟨_, rfl, x3, by simpa using o3⟩
set_option maxHeartbeats 1000000 in
theorem HA (m : MsgR) (q a u e pq v : Value) (l : List Rec) (w : World) (hm : MsgV w m q a u e) (hp : Pts w pq (cR m q a u e)) (hv : Sl 4 w v (aC l)) (hl : l.length ≤ 1000) (hq : m.qs.length ≤ 1000) :
 Calls Tryz.prog 74 #[v, pq] w (jK w fun r w' => ∃ q' a', r = .agg (cR (cP m l) q' a' (.slice none 0 0) (.slice none 0 0)).toArray ∧ Own w.heap.size 2 78 w' q' (bQ m.qs) ∧ Own w.heap.size 4 47 w' a' (aC l)) := by
 go_enter Tryz.func74, Tryz.ntmps74
 unfold cR at hp
 refine_lift rF ?_; intro _ _ _
 refine aF (z := IQ) rfl (by decide +kernel) ?_
 intro w1 x1 s1 h1
 refine aA ?_
 have hp1 := hp.ext x1
 have hv1 := hv.ext x1
 have hq1 := hm.qs.ext x1
 refine_lift kU fun _ _ => ?_
 refine bT 8 (Ext w1) (by decide +kernel) ?_
 intro w2 x2 _
 refine ⟨x2, ?_⟩
 refine NV 0 ?_; refine NV 1 ?_; refine NV 2 ?_; refine NV 3 ?_
 refine QD 5 ?_
 refine bL (i := 4) (by decide +kernel) rfl rfl ?_
 refine aI (enters_of Tryz.func75 rfl rfl) rfl rfl (LY q m.qs _ (hq1.ext x2) (by omega)) ?_
 intro q' w3 x3 oq
 refine aA ?_
 refine aK ⟨cQ (x2.trans x3), ?_⟩
 refine bL (i := 6) (by decide +kernel) rfl rfl ?_
 refine aI (enters_of Tryz.func52 rfl rfl) rfl rfl (nM v l _ (hv1.ext (x2.trans x3)) (by omega)) ?_
 intro a' w4 x4 oa
 have hx4 := (x2.trans x3).trans x4
 refine aA ?_
 refine aK ⟨cQ hx4, ?_⟩
 have hq2 := oq.one
 have ha2 := oa.one
 obtain ⟨qa, qn, qc, rfl⟩ := oq.sl.slf
 obtain ⟨aa, an, ac, rfl⟩ := oa.sl.slf
 refine jL 7 (v := .agg (cR (cP m l) (.slice qa qn qc) (.slice aa an ac) (.slice none 0 0) (.slice none 0 0)).toArray) rfl (fun _ => Runs.build rfl (by kernel_rfl)) ?_
 refine aA ?_
 refine bL (i := 8) (by decide +kernel) rfl rfl ?_
 have hk4 := hx4.at h1
 have hm4 : MsgV w4 (cP m l) (.slice qa qn qc) (.slice aa an ac) (.slice none 0 0) (.slice none 0 0) := ⟨(oq.ext x4).sl, oa.sl, Sl.nil _ _, Sl.nil _ _⟩
 refine aD (v := .agg (cR (cP m l) (.slice qa qn qc) (.slice aa an ac) (.slice none 0 0) (.slice none 0 0)).toArray) rfl rfl rfl hk4 (show aO Tryz.prog 55 13 = true by decide +kernel) rfl (oN hm4) ?_
 intro w5 p5
 refine aK ⟨bV rfl, ?_⟩
 refine cN (by decide +kernel) ?_
 have hk5 : w5.heap[w.heap.size]? = some (.cells (cR (cP m l) (.slice qa qn qc) (.slice aa an ac) (.slice none 0 0) (.slice none 0 0)).toArray 55 (0, 0)) := p5.this
 have hx5 : Ext w w5 := (x1.trans hx4).move p5.mv (by rintro k ⟨⟩; exact Nat.le_refl _)
 have oq5 := (((oq.ext x4).mv p5.mv (.inr ((oq.ext x4).neBlock hk4 (by decide)))).weaken (Ext.size (x1.trans x2)))
 have oa5 := ((oa.mv p5.mv (.inr (oa.neBlock hk4 (by decide)))).weaken (Ext.size (x1.trans (x2.trans x3))))
 refine_lift cV ?_
 refine bodyPost_ret (dU (cs := cR (cP m l) (.slice qa qn qc) (.slice aa an ac) (.slice none 0 0) (.slice none 0 0)) rfl rfl hk5 (show cY Tryz.prog 55 13 = true by decide +kernel)) rfl ⟨_, rfl, hx5, _, _, rfl, oq5, oa5⟩
def PQ (v : Value) (k m n : Nat) : Value := match v with | .slice a _ cap => .slice (if n = m then a else a.map (·.add (m * k))) (n - m) (n - m) | v => v
section
variable {P : Program} {a : Act} {w : World} {d : Option Nat} {ty : TypeId} {ps : String} {af : Array Edge} {g : Option (Nat × Bool)}
theorem Runs.cutX {t : TypeId} {x lo hi mx : Operand} {k m n : Nat} {es : List (List Value)} (h1 : a.eval lo = .int .i64 (m : Nat)) (h2 : a.eval hi = .int .i64 (n : Nat)) (h3 : a.eval mx = .int .i64 (n : Nat)) (h : Sl k w (a.eval x) es) (hmn : m ≤ n) (hn : n ≤ es.length) (ht : dH P t k = true) :
 Runs P (Oper.mk d (.slice t x (some lo) (some hi) (some mx)) ty ps af g) a w (X.PQ (a.eval x) k m n) := by
 obtain ⟨ad, cap, h4, h5, _⟩ := h
 obtain ⟨e, ie, ht, hie, hz⟩ := cK ht
 constructor
 simp [execOp, h4, h1, h2, h3, Instr.sliceAt, Instr.slice, run_underlying ht, Instr.sliceBounds, Instr.sliceBound, asIntOf, sizeOf, typeInfo, hie, hz, hmn, show n ≤ cap by omega, X.PQ]
end
theorem Sl.cutX {k : Nat} {w : World} {v : Value} {es : List (List Value)} (h : Sl k w v es) {m n : Nat} (hmn : m ≤ n) (hn : n ≤ es.length) : Sl k w (X.PQ v k m n) ((es.take n).drop m) := by
 have hs := h.cut hmn hn
 obtain ⟨ad, cap, rfl, h4, h5, h6, h7, h8⟩ := h
 have hlen : ((es.take n).drop m).length = n - m := by simp; omega
 refine ⟨if n = m then ad else ad.map (·.add (m * k)), n - m, by rw [hlen]; rfl, by omega, by omega, fun e he => h6 e (List.mem_of_mem_take (List.mem_of_mem_drop he)), ?_, ?_⟩
 ·intro hnone
  split at hnone
  ·omega
  ·have := h7 (by simpa using hnone); omega
 ·intro hne
  have hlt : m < n := by
   rcases Nat.lt_or_ge m n with h | h
   ·exact h
   ·exact absurd (List.eq_nil_of_length_eq_zero (by omega)) hne
  obtain ⟨a2, c2, e2, _, _, _, _, h9⟩ := hs
  obtain ⟨b, o, e3, hc⟩ := h9 hne
  refine ⟨b, o, ?_, hc⟩
  rw [if_neg (by omega)]
  simp only [cW, Value.slice.injEq] at e2
  rw [if_neg (by omega)] at e2
  rw [e2.1, e3]
theorem NR (v : Value) (hv : v.cells = #[v]) (n : Nat) (hn : 1 ≤ n) (w : World) : Calls Tryz.prog 76 #[v, .int .i64 n] w fun e w' => e = .returned (.func (.func 125) #[] #[.pointer (some ⟨w.heap.size, 0, none⟩), .pointer (some ⟨w.heap.size + 1, 0, none⟩)]) ∧ Ext w w' ∧ w'.heap.size = w.heap.size + 2 ∧ w'.heap[w.heap.size]? = some (.cells #[v] 31 (0, 0)) ∧ w'.heap[w.heap.size + 1]? = some (.cells #[.int .i64 n] 3 (0, 0)) := by
 go_enter Tryz.func76, Tryz.ntmps76
 refine_lift rF ?_; intro _ _ _
 refine dL (vs := [v]) rfl hv ?_
 intro w1 x1 s1 h1
 refine aA ?_
 refine dL (vs := [.int .i64 n]) rfl rfl ?_
 intro w2 x2 s2 h2
 refine aA ?_
 rw [s1] at h2 ⊢
 have hp2 := aE (cs := [.int .i64 n]) h2
 refine_lift JK fun _ => ?_
 all_goals first
  | (exfalso; omega)
  | skip
 go_ret
 exact ⟨rfl, x1.trans x2, by omega, x2.at h1, h2⟩
theorem PR (l b bn : Nat) (lp : Loop) (J : Nat → World → Prop) (hp : lp.params.size = 1) (hL : ∀ k W, J k W → W.heap[l]? = some (.loop lp)) (hG : ∀ k W W', J k W → Ext W W' → J k W')
 (v : Value) (rs : List Rec) (n : Nat) (hn : 1 ≤ n) (hn2 : n ≤ 200) (hb : ∀ k W, J k W → W.heap[b]? = some (.cells #[v] 31 (0, 0))) (hbn : ∀ k W, J k W → W.heap[bn]? = some (.cells #[.int .i64 n] 3 (0, 0))) (hv : ∀ k W, J k W → Sl 4 W v (aC rs)) (hl : rs.length ≤ 1000)
 (hy : ∀ i u W, i < rs.length → Sl 4 W u (aC ((rs.drop i).take n)) → J i W → RoundIn Fence.wide 0 Tryz.prog l lp.fn ((lp.params.zip #[u]).foldl (fun tmps (t, a) => tmps.setIfInBounds t a) lp.tmps) lp.assign lp.body W
  fun e W' => e = .returned (.bool true) ∧ J (i + n) W') (W : World) (h0 : J 0 W) :
 Calls Tryz.prog 125 #[.func (.yield l) #[] #[], .pointer (some ⟨b, 0, none⟩), .pointer (some ⟨bn, 0, none⟩)] W fun e w' => e = .returned (.tuple #[]) ∧ ∃ i, rs.length ≤ i ∧ i ≤ rs.length + n ∧ J i w' := by
 have hlen := aG rs
 have hbW := aE (cs := [v]) (hb _ _ h0)
 have hnW := aE (cs := [.int .i64 n]) (hbn _ _ h0)
 have hvW := hv _ _ h0
 go_enter Tryz.func125, Tryz.ntmps125
 refine_lift JK ?_; intro _
 go_loopw [4] (fun i wr => ∃ k : Nat, i = .int .i64 k ∧ k ≤ rs.length + n ∧ J k wr) (fun i _ => rs.length - (intOf i).toNat)
 case atStart => exact ⟨0, rfl, Nat.zero_le _, h0⟩
 case round =>
  obtain ⟨k, rfl, hk, hJ⟩ := hrel
  have hbr := aE (cs := [v]) (hb _ _ hJ)
  have hnr := aE (cs := [.int .i64 n]) (hbn _ _ hJ)
  have hvr := hv _ _ hJ
  clear hbW hnW hvW h0
  by_cases hlt : k < rs.length
  ·obtain ⟨c, hc⟩ : ∃ c, c = min n (rs.length - k) := ⟨_, rfl⟩
   have hdr : Sl 4 wr (cW v 4 k (aC rs).length) (aC (rs.drop k)) := by
    have h := hvr.cut (m := k) (n := (aC rs).length) (by omega) (Nat.le_refl _)
    rwa [List.take_length, show (aC rs).drop k = aC (rs.drop k) by simp [aC, List.map_drop]] at h
   have hdl : (aC (rs.drop k)).length = rs.length - k := by rw [aG, List.length_drop]
   have hcI : min (n : Int) ((aC (rs.drop k)).length : Int) = (c : Int) := by omega
   have hpart : Sl 4 wr (PQ v 4 k (k + c)) (aC ((rs.drop k).take n)) := by
    have h := hvr.cutX (m := k) (n := k + c) (by omega) (by omega)
    rwa [show ((aC rs).take (k + c)).drop k = aC ((rs.drop k).take n) by
     rw [List.drop_take, show k + c - k = c by omega, hc]
     simp only [aC, ← List.map_drop, ← List.map_take]
     congr 1
     rw [List.take_eq_take_iff]
     rw [List.length_drop]
     omega] at h
   refine_lift ME ?_; intro _ _ _ _ _ _
   refine bE (by decide +kernel) (by decide +kernel) ?_
   refine_lift OR ?_
   rw [hcI]
   intro w4 x4
   have hbr4 := hbr.ext x4
   have hvr4 := hvr.ext x4
   have hnr4 := hnr.ext x4
   have hJ4 := hG _ _ _ hJ x4
   have hp4 := hpart.ext x4
   have hL4 := hL _ _ hJ4
   repeat' (first | (refine bX (id := 3) ?_) | (refine bX (id := 4) ?_) | ((with_reducible apply gU); (rfl); exact OP; refine aA ?_) | (with_reducible (apply iQ)) | ((with_reducible refine bJ ?_); (first | (refine fY ?_; refine rJ ?_) | (refine iH ?_; first | refine jG ?_ | refine oV ?_ | refine oX ?_ | refine oW ?_ | ((first | refine oP ?_ ?_ | refine oQ ?_ ?_) <;> intro hc)))) | ((fail_if_success (with_reducible refine bJ ?_)); go_step))
   refine gU (v := PQ v 4 k (k + c)) rfl (Runs.cutX (k := 4) (m := k) (n := k + c) rfl rfl rfl hvr4 (by omega) (by omega) (by decide +kernel)) ?_
   refine aA ?_
   refine lS (lp := lp) (vs := [PQ v 4 k (k + c)]) rfl rfl rfl hL4 (by simp [hp]) (hy k _ _ hlt hp4 hJ4) ?_
   rintro e W' ⟨rfl, hJ'⟩
   refine ⟨_, rfl, ?_⟩
   simp only [List.set_cons_succ, List.set_cons_zero]
   have hnr5 := aE (cs := [.int .i64 n]) (hbn _ _ hJ')
   clear hbr4 hvr4 hnr4 hp4 hbr hvr hnr hpart hdr
   repeat' (first | (refine bX (id := 3) ?_) | (refine bX (id := 4) ?_) | ((with_reducible apply gU); (rfl); exact OP; refine aA ?_) | (with_reducible (apply iQ)) | ((with_reducible refine bJ ?_); (first | (refine fY ?_; refine rJ ?_) | (refine iH ?_; first | refine jG ?_ | refine oV ?_ | refine oX ?_ | refine oW ?_ | ((first | refine oP ?_ ?_ | refine oQ ?_ ?_) <;> intro hc)))) | ((fail_if_success (with_reducible refine bJ ?_)); go_step))
   refine_lift cV ?_
   exact ⟨⟨k + n, rfl, by omega, hJ'⟩, by simp [intOf]; omega⟩
  ·refine_lift JK fun _ => ?_
   exact bodyPost_end (results_none rfl _ _ _) rfl ⟨rfl, k, by omega, hk, hJ⟩
theorem MsgsV.below {B b : Nat} {w w' : World} {v : Value} {ms : List MsgR} {o : Obj} (h : MsgsV B w v ms) (hp : Put w w' b o) (hb : b < B) : MsgsV B w' v ms := by
 obtain ⟨css, a, c, e⟩ := h
 exact ⟨css, a.put hp hb, c, fun i d hi => let ⟨g, n, x, y, z, u⟩ := e i d hi; ⟨g, n, x, y.put hp hb, z.put hp hb, u⟩⟩
theorem Sl.below {k b : Nat} {w w' : World} {v : Value} {es : List (List Value)} {lp : Loop} {o : Obj} (h : Sl k w v es) (hp : Put w w' b o) (hb : w.heap[b]? = some (.loop lp)) : Sl k w' v es := by
 obtain ⟨ad, cap, h1, h2, h3, h4, h5, h6⟩ := h
 refine ⟨ad, cap, h1, h2, h3, h4, h5, fun hne => ?_⟩
 obtain ⟨b', o', e, hc⟩ := h6 hne
 refine ⟨b', o', e, fun i e j x h1 h2 => ?_⟩
 have := hc i e j x h1 h2
 by_cases hbb : b' = b
 ·subst hbb
  simp [World.cell?, hb] at this
 ·simp only [World.cell?] at this ⊢
  rw [hp.other _ hbb]
  exact this
theorem NS {m : MsgR} {n i : Nat} {l : List Rec} {ms F : List MsgR} (hn : 1 ≤ n) (hi : i < l.length) (h : ms ++ (eE n (l.drop i)).map (cP m) = F) : i + n < l.length → (ms ++ [cP m ((l.drop i).take n)]) ++ (eE n (l.drop (i + n))).map (cP m) = F := by
 intro hlt
 rw [← h, tH (n := n) (l := l.drop i) hn (by rw [List.length_drop]; omega), List.drop_drop, List.append_assoc]
 rfl
theorem LZ {m : MsgR} {n i : Nat} {l : List Rec} {ms F : List MsgR} (hn : 1 ≤ n) (hi : i < l.length) (h : ms ++ (eE n (l.drop i)).map (cP m) = F) : l.length ≤ i + n → ms ++ [cP m ((l.drop i).take n)] = F := by
 intro hle
 have hd : (l.drop i).length ≤ n := by rw [List.length_drop]; omega
 rw [← h, qF hd, List.take_of_length_le hd]
 rfl
structure PackMid (w5 w6 w7 : World) (lp : Loop) (v : Value) (n : Nat) (m : MsgR) (l : List Rec) (i : Nat) (W : World) : Prop where
 ext : Ext w5 W
 cv : W.heap[w6.heap.size]? = some (.cells #[v] 31 (0, 0))
 cn : W.heap[w6.heap.size + 1]? = some (.cells #[.int .i64 n] 3 (0, 0))
 df : W.heap[w7.heap.size]? = some (.deferred (some []))
 lp : W.heap[w7.heap.size + 1]? = some (.loop lp)
 size : w7.heap.size + 2 ≤ W.heap.size
 out : ∃ o ms, W.heap[w5.heap.size]? = some (.cells #[o] 56 (0, 0)) ∧ MsgsV (w7.heap.size + 2) W o ms ∧ ms.length ≤ i ∧ (i < l.length → ms ++ (eE n (l.drop i)).map (cP m) = (eE n l).map (cP m)) ∧ (l.length ≤ i → ms = (eE n l).map (cP m))
theorem PackMid.grow {w5 w6 w7 : World} {lp : Loop} {v : Value} {n : Nat} {m : MsgR} {l : List Rec} {i : Nat} {W W' : World} (h : PackMid w5 w6 w7 lp v n m l i W) (hx : Ext W W') : PackMid w5 w6 w7 lp v n m l i W' := by
 obtain ⟨a, b, c, d, e, f, o, ms, g, k, r⟩ := h
 exact ⟨a.trans hx, hx.at b, hx.at c, hx.at d, hx.at e, Nat.le_trans f hx.size, o, ms, hx.at g, k.ext hx, r⟩
set_option maxHeartbeats 1500000 in
theorem MA (m : MsgR) (q a u e v : Value) (l : List Rec) (most : Int) (w : World) (hm : MsgV w m q a u e) (hv : Sl 4 w v (aC l)) (hl : l.length ≤ 1000) :
 Calls Tryz.prog 26 #[.agg (cR m q a u e).toArray, v, .int .i64 most] w (jK w fun r w' => ∃ y, r = .tuple #[y, .int .i64 (gQ m l most)] ∧ MsgsV w.heap.size w' y (fK m l most)) := by
 have hql := bN m.qs
 have hlen := aG l
 refine gV Tryz.func26 rfl ?_
 simp only [Tryz.ntmps26, List.size_toArray, List.length_cons, List.length_nil, Nat.reduceAdd, Nat.reduceSub, Array.replicate_succ, Array.replicate_zero, List.push_toArray, List.append_toArray, List.nil_append, List.cons_append]
 repeat' (first | ((with_reducible refine cI ?_); go_step) | fail)
 refine dL (vs := cR m q a u e) rfl rfl ?_
 intro w1 x1 s1 h1
 refine aA ?_
 have hp := aE (cs := cR m q a u e) h1
 have hm1 := hm.ext x1
 have hs1 := hv.ext x1
 generalize hpb : w.heap.size = pb at *
 unfold cR at hp
 (repeat' first | ((with_reducible refine cI ?_); go_step) | ((with_reducible refine bJ ?_); first | refine gN ?_ | (refine cZ ?_ ?_ <;> intro hc)) | fail)
 refine aB (enters_of Tryz.func72 rfl rfl) rfl rfl (LV m q a u e _ hm1) ?_; intro w2 x2; refine aA ?_
 have hx2 := x1.trans x2
 have hp2 := hp.ext x2
 have hs2 := hs1.ext x2
 have h2 := x2.at h1
 have hq2 := hm1.qs.ext x2
 by_cases hB : (dM m = 0 ∧ m.qs.length = 1 ∧ 1 ≤ most ∧ most ≤ 200)
 ·obtain ⟨b1, b2, b3, b4⟩ := hB
  have b2' : ((bQ m.qs).length : Int) = 1 := by omega
  rw [b1]
  (repeat' first | ((with_reducible refine cI ?_); go_step) | ((with_reducible refine bJ ?_); first | refine gN ?_ | (refine cZ ?_ ?_ <;> intro hc)) | fail)
  all_goals first
   | (exfalso; have hh := ‹(!decide (((bQ m.qs).length : Int) = 1)) = true›; simp [b2'] at hh; done)
   | (exfalso; omega)
   | (exfalso; have hh := ‹(!decide ((0 : Int) = 0)) = true›; simp at hh; done)
   | skip
  refine aB (enters_of Tryz.func58 rfl rfl) rfl rfl (jE v l _ (fun r => !decide (aV r = 0)) _ hs2 (enters_of Tryz.func73 rfl rfl) (fun r _ w' => NQ r w')) ?_; intro w3 x3; refine aA ?_
  have hx3 := hx2.trans x3
  have h3 := x3.at h2
  cases hA : l.any (fun r => !decide (aV r = 0)) with
  | true =>
   have hP : iD m l most = false := by rw [iD, hA, Bool.not_true, Bool.and_false]
   (repeat' first | ((with_reducible refine cI ?_); go_step) | ((with_reducible refine bJ ?_); first | refine gN ?_ | (refine cZ ?_ ?_ <;> intro hc)) | fail)
   refine iG (results_tmp2 rfl _ _ _) ⟨_, rfl, hx3, .slice none 0 0, by rw [gQ, hP]; rfl, by rw [fK, hP]; exact MsgsV.nil _ _⟩
  | false =>
   have hP : iD m l most = true := by rw [iD, hA, decide_eq_true b1, decide_eq_true b2, decide_eq_true b3, decide_eq_true b4]; rfl
   obtain ⟨n, rfl⟩ : ∃ n : Nat, most = n := ⟨most.toNat, by omega⟩
   have hn : 1 ≤ n := by omega
   have hE : gQ m l n = 0 := by rw [gQ, if_pos hP]
   have hL : fK m l n = (eE n l).map (cP m) := by rw [fK, if_pos hP]; rfl
   have hp3 := hp2.ext x3
   have hs3 := hs2.ext x3
   (repeat' first | ((with_reducible refine cI ?_); go_step) | ((with_reducible refine bJ ?_); first | refine gN ?_ | (refine cZ ?_ ?_ <;> intro hc)) | fail)
   refine aF (z := [.nilFunc]) rfl (by decide +kernel) ?_
   intro w4 x4 s4 h4
   refine aA ?_
   refine cD (v := .func (.func 74) #[] #[.pointer (some ⟨pb, 0, none⟩)]) rfl rfl rfl h4 (by decide +kernel) rfl ?_
   intro w5 p5
   have x5 : Ext w3 w5 := x4.move p5.mv (by rintro k ⟨⟩; exact Nat.le_refl _)
   have hf5 := p5.this
   have hx5 := hx3.trans x5
   have h5 := x5.at h3
   have hm5 := hm.ext hx5
   have hs5 := hv.ext hx5
   clear p5 h4 x4 x5 hp3 hs3 hp2 hs2 hq2 h2 h3 hp hm1 hs1 h1 x3 x2 x1
   generalize w3.heap.size = fb at *
   have hpf := aE (cs := [.func (.func 74) #[] #[.pointer (some ⟨pb, 0, none⟩)]]) hf5
   have hpm := aE (cs := cR m q a u e) h5
   by_cases hl0 : l = []
   ·have hl0' : ((aC l).length : Int) = 0 := by rw [hl0]; rfl
    (repeat' first | ((with_reducible refine cI ?_); go_step) | ((with_reducible refine bJ ?_); first | refine gN ?_ | (refine cZ ?_ ?_ <;> intro hc)) | fail)
    all_goals first
     | (exfalso; omega)
     | skip
    refine eF (f := 74) (caps := #[.pointer (some ⟨pb, 0, none⟩)]) (enters_of Tryz.func74 rfl rfl) rfl rfl rfl (HA m q a u e (.pointer (some ⟨pb, 0, none⟩)) (.slice none 0 0) [] _ hm5 hpm (Sl.nil _ _) (by simp) (by omega)) ?_
    rintro _ w6 ⟨_, rfl, x6, q', a', rfl, oq, oa⟩
    refine ⟨_, rfl, ?_⟩
    refine aA ?_
    refine bR (e := 55) (k := 13) (bytes := bytesOf Tryz.prog 55) (xs := [.agg (cR (cP m []) q' a' (.slice none 0 0) (.slice none 0 0)).toArray]) rfl rfl rfl (by intro x hx; rw [List.mem_singleton.1 hx]; rfl) (by decide +kernel) (by simp) ?_
    intro v7 w7 x7 _ _ o7
    refine aA ?_
    (repeat' first | ((with_reducible refine cI ?_); go_step) | ((with_reducible refine bJ ?_); first | refine gN ?_ | (refine cZ ?_ ?_ <;> intro hc)) | fail)
    have hx7 := hx5.trans (x6.trans x7)
    refine iG (results_tmp2 rfl _ _ _) ⟨_, rfl, hx7, v7, by rw [hE]; rfl, ?_⟩
    have hz5 := hx5.size
    have hz6 := (hx5.trans x6).size
    rw [hL, hl0, qF (Nat.zero_le _)]
    refine ⟨_, o7.weaken hz6, rfl, fun i y hi => ?_⟩
    have hi0 : i = 0 := by
     have := (List.getElem?_eq_some_iff.1 hi).1
     simp only [List.length_map, List.length_cons, List.length_nil] at this
     omega
    subst hi0
    have hy : cP m [] = y := by simpa using hi
    subst hy
    exact ⟨q', a', rfl, (oq.ext x7).weaken hz5, (oa.ext x7).weaken hz5, rfl, rfl⟩
   ·have hl0' : ¬ ((aC l).length : Int) = 0 := by
     have := List.length_pos_iff.2 hl0
     omega
    (repeat' first | ((with_reducible refine cI ?_); go_step) | ((with_reducible refine bJ ?_); first | refine gN ?_ | (refine cZ ?_ ?_ <;> intro hc)) | fail)
    all_goals first
     | (exfalso; omega)
     | skip
    refine aF (z := [.slice none 0 0]) rfl (by decide +kernel) ?_
    intro w6 x6 s6 h6
    refine aA ?_
    have hx6 := hx5.trans x6
    have hs6 := hs5.ext x6
    have hv1 : v.cells = #[v] := by obtain ⟨va, vn, vc, rfl⟩ := hv.slf; rfl
    (repeat' first | ((with_reducible refine cI ?_); go_step) | ((with_reducible refine bJ ?_); first | refine gN ?_ | (refine cZ ?_ ?_ <;> intro hc)) | fail)
    refine bB (enters_of Tryz.func76 rfl rfl) rfl rfl (NR v hv1 n hn w6) ?_
    rintro _ w7 ⟨rfl, x7, s7, c7, n7⟩
    refine ⟨_, rfl, ?_⟩
    refine aA ?_
    (repeat' first | ((with_reducible refine cI ?_); go_step) | ((with_reducible refine bJ ?_); first | refine gN ?_ | (refine cZ ?_ ?_ <;> intro hc)) | fail)
    have z6 : w6.heap.size = w5.heap.size + 1 := s6
    have z7 : w7.heap.size = w5.heap.size + 3 := by omega
    have hx7 := hx6.trans x7
    have hB5 := hx5.size
    have k6 := x7.at h6
    have hm7 : MsgV w5 m q a u e := hm5
    refine iY (caps := #[.pointer (some ⟨w6.heap.size, 0, none⟩), .pointer (some ⟨w6.heap.size + 1, 0, none⟩)]) rfl (enters_of Tryz.func125 rfl rfl) rfl ?_
    intro fn W lp hlp xW k4 k5 sW
    have hJ : PackMid w5 w6 w7 lp v n m l 0 W := ⟨(x6.trans x7).trans xW, xW.at c7, xW.at n7, k4, k5, by omega, ⟨_, [], xW.at k6, MsgsV.nil _ _, Nat.zero_le _, fun _ => rfl, fun h => absurd (List.eq_nil_of_length_eq_zero (by omega)) hl0⟩⟩
    have hrdy : lp.state = .ready ∧ lp.pending = none := by subst hlp; exact ⟨rfl, rfl⟩
    have hy : ∀ i x W, i < l.length → Sl 4 W x (aC ((l.drop i).take n)) → PackMid w5 w6 w7 lp v n m l i W → RoundIn Fence.wide 0 Tryz.prog (w7.heap.size + 1) lp.fn ((lp.params.zip #[x]).foldl (fun tmps (t, a) => tmps.setIfInBounds t a) lp.tmps) lp.assign lp.body W
     fun e W' => e = .returned (.bool true) ∧ PackMid w5 w6 w7 lp v n m l (i + n) W' := by
     clear hJ xW k4 k5 sW W
     intro i x W hi hs hM
     subst hlp
     simp only [List.zip_toArray, List.zip_cons_cons, List.zip_nil_right, List.foldl_toArray', List.foldl_cons, List.foldl_nil, List.setIfInBounds_toArray, List.set_cons_succ, List.set_cons_zero, List.foldl_toArray, List.size_toArray, List.zip_toArray, List.length_cons, List.length_nil]
     have xM := hM.ext
     have mv := hM.cv
     have mn := hM.cn
     have md := hM.df
     have ml := hM.lp
     have ms := hM.size
     obtain ⟨o, ms0, mo, hV, hle, hgo, hend⟩ := hM.out
     clear hM
     refine qI ?_
     repeat' (first | refine bZ (by rfl) (by intro _ _ h; exact h) ?_ | ((with_reducible refine bJ ?_); (first | (refine fY ?_; refine rJ ?_) | (refine iH ?_; first | refine jG ?_ | refine oV ?_ | refine oX ?_ | refine oW ?_ | ((first | refine oP ?_ ?_ | refine oQ ?_ ?_) <;> intro hc)))) | ((fail_if_success (with_reducible refine bJ ?_)); first | go_step | gi_step))
     refine ⟨_, ml, rfl, ?_⟩
     intro wA pA
     have hVA := hV.below pA (by omega)
     have xA : Ext w5 wA := xM.move pA.mv (by rintro k ⟨⟩; omega)
     have nv := pA.at mv (by omega)
     have nn := pA.at mn (by omega)
     have nd := pA.at md (by omega)
     have nl := pA.this
     have no := pA.at mo (by omega)
     have ns : w7.heap.size + 2 ≤ wA.heap.size := Nat.le_trans ms pA.mv.size
     have hsA : Sl 4 wA x (aC ((l.drop i).take n)) := hs.below pA ml
     have hpo := aE (cs := [o]) no
     have hpfA := hpf.ext xA
     have hpmA := hpm.ext xA
     have hmA := hm7.ext xA
     clear pA md ml ms mv mn mo hV hs xM
     have hpl : ((l.drop i).take n).length ≤ 200 := by rw [List.length_take]; omega
     repeat' (first | refine bZ (by rfl) (by intro _ _ h; exact h) ?_ | ((with_reducible refine bJ ?_); (first | (refine fY ?_; refine rJ ?_) | (refine iH ?_; first | refine jG ?_ | refine oV ?_ | refine oX ?_ | refine oW ?_ | ((first | refine oP ?_ ?_ | refine oQ ?_ ?_) <;> intro hc)))) | ((fail_if_success (with_reducible refine bJ ?_)); first | go_step | gi_step))
     refine tC 5 (Ext wA) (by decide +kernel) (by intro _ _ h; exact h) (by decide +kernel) ?_
     intro w9 x9 _
     refine ⟨x9, ?_⟩
     refine NV 0 ?_; refine NV 1 ?_
     refine QD 2 ?_
     refine bL (i := 3) (by decide +kernel) rfl rfl ?_
     refine eF (f := 74) (caps := #[.pointer (some ⟨pb, 0, none⟩)]) (enters_of Tryz.func74 rfl rfl) rfl rfl rfl (HA m q a u e (.pointer (some ⟨pb, 0, none⟩)) x ((l.drop i).take n) _ (hmA.ext x9) (hpmA.ext x9) (hsA.ext x9) (by omega) (by omega)) ?_
     rintro _ wB ⟨_, rfl, xB, q', a', rfl, oq, oa⟩
     refine ⟨_, rfl, ?_⟩
     refine aA ?_
     have xAB := x9.trans xB
     refine aK ⟨cQ xAB, ?_⟩
     refine bL (i := 4) (by decide +kernel) rfl rfl ?_
     have hone := MsgV.one (w := wB) (m := cP m ((l.drop i).take n)) ⟨oq.sl, oa.sl, Sl.nil _ _, Sl.nil _ _⟩
     refine bR (e := 55) (k := 13) (bytes := bytesOf Tryz.prog 55) (xs := [.agg (cR (cP m ((l.drop i).take n)) q' a' (.slice none 0 0) (.slice none 0 0)).toArray]) rfl rfl rfl (by intro x hx; rw [List.mem_singleton.1 hx]; rfl) (by decide +kernel) (by simp) ?_
     intro vC wC xC _ slC _
     refine aA ?_
     have xAC := xAB.trans xC
     refine aK ⟨cQ xAC, ?_⟩
     refine bL (i := 5) (by decide +kernel) rfl rfl ?_
     obtain ⟨css, ho, hcl, hat⟩ := (hVA.ext xAC).out
     have hBC : w7.heap.size + 2 ≤ wC.heap.size := Nat.le_trans ns xAC.size
     refine bW (B := w7.heap.size + 2) (e := 55) (k := 13) rfl ho rfl slC (by intro f hf; rw [List.mem_singleton.1 hf]; exact hone) hBC (by simp; omega) ?_
     intro v' wD oD mD _
     refine aA ?_
     refine aK ⟨bV rfl, ?_⟩
     have hmsD := MsgsV.add (m := cP m ((l.drop i).take n)) ho hcl hat mD oD ((oq.weaken (Nat.le_trans ns x9.size)).ext xC) ((oa.weaken (Nat.le_trans ns x9.size)).ext xC) rfl rfl
     have hne : ∀ k, k < w7.heap.size + 2 → o.ownBlock ≠ some k := fun k hk e => by have := (ho.block k e).1; omega
     have tM := fun (k : Nat) (ob : Obj) (hk : k < w7.heap.size + 2) (h : wA.heap[k]? = some ob) => mD.at (xAC.at h) (fun e => hne k hk e.symm)
     have xD : Ext w5 wD := (xA.trans xAC).move mD (fun k e => by have := (ho.block k e).1; omega)
     have hvo := oD.one
     refine bL (i := 6) (by decide +kernel) rfl rfl ?_
     refine cD (v := v') rfl rfl rfl (tM _ _ (by omega) no) (by decide +kernel) hvo ?_
     intro wE pE
     refine aK ⟨bV rfl, ?_⟩
     refine cN (by decide +kernel) ?_
     have tE := fun (k : Nat) (ob : Obj) (hk : k < w7.heap.size + 2) (hn : k ≠ w5.heap.size) (h : wA.heap[k]? = some ob) => pE.at (tM k ob hk h) hn
     have qv := tE _ _ (by omega) (by omega) nv
     have qn := tE _ _ (by omega) (by omega) nn
     have qd := tE _ _ (by omega) (by omega) nd
     have ql := tE _ _ (by omega) (by omega) nl
     have qo := pE.this
     have hmsE := hmsD.below pE (by omega)
     have xE : Ext w5 wE := xD.move pE.mv (by rintro k ⟨⟩; exact Nat.le_refl _)
     have qs : w7.heap.size + 2 ≤ wE.heap.size := Nat.le_trans hBC (Nat.le_trans mD.size pE.mv.size)
     clear tE tM hne pE mD hmsD xD ho hat hcl oD slC hone oq oa xAC xAB xB x9 xC hpo hpfA hpmA hmA hsA nv nn nd nl no hVA
     repeat' (first | refine bZ (by rfl) (by intro _ _ h; exact h) ?_ | ((with_reducible refine bJ ?_); (first | (refine fY ?_; refine rJ ?_) | (refine iH ?_; first | refine jG ?_ | refine oV ?_ | refine oX ?_ | refine oW ?_ | ((first | refine oP ?_ ?_ | refine oQ ?_ ?_) <;> intro hc)))) | ((fail_if_success (with_reducible refine bJ ?_)); first | go_step | gi_step))
     exact lT ql fun w' p' => ⟨rfl, ⟨xE.move p'.mv (by rintro k ⟨⟩; omega), p'.at qv (by omega), p'.at qn (by omega), p'.at qd (by omega), p'.this, Nat.le_trans qs p'.mv.size, v', _, p'.at qo (by omega), hmsE.below p' (by omega), by simp; omega, NS hn hi (hgo hi), LZ hn hi (hgo hi)⟩⟩
    refine (PR (w7.heap.size + 1) w6.heap.size (w6.heap.size + 1) lp (PackMid w5 w6 w7 lp v n m l) (by subst hlp; rfl) (fun _ _ h => h.lp) (fun _ _ _ h x => h.grow x) v l n hn (by omega) (fun _ _ h => h.cv) (fun _ _ h => h.cn) (fun _ _ h => hs5.ext h.ext) hl hy W hJ).mono ?_
    rintro e W' ⟨rfl, i, hi1, hi2, hR⟩
    refine ⟨⟨_, rfl⟩, ?_⟩
    clear hJ xW k4 k5 sW hy
    refine ⟨lp, hR.lp, by rw [hrdy.1]; simp, ?_⟩
    intro W2 hput
    rw [hrdy.2]
    clear hlp hrdy
    simp only
    obtain ⟨o, ms0, mo, hV, -, -, hend⟩ := hR.out
    have f2 := hput.at mo (by omega)
    have fd := hput.at hR.df (by omega)
    have fx : Ext w W2 := (hx5.trans hR.ext).move hput.mv (by rintro k ⟨⟩; omega)
    have hV2 := hV.below hput (by omega)
    have hE2 := hend hi1
    clear hput hR mo hV hend
    have hp2 := aE (cs := [o]) f2
    (repeat' first | ((with_reducible refine cI ?_); go_step) | ((with_reducible refine bJ ?_); first | refine gN ?_ | (refine cZ ?_ ?_ <;> intro hc)) | fail)
    refine iR fd fun W5 p5 => ⟨_, results_tmp2 rfl _ _ _, _, rfl, fx.move p5.mv (by rintro k ⟨⟩; omega), o, by rw [hE]; rfl, ?_⟩
    rw [hL, ← hE2]
    exact (hV2.below p5 (by omega)).weaken (by omega)
 ·have hP : iD m l most = false := by
   cases h : iD m l most with
   | false => rfl
   | true =>
    exfalso
    apply hB
    simp only [iD, Bool.and_eq_true, decide_eq_true_eq] at h
    exact ⟨h.1.1, h.1.2.1, h.1.2.2.1, h.1.2.2.2⟩
  (repeat' first | ((with_reducible refine cI ?_); go_step) | ((with_reducible refine bJ ?_); first | refine gN ?_ | (refine cZ ?_ ?_ <;> intro hc)) | fail)
  all_goals first
   | (refine iG (results_tmp2 rfl _ _ _) ⟨_, rfl, hx2, .slice none 0 0, by rw [gQ, hP]; rfl, by rw [fK, hP]; exact MsgsV.nil _ _⟩)
   | skip
  exfalso
  apply hB
  have h1 := ‹(!decide (dM m = 0)) = false›
  have h2 := ‹(!decide (((bQ m.qs).length : Int) = 1)) = false›
  simp only [Bool.not_eq_false', decide_eq_true_eq] at h1 h2
  exact ⟨h1, by omega, by omega, by omega⟩
end Go.Proofs.X
