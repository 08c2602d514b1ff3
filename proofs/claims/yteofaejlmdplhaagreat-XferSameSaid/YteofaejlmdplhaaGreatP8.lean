/- Laws and walks that the proof of the statement is made of (part 8). -/
import Derived.Test.YteofaejlmdplhaaGreatP7
set_option linter.unusedSimpArgs false
set_option linter.unusedVariables false
namespace Go.Proofs.X
open Go.RowKit
set_option maxRecDepth 100000
def mV (o : List UInt8) (l : List RSet) (s : RSet) : Bool :=
 !(lJ o l s.name).2 || decide (s.kind = 1) || decide (s.kind = 28) || (decide (s.kind = 2) && decide (s.name = (lJ o l s.name).1))
def mW (s t : RSet) : Bool := decide (t.name = s.name) && decide (t.kind ≠ 5)
def dK (o : List UInt8) (l : List RSet) (s : RSet) : Bool :=
 cQ s.name o && !(decide (s.kind = 6) && (decide (s.name ≠ o) || decide (s.data.length ≠ 1))) && !(decide (s.kind = 5) && (decide (s.data.length ≠ 1) || l.any (mW s))) && mV o l s
set_option maxHeartbeats 3000000 in
theorem LJ (o : List UInt8) (v : Value) (l : List RSet) (s : RSet) (u : Value) (w : World) (hv : SetsAt w v l) (hu : Sl 1 w u (aN s.data)) : Calls Tryz.prog 94 #[.agg #[aI o, v], .agg #[aI s.name, .int .i64 s.kind, .int .i64 s.ttl, u]] w (bG w (.bool (dK o l s))) := by
 obtain ⟨cv, hv1, hvl⟩ := hv.sl
 have hle := hv1.le
 have hlen := aR s.data
 go_enter Tryz.func94, Tryz.ntmps94
 refine_lift hY fun _ _ => ?_
 refine aZ (vs := [aI o, v]) rfl rfl ?_
 intro p w1 x1 hp
 refine aA ?_
 refine_lift PK ?_
 refine aZ (vs := [aI s.name, .int .i64 s.kind, .int .i64 s.ttl, u]) rfl rfl ?_
 intro q w2 x2 hq
 refine aA ?_
 have hp2 := hp.ext x2
 have hx2 := x1.trans x2
 refine_lift gV fun _ _ _ _ => ?_
 refine aB (enters_of Tryz.func150 rfl rfl) rfl rfl (DU _ _ _) ?_; intro w3 x3; refine aA ?_
 have hp3 := hp2.ext x3
 have hq3 := hq.ext x3
 have hx3 := hx2.trans x3
 have hu3 := hu.ext hx3
 have hv3 := hv1.ext hx3
 have hs3 := hv.ext hx3
 cases hn : cQ s.name o with
 | false =>
  refine_lift aS ?_
  go_ret
  exact ⟨by simp [dK, hn], hx3⟩
 | true =>
  (repeat' first | ((with_reducible refine cY ?_); go_step) | ((with_reducible refine bR ?_); first | refine fM ?_ | (refine dN ?_ ?_ <;> intro hc)) | fail)
  all_goals try (go_ret; exact ⟨by first | (simp_all [dK]; done) | (simp_all [dK]; intro h; omega), hx3⟩)
  ·have hR : dK o l s = mV o l s := by
    have : decide (s.data.length ≠ 1) = false := by simp_all; omega
    simp_all [dK]
   refine aB (enters_of Tryz.func151 rfl rfl) rfl rfl (GH o v l s.name _ (hs3)) ?_; intro w4 x4; refine aA ?_
   generalize hcut : lJ o l s.name = g at *
   obtain ⟨c, is⟩ := g
   cases is with
   | false =>
    refine_lift aS ?_
    go_ret
    exact ⟨by rw [hR]; simp [mV, hcut], (hx3).trans x4⟩
   | true =>
    have hq4 := (hq3).ext x4
    refine_lift PM (fun hc _ hc => ?_) (fun hc => ?_) (fun hc _ hc => ?_)
    all_goals (go_ret; exact ⟨by rw [hR]; simp_all [mV], hx3.trans x4⟩)
  ·have h5 : s.kind = 5 := by assumption
   have hd1 : decide (s.data.length ≠ 1) = false := by simp_all; omega
   go_loopw [5] (fun i wr => ∃ k : Nat, k ≤ l.length ∧ i = .int .i64 k ∧ Ext w3 wr ∧ (l.take k).any (mW s) = false) (fun i _ => l.length - (intOf i).toNat)
   case atStart => exact ⟨0, Nat.zero_le _, rfl, Ext.refl _, rfl⟩
   case round =>
    obtain ⟨k, hk, rfl, hx, hall⟩ := hrel
    have hxw : Ext w wr := hx3.trans hx
    have hv4 := hv1.ext hxw
    have hp4 := hp3.ext hx
    have hq4 := hq3.ext hx
    by_cases hlt : k < l.length
    ·obtain ⟨x, h4, h4d⟩ := (hv.ext hxw).elem (List.getElem?_eq_getElem hlt)
     refine_lift oM ?_; intro _ _ _ _ _ _
     refine bB (by decide +kernel) (by decide +kernel) ?_
     refine_lift dX ?_
     by_cases q1 : l[k].name = s.name
     ·rw [decide_eq_true q1]
      refine_lift dX ?_
      by_cases q2 : l[k].kind = 5
      ·rw [decide_eq_true q2]
       refine_lift dX ?_
       intro w5 x5
       refine_lift fP fun _ => ?_
       exact ⟨⟨k + 1, by omega, by go_num, hx.trans x5, iC hlt hall (by simp [mW, q2])⟩, by simp [intOf]; omega⟩
      ·rw [decide_eq_false q2]
       refine_lift dX ?_
       intro w5 x5
       refine_lift fP fun _ => ?_
       have hcl : l.any (mW s) = true := BS hlt (by simp [mW, q1, q2])
       go_ret
       exact ⟨by rw [show dK o l s = false by simp [dK, hcl, h5]]; rfl, hxw.trans x5⟩
     ·rw [decide_eq_false q1]
      refine_lift dX ?_
      intro w5 x5
      refine_lift aS ?_
      exact ⟨⟨k + 1, by omega, by go_num, hx.trans x5, iC hlt hall (by simp [mW, q1])⟩, by simp [intOf]; omega⟩
    ·have : k = l.length := by omega
     subst this
     rw [List.take_length] at hall
     have hR : dK o l s = mV o l s := by simp_all [dK]
     refine_lift kL fun _ _ _ => ?_
     refine aB (enters_of Tryz.func151 rfl rfl) rfl rfl (GH o v l s.name _ (hs3.ext hx)) ?_; intro w5 x5; refine aA ?_
     generalize hcut : lJ o l s.name = g at *
     obtain ⟨c, is⟩ := g
     cases is with
     | false =>
      refine_lift aS ?_
      go_ret
      exact ⟨by rw [hR]; simp [mV, hcut], hxw.trans x5⟩
     | true =>
      have hq5 := hq4.ext x5
      refine_lift PM (fun hc _ hc => ?_) (fun hc => ?_) (fun hc _ hc => ?_)
      all_goals (go_ret; exact ⟨by rw [hR]; simp_all [mV], hxw.trans x5⟩)
  ·have hR : dK o l s = mV o l s := by simp_all [dK]
   refine aB (enters_of Tryz.func151 rfl rfl) rfl rfl (GH o v l s.name _ (hs3)) ?_; intro w4 x4; refine aA ?_
   generalize hcut : lJ o l s.name = g at *
   obtain ⟨c, is⟩ := g
   cases is with
   | false =>
    refine_lift aS ?_
    go_ret
    exact ⟨by rw [hR]; simp [mV, hcut], (hx3).trans x4⟩
   | true =>
    have hq4 := (hq3).ext x4
    refine_lift QI (fun hc _ hc => ?_) (fun hc _ hc => ?_) (fun hc => ?_) (fun hc _ => ?_)
    all_goals (go_ret; exact ⟨by rw [hR]; simp_all [mV], hx3.trans x4⟩)
def dS (a b : RSet) : Bool := decide (gP a.name b.name < 0) || (decide (gP a.name b.name = 0) && decide (a.kind < b.kind))
set_option maxHeartbeats 6000000 in
theorem wL (a b : RSet) (u v : Value) (w : World) : Calls Tryz.prog 149 #[.agg #[aI a.name, .int .i64 a.kind, .int .i64 a.ttl, u], .agg #[aI b.name, .int .i64 b.kind, .int .i64 b.ttl, v]] w (bG w (.bool (dS a b))) := by
 go_enter Tryz.func149, Tryz.ntmps149
 refine_lift hY fun _ _ => ?_
 refine aZ (vs := [aI a.name, .int .i64 a.kind, .int .i64 a.ttl, u]) rfl rfl ?_
 intro p w1 x1 hp
 refine aA ?_
 refine aZ (vs := [aI b.name, .int .i64 b.kind, .int .i64 b.ttl, v]) rfl rfl ?_
 intro q w2 x2 hq
 refine aA ?_
 have hp := hp.ext x2
 refine_lift bY fun _ _ => ?_
 refine aB (enters_of Tryz.func190 rfl rfl) rfl rfl (GB a.name b.name _) ?_; intro w3 x3; refine aA ?_
 have hp := hp.ext x3
 have hq := hq.ext x3
 have x := (x1.trans x2).trans x3
 refine_lift KU (fun hc hc => ?_) (fun hc => ?_) (fun hc hc => ?_)
 ·have c1 := ‹¬gP a.name b.name < 0›
  have c2 := ‹gP a.name b.name = 0›
  go_ret
  exact ⟨by simp [dS, c2], x⟩
 ·have c1 := ‹¬gP a.name b.name < 0›
  have c2 := ‹¬gP a.name b.name = 0›
  go_ret
  exact ⟨by rw [dS, decide_eq_false c1, decide_eq_false c2]; rfl, x⟩
 ·have c1 := ‹gP a.name b.name < 0›
  go_ret
  exact ⟨by rw [dS, decide_eq_true c1]; rfl, x⟩
set_option maxHeartbeats 6000000 in
theorem QV (s : RSet) (v : Value) (w : World) (hv : Sl 1 w v (aN s.data)) (hd : ∀ d ∈ s.data, d.length ≤ 4611686018427387904) : Calls Tryz.prog 148 #[.agg #[aI s.name, .int .i64 s.kind, .int .i64 s.ttl, v]] w (bG w (.bool (fC s))) := by
 have hlen := aR s.data
 have hle := hv.le
 go_enter Tryz.func148, Tryz.ntmps148
 refine_lift hY fun _ _ => ?_
 refine aZ (vs := [aI s.name, .int .i64 s.kind, .int .i64 s.ttl, v]) rfl rfl ?_
 intro p w1 x1 hp
 refine aA ?_
 have hv1 := hv.ext x1
 refine_lift gV fun _ _ _ _ => ?_
 cases hb : decide (fold s.name = s.name) with
 | false =>
  have hno : fC s = false := by simp [fC, hb]
  refine bB (by decide +kernel) (by decide +kernel) ?_
  refine_lift dX ?_
  refine cA (enters_of Tryz.func67 rfl rfl) rfl rfl (fun w' _ => gM s.name w') ?_
  refine aA ?_
  refine_lift dX ?_
  simp only [hb, Bool.not_true, Bool.not_false]
  refine_lift dX ?_
  intro w2 x2
  refine_lift aS ?_
  go_ret
  exact ⟨by rw [hno]; rfl, x1.trans x2⟩
 | true =>
  have hfo : fold s.name = s.name := by simpa using hb
  refine bB (by decide +kernel) (by decide +kernel) ?_
  refine_lift dX ?_
  refine cA (enters_of Tryz.func67 rfl rfl) rfl rfl (fun w' _ => gM s.name w') ?_
  refine aA ?_
  refine_lift dX ?_
  simp only [hb, Bool.not_true, Bool.not_false]
  refine_lift dX ?_
  cases hb1 : decide (((aN s.data).length : Int) < 1) with
  | true =>
   have hno : fC s = false := by simp at hb1; simp [fC]; intro _ h; omega
   refine_lift dX ?_
   intro w2 x2
   refine_lift aS ?_
   go_ret
   exact ⟨by rw [hno]; rfl, x1.trans x2⟩
  | false =>
   refine_lift dX ?_
   cases hb2 : decide ((20 : Int) < ((aN s.data).length : Int)) with
   | true =>
    have hno : fC s = false := by simp at hb2; simp [fC]; intro _ _ h; omega
    refine_lift dX ?_
    intro w2 x2
    refine_lift aS ?_
    go_ret
    exact ⟨by rw [hno]; rfl, x1.trans x2⟩
   | false =>
    refine_lift dX ?_
    intro w2 x2
    have hl1 : 1 ≤ s.data.length := by simp at hb1; omega
    have hl2 : s.data.length ≤ 20 := by simp at hb2; omega
    have hp := hp.ext x2
    have hv2 := hv1.ext x2
    have x12 := x1.trans x2
    clear x1 x2 hv1
    refine_lift bY fun _ _ => ?_
    go_loopw [3] (fun i wr => ∃ k : Nat, k ≤ s.data.length ∧ i = .int .i64 k ∧ Ext w2 wr ∧ ∀ j, j < k → jZ s j = false) (fun i _ => s.data.length - (intOf i).toNat)
    case atStart => exact ⟨0, Nat.zero_le _, rfl, Ext.refl _, by omega⟩
    case round =>
     obtain ⟨k, hk, rfl, hx, hall⟩ := hrel
     have hp := hp.ext hx
     have hv3 := hv2.ext hx
     by_cases hlt : k < s.data.length
     ·have hq := hv3.elem (eA hlt)
      have hdk := hd _ (List.getElem_mem hlt)
      have hbad : jZ s k = (decide (aW ⟨s.name, s.kind, s.ttl, s.data[k]⟩ ≠ 0) || (decide (0 < k) && !Op.bytesLess (s.data.getD (k - 1) []) s.data[k])) := by
       rw [jZ, show s.data.getD k [] = s.data[k] by simp [hlt]]
      have hck : ∀ w', Calls Tryz.prog 66 #[.agg #[aI s.name, .int .i64 s.kind, .int .i64 s.ttl, aI s.data[k]]] w' (bG w' (.int .i64 (aW ⟨s.name, s.kind, s.ttl, s.data[k]⟩))) := fun w' => vZ ⟨s.name, s.kind, s.ttl, s.data[k]⟩ w' hdk
      refine_lift oM ?_; intro _ _ _ _ _ _
      refine bB (by decide +kernel) (by decide +kernel) ?_
      refine_lift dX ?_
      refine uI (v := .agg #[aI s.name, .int .i64 s.kind, .int .i64 s.ttl, aI s.data[k]]) rfl (fun w' _ => Runs.build rfl (by kernel_rfl)) ?_
      refine aA ?_
      refine_lift dX ?_
      refine cA (enters_of Tryz.func66 rfl rfl) rfl rfl (fun w' _ => hck w') ?_
      refine aA ?_
      refine_lift dX ?_
      cases hc : decide (aW ⟨s.name, s.kind, s.ttl, s.data[k]⟩ = 0) with
      | false =>
       have hno : fC s = false := rK hlt (by rw [hbad]; simp at hc; simp [hc])
       simp only [Bool.not_false]
       refine_lift dX ?_
       intro w3 x3
       refine_lift aS ?_
       go_ret
       exact ⟨by rw [hno]; rfl, x12.trans (hx.trans x3)⟩
      | true =>
       have hc0 : aW ⟨s.name, s.kind, s.ttl, s.data[k]⟩ = 0 := by simpa using hc
       simp only [Bool.not_true]
       refine_lift dX ?_
       by_cases hk0 : k = 0
       ·have hb0 : jZ s k = false := by rw [hbad, hc0]; simp [hk0]
        rw [show decide ((0 : Int) < (k : Int)) = false by simp [hk0]]
        refine_lift dX ?_
        intro w3 x3
        refine_lift aS ?_
        exact ⟨⟨k + 1, by omega, by go_num, hx.trans x3, fun j hj => by
         rcases Nat.lt_succ_iff_lt_or_eq.1 hj with h | rfl
         ·exact hall j h
         ·exact hb0⟩, by simp [intOf]; omega⟩
       ·rw [show decide ((0 : Int) < (k : Int)) = true by simp; omega]
        have hq2 : Pts wr (bX v (((k : Int) - 1).toNat * 1)) [aI (s.data.getD (k - 1) [])] := by
         have := hv3.elem (i := k - 1) (e := [aI (s.data.getD (k - 1) [])]) (by rw [eA (show k - 1 < s.data.length by omega)]; simp [show k - 1 < s.data.length by omega])
         rwa [show ((k : Int) - 1).toNat = k - 1 by omega]
        refine_lift dX ?_
        have hb0 : jZ s k = !Op.bytesLess (s.data.getD (k - 1) []) s.data[k] := by rw [hbad, hc0]; simp; omega
        intro w3 x3
        cases hbl : Op.bytesLess (s.data.getD (k - 1) []) s.data[k] with
        | false =>
         have hno : fC s = false := rK hlt (by rw [hb0, hbl]; rfl)
         refine_lift fP fun _ => ?_
         go_ret
         exact ⟨by rw [hno]; rfl, x12.trans (hx.trans x3)⟩
        | true =>
         have hb1 : jZ s k = false := by rw [hb0, hbl]; rfl
         refine_lift fP fun _ => ?_
         exact ⟨⟨k + 1, by omega, rfl, hx.trans x3, fun j hj => by
          rcases Nat.lt_succ_iff_lt_or_eq.1 hj with h | rfl
          ·exact hall j h
          ·exact hb1⟩, by simp [intOf]; omega⟩
     ·have : k = s.data.length := by omega
      subst this
      have hyes : fC s = true := by
       simp only [fC, hb, decide_eq_true hl1, decide_eq_true hl2, Bool.true_and, List.all_eq_true, List.mem_range, Bool.not_eq_true']
       exact hall
      refine_lift fP fun _ => ?_
      go_ret
      exact ⟨by rw [hyes]; rfl, x12.trans hx⟩
theorem AF (a b : RSet) : dS a b = decide (dQ a.name b.name a.kind b.kind < 0) := by
 unfold dS dQ FW
 by_cases h1 : gP a.name b.name < 0
 ·rw [if_pos (by omega)]; simp [h1]
 ·by_cases h2 : gP a.name b.name = 0
  ·simp [h2]
   by_cases h3 : a.kind < b.kind
   ·simp [h3]
   ·simp [h3]; split <;> omega
  ·rw [if_pos h2]; simp [h1, h2]
set_option maxHeartbeats 6000000 in
theorem LK (v : Value) (l : List RSet) (w : World) (hv : SetsAt w v l) (hd : ∀ s ∈ l, ∀ d ∈ s.data, d.length ≤ 4611686018427387904) : Calls Tryz.prog 92 #[v] w (bG w (.int .i64 (dC l))) := by
 obtain ⟨cv, hv1, hvl⟩ := hv.sl
 have hle := hv1.le
 go_enter Tryz.func92, Tryz.ntmps92
 refine_lift vF (fun _ _ _ => ?_) (fun _ => ?_)
 ·go_ret
  refine ⟨?_, Ext.refl _⟩
  rw [dC, if_pos (by omega)]
  rfl
 go_loopw [3] (fun i wr => ∃ k : Nat, k ≤ l.length ∧ i = .int .i64 k ∧ Ext w wr ∧ ∀ j, j < k → gQ l j = false) (fun i _ => l.length - (intOf i).toNat)
 case atStart => exact ⟨0, Nat.zero_le _, rfl, Ext.refl _, by omega⟩
 case round =>
  obtain ⟨k, hk, rfl, hx, hall⟩ := hrel
  have hv2 := hv1.ext hx
  by_cases hlt : k < l.length
  ·obtain ⟨x, h1, h1d⟩ := (hv.ext hx).elem (List.getElem?_eq_getElem hlt)
   have hdk := hd _ (List.getElem_mem hlt)
   have hbad : gQ l k = (!fC l[k] || (decide (0 < k) && !dS (l.getD (k - 1) default) l[k])) := by
    rw [gQ, List.getElem?_eq_getElem hlt, AF]
    simp only []
    congr 2
    by_cases h : dQ (l.getD (k - 1) default).name l[k].name (l.getD (k - 1) default).kind l[k].kind < 0
    ·rw [decide_eq_true h, decide_eq_false (by omega)]; rfl
    ·rw [decide_eq_false h, decide_eq_true (by omega)]; rfl
   have hck : ∀ w', Ext wr w' → Calls Tryz.prog 148 #[.agg #[aI l[k].name, .int .i64 l[k].kind, .int .i64 l[k].ttl, x]] w' (bG w' (.bool (fC l[k]))) := fun w' x' => QV l[k] x w' (h1d.ext x') hdk
   refine_lift oM ?_; intro _ _ _ _ _ _
   refine bB (by decide +kernel) (by decide +kernel) ?_
   refine_lift dX ?_
   refine cA (enters_of Tryz.func148 rfl rfl) rfl rfl (fun w' x' => hck w' x') ?_
   refine aA ?_
   refine_lift dX ?_
   cases hm : fC l[k] with
   | false =>
    have hno : dC l = 1 := mC hlt (by rw [hbad, hm]; rfl)
    simp only [Bool.not_false]
    refine_lift dX ?_
    intro w3 x3
    refine_lift aS ?_
    go_ret
    exact ⟨by rw [hno]; rfl, hx.trans x3⟩
   | true =>
    simp only [Bool.not_true]
    refine_lift dX ?_
    by_cases hk0 : k = 0
    ·have hb0 : gQ l k = false := by rw [hbad, hm]; simp [hk0]
     rw [show decide ((0 : Int) < (k : Int)) = false by simp [hk0]]
     refine_lift dX ?_
     intro w3 x3
     refine_lift aS ?_
     exact ⟨⟨k + 1, by omega, by go_num, hx.trans x3, fun j hj => by
      rcases Nat.lt_succ_iff_lt_or_eq.1 hj with h | rfl
      ·exact hall j h
      ·exact hb0⟩, by simp [intOf]; omega⟩
    ·rw [show decide ((0 : Int) < (k : Int)) = true by simp; omega]
     have hlp : k - 1 < l.length := by omega
     obtain ⟨y, h2, h2d⟩ := (hv.ext hx).elem (List.getElem?_eq_getElem hlp)
     have h2 : Pts wr (bX v (((k : Int) - 1).toNat * 4)) [aI l[k - 1].name, .int .i64 l[k - 1].kind, .int .i64 l[k - 1].ttl, y] := by
      rwa [show ((k : Int) - 1).toNat = k - 1 by omega]
     have hpr : l.getD (k - 1) default = l[k - 1] := by simp [hlp]
     have hah : ∀ w', Calls Tryz.prog 149 #[.agg #[aI l[k - 1].name, .int .i64 l[k - 1].kind, .int .i64 l[k - 1].ttl, y], .agg #[aI l[k].name, .int .i64 l[k].kind, .int .i64 l[k].ttl, x]] w' (bG w' (.bool (dS l[k - 1] l[k]))) := fun w' => wL l[k - 1] l[k] y x w'
     refine_lift dX ?_
     refine cA (enters_of Tryz.func149 rfl rfl) rfl rfl (fun w' x' => hah w') ?_
     refine aA ?_
     refine_lift dX ?_
     intro w3 x3
     cases ha : dS l[k - 1] l[k] with
     | false =>
      have hno : dC l = 1 := mC hlt (by rw [hbad, hm, hpr, ha]; simp; omega)
      refine_lift fP fun _ => ?_
      go_ret
      exact ⟨by rw [hno]; rfl, hx.trans x3⟩
     | true =>
      have hb0 : gQ l k = false := by rw [hbad, hm, hpr, ha]; simp
      refine_lift fP fun _ => ?_
      exact ⟨⟨k + 1, by omega, by go_num, hx.trans x3, fun j hj => by
       rcases Nat.lt_succ_iff_lt_or_eq.1 hj with h | rfl
       ·exact hall j h
       ·exact hb0⟩, by simp [intOf]; omega⟩
  ·have : k = l.length := by omega
   subst this
   have hyes : dC l = 0 := by
    rw [dC, if_neg (by omega), if_pos]
    simp only [List.all_eq_true, List.mem_range, Bool.not_eq_true']
    exact hall
   refine_lift fP fun _ => ?_
   go_ret
   exact ⟨by rw [hyes]; rfl, hx⟩
theorem Own.nilE {B k e : Nat} {w : World} : Own B k e w (.slice none 0 0) [] := Own.nil _ _ _ _
set_option maxHeartbeats 6000000 in
theorem HU (s : RSet) (v : Value) (w : World) (hv : Sl 1 w v (aN s.data)) (hb : s.data.length ≤ 1000000) : Calls Tryz.prog 105 #[.agg #[aI s.name, .int .i64 s.kind, .int .i64 s.ttl, v]] w (jE w fun r w' => ∃ x, r = .agg #[aI s.name, .int .i64 s.kind, .int .i64 s.ttl, x] ∧ Own w.heap.size 1 9 w' x (aN s.data)) := by
 go_enter Tryz.func105, Tryz.ntmps105
 refine_lift uL ?_; intro _ _ _
 refine aZ (vs := [aI s.name, .int .i64 s.kind, .int .i64 s.ttl, v]) rfl rfl ?_
 intro p w1 x1 hp
 refine aA ?_
 refine aG (z := gR) rfl (by decide +kernel) ?_
 intro w2 x2 s2 h2
 refine aA ?_
 have hp := hp.ext x2
 refine_lift bY fun _ _ => ?_
 refine aG (z := gR) rfl (by decide +kernel) ?_
 intro w3 x3 s3 h3
 refine aA ?_
 have h2 := x3.at h2
 refine aC (v := .agg #[aI s.name, .int .i64 s.kind, .int .i64 s.ttl, v]) rfl rfl rfl h3 (show aO Tryz.prog 119 4 = true by decide +kernel) rfl (iM rfl rfl rfl hv.one) ?_
 intro w4 p4
 have x04 : Ext w w4 := ((x1.trans x2).trans x3).move p4.mv (by have := x1.size; rintro k ⟨⟩; omega)
 have h2 := p4.at h2 (by omega)
 have x24 : Ext w2 w4 := x3.move p4.mv (by rintro k ⟨⟩; omega)
 have hp4 := hp.ext x24
 have h4 : w4.heap[w2.heap.size]? = some (.cells [aI s.name, .int .i64 s.kind, .int .i64 s.ttl, v].toArray 119 (0, 0)) := p4.this
 have hz4 := p4.size
 clear p4 h3 x3 hp
 refine_lift bY fun _ _ => ?_
 have s1 := x1.size
 refine cP (v0 := .slice none 0 0) (B := w4.heap.size) (e := 9) rfl Own.nilE rfl (hv.ext x04) (by simp [aN, aI, Value.oneCell']) (Nat.le_refl _) (by rw [aR]; simpa using hb) ?_
 intro x w5 o5 m5 k5
 have x45 : Ext w4 w5 := ⟨m5.os, m5.tape, m5.output, m5.size, fun k hk => m5.block k hk (by simp [Value.ownBlock]), m5.drawn⟩
 refine aA ?_
 have h2 := x45.at h2
 have h4 := x45.at h4
 have hp4 := hp4.ext x45
 have hp5 := aE h4
 refine_lift aS ?_
 have o5 : Own w4.heap.size 1 9 w5 x (aN s.data) := by simpa using o5
 refine dP (cs := [aI s.name, .int .i64 s.kind, .int .i64 s.ttl, v]) h4 rfl rfl rfl (by simp) (by decide +kernel) o5.one ?_
 intro w6 p6
 have x46 : Ext w w6 := (x04.trans x45).move p6.mv (by have := x2.size; rintro k ⟨⟩; omega)
 have h2 := p6.at h2 (by omega)
 have o6 : Own w4.heap.size 1 9 w6 x (aN s.data) := o5.put p6 (by omega)
 have hp6 := aE (cs := [aI s.name, .int .i64 s.kind, .int .i64 s.ttl, x]) p6.this
 clear p6 h4 hp5 hp4
 refine_lift bY fun _ _ => ?_
 refine aC (v := .agg #[aI s.name, .int .i64 s.kind, .int .i64 s.ttl, x]) rfl rfl rfl h2 (show aO Tryz.prog 119 4 = true by decide +kernel) rfl (iM rfl rfl rfl o6.sl.one) ?_
 intro w7 p7
 have x7 : Ext w w7 := x46.move p7.mv (by rintro k ⟨⟩; omega)
 have o7 : Own w4.heap.size 1 9 w7 x (aN s.data) := o6.put p7 (by omega)
 refine_lift aS ?_
 refine bodyPost_ret (fL (cs := [aI s.name, .int .i64 s.kind, .int .i64 s.ttl, x]) rfl rfl p7.this (show dY Tryz.prog 119 4 = true by decide +kernel)) rfl ⟨_, rfl, x7, x, rfl, o7.weaken x04.size⟩
set_option maxHeartbeats 12000000 in
theorem HV (v : Value) (l : List RSet) (n : List UInt8) (kd : Int) (w : World) (hv : SetsAt w v l) (hb : ∀ s ∈ l, s.data.length ≤ 1000000) : Calls Tryz.prog 95 #[v, aI n, .int .i64 kd] w (jE w fun r w' => match fK l n kd with
 | some s => ∃ x, r = .tuple #[.agg #[aI s.name, .int .i64 s.kind, .int .i64 s.ttl, x], .bool true] ∧ Own w.heap.size 1 9 w' x (aN s.data)
 | none => r = .tuple #[.agg gR.toArray, .bool false]) := by
 obtain ⟨cv, hv1, hvl⟩ := hv.sl
 have hle := hv1.le
 go_enter Tryz.func95, Tryz.ntmps95
 refine_lift uL ?_; intro _ _ _
 refine aG (z := gR) rfl (by decide +kernel) ?_
 intro w2 x2 s2 h2
 refine aA ?_
 refine_lift bY fun _ _ => ?_
 go_loopw [8] (fun i wr => ∃ k : Nat, k ≤ l.length ∧ i = .int .i64 k ∧ Ext w2 wr ∧ (l.take k).find? (FX (fold n) kd) = none) (fun i _ => l.length - (intOf i).toNat)
 case atStart => exact ⟨0, Nat.zero_le _, rfl, Ext.refl _, rfl⟩
 case round =>
  obtain ⟨k, hk, rfl, hx, hall⟩ := hrel
  have hxw : Ext w wr := x2.trans hx
  have hv2 := hv1.ext hxw
  have h3 := hx.at h2
  by_cases hlt : k < l.length
  ·obtain ⟨x, h4, h4d⟩ := (hv.ext hxw).elem (List.getElem?_eq_getElem hlt)
   have hbk := hb _ (List.getElem_mem hlt)
   refine_lift oM ?_; intro _ _ _ _ _ _
   refine bB (by decide +kernel) (by decide +kernel) ?_
   refine_lift dX ?_
   refine cA (enters_of Tryz.func67 rfl rfl) rfl rfl (fun w' _ => gM n w') ?_
   refine aA ?_
   refine_lift dX ?_
   by_cases q1 : l[k].name = fold n
   ·rw [decide_eq_true q1]
    refine_lift dX ?_
    intro w5 x5
    have h5 := x5.at h3
    have hv5 := hv2.ext x5
    have hp5 := h4.ext x5
    by_cases q2 : l[k].kind = kd
    ·have hh : fK l n kd = some l[k] := BP hlt hall (by simp [FX, q1, q2])
     rw [decide_eq_true q2]
     refine_lift bY fun _ _ => ?_
     refine aK (enters_of Tryz.func105 rfl rfl) rfl rfl (HU l[k] x _ (h4d.ext x5) hbk) ?_
     intro r w6 x6 hr
     obtain ⟨y, rfl, oy⟩ := hr
     refine aA ?_
     have h6 := x6.at h5
     have hs5 := hx.size
     have hs6 := x5.size
     refine aC (v := .agg #[aI l[k].name, .int .i64 l[k].kind, .int .i64 l[k].ttl, y]) rfl rfl rfl h6 (show aO Tryz.prog 119 4 = true by decide +kernel) rfl (iM rfl rfl rfl oy.sl.one) ?_
     intro w7 p7
     have x7 : Ext w w7 := ((hxw.trans x5).trans x6).move p7.mv (by rintro k ⟨⟩; exact Nat.le_refl _)
     have o7 := oy.put p7 (by omega)
     refine_lift aS ?_
     refine bodyPost_ret (aH (cs := [aI l[k].name, .int .i64 l[k].kind, .int .i64 l[k].ttl, y]) rfl rfl p7.this (show dY Tryz.prog 119 4 = true by decide +kernel)) rfl ⟨_, rfl, x7, ?_⟩
     rw [hh]
     exact ⟨y, rfl, o7.weaken (by omega)⟩
    ·rw [decide_eq_false q2]
     refine_lift aS ?_
     exact ⟨⟨k + 1, by omega, by go_num, hx.trans x5, oN hlt hall (by simp [FX, q2])⟩, by simp [intOf]; omega⟩
   ·rw [decide_eq_false q1]
    refine_lift dX ?_
    intro w5 x5
    refine_lift aS ?_
    exact ⟨⟨k + 1, by omega, by go_num, hx.trans x5, oN hlt hall (by simp [FX, q1])⟩, by simp [intOf]; omega⟩
  ·have : k = l.length := by omega
   subst this
   have hno : fK l n kd = none := by rw [List.take_length] at hall; exact hall
   refine_lift kL fun _ _ _ => ?_
   refine aQ (v := .agg gR.toArray) rfl (Runs.build0 (by kernel_rfl)) ?_
   refine aA ?_
   refine aC (v := .agg gR.toArray) rfl rfl rfl h3 (by decide +kernel) rfl (by decide +kernel) ?_
   intro w7 p7
   have x7 : Ext w w7 := hxw.move p7.mv (by rintro k ⟨⟩; exact Nat.le_refl _)
   refine_lift aS ?_
   refine bodyPost_ret (aH (cs := gR) rfl rfl p7.this (by decide +kernel)) rfl ⟨_, rfl, x7, ?_⟩
   rw [hno]
   rfl
set_option maxHeartbeats 12000000 in
theorem LL (o : List UInt8) (v : Value) (l : List RSet) (n : List UInt8) (kd : Int) (w : World) (hv : SetsAt w v l) (hb : ∀ s ∈ l, s.data.length ≤ 1000000) : Calls Tryz.prog 93 #[.agg #[aI o, v], aI n, .int .i64 kd] w (bG w (.bool (fK l n kd).isSome)) := by
 go_enter Tryz.func93, Tryz.ntmps93
 refine_lift hY fun _ _ => ?_
 refine aZ (vs := [aI o, v]) rfl rfl ?_
 intro p w0 x0 hp
 refine aA ?_
 have hv1 := hv.ext x0
 refine_lift bY fun _ _ => ?_
 refine aK (enters_of Tryz.func95 rfl rfl) rfl rfl (HV v l n kd _ hv1 hb) ?_
 intro r w1 x1 hr
 cases hf : fK l n kd with
 | none =>
  rw [hf] at hr
  obtain rfl := hr
  refine_lift aS ?_
  refine aG (z := gR) rfl (by decide +kernel) ?_
  intro w2 x2 s2 h2
  refine aA ?_
  refine aC (v := .agg gR.toArray) rfl rfl rfl h2 (by decide +kernel) rfl (by decide +kernel) ?_
  intro w3 p3
  have x3 : Ext w w3 := ((x0.trans x1).trans x2).move p3.mv (by rintro k ⟨⟩; have := x0.size; have := x1.size; omega)
  refine_lift aS ?_
  go_ret
  exact ⟨by rw [hf]; rfl, x3⟩
 | some s =>
  rw [hf] at hr
  obtain ⟨x, rfl, ho⟩ := hr
  refine_lift aS ?_
  refine aG (z := gR) rfl (by decide +kernel) ?_
  intro w2 x2 s2 h2
  refine aA ?_
  refine aC (v := .agg #[aI s.name, .int .i64 s.kind, .int .i64 s.ttl, x]) rfl rfl rfl h2 (show aO Tryz.prog 119 4 = true by decide +kernel) rfl (iM rfl rfl rfl ho.sl.one) ?_
  intro w3 p3
  have x3 : Ext w w3 := ((x0.trans x1).trans x2).move p3.mv (by rintro k ⟨⟩; have := x0.size; have := x1.size; omega)
  refine_lift aS ?_
  go_ret
  exact ⟨by rw [hf]; rfl, x3⟩
def dT (o : List UInt8) : Int := if (bF o).isSome then 0 else 1
def aX (o : List UInt8) (l : List RSet) : Int :=
 if dT o ≠ 0 ∨ fold o ≠ o ∨ dC l ≠ 0 then 1 else
 if (fK l o 6).isSome = false ∨ (fK l o 2).isSome = false then 2 else
 if l.any (fun s => !dK o l s) = true then 2 else 0
set_option maxHeartbeats 3000000 in
theorem DX (o : List UInt8) (v : Value) (l : List RSet) (w : World) (hv : SetsAt w v l) (hb : ∀ s ∈ l, s.data.length ≤ 1000000) (hd : ∀ s ∈ l, ∀ d ∈ s.data, d.length ≤ 4611686018427387904) : Calls Tryz.prog 41 #[.agg #[aI o, v]] w (bG w (.int .i64 (aX o l))) := by
 obtain ⟨cv, hv1, hvl⟩ := hv.sl
 have hle := hv1.le
 go_enter Tryz.func41, Tryz.ntmps41
 refine_lift hY fun _ _ => ?_
 refine aZ (vs := [aI o, v]) rfl rfl ?_
 intro p w1 x1 hp
 refine aA ?_
 refine_lift gV fun _ _ _ _ => ?_
 have c1 : ∀ w', Calls Tryz.prog 65 #[aI o] w' (bG w' (.int .i64 (dT o))) := fun w' => nL o w'
 have hv2 := hv.ext x1
 have c3 : ∀ w', Ext w1 w' → Calls Tryz.prog 92 #[v] w' (bG w' (.int .i64 (dC l))) := fun w' x' => LK v l w' (hv2.ext x') hd
 refine bB (by decide +kernel) (by decide +kernel) ?_
 refine_lift dX ?_
 refine cA (enters_of Tryz.func65 rfl rfl) rfl rfl (fun w' _ => c1 w') ?_
 refine aA ?_
 refine_lift dX ?_
 by_cases q1 : dT o = 0
 ·rw [decide_eq_true q1]
  simp only [Bool.not_true]
  refine_lift dX ?_
  refine cA (enters_of Tryz.func67 rfl rfl) rfl rfl (fun w' _ => gM o w') ?_
  refine aA ?_
  refine_lift dX ?_
  by_cases q2 : fold o = o
  ·rw [decide_eq_true q2]
   simp only [Bool.not_true]
   refine_lift dX ?_
   refine cA (enters_of Tryz.func92 rfl rfl) rfl rfl (fun w' x' => c3 w' x') ?_
   refine aA ?_
   refine_lift dX ?_
   intro w2 x2
   by_cases q3 : dC l = 0
   ·rw [decide_eq_true q3]
    simp only [Bool.not_true]
    refine_lift gV fun _ _ _ _ => ?_
    have hx2 := x1.trans x2
    have hp2 := hp.ext x2
    have hs2 := hv.ext hx2
    refine aB (enters_of Tryz.func93 rfl rfl) rfl rfl (LL o v l o 6 _ hs2 hb) ?_; intro w3 x3; refine aA ?_
    have hx3 := hx2.trans x3
    have hp3 := hp2.ext x3
    have hs3 := hs2.ext x3
    cases f6 : (fK l o 6).isSome with
    | false =>
     refine_lift aS ?_
     go_ret
     exact ⟨by rw [show aX o l = 2 by simp [aX, q1, q2, q3, f6]]; rfl, hx3⟩
    | true =>
     refine_lift aS ?_
     refine aB (enters_of Tryz.func93 rfl rfl) rfl rfl (LL o v l o 2 _ hs3 hb) ?_; intro w4 x4; refine aA ?_
     have hx4 := hx3.trans x4
     have hp4 := hp3.ext x4
     have hs4 := hs3.ext x4
     cases f2 : (fK l o 2).isSome with
     | false =>
      refine_lift aS ?_
      go_ret
      exact ⟨by rw [show aX o l = 2 by simp [aX, q1, q2, q3, f6, f2]]; rfl, hx4⟩
     | true =>
      refine_lift bY fun _ _ => ?_
      go_loopw [3] (fun i wr => ∃ k : Nat, k ≤ l.length ∧ i = .int .i64 k ∧ Ext w4 wr ∧ (l.take k).any (fun s => !dK o l s) = false) (fun i _ => l.length - (intOf i).toNat)
      case atStart => exact ⟨0, Nat.zero_le _, rfl, Ext.refl _, rfl⟩
      case round =>
       obtain ⟨k, hk, rfl, hx, hall⟩ := hrel
       have hxw : Ext w wr := hx4.trans hx
       have hv5 := hv1.ext hxw
       have hp5 := hp4.ext hx
       have hs5 := hv.ext hxw
       by_cases hlt : k < l.length
       ·obtain ⟨x, h5, h5d⟩ := hs5.elem (List.getElem?_eq_getElem hlt)
        have c5 : ∀ w', Ext wr w' → Calls Tryz.prog 94 #[.agg #[aI o, v], .agg #[aI l[k].name, .int .i64 l[k].kind, .int .i64 l[k].ttl, x]] w' (bG w' (.bool (dK o l l[k]))) := fun w' x' => LJ o v l l[k] x w' (hs5.ext x') (h5d.ext x')
        refine_lift oM ?_; intro _ _ _ _ _ _
        refine bB (by decide +kernel) (by decide +kernel) ?_
        refine_lift dX ?_
        refine cA (enters_of Tryz.func94 rfl rfl) rfl rfl (fun w' x' => c5 w' x') ?_
        refine aA ?_
        refine_lift dX ?_
        intro w6 x6
        cases hr : dK o l l[k] with
        | false =>
         refine_lift fP fun _ => ?_
         go_ret
         exact ⟨by rw [show aX o l = 2 by simp only [aX, q1, q2, q3, f6, f2]; rw [BS (p := fun s => !dK o l s) hlt (by simp [hr])]; simp]; rfl, hxw.trans x6⟩
        | true =>
         refine_lift fP fun _ => ?_
         exact ⟨⟨k + 1, by omega, by go_num, hx.trans x6, iC hlt hall (by simp [hr])⟩, by simp [intOf]; omega⟩
       ·have : k = l.length := by omega
        subst this
        rw [List.take_length] at hall
        refine_lift fP fun _ => ?_
        go_ret
        exact ⟨by rw [show aX o l = 0 by simp only [aX, q1, q2, q3, f6, f2]; rw [hall]; simp]; rfl, hxw⟩
   ·rw [decide_eq_false q3]
    simp only [Bool.not_false]
    refine_lift aS ?_
    go_ret
    exact ⟨by rw [show aX o l = 1 by simp [aX, q3]]; rfl, x1.trans x2⟩
  ·rw [decide_eq_false q2]
   simp only [Bool.not_false]
   refine_lift dX ?_
   intro w2 x2
   refine_lift aS ?_
   go_ret
   exact ⟨by rw [show aX o l = 1 by simp [aX, q2]]; rfl, x1.trans x2⟩
 ·rw [decide_eq_false q1]
  simp only [Bool.not_false]
  refine_lift dX ?_
  intro w2 x2
  refine_lift aS ?_
  go_ret
  exact ⟨by rw [show aX o l = 1 by simp [aX, q1]]; rfl, x1.trans x2⟩
theorem TPO.ltt {α : Type} {c : α → α → Int} (h : TPO c) {x y z : α} (h1 : c x y < 0) (h2 : c y z < 0) : c x z < 0 := by
 have h3 := h.tr x y z (by omega) (by omega)
 rcases Int.lt_or_eq_of_le h3 with h4 | h4
 ·exact h4
 ·exfalso
  have h5 := (h.eqL h4 (z := y)).1 (by omega)
  have h6 := h.anti y z
  omega
theorem DY {l : List RSet} (h : dC l = 0) : ∀ i, i < l.length → gQ l i = false := by
 unfold dC at h
 split at h
 ·omega
 ·split at h
  ·rename_i h1
   intro i hi
   rw [List.all_eq_true] at h1
   have := h1 i (by simpa using hi)
   simpa using this
  ·omega
theorem lK {l : List RSet} (h : dC l = 0) {i : Nat} (hi : i < l.length) : fC l[i] = true := by
 have := DY h i hi
 rw [gQ, List.getElem?_eq_getElem hi] at this
 simp only [Bool.or_eq_false_iff, Bool.not_eq_false'] at this
 exact this.1
theorem LM {l : List RSet} (h : dC l = 0) {i : Nat} (hi : i + 1 < l.length) : dQ l[i].name l[i + 1].name l[i].kind l[i + 1].kind < 0 := by
 have := DY h (i + 1) hi
 rw [gQ, List.getElem?_eq_getElem hi] at this
 simp only [Bool.or_eq_false_iff, Bool.and_eq_false_iff, decide_eq_false_iff_not] at this
 have h2 := this.2.resolve_left (by omega)
 have e : l.getD (i + 1 - 1) default = l[i] := by simp [show i < l.length by omega]
 rw [e] at h2
 omega
theorem iE {l : List RSet} (h : dC l = 0) (i : Nat) : ∀ j (hj : i < j) (hl : j < l.length), dQ l[i].name l[j].name l[i].kind l[j].kind < 0
 | 0, hj, _ => by omega
 | j + 1, hj, hl => by
   have h1 := LM h hl
   by_cases e : i = j
   ·subst e; exact h1
   ·have h2 := iE h i j (by omega) (by omega)
    exact iO.ltt (x := (l[i].name, l[i].kind)) (y := (l[j].name, l[j].kind)) (z := (l[j + 1].name, l[j + 1].kind)) h2 h1
theorem rP {s : RSet} (h : fC s = true) : fold s.name = s.name := by
 simp only [fC, Bool.and_eq_true, decide_eq_true_eq] at h
 exact h.1.1.1
theorem AG {l : List RSet} (h : dC l = 0) {i : Nat} (hi : i < l.length) : fK l l[i].name l[i].kind = some l[i] := by
 have hf := rP (lK h hi)
 refine BP hi ?_ (by simp [FX, hf])
 rw [List.find?_eq_none]
 intro x hx hh
 obtain ⟨j, hj, rfl⟩ := List.getElem_of_mem hx
 have hj' : j < i := by rw [List.length_take] at hj; omega
 rw [List.getElem_take] at hh
 simp only [FX, hf, Bool.and_eq_true, decide_eq_true_eq] at hh
 have h1 := iE h j i hj' hi
 rw [hh.1, hh.2] at h1
 have h2 := iO.refl (l[i].name, l[i].kind)
 simp only at h2
 omega
theorem TA {α β : Type} {F : α → β → World → Prop} {G : α → β → World → Prop} {goal : Prop} (h1 : (∀ x y w', F x y w' → G x y w') → goal) (h2 : ∀ x y w', F x y w' → G x y w') : goal := h1 h2
def fF (o n : List UInt8) (s : RSet) : Bool := decide (s.kind = 2) && decide (s.name ≠ o) && cQ n s.name
def uF (o : List UInt8) (l : List RSet) (n : List UInt8) : List UInt8 × Bool := match l.find? (fF o n) with
 | some s => (s.name, true)
 | none => ([], false)
theorem wM {o n : List UInt8} {b : List UInt8 × Bool} {s : RSet} (h : fF o n s = false) : iD o n b s = b := by
 unfold iD
 rw [if_neg]
 rintro ⟨h1, h2, h3, _⟩
 simp [fF, h1, h2, h3] at h
theorem DZ {o n : List UInt8} {m : List UInt8} {s : RSet} (h : fF o n s = true) : iD o n (m, false) s = (s.name, true) := by
 simp only [fF, Bool.and_eq_true, decide_eq_true_eq] at h
 unfold iD
 rw [if_pos ⟨h.1.1, h.1.2, h.2, .inl rfl⟩]
theorem BW {o n : List UInt8} {m : List UInt8} {s : RSet} (h : fF o n s = true → pJ m ≤ pJ s.name) : iD o n (m, true) s = (m, true) := by
 cases hc : fF o n s with
 | false => exact wM hc
 | true =>
  have := h hc
  unfold iD
  rw [if_neg]
  rintro ⟨_, _, _, h4⟩
  rcases h4 with h4 | h4
  ·cases h4
  ·simp only at h4; omega
theorem AH {o n m : List UInt8} : ∀ {l : List RSet}, (∀ t ∈ l, fF o n t = true → pJ m ≤ pJ t.name) → l.foldl (iD o n) (m, true) = (m, true)
 | [], _ => rfl
 | t :: l, h => by
   rw [List.foldl_cons, BW (h t (by simp)), AH fun u hu => h u (by simp [hu])]
theorem AI {o n : List UInt8} : ∀ {l : List RSet}, l.Pairwise (fun s t => fF o n s = true → fF o n t = true → pJ s.name ≤ pJ t.name) → lJ o l n = uF o l n
 | [], _ => rfl
 | t :: l, h => by
   obtain ⟨h1, h2⟩ := List.pairwise_cons.1 h
   unfold lJ uF
   rw [List.foldl_cons, List.find?_cons]
   cases hc : fF o n t with
   | true => simp only [DZ hc]; exact AH fun u hu => h1 u hu hc
   | false => simp only [wM hc]; exact AI h2
theorem tR {n : List UInt8} {a : List (List UInt8)} (h : dJ n = some a) : pJ n = a.length := by
 rw [gE] at h
 cases hl : bF n with
 | none => rw [hl] at h; cases h
 | some ls =>
  rw [hl] at h
  cases h
  simp [pJ, hl]
theorem iF {n t : List UInt8} (h : cQ n t = true) : ∃ a b, dJ n = some a ∧ dJ t = some b ∧ a.take b.length = b := by
 unfold cQ at h
 cases ha : dJ n with
 | none => rw [ha] at h; cases h
 | some a =>
  cases hb : dJ t with
  | none => rw [ha, hb] at h; cases h
  | some b =>
   rw [ha, hb] at h
   exact ⟨a, b, rfl, rfl, by simpa using h⟩
theorem oQ {n t : List UInt8} {a b : List (List UInt8)} (ha : dJ n = some a) (hb : dJ t = some b) : cQ n t = decide (a.take b.length = b) := by
 unfold cQ; rw [ha, hb]
theorem tS {α : Type} {a b : List α} (h : a.take b.length = b) : b.length ≤ a.length := by
 have := congrArg List.length h
 rw [List.length_take] at this
 omega
theorem GI {a b c : List (List UInt8)} (hb : a.take b.length = b) (hc : a.take c.length = c) (h : gG b c ≤ 0) : b.length ≤ c.length := by
 have e : gG b c = if b.length < c.length then -1 else if c.length < b.length then 1 else 0 := by
  rcases Nat.le_total b.length c.length with hl | hl
  ·refine vX (k := b.length) ?_ (Nat.le_refl _) hl (.inl rfl)
   rw [List.take_length, ← hc, List.take_take, Nat.min_eq_left hl, hb]
  ·refine vX (k := c.length) ?_ hl (Nat.le_refl _) (.inr rfl)
   rw [List.take_length, ← hb, List.take_take, Nat.min_eq_left hl, hc]
 rw [e] at h
 split at h
 ·omega
 ·split at h <;> omega
theorem LN {a b : List UInt8} {j k : Int} (h : dQ a b j k < 0) : gP a b ≤ 0 := by
 unfold dQ at h
 split at h <;> omega
theorem GJ {o : List UInt8} {l : List RSet} (h : dC l = 0) (n : List UInt8) : lJ o l n = uF o l n := by
 refine AI ?_
 rw [List.pairwise_iff_getElem]
 intro i j hi hj hij h1 h2
 have hc := LN (iE h i j hij hj)
 simp only [fF, Bool.and_eq_true] at h1 h2
 obtain ⟨a, b, ha, hb, e1⟩ := iF h1.2
 obtain ⟨a', c, ha', hc', e2⟩ := iF h2.2
 rw [ha] at ha'
 cases ha'
 rw [tR hb, tR hc']
 refine GI e1 e2 ?_
 unfold gP at hc
 rw [hb, hc'] at hc
 exact hc
theorem nP {n : List UInt8} : (dJ n).isSome = (bF n).isSome := by
 rw [gE]; cases bF n <;> rfl
theorem GK {n : List UInt8} (h : (bF n).isSome = true) : cQ n n = true := by
 rw [← nP] at h
 obtain ⟨a, ha⟩ := Option.isSome_iff_exists.1 h
 rw [oQ ha ha]
 simp
theorem EA {a b c : List UInt8} (h : cQ a b = true) (k : cQ b c = true) : cQ a c = true := by
 obtain ⟨x, y, hx, hy, e1⟩ := iF h
 obtain ⟨y', z, hy', hz, e2⟩ := iF k
 rw [hy] at hy'
 cases hy'
 have hl := tS e2
 rw [oQ hx hz, decide_eq_true_eq]
 rw [← e1, List.take_take, Nat.min_eq_left hl] at e2
 exact e2
theorem BX {a b : List UInt8} (h : cQ a b = true) : (bF a).isSome = true ∧ (bF b).isSome = true := by
 obtain ⟨x, y, hx, hy, _⟩ := iF h
 rw [← nP, ← nP, hx, hy]
 exact ⟨rfl, rfl⟩
structure ZoneOk (o : List UInt8) (l : List RSet) : Prop where
 lab : (bF o).isSome = true
 fold : fold o = o
 chk : dC l = 0
 soa : (fK l o 6).isSome = true
 ns : (fK l o 2).isSome = true
 right : ∀ s ∈ l, dK o l s = true
theorem gF {o : List UInt8} {l : List RSet} (h : aX o l = 0) : ZoneOk o l := by
 unfold aX at h
 split at h
 ·cases h
 ·rename_i h1
  split at h
  ·cases h
  ·rename_i h2
   split at h
   ·cases h
   ·rename_i h3
    simp only [not_or, ne_eq, Decidable.not_not, Bool.not_eq_false] at h1 h2
    refine ⟨?_, h1.2.1, h1.2.2, h2.1, h2.2, fun s hs => ?_⟩
    ·have := h1.1
     unfold dT at this
     split at this
     ·assumption
     ·cases this
    ·cases hr : dK o l s with
     | true => rfl
     | false => exact absurd (List.any_eq_true.2 ⟨s, hs, by simp [hr]⟩) h3
theorem fW {o : List UInt8} {l : List RSet} (h : ZoneOk o l) : aX o l = 0 := by
 obtain ⟨h1, h2, h3, h4, h5, h6⟩ := h
 have h7 : l.any (fun s => !dK o l s) = false := by
  rw [List.any_eq_false]
  intro s hs
  simp [h6 s hs]
 unfold aX dT
 simp [h1, h2, h3, h4, h5, h7]
theorem EB {o : List UInt8} {l : List RSet} {s : RSet} (h : dK o l s = true) : cQ s.name o = true := by
 simp only [dK, Bool.and_eq_true] at h
 exact h.1.1.1
theorem ZoneOk.may {o : List UInt8} {l : List RSet} (h : ZoneOk o l) {s : RSet} (hs : s ∈ l) : fC s = true := by
 obtain ⟨i, hi, rfl⟩ := List.getElem_of_mem hs
 exact lK h.chk hi
theorem ZoneOk.small {o : List UInt8} {l : List RSet} (h : ZoneOk o l) {s : RSet} (hs : s ∈ l) : X.fold s.name = s.name ∧ (bF s.name).isSome = true :=
 ⟨rP (h.may hs), (BX (EB (h.right s hs))).1⟩
theorem JL {l : List RSet} {n : List UInt8} {k : Int} {s : RSet} (h : fK l n k = some s) : s ∈ l ∧ s.name = fold n ∧ s.kind = k := by
 have h1 := List.mem_of_find?_eq_some h
 have h2 := List.find?_some h
 simp only [FX, Bool.and_eq_true, decide_eq_true_eq] at h2
 exact ⟨h1, h2⟩
theorem ZoneOk.cut {o : List UInt8} {l : List RSet} (h : ZoneOk o l) {n c : List UInt8} (hc : lJ o l n = (c, true)) : cQ n c = true ∧ c ≠ o ∧ lJ o l c = (c, true) := by
 rw [GJ h.chk, uF] at hc
 rw [GJ h.chk, uF]
 cases hf : l.find? (fF o n) with
 | none => rw [hf] at hc; cases hc
 | some s =>
  rw [hf] at hc
  simp only [Prod.mk.injEq, and_true] at hc
  subst hc
  obtain ⟨h1, la, lb, h2, h3⟩ := List.find?_eq_some_iff_append.1 hf
  have hs : s ∈ l := by rw [h2]; simp
  have h1' := h1
  simp only [fF, Bool.and_eq_true, decide_eq_true_eq] at h1'
  refine ⟨h1'.2, h1'.1.2, ?_⟩
  have : l.find? (fF o s.name) = some s := by
   rw [List.find?_eq_some_iff_append]
   refine ⟨?_, la, lb, h2, fun t ht => ?_⟩
   ·simp only [fF, Bool.and_eq_true, decide_eq_true_eq]
    exact ⟨h1'.1, GK (h.small hs).2⟩
   ·have hn := h3 t ht
    cases hq : fF o s.name t with
    | false => rfl
    | true =>
     simp only [fF, Bool.and_eq_true, decide_eq_true_eq] at hq
     have : fF o n t = true := by
      simp only [fF, Bool.and_eq_true, decide_eq_true_eq]
      exact ⟨hq.1, EA h1'.2 hq.2⟩
     rw [this] at hn
     exact hn
  rw [this]
set_option maxHeartbeats 3000000 in
theorem OG (u v : Value) (a b : List (List UInt8)) (w : World) (hu : Sl 1 w u (aN a)) (hv : Sl 1 w v (aN b)) : Calls Tryz.prog 182 #[u, v] w (bG w (.bool (decide (a = b)))) := by
 have hal := hu.le
 have ha := aR a
 have hb := aR b
 go_enter Tryz.func182, Tryz.ntmps182
 (repeat' first | ((with_reducible refine cY ?_); go_step) | ((with_reducible refine bR ?_); first | refine fM ?_ | (refine dN ?_ ?_ <;> intro hc)) | fail)
 ·have hne := ‹(!decide (((aN a).length : Int) = ((aN b).length : Int))) = true›
  go_ret
  refine ⟨?_, Ext.refl _⟩
  have : a ≠ b := by rintro rfl; simp at hne
  simp [this]
 ·have hne := ‹(!decide (((aN a).length : Int) = ((aN b).length : Int))) = false›
  have hlen : a.length = b.length := by simp at hne; omega
  go_loopw [5, 13] (fun _ i wr => ∃ k : Nat, k ≤ a.length ∧ i = .int .i64 k ∧ Ext w wr ∧ a.take k = b.take k) (fun _ i _ => a.length - (intOf i).toNat)
  case atStart => exact ⟨0, Nat.zero_le _, rfl, Ext.refl _, rfl⟩
  case round =>
   obtain ⟨k, hk, rfl, hx, hall⟩ := hrel
   by_cases hlt : k < a.length
   ·have hlt2 : k < b.length := by omega
    have h1 := (hu.ext hx).elem (eA hlt)
    have h2 := (hv.ext hx).elem (eA hlt2)
    have hu2 := hu.ext hx
    have hv2 := hv.ext hx
    refine_lift oM ?_; intro _ _ _ _ _ _
    refine cC (S := Ext wr) (by decide +kernel) ?_
    intro w2 x2 _
    refine tk 0 ?_; refine aA ?_; refine tk 1 ?_; refine aA ?_; refine tk 2 ?_; refine aA ?_; refine tk 3 ?_; refine aA ?_; refine tk 4 ?_; refine aA ?_; refine tk 5 ?_; refine aA ?_; refine tk 6 ?_; refine aA ?_; refine tk 7 ?_; refine aA ?_; refine tk 8 ?_; refine aA ?_
    refine cB (by decide +kernel) ?_
    by_cases he : a[k] = b[k]
    ·have e1 : decide (a[k] = b[k]) = true := decide_eq_true he
     simp only [e1, Bool.not_true]
     refine_lift aS ?_
     exact ⟨⟨k + 1, by omega, by go_num, by exact dV, gC hall hlt hlt2 he⟩, by simp [intOf]; omega⟩
    ·have e1 : decide (a[k] = b[k]) = false := decide_eq_false he
     simp only [e1, Bool.not_false]
     refine_lift aS ?_
     go_ret
     refine ⟨?_, by exact dV⟩
     simp [rI hlt hlt2 he]
   ·have hk2 : k = a.length := by omega
    subst hk2
    refine_lift fP fun _ => ?_
    go_ret
    refine ⟨?_, by exact dV⟩
    rw [List.take_length, hlen, List.take_length] at hall
    simp [hall]
set_option maxHeartbeats 3000000 in
theorem HW (n t : List UInt8) (w : World) : Calls Tryz.prog 134 #[aI n, aI t] w (bG w (.bool (cQ n t))) := by
 go_enter Tryz.func134, Tryz.ntmps134
 refine_lift bY fun _ _ => ?_
 refine aK (enters_of Tryz.func181 rfl rfl) rfl rfl (RW n _) ?_
 intro r1 w1 x1 h1
 cases ha : dJ n with
 | none =>
  rw [ha] at h1
  obtain ⟨s1, rfl⟩ := h1
  refine_lift bY fun _ _ => ?_
  refine aK (enters_of Tryz.func181 rfl rfl) rfl rfl (RW t _) ?_
  intro r2 w2 x2 h2
  obtain ⟨s2, b2, rfl⟩ : ∃ s b, r2 = .tuple #[s, .bool b] := by
   cases hb : dJ t with
   | none => rw [hb] at h2; obtain ⟨s, rfl⟩ := h2; exact ⟨s, _, rfl⟩
   | some y => rw [hb] at h2; obtain ⟨s, rfl, _⟩ := h2; exact ⟨s, _, rfl⟩
  refine_lift aS ?_
  go_ret
  exact ⟨by simp [cQ, ha], x1.trans x2⟩
 | some a =>
  rw [ha] at h1
  obtain ⟨s1, rfl, hs1, hl1⟩ := h1
  refine_lift bY fun _ _ => ?_
  refine aK (enters_of Tryz.func181 rfl rfl) rfl rfl (RW t _) ?_
  intro r2 w2 x2 h2
  cases hb : dJ t with
  | none =>
   rw [hb] at h2
   obtain ⟨s2, rfl⟩ := h2
   refine_lift aS ?_
   go_ret
   exact ⟨by simp [cQ, ha, hb], x1.trans x2⟩
  | some b =>
   rw [hb] at h2
   obtain ⟨s2, rfl, hs2, hl2⟩ := h2
   have hs1 := hs1.ext x2
   have tl1 := aR a
   have tl2 := aR b
   refine_lift NR (fun hc => ?_) (fun _ _ hc => ?_)
   ·have hle : b.length ≤ a.length := by omega
    have hcut := hs1.cut (m := 0) (n := (aN b).length) (Nat.zero_le _) (by omega)
    rw [List.drop_zero] at hcut
    have hcut : Sl 1 w2 (cK s1 1 0 (aN b).length) (aN (a.take b.length)) := by
     rw [tl2] at hcut ⊢
     simpa [aN, List.map_take] using hcut
    refine aB (enters_of Tryz.func182 rfl rfl) rfl rfl (OG _ _ _ _ _ hcut hs2) ?_; intro w3 x3; refine aA ?_
    refine_lift aS ?_
    go_ret
    exact ⟨by rw [oQ ha hb]; rfl, (x1.trans x2).trans x3⟩
   ·go_ret
    refine ⟨?_, x1.trans x2⟩
    have hlt : a.length < b.length := by omega
    rw [oQ ha hb, decide_eq_false (fun h => by have := tS h; omega)]
    rfl
def mF {α : Type} (p : α → Bool) (l : List α) : Int := match l.findIdx? p with
 | some i => (i : Int)
 | none => -1
theorem AJ {α : Type} (p : α → Bool) (l : List α) : (∃ (k : Nat) (hk : k < l.length), mF p l = k ∧ p l[k] = true ∧ l.find? p = some l[k]) ∨ (mF p l = -1 ∧ l.any p = false ∧ l.find? p = none) := by
 unfold mF
 cases h : l.findIdx? p with
 | none =>
  rw [List.findIdx?_eq_none_iff] at h
  refine .inr ⟨rfl, ?_, ?_⟩
  ·rw [List.any_eq_false]; intro x hx; simp [h x hx]
  ·rw [List.find?_eq_none]; intro x hx; simp [h x hx]
 | some k =>
  rw [List.findIdx?_eq_some_iff_getElem] at h
  obtain ⟨hk, hp, hj⟩ := h
  refine .inl ⟨k, hk, rfl, hp, ?_⟩
  rw [List.find?_eq_some_iff_getElem]
  exact ⟨hp, k, hk, rfl, fun j hjk => by simpa using hj j hjk⟩
theorem sU {α : Type} {p : α → Bool} {l : List α} {k : Nat} (hk : k < l.length) (ha : (l.take k).any p = false) (hp : p l[k] = true) : mF p l = k := by
 have : l.findIdx? p = some k := by
  rw [List.findIdx?_eq_some_iff_getElem]
  refine ⟨hk, hp, fun j hj => ?_⟩
  rw [List.any_eq_false] at ha
  exact ha l[j] (by rw [List.mem_take_iff_getElem]; exact ⟨j, by omega, rfl⟩)
 rw [mF, this]
theorem sV {α : Type} {p : α → Bool} {l : List α} (ha : l.any p = false) : mF p l = -1 := by
 have : l.findIdx? p = none := by
  rw [List.findIdx?_eq_none_iff]
  intro x hx
  rw [List.any_eq_false] at ha
  simpa using ha x hx
 rw [mF, this]
theorem rQ {α : Type} (p : α → Bool) (l : List α) : decide (0 ≤ mF p l) = l.any p := by
 rcases AJ p l with ⟨k, hk, e, hp, _⟩ | ⟨e, h, _⟩
 ·rw [e, BS hk hp]; simp
 ·rw [e, h]; rfl
def SetFn (w : World) (f : FuncId) (caps : Array Value) (l : List RSet) (p : RSet → Bool) : Prop :=
 ∀ s ∈ l, ∀ x w', Ext w w' → Sl 1 w' x (aN s.data) → Calls Tryz.prog f ([Value.agg #[aI s.name, .int .i64 s.kind, .int .i64 s.ttl, x]].toArray ++ caps) w' (bG w' (.bool (p s)))
theorem SetFn.ext {w w1 : World} {f : FuncId} {caps : Array Value} {l : List RSet} {p : RSet → Bool} (h : SetFn w f caps l p) (hx : Ext w w1) : SetFn w1 f caps l p :=
 fun s hs x w' hx' hd => h s hs x w' (hx.trans hx') hd
set_option maxHeartbeats 3000000 in
theorem tT (v : Value) (l : List RSet) (f : FuncId) (caps : Array Value) (p : RSet → Bool) (w : World) (hv : SetsAt w v l) (he : Enters Tryz.prog f) (hf : SetFn w f caps l p) : Calls Tryz.prog 132 #[v, .func (.func f) #[] caps] w (bG w (.int .i64 (mF p l))) := by
 obtain ⟨cv, hv1, hvl⟩ := hv.sl
 have hle := hv1.le
 go_enter Tryz.func132, Tryz.ntmps132
 refine_lift bY fun _ _ => ?_
 go_loopw [5, 8] (fun _ i wr => ∃ k : Nat, k ≤ l.length ∧ i = .int .i64 k ∧ Ext w wr ∧ (l.take k).any p = false) (fun _ i _ => l.length - (intOf i).toNat)
 case atStart => exact ⟨0, Nat.zero_le _, rfl, Ext.refl _, rfl⟩
 case round =>
  obtain ⟨k, hk, rfl, hx, hall⟩ := hrel
  have hv2 := hv1.ext hx
  by_cases hlt : k < l.length
  ·obtain ⟨x, h4, h4d⟩ := (hv.ext hx).elem (List.getElem?_eq_getElem hlt)
   refine_lift oM ?_; intro _ _ _ _ _ _
   refine eK he rfl rfl rfl (hf _ (List.getElem_mem hlt) x _ hx h4d) ?_
   rintro e w2 ⟨rfl, x2⟩
   refine ⟨_, rfl, ?_⟩
   refine aA ?_
   cases hp : p l[k] with
   | true =>
    refine_lift aS ?_
    go_ret
    exact ⟨by rw [sU hlt hall hp]; rfl, hx.trans x2⟩
   | false =>
    refine_lift aS ?_
    exact ⟨⟨k + 1, by omega, by go_num, hx.trans x2, iC hlt hall hp⟩, by simp [intOf]; omega⟩
  ·have : k = l.length := by omega
   subst this
   rw [List.take_length] at hall
   refine_lift fP fun _ => ?_
   go_ret
   exact ⟨by rw [sV hall]; rfl, hx⟩
theorem nQ (v : Value) (l : List RSet) (f : FuncId) (caps : Array Value) (p : RSet → Bool) (w : World) (hv : SetsAt w v l) (he : Enters Tryz.prog f) (hf : SetFn w f caps l p) : Calls Tryz.prog 82 #[v, .func (.func f) #[] caps] w (bG w (.bool (l.any p))) := by
 go_enter Tryz.func82, Tryz.ntmps82
 refine_lift bY fun _ _ => ?_
 refine aB (enters_of Tryz.func132 rfl rfl) rfl rfl (tT v l f caps p _ hv he hf) ?_; intro w1 x1; refine aA ?_
 refine_lift aS ?_
 go_ret
 exact ⟨by rw [← rQ]; rfl, x1⟩
set_option maxHeartbeats 3000000 in
theorem QW (o n : List UInt8) (v pz pn : Value) (s : RSet) (x : Value) (w : World) (hz : Pts w pz [aI o, v]) (hn : Pts w pn [aI n]) : Calls Tryz.prog 183 #[.agg #[aI s.name, .int .i64 s.kind, .int .i64 s.ttl, x], pz, pn] w (bG w (.bool (fF o n s))) := by
 go_enter Tryz.func183, Tryz.ntmps183
 refine_lift hY fun _ _ => ?_
 refine aZ (vs := [aI s.name, .int .i64 s.kind, .int .i64 s.ttl, x]) rfl rfl ?_
 intro p w1 x1 hp
 refine aA ?_
 have hz1 := hz.ext x1
 have hn1 := hn.ext x1
 refine_lift DL (fun hc hc => ?_) (fun hc => ?_) (fun _ _ hc hc => ?_)
 ·have hk := ‹s.kind = 2›
  have hne := ‹(!decide (s.name = o)) = true›
  refine aB (enters_of Tryz.func134 rfl rfl) rfl rfl (HW n s.name _) ?_; intro w2 x2; refine aA ?_
  refine_lift aS ?_
  go_ret
  refine ⟨?_, x1.trans x2⟩
  have hne' : s.name ≠ o := by simpa using hne
  simp [fF, hk, hne']
 all_goals
  go_ret
  refine ⟨?_, x1⟩
  simp_all [fF]
set_option maxHeartbeats 3000000 in
theorem TB (o : List UInt8) (v : Value) (l : List RSet) (n : List UInt8) (w : World) (hv : SetsAt w v l) : Calls Tryz.prog 139 #[.agg #[aI o, v], aI n] w (bG w (.tuple #[aI (uF o l n).1, .bool (uF o l n).2])) := by
 obtain ⟨cv, hv1, hvl⟩ := hv.sl
 go_enter Tryz.func139, Tryz.ntmps139
 refine_lift hY fun _ _ => ?_
 refine aZ (vs := [aI o, v]) rfl rfl ?_
 intro pz w1 x1 hz
 refine aA ?_
 refine_lift PK ?_
 refine aZ (vs := [aI n]) rfl rfl ?_
 intro pn w2 x2 hn
 refine aA ?_
 have hx2 := x1.trans x2
 have hz2 := hz.ext x2
 refine_lift bY fun _ _ => ?_
 have hf : SetFn w2 183 #[pz, pn] l (fF o n) := fun s _ x w' hx' _ => QW o n v pz pn s x w' (hz2.ext hx') (hn.ext hx')
 refine aB (enters_of Tryz.func132 rfl rfl) rfl rfl (tT v l 183 #[pz, pn] (fF o n) _ (hv.ext hx2) (enters_of Tryz.func183 rfl rfl) hf) ?_; intro w3 x3; refine aA ?_
 have hx3 := hx2.trans x3
 have hz3 := hz2.ext x3
 rcases AJ (fF o n) l with ⟨k, hk, e, hp, hfi⟩ | ⟨e, h, hfi⟩
 ·rw [e]
  obtain ⟨x, h4, h4d⟩ := (hv.ext hx3).elem (List.getElem?_eq_getElem hk)
  have hv3 := hv1.ext hx3
  refine_lift fP fun _ => ?_
  go_ret2
  exact ⟨by simp only [uF, hfi]; rfl, hx3⟩
 ·rw [e]
  refine_lift fP fun _ => ?_
  go_ret2
  exact ⟨by simp only [uF, hfi]; rfl, hx3⟩
def Rule (w : World) (f : Value) (b : Bool) : Prop := ∃ (g : FuncId) (caps : Array Value), f = .func (.func g) #[] caps ∧ Enters Tryz.prog g ∧ ∀ w', Ext w w' → Calls Tryz.prog g (([] : List Value).toArray ++ caps) w' (bG w' (.bool b))
theorem LO (o : List UInt8) (v ps pz : Value) (s : RSet) (u : Value) (w : World) (hs : Pts w ps [aI s.name, .int .i64 s.kind, .int .i64 s.ttl, u]) (hz : Pts w pz [aI o, v]) : Calls Tryz.prog 133 #[ps, pz] w (bG w (.bool (cQ s.name o))) := by
 go_enter Tryz.func133, Tryz.ntmps133
 refine_lift bY fun _ _ => ?_
 refine aB (enters_of Tryz.func134 rfl rfl) rfl rfl (HW s.name o _) ?_; intro w1 x1; refine aA ?_
 refine_lift aS ?_
 go_ret
 exact ⟨rfl, x1⟩
def EC (o : List UInt8) (s : RSet) (one : Bool) : Bool := decide (s.kind ≠ 6) || (decide (s.name = o) && one)
set_option maxHeartbeats 3000000 in
theorem LP (o : List UInt8) (v ps pz pb : Value) (s : RSet) (u : Value) (one : Bool) (w : World) (hs : Pts w ps [aI s.name, .int .i64 s.kind, .int .i64 s.ttl, u]) (hz : Pts w pz [aI o, v]) (hb : Pts w pb [.bool one]) : Calls Tryz.prog 135 #[ps, pz, pb] w (bG w (.bool (EC o s one))) := by
 go_enter Tryz.func135, Tryz.ntmps135
 refine_lift KU (fun hc hc => ?_) (fun hc => ?_) (fun hc hc => ?_)
 all_goals
  go_ret
  refine ⟨?_, Ext.refl _⟩
  simp_all [EC]
set_option maxHeartbeats 3000000 in
theorem JM (ps : Value) (s t : RSet) (u x : Value) (w : World) (hs : Pts w ps [aI s.name, .int .i64 s.kind, .int .i64 s.ttl, u]) : Calls Tryz.prog 137 #[.agg #[aI t.name, .int .i64 t.kind, .int .i64 t.ttl, x], ps] w (bG w (.bool (mW s t))) := by
 go_enter Tryz.func137, Tryz.ntmps137
 refine_lift hY fun _ _ => ?_
 refine aZ (vs := [aI t.name, .int .i64 t.kind, .int .i64 t.ttl, x]) rfl rfl ?_
 intro p w1 x1 hp
 refine aA ?_
 have hs1 := hs.ext x1
 refine_lift rF (fun hc => ?_) (fun hc => ?_)
 all_goals
  go_ret
  refine ⟨?_, x1⟩
  simp_all [mW]
def wN (l : List RSet) (s : RSet) (one : Bool) : Bool := decide (s.kind ≠ 5) || (one && !l.any (mW s))
set_option maxHeartbeats 3000000 in
theorem LQ (o : List UInt8) (v ps pz pb : Value) (l : List RSet) (s : RSet) (u : Value) (one : Bool) (w : World) (hs : Pts w ps [aI s.name, .int .i64 s.kind, .int .i64 s.ttl, u]) (hz : Pts w pz [aI o, v]) (hb : Pts w pb [.bool one]) (hv : SetsAt w v l) : Calls Tryz.prog 136 #[ps, pb, pz] w (bG w (.bool (wN l s one))) := by
 have hf : SetFn w 137 #[ps] l (mW s) := fun t _ x w' hx' _ => JM ps s t u x w' (hs.ext hx')
 go_enter Tryz.func136, Tryz.ntmps136
 cases one with
 | false =>
  refine_lift rF (fun hc => ?_) (fun hc => ?_)
  all_goals
   go_ret
   refine ⟨?_, Ext.refl _⟩
   simp_all [wN]
 | true =>
  refine_lift NR (fun hc => ?_) (fun _ _ hc => ?_)
  ·have h5 : s.kind = 5 := by simpa using (by assumption : (!decide (s.kind = 5)) = false)
   refine aB (enters_of Tryz.func82 rfl rfl) rfl rfl (nQ v l 137 #[ps] (mW s) _ hv (enters_of Tryz.func137 rfl rfl) hf) ?_; intro w1 x1; refine aA ?_
   refine_lift aS ?_
   go_ret
   exact ⟨by simp [wN, h5], x1⟩
  all_goals
   go_ret
   refine ⟨?_, Ext.refl _⟩
   simp_all [wN]
def tU (o : List UInt8) (l : List RSet) (s : RSet) : Bool :=
 !(uF o l s.name).2 || decide (s.kind = 1) || decide (s.kind = 28) || (decide (s.kind = 2) && decide (s.name = (uF o l s.name).1))
set_option maxHeartbeats 3000000 in
theorem LR (o : List UInt8) (v ps pz : Value) (l : List RSet) (s : RSet) (u : Value) (w : World) (hs : Pts w ps [aI s.name, .int .i64 s.kind, .int .i64 s.ttl, u]) (hz : Pts w pz [aI o, v]) (hv : SetsAt w v l) : Calls Tryz.prog 138 #[pz, ps] w (bG w (.bool (tU o l s))) := by
 go_enter Tryz.func138, Tryz.ntmps138
 refine_lift bY fun _ _ => ?_
 refine aB (enters_of Tryz.func139 rfl rfl) rfl rfl (TB o v l s.name _ hv) ?_; intro w1 x1; refine aA ?_
 generalize hcut : uF o l s.name = g at *
 obtain ⟨c, is⟩ := g
 have hs1 := hs.ext x1
 cases is with
 | false =>
  refine_lift aS ?_
  go_ret
  exact ⟨by simp [tU, hcut], x1⟩
 | true =>
  refine_lift QJ (fun hc hc hc => ?_) (fun hc hc => ?_) (fun hc => ?_) (fun hc hc hc => ?_)
  all_goals
   go_ret
   refine ⟨?_, x1⟩
   simp_all [tU]
set_option maxHeartbeats 3000000 in
theorem LS (f : Value) (b : Bool) (w : World) (hf : Rule w f b) : Calls Tryz.prog 141 #[f] w (bG w (.bool (!b))) := by
 obtain ⟨g, caps, rfl, he, hc⟩ := hf
 go_enter Tryz.func141, Tryz.ntmps141
 refine_lift bY fun _ _ => ?_
 refine eK he rfl rfl rfl (hc _ (Ext.refl _)) ?_
 rintro e w1 ⟨rfl, x1⟩
 refine ⟨_, rfl, ?_⟩
 refine aA ?_
 refine_lift aS ?_
 go_ret
 exact ⟨rfl, x1⟩
theorem Rule.ext {w w' : World} {f : Value} {b : Bool} (h : Rule w f b) (hx : Ext w w') : Rule w' f b := by
 obtain ⟨g, caps, h1, h2, h3⟩ := h
 exact ⟨g, caps, h1, h2, fun w2 hx2 => h3 w2 (hx.trans hx2)⟩
def qQ (l : List (Value × Bool)) : List (List Value) := l.map fun x => [x.1]
theorem yT (l : List (Value × Bool)) : (qQ l).length = l.length := by simp [qQ]
theorem JN {l : List (Value × Bool)} {k : Nat} (h : k < l.length) : (qQ l)[k]? = some [l[k].1] := by simp [qQ, h]
def JO (x : Value × Bool) : Bool := !x.2
set_option maxHeartbeats 3000000 in
theorem ED (v : Value) (l : List (Value × Bool)) (w : World) (hv : Sl 1 w v (qQ l)) (hf : ∀ x ∈ l, Rule w x.1 x.2) : Calls Tryz.prog 184 #[v, .func (.func 141) #[] #[]] w (bG w (.int .i64 (mF JO l))) := by
 have hle := hv.le
 have hlen := yT l
 go_enter Tryz.func184, Tryz.ntmps184
 refine_lift bY fun _ _ => ?_
 go_loopw [5, 8] (fun _ i wr => ∃ k : Nat, k ≤ l.length ∧ i = .int .i64 k ∧ Ext w wr ∧ (l.take k).any JO = false) (fun _ i _ => l.length - (intOf i).toNat)
 case atStart => exact ⟨0, Nat.zero_le _, rfl, Ext.refl _, rfl⟩
 case round =>
  obtain ⟨k, hk, rfl, hx, hall⟩ := hrel
  have hv2 := hv.ext hx
  by_cases hlt : k < l.length
  ·have hp := hv2.elem (JN hlt)
   refine_lift oM ?_; intro _ _ _ _ _ _
   refine eK (f := 141) (caps := #[]) (enters_of Tryz.func141 rfl rfl) rfl rfl rfl (LS l[k].1 l[k].2 _ ((hf _ (List.getElem_mem hlt)).ext hx)) ?_
   rintro e w2 ⟨rfl, x2⟩
   refine ⟨_, rfl, ?_⟩
   refine aA ?_
   cases hb : l[k].2 with
   | false =>
    refine_lift fP fun _ => ?_
    go_ret
    exact ⟨by rw [sU hlt hall (by simp [JO, hb])]; rfl, hx.trans x2⟩
   | true =>
    refine_lift fP fun _ => ?_
    exact ⟨⟨k + 1, by omega, by go_num, hx.trans x2, iC hlt hall (by simp [JO, hb])⟩, by simp [intOf]; omega⟩
  ·have : k = l.length := by omega
   subst this
   rw [List.take_length] at hall
   refine_lift fP fun _ => ?_
   go_ret
   exact ⟨by rw [sV hall]; rfl, hx⟩
theorem wO (v : Value) (l : List (Value × Bool)) (w : World) (hv : Sl 1 w v (qQ l)) (hf : ∀ x ∈ l, Rule w x.1 x.2) : Calls Tryz.prog 140 #[v, .func (.func 141) #[] #[]] w (bG w (.bool (l.any JO))) := by
 go_enter Tryz.func140, Tryz.ntmps140
 refine_lift bY fun _ _ => ?_
 refine aB (enters_of Tryz.func184 rfl rfl) rfl rfl (ED v l _ hv hf) ?_; intro w1 x1; refine aA ?_
 refine_lift aS ?_
 go_ret
 exact ⟨by rw [← rQ]; rfl, x1⟩
set_option maxHeartbeats 6000000 in
theorem OH (o : List UInt8) (v : Value) (l : List RSet) (s : RSet) (u : Value) (w : World) (hv : SetsAt w v l) (hu : Sl 1 w u (aN s.data)) (hck : dC l = 0) : Calls Tryz.prog 84 #[.agg #[aI o, v], .agg #[aI s.name, .int .i64 s.kind, .int .i64 s.ttl, u]] w (bG w (.bool (dK o l s))) := by
 have hlen := aR s.data
 go_enter Tryz.func84, Tryz.ntmps84
 refine_lift hY fun _ _ => ?_
 refine aZ (vs := [aI o, v]) rfl rfl ?_
 intro pz w1 x1 hz
 refine aA ?_
 refine_lift PK ?_
 refine aZ (vs := [aI s.name, .int .i64 s.kind, .int .i64 s.ttl, u]) rfl rfl ?_
 intro ps w2 x2 hs
 refine aA ?_
 have hz2 := hz.ext x2
 have hx2 := x1.trans x2
 have hu2 := hu.ext hx2
 refine_lift bY fun _ _ => ?_
 refine aG (z := [.bool false]) rfl (by decide +kernel) ?_
 intro w3 x3 s3 h3
 refine aA ?_
 have hone : decide (((aN s.data).length : Int) = 1) = decide (s.data.length = 1) := by rw [hlen, Bool.eq_iff_iff]; simp; omega
 rw [hone]
 refine cI (v := .bool (decide (s.data.length = 1))) rfl rfl rfl h3 (by decide +kernel) rfl ?_
 intro w4 p4
 have x4 : Ext w2 w4 := x3.move p4.mv (by rintro k ⟨⟩; exact Nat.le_refl _)
 have hb4 := aE (cs := [.bool (decide (s.data.length = 1))]) p4.this
 have hz4 := hz2.ext x4
 have hs4 := hs.ext x4
 have hx4 := hx2.trans x4
 have hv4 := hv.ext hx4
 clear p4 h3 x3
 generalize hpb : Value.pointer (some ⟨w2.heap.size, 0, none⟩) = pb at *
 refine_lift bY fun _ _ => ?_
 have r1 : Rule w4 (.func (.func 133) #[] #[ps, pz]) (cQ s.name o) := ⟨133, _, rfl, enters_of Tryz.func133 rfl rfl, fun w' hx' => LO o v ps pz s u w' (hs4.ext hx') (hz4.ext hx')⟩
 have r2 : Rule w4 (.func (.func 135) #[] #[ps, pz, pb]) (EC o s (decide (s.data.length = 1))) := ⟨135, _, rfl, enters_of Tryz.func135 rfl rfl, fun w' hx' => LP o v ps pz pb s u _ w' (hs4.ext hx') (hz4.ext hx') (hb4.ext hx')⟩
 have r3 : Rule w4 (.func (.func 136) #[] #[ps, pb, pz]) (wN l s (decide (s.data.length = 1))) := ⟨136, _, rfl, enters_of Tryz.func136 rfl rfl, fun w' hx' => LQ o v ps pz pb l s u _ w' (hs4.ext hx') (hz4.ext hx') (hb4.ext hx') (hv4.ext hx')⟩
 have r4 : Rule w4 (.func (.func 138) #[] #[pz, ps]) (tU o l s) := ⟨138, _, rfl, enters_of Tryz.func138 rfl rfl, fun w' hx' => LR o v ps pz l s u w' (hs4.ext hx') (hz4.ext hx') (hv4.ext hx')⟩
 refine bZ (e := 30) (k := 1) (bytes := 8) (xs := [.func (.func 133) #[] #[ps, pz], .func (.func 135) #[] #[ps, pz, pb], .func (.func 136) #[] #[ps, pb, pz], .func (.func 138) #[] #[pz, ps]]) rfl rfl rfl (by simp [Value.cells]) (by decide +kernel) (by simp) ?_
 intro v5 w5 x5 _ sl5 _
 refine aA ?_
 have sl5 : Sl 1 w5 v5 (qQ [(.func (.func 133) #[] #[ps, pz], cQ s.name o), (.func (.func 135) #[] #[ps, pz, pb], EC o s (decide (s.data.length = 1))), (.func (.func 136) #[] #[ps, pb, pz], wN l s (decide (s.data.length = 1))), (.func (.func 138) #[] #[pz, ps], tU o l s)]) := sl5
 refine_lift bY fun _ _ => ?_
 refine aB (enters_of Tryz.func140 rfl rfl) rfl rfl (wO v5 _ _ sl5 (by
  intro x hx
  simp only [List.mem_cons, List.not_mem_nil, or_false] at hx
  rcases hx with rfl | rfl | rfl | rfl
  ·exact r1.ext x5
  ·exact r2.ext x5
  ·exact r3.ext x5
  ·exact r4.ext x5)) ?_; intro w6 x6; refine aA ?_
 refine_lift aS ?_
 go_ret
 refine ⟨?_, (hx4.trans x5).trans x6⟩
 congr 2
 have h4 : mV o l s = tU o l s := by rw [mV, tU, GJ hck]
 simp only [dK, h4, List.any_cons, List.any_nil, JO, EC, wN, Bool.or_false]
 cases cQ s.name o <;> cases tU o l s <;> simp <;> by_cases a6 : s.kind = 6 <;> by_cases a5 : s.kind = 5 <;> by_cases an : s.name = o <;> by_cases a1 : s.data.length = 1 <;> cases l.any (mW s) <;> simp_all
def AK : RSet := ⟨[], 0, 0, []⟩
theorem EE {w w' : World} {r : Value} {o : Option RSet} (h : match o with
 | some s => ∃ x, r = .tuple #[.agg #[aI s.name, .int .i64 s.kind, .int .i64 s.ttl, x], .bool true] ∧ Own w.heap.size 1 9 w' x (aN s.data)
 | none => r = .tuple #[.agg gR.toArray, .bool false]) : ∃ x, r = .tuple #[.agg #[aI (o.getD AK).name, .int .i64 (o.getD AK).kind, .int .i64 (o.getD AK).ttl, x], .bool o.isSome] ∧ Sl 1 w' x (aN (o.getD AK).data) := by
 cases o with
 | none => exact ⟨.slice none 0 0, h, Sl.nil _ _⟩
 | some s => obtain ⟨x, h1, h2⟩ := h; exact ⟨x, h1, h2.sl⟩
set_option maxHeartbeats 3000000 in
theorem LT (o : List UInt8) (v pz : Value) (l : List RSet) (s : RSet) (u : Value) (w : World) (hz : Pts w pz [aI o, v]) (hv : SetsAt w v l) (hu : Sl 1 w u (aN s.data)) (hck : dC l = 0) : Calls Tryz.prog 83 #[.agg #[aI s.name, .int .i64 s.kind, .int .i64 s.ttl, u], pz] w (bG w (.bool (!dK o l s))) := by
 go_enter Tryz.func83, Tryz.ntmps83
 refine_lift hY fun _ _ => ?_
 refine aZ (vs := [aI s.name, .int .i64 s.kind, .int .i64 s.ttl, u]) rfl rfl ?_
 intro ps w1 x1 hs
 refine aA ?_
 have hz1 := hz.ext x1
 refine_lift bY fun _ _ => ?_
 refine aB (enters_of Tryz.func84 rfl rfl) rfl rfl (OH o v l s u _ (hv.ext x1) (hu.ext x1) hck) ?_; intro w2 x2; refine aA ?_
 refine_lift aS ?_
 go_ret
 exact ⟨rfl, x1.trans x2⟩
set_option maxHeartbeats 6000000 in
theorem rR (o : List UInt8) (v : Value) (l : List RSet) (w : World) (hv : SetsAt w v l) (hb : ∀ s ∈ l, s.data.length ≤ 1000000) : Calls Tryz.prog 34 #[.agg #[aI o, v]] w (bG w (.int .i64 (aX o l))) := by
 obtain ⟨cv, hv1, hvl⟩ := hv.sl
 have hle := hv1.le
 have hb' : ∀ s ∈ l, s.data.length ≤ 8796093022208 := fun s hs => by have := hb s hs; omega
 go_enter Tryz.func34, Tryz.ntmps34
 refine_lift hY fun _ _ => ?_
 refine aZ (vs := [aI o, v]) rfl rfl ?_
 intro p w1 x1 hp
 refine aA ?_
 refine_lift gV fun _ _ _ _ => ?_
 have c1 : ∀ w', Calls Tryz.prog 57 #[aI o] w' (bG w' (.int .i64 (dT o))) := fun w' => RX o w'
 have hv2 := hv.ext x1
 have c3 : ∀ w', Ext w1 w' → Calls Tryz.prog 81 #[v] w' (bG w' (.int .i64 (dC l))) := fun w' x' => WW v l w' (hv2.ext x')
 refine bB (by decide +kernel) (by decide +kernel) ?_
 refine_lift dX ?_
 refine cA (enters_of Tryz.func57 rfl rfl) rfl rfl (fun w' _ => c1 w') ?_
 refine aA ?_
 refine_lift dX ?_
 by_cases q1 : dT o = 0
 ·rw [decide_eq_true q1]
  simp only [Bool.not_true]
  refine_lift dX ?_
  refine cA (enters_of Tryz.func62 rfl rfl) rfl rfl (fun w' _ => NV o w') ?_
  refine aA ?_
  refine_lift dX ?_
  by_cases q2 : fold o = o
  ·rw [decide_eq_true q2]
   simp only [Bool.not_true]
   refine_lift dX ?_
   refine cA (enters_of Tryz.func81 rfl rfl) rfl rfl (fun w' x' => c3 w' x') ?_
   refine aA ?_
   refine_lift dX ?_
   intro w2 x2
   by_cases q3 : dC l = 0
   ·rw [decide_eq_true q3]
    simp only [Bool.not_true]
    have hx2 := x1.trans x2
    have hp2 := hp.ext x2
    have hs2 := hv.ext hx2
    refine_lift bY fun _ _ => ?_
    refine aK (enters_of Tryz.func79 rfl rfl) rfl rfl (UO v l o 6 _ hs2 hb') ?_
    intro r3 w3 x3 hr3
    obtain ⟨y3, rfl, hy3⟩ := EE hr3
    clear hr3
    refine_lift aS ?_
    refine aG (z := gR) rfl (by decide +kernel) ?_
    intro w4 x4 s4 h4
    refine aA ?_
    refine aC rfl rfl rfl h4 (show aO Tryz.prog 119 4 = true by decide +kernel) rfl (iM rfl rfl rfl (hy3.one)) ?_
    intro w5 p5
    have x5 : Ext w3 w5 := x4.move p5.mv (by rintro k ⟨⟩; exact Nat.le_refl _)
    have hx5 := hx2.trans (x3.trans x5)
    have hp5 := hp.ext (x2.trans (x3.trans x5))
    have hs5 := hv.ext hx5
    clear p5 h4 x4
    refine_lift bY fun _ _ => ?_
    refine aK (enters_of Tryz.func79 rfl rfl) rfl rfl (UO v l o 2 _ hs5 hb') ?_
    intro r6 w6 x6 hr6
    obtain ⟨y6, rfl, hy6⟩ := EE hr6
    clear hr6
    refine_lift aS ?_
    refine aG (z := gR) rfl (by decide +kernel) ?_
    intro w7 x7 s7 h7
    refine aA ?_
    refine aC rfl rfl rfl h7 (show aO Tryz.prog 119 4 = true by decide +kernel) rfl (iM rfl rfl rfl (hy6.one)) ?_
    intro w8 p8
    have x8 : Ext w6 w8 := x7.move p8.mv (by rintro k ⟨⟩; exact Nat.le_refl _)
    have hx8 := hx5.trans (x6.trans x8)
    have hp8 := hp5.ext (x6.trans x8)
    have hs8 := hv.ext hx8
    clear p8 h7 x7
    cases f6 : (fK l o 6).isSome with
    | false =>
     refine_lift aS ?_
     go_ret
     exact ⟨by rw [show aX o l = 2 by simp [aX, q1, q2, q3, f6]]; rfl, hx8⟩
    | true =>
     cases f2 : (fK l o 2).isSome with
     | false =>
      refine_lift aS ?_
      go_ret
      exact ⟨by rw [show aX o l = 2 by simp [aX, q1, q2, q3, f6, f2]]; rfl, hx8⟩
     | true =>
      refine_lift gV fun _ _ _ _ => ?_
      have hf : SetFn w8 83 #[p] l (fun s => !dK o l s) := fun s _ x w' hx' hd' => LT o v p l s x w' (hp8.ext hx') (hs8.ext hx') hd' q3
      refine aB (enters_of Tryz.func82 rfl rfl) rfl rfl (nQ v l 83 #[p] (fun s => !dK o l s) _ hs8 (enters_of Tryz.func83 rfl rfl) hf) ?_; intro w9 x9; refine aA ?_
      cases ha : l.any (fun s => !dK o l s) with
      | true =>
       refine_lift aS ?_
       go_ret
       exact ⟨by rw [show aX o l = 2 by simp only [aX, q1, q2, q3, f6, f2, ha]; simp]; rfl, hx8.trans x9⟩
      | false =>
       refine_lift aS ?_
       go_ret
       exact ⟨by rw [show aX o l = 0 by simp only [aX, q1, q2, q3, f6, f2, ha]; simp]; rfl, hx8.trans x9⟩
   ·rw [decide_eq_false q3]
    simp only [Bool.not_false]
    refine_lift aS ?_
    go_ret
    exact ⟨by rw [show aX o l = 1 by simp [aX, q3]]; rfl, x1.trans x2⟩
  ·rw [decide_eq_false q2]
   simp only [Bool.not_false]
   refine_lift dX ?_
   intro w2 x2
   refine_lift aS ?_
   go_ret
   exact ⟨by rw [show aX o l = 1 by simp [aX, q2]]; rfl, x1.trans x2⟩
 ·rw [decide_eq_false q1]
  simp only [Bool.not_false]
  refine_lift dX ?_
  intro w2 x2
  refine_lift aS ?_
  go_ret
  exact ⟨by rw [show aX o l = 1 by simp [aX, q1]]; rfl, x1.trans x2⟩
end Go.Proofs.X
