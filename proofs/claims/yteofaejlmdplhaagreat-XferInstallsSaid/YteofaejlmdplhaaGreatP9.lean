/- Laws and walks that the proof of the statement is made of (part 9). -/
import Derived.Test.YteofaejlmdplhaaGreatP8
set_option linter.unusedSimpArgs false
set_option linter.unusedVariables false
namespace Go.Proofs.X
open Go.RowKit
set_option maxRecDepth 100000
theorem JU {s : RSet} (h : fE s = true) {i : Nat} (hi : i < s.data.length) : aX ⟨s.name, s.kind, s.ttl, s.data[i]⟩ = 0 := by
 simp only [fE, Bool.and_eq_true, List.all_eq_true] at h
 have := h.2 i (by simpa using hi)
 simp only [jS, Bool.not_eq_true', Bool.or_eq_false_iff, decide_eq_false_iff_not, ne_eq, Decidable.not_not] at this
 have e : s.data.getD i [] = s.data[i] := by simp [hi]
 rw [e] at this
 exact this.1
theorem sM {r : Rec} (h : aX r = 0) : r.data.length ≤ 4000 ∧ fits r.kind r.data = true := by
 unfold aX at h
 split at h
 ·omega
 ·split at h
  ·omega
  ·rename_i h2
   simp only [not_or, Bool.not_eq_false] at h2
   exact ⟨by omega, h2.2.2.2.2.2⟩
def zR : SoaR := ⟨[], [], 0, 0, 0, 0, 0⟩
theorem CO : zR.cells = aU := rfl
def gZ (o : List UInt8) (l : List RSet) : List UInt8 := ((fB l o 6).getD yX).data.getD 0 []
def aS (o : List UInt8) (l : List RSet) : SoaR := if aW o l = 0 then cJ (gZ o l) else zR
theorem EP {d : List UInt8} (h : (cB d).isSome = true) : cB d = some (cJ d) := by
 unfold cB at *
 simp only at *
 split at h
 ·rename_i h1; rw [if_pos h1]
 ·cases h
theorem ZoneOk.soaSet {o : List UInt8} {l : List RSet} (h : ZoneOk o l) : ∃ s, fB l o 6 = some s ∧ s ∈ l ∧ s.name = o ∧ s.kind = 6 ∧ s.data = [gZ o l] ∧ cB (gZ o l) = some (cJ (gZ o l)) ∧ (gZ o l).length ≤ 4000 := by
 obtain ⟨s, hs⟩ := Option.isSome_iff_exists.1 h.soa
 obtain ⟨h1, h2, h3⟩ := HJ hs
 have hr := h.right s h1
 have hm := h.may h1
 have hl : s.data.length = 1 := by
  simp only [dC, Bool.and_eq_true, Bool.not_eq_true', h3] at hr
  have := hr.1.1.2
  simp only [decide_true, Bool.true_and, Bool.or_eq_false_iff, decide_eq_false_iff_not, ne_eq, Decidable.not_not] at this
  exact this.2
 have hd : s.data = [gZ o l] := by
  have e : gZ o l = s.data.getD 0 [] := by rw [gZ, hs]; rfl
  rw [e]
  match s.data, hl with
  | [d], _ => rfl
 have hc := JU hm (i := 0) (by omega)
 obtain ⟨c1, c2⟩ := sM hc
 have e0 : s.data[0]'(by omega) = gZ o l := by simp [hd]
 simp only [e0, h3] at c1 c2
 refine ⟨s, hs, h1, by rw [h2, h.fold], h3, hd, EP ?_, c1⟩
 simpa [fits] using c2
theorem dG (s : SoaR) : (Value.agg s.cells.toArray).cells.all (·.oneCell') = true := by
 simp [SoaR.cells, Value.cells, Value.oneCell', aH]
set_option maxHeartbeats 3000000 in
theorem qO (o : List UInt8) (v : Value) (l : List RSet) (w : World) (hv : SetsAt w v l) (hb : ∀ s ∈ l, s.data.length ≤ 1000000) (hd : ∀ s ∈ l, ∀ d ∈ s.data, d.length ≤ 4611686018427387904) : Calls Tryz.prog 31 #[.agg #[aH o, v]] w (bE w (.tuple #[.agg (aS o l).cells.toArray, .int .i64 (aW o l)])) := by
 go_enter Tryz.func31, Tryz.ntmps31
 refine_lift hY fun _ _ => ?_
 refine aZ (vs := [aH o, v]) rfl rfl ?_
 intro p w1 x1 hp
 refine aA ?_
 refine aG (z := aU) rfl (by decide +kernel) ?_
 intro w2 x2 s2 h2
 refine aA ?_
 have hx2 := x1.trans x2
 have hp2 := hp.ext x2
 have hv2 := hv.ext hx2
 refine_lift gO fun _ _ _ _ => ?_
 refine aB (enters_of Tryz.func34 rfl rfl) rfl rfl (tG o v l _ hv2 hb) ?_; intro w3 x3; refine aA ?_
 have hx3 := hx2.trans x3
 have hp3 := hp2.ext x3
 have hv3 := hv2.ext x3
 have h3 := x3.at h2
 refine_lift wT (fun _ _ _ => ?_) (fun _ _ _ => ?_)
 ·have q : ¬ aW o l = 0 := by simpa using (by assumption : (!decide (aW o l = 0)) = true)
  refine aQ (v := .agg aU.toArray) rfl (Runs.build0 (by kernel_rfl)) ?_
  refine aA ?_
  refine_lift aR ?_
  refine aC (v := .agg aU.toArray) rfl rfl rfl h3 (by decide +kernel) rfl (by decide +kernel) ?_
  intro w4 p4
  have x4 : Ext w w4 := hx3.move p4.mv (by rintro k ⟨⟩; exact x1.size)
  refine_lift aR ?_
  refine bodyPost_ret (aF (cs := aU) rfl rfl p4.this (by decide +kernel)) rfl ⟨?_, x4⟩
  rw [show aS o l = zR by rw [aS, if_neg q], CO]
  rfl
 ·have q : aW o l = 0 := by simpa using (by assumption : (!decide (aW o l = 0)) = false)
  obtain ⟨s, hf, hs, hn, hk, hdat, hpar, hlen⟩ := (gF q).soaSet
  have hZ : aS o l = cJ (gZ o l) := by rw [aS, if_pos q]
  have hP : ∀ w', Calls Tryz.prog 80 #[aH (gZ o l)] w' (bE w' (.tuple #[.agg (cJ (gZ o l)).cells.toArray, .int .i64 0])) := fun w' => by
   have := SC (gZ o l) w' (by omega)
   rw [hpar] at this
   exact this
  clear hpar
  generalize gZ o l = dd at *
  generalize hgen : cJ dd = ss at *
  refine aL (enters_of Tryz.func79 rfl rfl) rfl rfl (SE v l o 6 _ hv3 (fun s hs => by have := hb s hs; omega)) ?_
  intro r4 w4 x4 hr4
  rw [hf] at hr4
  obtain ⟨y, rfl, oy⟩ := hr4
  have hx4 := hx3.trans x4
  refine_lift aR ?_
  refine aG (z := gK) rfl (by decide +kernel) ?_
  intro w5 x5 s5 h5
  refine aA ?_
  refine aC (v := .agg #[aH s.name, .int .i64 s.kind, .int .i64 s.ttl, y]) rfl rfl rfl h5 (show aO Tryz.prog 119 4 = true by decide +kernel) rfl (iE rfl rfl rfl oy.one) ?_
  intro w6 p6
  have x6 : Ext w4 w6 := x5.move p6.mv (by rintro k ⟨⟩; exact Nat.le_refl _)
  have hp6 := aE (cs := [aH s.name, .int .i64 s.kind, .int .i64 s.ttl, y]) p6.this
  have hy6 := oy.sl.ext x6
  rw [hdat] at hy6
  have hx6 := hx4.trans x6
  have h6 := (x4.trans x6).at h3
  have hy0 := hy6.elem (i := 0) (e := [aH dd]) rfl
  clear p6 h5 x5
  have hl1 : (aM [dd]).length = 1 := rfl
  refine_lift bX fun _ _ => ?_
  refine aB (enters_of Tryz.func80 rfl rfl) rfl rfl (hP _) ?_; intro w7 x7; refine aA ?_
  have h7 := x7.at h6
  refine_lift aR ?_
  refine aC (v := .agg ss.cells.toArray) rfl rfl rfl h7 (show aO Tryz.prog 67 7 = true by decide +kernel) rfl (dG _) ?_
  intro w8 p8
  have x8 : Ext w w8 := (hx6.trans x7).move p8.mv (by rintro k ⟨⟩; exact x1.size)
  refine_lift aR ?_
  refine bodyPost_ret (aF (cs := ss.cells) rfl rfl p8.this (show dQ Tryz.prog 67 7 = true by decide +kernel)) rfl ⟨?_, x8⟩
  rw [hZ, q]
  rfl
set_option maxHeartbeats 3000000 in
theorem rL (o : List UInt8) (v : Value) (l : List RSet) (w : World) (hv : SetsAt w v l) (hb : ∀ s ∈ l, s.data.length ≤ 1000000) (hd : ∀ s ∈ l, ∀ d ∈ s.data, d.length ≤ 4611686018427387904) : Calls Tryz.prog 47 #[.agg #[aH o, v]] w (bE w (.tuple #[.agg (aS o l).cells.toArray, .int .i64 (aW o l)])) := by
 go_enter Tryz.func47, Tryz.ntmps47
 refine_lift hY fun _ _ => ?_
 refine aZ (vs := [aH o, v]) rfl rfl ?_
 intro p w1 x1 hp
 refine aA ?_
 refine aG (z := aU) rfl (by decide +kernel) ?_
 intro w2 x2 s2 h2
 refine aA ?_
 have hx2 := x1.trans x2
 have hp2 := hp.ext x2
 have hv2 := hv.ext hx2
 refine_lift bX fun _ _ => ?_
 refine aB (enters_of Tryz.func41 rfl rfl) rfl rfl (CF o v l _ hv2 hb hd) ?_; intro w3 x3; refine aA ?_
 have hx3 := hx2.trans x3
 have hp3 := hp2.ext x3
 have hv3 := hv2.ext x3
 have h3 := x3.at h2
 refine_lift qE (fun _ _ _ => ?_) (fun _ _ _ _ _ => ?_)
 ·have q : ¬ aW o l = 0 := by simpa using (by assumption : (!decide (aW o l = 0)) = true)
  refine aQ (v := .agg aU.toArray) rfl (Runs.build0 (by kernel_rfl)) ?_
  refine aA ?_
  refine_lift aR ?_
  refine aC (v := .agg aU.toArray) rfl rfl rfl h3 (by decide +kernel) rfl (by decide +kernel) ?_
  intro w4 p4
  have x4 : Ext w w4 := hx3.move p4.mv (by rintro k ⟨⟩; exact x1.size)
  refine_lift aR ?_
  refine bodyPost_ret (aF (cs := aU) rfl rfl p4.this (by decide +kernel)) rfl ⟨?_, x4⟩
  rw [show aS o l = zR by rw [aS, if_neg q], CO]
  rfl
 ·have q : aW o l = 0 := by simpa using (by assumption : (!decide (aW o l = 0)) = false)
  obtain ⟨s, hf, hs, hn, hk, hdat, hpar, hlen⟩ := (gF q).soaSet
  have hZ : aS o l = cJ (gZ o l) := by rw [aS, if_pos q]
  have hP : ∀ w', Calls Tryz.prog 98 #[aH (gZ o l)] w' (bE w' (.tuple #[.agg (cJ (gZ o l)).cells.toArray, .int .i64 0])) := fun w' => by
   have := mV (gZ o l) w' (by omega)
   rw [hpar] at this
   exact this
  clear hpar
  generalize gZ o l = dd at *
  generalize hgen : cJ dd = ss at *
  refine aL (enters_of Tryz.func95 rfl rfl) rfl rfl (FQ v l o 6 _ hv3 hb) ?_
  intro r4 w4 x4 hr4
  rw [hf] at hr4
  obtain ⟨y, rfl, oy⟩ := hr4
  have hx4 := hx3.trans x4
  refine_lift aR ?_
  refine aG (z := gK) rfl (by decide +kernel) ?_
  intro w5 x5 s5 h5
  refine aA ?_
  refine aC (v := .agg #[aH s.name, .int .i64 s.kind, .int .i64 s.ttl, y]) rfl rfl rfl h5 (show aO Tryz.prog 119 4 = true by decide +kernel) rfl (iE rfl rfl rfl oy.one) ?_
  intro w6 p6
  have x6 : Ext w4 w6 := x5.move p6.mv (by rintro k ⟨⟩; exact Nat.le_refl _)
  have hp6 := aE (cs := [aH s.name, .int .i64 s.kind, .int .i64 s.ttl, y]) p6.this
  have hy6 := oy.sl.ext x6
  rw [hdat] at hy6
  have hx6 := hx4.trans x6
  have h6 := (x4.trans x6).at h3
  have hy0 := hy6.elem (i := 0) (e := [aH dd]) rfl
  clear p6 h5 x5
  have hl1 : (aM [dd]).length = 1 := rfl
  refine_lift bX fun _ _ => ?_
  refine aB (enters_of Tryz.func98 rfl rfl) rfl rfl (hP _) ?_; intro w7 x7; refine aA ?_
  have h7 := x7.at h6
  refine_lift aR ?_
  refine aC (v := .agg ss.cells.toArray) rfl rfl rfl h7 (show aO Tryz.prog 67 7 = true by decide +kernel) rfl (dG _) ?_
  intro w8 p8
  have x8 : Ext w w8 := (hx6.trans x7).move p8.mv (by rintro k ⟨⟩; exact x1.size)
  refine_lift aR ?_
  refine bodyPost_ret (aF (cs := ss.cells) rfl rfl p8.this (show dQ Tryz.prog 67 7 = true by decide +kernel)) rfl ⟨?_, x8⟩
  rw [hZ, q]
  rfl
def dY (s : List UInt8) : List (List UInt8) → List (List UInt8)
 | [] => [s]
 | x :: l => if Op.bytesLess x s = true then x :: dY s l else if x = s then x :: l else s :: x :: l
theorem uV {s : List UInt8} : ∀ {l : List (List UInt8)} {k : Nat}, (∀ x ∈ l.take k, Op.bytesLess x s = true) → dY s l = l.take k ++ dY s (l.drop k)
 | l, 0, _ => by simp
 | [], k + 1, _ => by simp
 | x :: l, k + 1, h => by
   have h1 := h x (by simp)
   simp only [List.take_succ_cons, List.drop_succ_cons, List.cons_append]
   rw [dY, if_pos h1, uV (k := k) (fun y hy => h y (by simp [hy]))]
theorem rM (s : List UInt8) : ∀ l : List (List UInt8), (dY s l).length ≤ l.length + 1
 | [] => by simp [dY]
 | x :: l => by
   rw [dY]
   split
   ·have := rM s l; simp; omega
   ·split <;> simp
theorem uW (l : List (List UInt8)) : ∀ f ∈ aM l, ∀ u ∈ f, u.oneCell' = true := by
 intro f hf u hu
 obtain ⟨x, _, rfl⟩ := List.mem_map.1 hf
 simp only [List.mem_singleton] at hu
 subst hu; rfl
set_option maxHeartbeats 6000000 in
theorem MD (v : Value) (l : List (List UInt8)) (s : List UInt8) (w : World) (hv : Sl 1 w v (aM l)) (hl : l.length ≤ 100000) : Calls Tryz.prog 199 #[v, aH s] w (jI w fun r w' => (r = v ∧ dY s l = l) ∨ Own w.heap.size 1 9 w' r (aM (dY s l))) := by
 have hlen := aP l
 go_enter Tryz.func199, Tryz.ntmps199
 refine_lift jY ?_; intro _ _ _
 go_loopw [5, 6] (fun o i wr => ∃ k : Nat, k ≤ l.length ∧ i = .int .i64 k ∧ Ext w wr ∧ Own w.heap.size 1 9 wr o (aM (l.take k)) ∧ ∀ x ∈ l.take k, Op.bytesLess x s = true) (fun _ i _ => l.length - (intOf i).toNat)
 case atStart => exact ⟨0, Nat.zero_le _, rfl, Ext.refl _, Own.nil _ _ _ _, by simp⟩
 case round =>
  obtain ⟨k, hk, rfl, hx, ho, hall⟩ := hrel
  have hv1 := hv.ext hx
  have htx := uV hall
  by_cases hlt : k < l.length
  ·have hp := hv1.elem (dS hlt)
   have hd : l.drop k = l[k] :: l.drop (k + 1) := List.drop_eq_getElem_cons hlt
   rw [hd, dY] at htx
   (repeat' first | ((with_reducible refine cW ?_); go_step) | ((with_reducible refine bQ ?_); first | refine fD ?_ | (refine dH ?_ ?_ <;> intro hc)) | fail)
   all_goals try (exfalso; omega)
   ·have hb := ‹Op.bytesLess l[k] s = true›
    refine DY [aH l[k]] hx ho (by rw [aP]; simp; omega) ?_
    intro s2 v2 w1 w2 _ _ x2 o2
    refine aA ?_
    refine_lift aR ?_
    refine ⟨⟨k + 1, by omega, by go_num, x2, ?_, ?_⟩, by simp [intOf]; omega⟩
    ·rw [show aM (l.take (k + 1)) = aM (l.take k) ++ [[aH l[k]]] by rw [aM, aM, eM hlt]]
     exact o2
    ·intro x hm
     rw [List.take_add_one, List.getElem?_eq_getElem hlt] at hm
     simp only [Option.toList_some, List.mem_append, List.mem_singleton] at hm
     rcases hm with hm | rfl
     ·exact hall x hm
     ·exact hb
   ·have hb := ‹Op.bytesLess l[k] s = false›
    have he := ‹l[k] = s›
    rw [hb, if_neg (by simp), if_pos he, ← hd, List.take_append_drop] at htx
    go_ret
    exact ⟨_, rfl, hx, .inl ⟨rfl, htx⟩⟩
   ·have hb := ‹Op.bytesLess l[k] s = false›
    have he := ‹¬l[k] = s›
    rw [hb, if_neg (by simp), if_neg he, ← hd] at htx
    refine DY [aH s] hx ho (by rw [aP]; simp; omega) ?_
    intro s2 v2 w1 w2 xa _ x2 o2
    refine aA ?_
    have hv3 := (hv.ext x2)
    refine_lift bX fun _ _ => ?_
    have hcut := hv3.cut (m := k) (n := (aM l).length) (by omega) (Nat.le_refl _)
    have e : (((aM l).take (aM l).length).drop k) = aM (l.drop k) := by rw [List.take_length]; simp [aM]
    rw [e] at hcut
    refine cK (B := w.heap.size) rfl o2 rfl hcut (uW _) x2.size (by simp only [List.length_append, aP, List.length_take, List.length_drop, List.length_cons, List.length_nil]; omega) ?_
    intro v3 w3 o3 m3 _
    refine aA ?_
    have x3 := o2.mvx m3 x2 (Nat.le_refl _)
    refine_lift aR ?_
    go_ret
    refine ⟨_, rfl, x3, .inr ?_⟩
    rw [htx]
    simpa [aM] using o3
  ·have : k = l.length := by omega
   subst this
   rw [List.drop_length, List.take_length, dY] at htx
   rw [List.take_length] at ho
   (repeat' first | ((with_reducible refine cW ?_); go_step) | ((with_reducible refine bQ ?_); first | refine fD ?_ | (refine dH ?_ ?_ <;> intro hc)) | fail)
   all_goals try (exfalso; omega)
   refine DY [aH s] hx ho (by rw [aP]; omega) ?_
   intro s2 v2 w1 w2 xa _ x2 o2
   refine aA ?_
   have hv3 := (hv.ext x2)
   refine_lift bX fun _ _ => ?_
   have hcut := hv3.cut (m := l.length) (n := (aM l).length) (by omega) (Nat.le_refl _)
   have e : (((aM l).take (aM l).length).drop l.length) = aM [] := by rw [List.take_length]; simp [aM]
   rw [e] at hcut
   refine cK (B := w.heap.size) rfl o2 rfl hcut (uW _) x2.size (by simp only [List.length_append, aP, List.length_take, List.length_drop, List.length_cons, List.length_nil]; omega) ?_
   intro v3 w3 o3 m3 _
   refine aA ?_
   have x3 := o2.mvx m3 x2 (Nat.le_refl _)
   refine_lift aR ?_
   go_ret
   refine ⟨_, rfl, x3, .inr ?_⟩
   rw [htx]
   simpa [aM] using o3
def bU (r : Rec) : RSet := ⟨fold r.name, r.kind, r.ttl, [r.data]⟩
def fN (r : Rec) : List RSet → List RSet
 | [] => [bU r]
 | g :: gs => if fF g (bU r) = true then g :: fN r gs else if fF (bU r) g = true then bU r :: g :: gs else ⟨fold r.name, r.kind, min r.ttl g.ttl, dY r.data g.data⟩ :: gs
theorem yY {r : Rec} : ∀ {l : List RSet} {k : Nat}, (∀ g ∈ l.take k, fF g (bU r) = true) → fN r l = l.take k ++ fN r (l.drop k)
 | l, 0, _ => by simp
 | [], k + 1, _ => by simp
 | x :: l, k + 1, h => by
   have h1 := h x (by simp)
   simp only [List.take_succ_cons, List.drop_succ_cons, List.cons_append]
   rw [fN, if_pos h1, yY (k := k) (fun y hy => h y (by simp [hy]))]
set_option maxHeartbeats 6000000 in
theorem OR {B : Nat} (v : Value) (l : List RSet) (r : Rec) (w : World) (hv : SetsO B w v l) (hB : B ≤ w.heap.size) (hl : l.length ≤ 100000) (hd : ∀ s ∈ l, s.data.length ≤ 100000) :
 Calls Tryz.prog 172 #[v, .agg #[aH r.name, .int .i64 r.kind, .int .i64 r.ttl, aH r.data]] w (jI w fun u w' => SetsO B w' u (fN r l)) := by
 obtain ⟨css, hv1, hvf, hcs, hcf⟩ := hv
 have hcl := hcs.len
 go_enter Tryz.func172, Tryz.ntmps172
 refine_lift tC ?_; intro _ _ _
 refine aZ (vs := Rec.cells r) rfl rfl ?_
 intro p w1 x1 hp
 refine aA ?_
 have hp : Pts w1 p [aH r.name, .int .i64 r.kind, .int .i64 r.ttl, aH r.data] := hp
 refine_lift bX fun _ _ => ?_
 refine cL (S := fun w' => Ext w1 w') (by decide +kernel) ?_
 intro w2 x2 hh2
 refine tk 0 ?_; refine aA ?_; refine tk 1 ?_; refine aA ?_; refine tk 3 ?_; refine aA ?_; refine tk 4 ?_; refine aA ?_; refine tk 5 ?_; refine aA ?_; refine tk 6 ?_; refine aA ?_; refine tk 7 ?_; refine aA ?_; refine tk 8 ?_; refine aA ?_
 apply QM (F := fun (vS : Value) (b : Nat) w' => Ext w1 w' ∧ w1.heap.size ≤ b ∧ w'.heap[b]? = some (.cells gK.toArray 119 (0, 0)) ∧ Own w1.heap.size 1 9 w' vS ([aH r.data].map (·.cells.toList)))
 ·intro hG
  have hx0 := x2
  have hx : Ext w2 w2 := Ext.refl _
  have hz12 := x2.size
  refine GW (i := 2) (j := 9) (k := 11) (by decide +kernel) rfl rfl rfl rfl ?_ ?_ ?_
  ·refine aB (enters_of Tryz.func67 rfl rfl) rfl rfl (gE r.name _) ?_
   intro w_1 x_1
   have hx := hx.trans x_1
   refine aA ?_
   refine aI ⟨hx0.trans hx, ?_⟩
   refine fS (i := 9) (j := 11) (by decide +kernel) rfl rfl rfl ?_ ?_
   ·refine bY (e := 9) (k := 1) (bytes := 16) (xs := [aH r.data]) rfl rfl rfl (by simp [aH, Value.cells]) (by decide +kernel) (by simp) ?_
    intro vS w_4 x_4 _ _ hs
    have hs := hs.weaken (Nat.le_trans hz12 (by have := hx.size; omega))
    have hx := hx.trans x_4
    refine aA ?_
    refine aI ⟨hx0.trans hx, ?_⟩
    refine bO (i := 10) (v := .agg #[aH (fold r.name), .int .i64 r.kind, .int .i64 r.ttl, vS]) rfl rfl (by decide +kernel) (by decide +kernel) (by decide +kernel) rfl (hx0.trans hx) (fun w' _ => Runs.build rfl (by obtain ⟨_, _, _, rfl⟩ := hs.sl.slf; kernel_rfl)) (fun _ _ _ h => h) ?_; refine aA ?_
    refine aT (i := 11) (by decide +kernel) rfl rfl ?_
    refine aG (z := gK) rfl (by decide +kernel) ?_
    intro w_6 x_6 s_6 ha
    have hb := hx.size
    have hx := hx.trans x_6
    have hs := hs.ext x_6
    generalize hbE : w_4.heap.size = b at *
    refine aA ?_
    refine aI ⟨hx0.trans hx, ?_⟩
    exact hG vS b _ ⟨hx0.trans hx, by omega, ha, hs⟩
   ·refine aG (z := gK) rfl (by decide +kernel) ?_
    intro w_5 x_5 s_5 ha
    have hb := hx.size
    have hx := hx.trans x_5
    generalize hbE : w_1.heap.size = b at *
    refine aA ?_
    refine aI ⟨hx0.trans hx, ?_⟩
    refine aT (i := 9) (by decide +kernel) rfl rfl ?_
    refine bY (e := 9) (k := 1) (bytes := 16) (xs := [aH r.data]) rfl rfl rfl (by simp [aH, Value.cells]) (by decide +kernel) (by simp) ?_
    intro vS w_7 x_7 _ _ hs
    have hs := hs.weaken (Nat.le_trans hz12 (by have := hx.size; omega))
    have hx := hx.trans x_7
    have ha := x_7.at ha
    refine aA ?_
    refine aI ⟨hx0.trans hx, ?_⟩
    refine bO (i := 10) (v := .agg #[aH (fold r.name), .int .i64 r.kind, .int .i64 r.ttl, vS]) rfl rfl (by decide +kernel) (by decide +kernel) (by decide +kernel) rfl (hx0.trans hx) (fun w' _ => Runs.build rfl (by obtain ⟨_, _, _, rfl⟩ := hs.sl.slf; kernel_rfl)) (fun _ _ _ h => h) ?_; refine aA ?_
    exact hG vS b _ ⟨hx0.trans hx, by omega, ha, hs⟩
  ·refine bY (e := 9) (k := 1) (bytes := 16) (xs := [aH r.data]) rfl rfl rfl (by simp [aH, Value.cells]) (by decide +kernel) (by simp) ?_
   intro vS w_2 x_2 _ _ hs
   have hs := hs.weaken (Nat.le_trans hz12 (by have := hx.size; omega))
   have hx := hx.trans x_2
   refine aA ?_
   refine aI ⟨hx0.trans hx, ?_⟩
   refine fS (i := 2) (j := 11) (by decide +kernel) rfl rfl rfl ?_ ?_
   ·refine aB (enters_of Tryz.func67 rfl rfl) rfl rfl (gE r.name _) ?_
    intro w_8 x_8
    have hx := hx.trans x_8
    have hs := hs.ext x_8
    refine aA ?_
    refine aI ⟨hx0.trans hx, ?_⟩
    refine bO (i := 10) (v := .agg #[aH (fold r.name), .int .i64 r.kind, .int .i64 r.ttl, vS]) rfl rfl (by decide +kernel) (by decide +kernel) (by decide +kernel) rfl (hx0.trans hx) (fun w' _ => Runs.build rfl (by obtain ⟨_, _, _, rfl⟩ := hs.sl.slf; kernel_rfl)) (fun _ _ _ h => h) ?_; refine aA ?_
    refine aT (i := 11) (by decide +kernel) rfl rfl ?_
    refine aG (z := gK) rfl (by decide +kernel) ?_
    intro w_10 x_10 s_10 ha
    have hb := hx.size
    have hx := hx.trans x_10
    have hs := hs.ext x_10
    generalize hbE : w_8.heap.size = b at *
    refine aA ?_
    refine aI ⟨hx0.trans hx, ?_⟩
    exact hG vS b _ ⟨hx0.trans hx, by omega, ha, hs⟩
   ·refine aG (z := gK) rfl (by decide +kernel) ?_
    intro w_9 x_9 s_9 ha
    have hb := hx.size
    have hx := hx.trans x_9
    have hs := hs.ext x_9
    generalize hbE : w_2.heap.size = b at *
    refine aA ?_
    refine aI ⟨hx0.trans hx, ?_⟩
    refine aT (i := 2) (by decide +kernel) rfl rfl ?_
    refine aB (enters_of Tryz.func67 rfl rfl) rfl rfl (gE r.name _) ?_
    intro w_11 x_11
    have hx := hx.trans x_11
    have hs := hs.ext x_11
    have ha := x_11.at ha
    refine aA ?_
    refine aI ⟨hx0.trans hx, ?_⟩
    refine bO (i := 10) (v := .agg #[aH (fold r.name), .int .i64 r.kind, .int .i64 r.ttl, vS]) rfl rfl (by decide +kernel) (by decide +kernel) (by decide +kernel) rfl (hx0.trans hx) (fun w' _ => Runs.build rfl (by obtain ⟨_, _, _, rfl⟩ := hs.sl.slf; kernel_rfl)) (fun _ _ _ h => h) ?_; refine aA ?_
    exact hG vS b _ ⟨hx0.trans hx, by omega, ha, hs⟩
  ·refine aG (z := gK) rfl (by decide +kernel) ?_
   intro w_3 x_3 s_3 ha
   have hb := hx.size
   have hx := hx.trans x_3
   generalize hbE : w2.heap.size = b at *
   refine aA ?_
   refine aI ⟨hx0.trans hx, ?_⟩
   refine fS (i := 2) (j := 9) (by decide +kernel) rfl rfl rfl ?_ ?_
   ·refine aB (enters_of Tryz.func67 rfl rfl) rfl rfl (gE r.name _) ?_
    intro w_12 x_12
    have hx := hx.trans x_12
    have ha := x_12.at ha
    refine aA ?_
    refine aI ⟨hx0.trans hx, ?_⟩
    refine aT (i := 9) (by decide +kernel) rfl rfl ?_
    refine bY (e := 9) (k := 1) (bytes := 16) (xs := [aH r.data]) rfl rfl rfl (by simp [aH, Value.cells]) (by decide +kernel) (by simp) ?_
    intro vS w_14 x_14 _ _ hs
    have hs := hs.weaken (Nat.le_trans hz12 (by have := hx.size; omega))
    have hx := hx.trans x_14
    have ha := x_14.at ha
    refine aA ?_
    refine aI ⟨hx0.trans hx, ?_⟩
    refine bO (i := 10) (v := .agg #[aH (fold r.name), .int .i64 r.kind, .int .i64 r.ttl, vS]) rfl rfl (by decide +kernel) (by decide +kernel) (by decide +kernel) rfl (hx0.trans hx) (fun w' _ => Runs.build rfl (by obtain ⟨_, _, _, rfl⟩ := hs.sl.slf; kernel_rfl)) (fun _ _ _ h => h) ?_; refine aA ?_
    exact hG vS b _ ⟨hx0.trans hx, by omega, ha, hs⟩
   ·refine bY (e := 9) (k := 1) (bytes := 16) (xs := [aH r.data]) rfl rfl rfl (by simp [aH, Value.cells]) (by decide +kernel) (by simp) ?_
    intro vS w_13 x_13 _ _ hs
    have hs := hs.weaken (Nat.le_trans hz12 (by have := hx.size; omega))
    have hx := hx.trans x_13
    have ha := x_13.at ha
    refine aA ?_
    refine aI ⟨hx0.trans hx, ?_⟩
    refine aT (i := 2) (by decide +kernel) rfl rfl ?_
    refine aB (enters_of Tryz.func67 rfl rfl) rfl rfl (gE r.name _) ?_
    intro w_15 x_15
    have hx := hx.trans x_15
    have hs := hs.ext x_15
    have ha := x_15.at ha
    refine aA ?_
    refine aI ⟨hx0.trans hx, ?_⟩
    refine bO (i := 10) (v := .agg #[aH (fold r.name), .int .i64 r.kind, .int .i64 r.ttl, vS]) rfl rfl (by decide +kernel) (by decide +kernel) (by decide +kernel) rfl (hx0.trans hx) (fun w' _ => Runs.build rfl (by obtain ⟨_, _, _, rfl⟩ := hs.sl.slf; kernel_rfl)) (fun _ _ _ h => h) ?_; refine aA ?_
    exact hG vS b _ ⟨hx0.trans hx, by omega, ha, hs⟩
 ·intro vS b w3 hF
  obtain ⟨x3, hb, h3, hs3⟩ := hF
  have hs3 : Own w1.heap.size 1 9 w3 vS (aM [r.data]) := by simpa [aM, Value.cells, aH] using hs3
  have x13 : Ext w w3 := x1.trans x3
  have s1 := x1.size
  refine aT (i := 12) (by decide +kernel) rfl rfl ?_
  refine aC (v := .agg #[aH (fold r.name), .int .i64 r.kind, .int .i64 r.ttl, vS]) rfl rfl rfl h3 (show aO Tryz.prog 119 4 = true by decide +kernel) rfl (iE rfl rfl rfl hs3.sl.one) ?_
  intro w4 p4
  have x14 : Ext w1 w4 := x3.move p4.mv (by rintro k ⟨⟩; exact hb)
  have x4 : Ext w w4 := x13.move p4.mv (by rintro k ⟨⟩; omega)
  have hB4 : B ≤ w4.heap.size := Nat.le_trans hB x4.size
  have hf4 : From B vS := hs3.from' (Nat.le_trans hB s1)
  have hs4 : Sl 1 w4 vS (aM [r.data]) := (hs3.mv p4.mv (.inr (hs3.neBlock h3 (by decide)))).sl
  have h4 : w4.heap[b]? = some (.cells [aH (fold r.name), .int .i64 r.kind, .int .i64 r.ttl, vS].toArray 119 (0, 0)) := p4.this
  have hbz : b < w4.heap.size := (Array.getElem?_eq_some_iff.1 h4).1
  refine aI ⟨x14, ?_⟩
  refine cS (by decide +kernel) ?_
  clear p4 h3 hs3 x3 x13
  refine_lift bX fun _ _ => ?_
  have hb4 := aE h4
  go_loopw [6, 7] (fun o i wr => ∃ k : Nat, k ≤ l.length ∧ i = .int .i64 k ∧ Ext w4 wr ∧ Own w4.heap.size 4 119 wr o (css.take k) ∧ ∀ g ∈ l.take k, fF g (bU r) = true) (fun _ i _ => l.length - (intOf i).toNat)
  case atStart => exact ⟨0, Nat.zero_le _, rfl, Ext.refl _, Own.nil _ _ _ _, by simp⟩
  case round =>
   obtain ⟨k, hk, rfl, hx, ho, hall⟩ := hrel
   have hxw := x4.trans hx
   have hvr := hv1.ext hxw
   have hcr := hcs.ext hxw
   have hbr := hb4.ext hx
   have hput := yY hall
   by_cases hlt : k < l.length
   ·obtain ⟨x, hc1, hc2w⟩ := hcs.at' k _ (List.getElem?_eq_getElem hlt)
    have hc2 := hc2w.ext hxw
    have hdk := hd _ (List.getElem_mem hlt)
    have hp1 := hvr.elem hc1
    rw [List.drop_eq_getElem_cons hlt, fN] at hput
    have hah : ∀ w', Calls Tryz.prog 149 #[.agg #[aH l[k].name, .int .i64 l[k].kind, .int .i64 l[k].ttl, x], .agg #[aH (fold r.name), .int .i64 r.kind, .int .i64 r.ttl, vS]] w' (bE w' (.bool (fF l[k] (bU r)))) := fun w' => uR l[k] (bU r) x vS w'
    have hha : ∀ w', Calls Tryz.prog 149 #[.agg #[aH (fold r.name), .int .i64 r.kind, .int .i64 r.ttl, vS], .agg #[aH l[k].name, .int .i64 l[k].kind, .int .i64 l[k].ttl, x]] w' (bE w' (.bool (fF (bU r) l[k]))) := fun w' => uR (bU r) l[k] vS x w'
    refine_lift OE ?_; intro _ _ _ _ _
    refine bD (by decide +kernel) (by decide +kernel) ?_
    refine_lift dP ?_
    rw [show decide ((k : Int) < (css.length : Int)) = true by simp; omega]
    refine_lift dP ?_
    refine cA (enters_of Tryz.func149 rfl rfl) rfl rfl (fun w' _ => hah w') ?_
    refine aA ?_
    refine_lift dP ?_
    intro w5 x5
    cases ha : fF l[k] (bU r) with
    | true =>
     refine_lift bX fun _ _ => ?_
     have ho5 := ho.ext x5
     have hx5 := hx.trans x5
     refine DY [aH l[k].name, .int .i64 l[k].kind, .int .i64 l[k].ttl, x] hx5 ho5 (by rw [List.length_take]; omega) ?_ (by exact ⟨rfl, rfl, rfl, by intro u hu; simp only [List.mem_cons, List.not_mem_nil, or_false] at hu; rcases hu with rfl | rfl | rfl | rfl <;> first | rfl | exact hc2.one⟩)
     intro s6 v6 w6 w7 x6 _ x7 o7
     refine aA ?_
     refine_lift aR ?_
     refine ⟨⟨k + 1, by omega, by go_num, x7, ?_, ?_⟩, by simp [intOf]; omega⟩
     ·rw [List.take_add_one, hc1]
      exact o7
     ·intro g hg
      rw [List.take_add_one, List.getElem?_eq_getElem hlt] at hg
      simp only [Option.toList_some, List.mem_append, List.mem_singleton] at hg
      rcases hg with hg | rfl
      ·exact hall g hg
      ·exact ha
    | false =>
     rw [ha, if_neg (by simp)] at hput
     refine_lift gO fun _ _ _ _ => ?_
     have hp5 := hp1.ext x5
     have hv5 := hvr.ext x5
     have hb5 := hbr.ext x5
     refine bD (by decide +kernel) (by decide +kernel) ?_
     refine_lift dP ?_
     rw [show decide ((k : Int) < (css.length : Int)) = true by simp; omega]
     refine_lift dP ?_
     refine cA (enters_of Tryz.func149 rfl rfl) rfl rfl (fun w' _ => hha w') ?_
     refine aA ?_
     refine_lift dP ?_
     intro w6 x6
     have hx6 := (hx.trans x5).trans x6
     have ho6 := (ho.ext x5).ext x6
     cases hb2 : fF (bU r) l[k] with
     | true =>
      rw [hb2, if_pos rfl] at hput
      have hv6 := hv1.ext (x4.trans hx6)
      have hb6 := hb5.ext x6
      refine_lift jY fun _ _ _ => ?_
      refine DY [aH (fold r.name), .int .i64 r.kind, .int .i64 r.ttl, vS] hx6 ho6 (by rw [List.length_take]; omega) ?_ (by exact ⟨rfl, rfl, rfl, by intro u hu; simp only [List.mem_cons, List.not_mem_nil, or_false] at hu; rcases hu with rfl | rfl | rfl | rfl <;> first | rfl | exact hs4.one⟩)
      intro s7 v7 w7 w8 x7 _ x8 o8
      refine aA ?_
      have hv8 := hv1.ext (x4.trans x8)
      refine_lift bX fun _ _ => ?_
      have hcut := hv8.cut (m := k) (n := css.length) (by omega) (Nat.le_refl _)
      rw [List.take_length] at hcut
      have hc8 := hcs.ext (x4.trans x8)
      refine cK (B := w4.heap.size) rfl o8 rfl hcut ((hc8.drop k).cell) x8.size (by simp only [List.length_append, List.length_take, List.length_drop, List.length_cons, List.length_nil]; omega) ?_
      intro v9 w9 o9 m9 _
      refine aA ?_
      have x9 := o8.mvx m9 x8 (Nat.le_refl _)
      have hc9 := hcs.ext (x4.trans x9)
      refine_lift aR ?_
      go_ret
      refine ⟨_, rfl, x4.trans x9, ?_⟩
      rw [hput, show l.take k ++ bU r :: l[k] :: l.drop (k + 1) = l.take k ++ [bU r] ++ l.drop k by rw [List.drop_eq_getElem_cons hlt]; simp]
      exact ⟨_, o9.sl, o9.from' hB4, ((hc9.take k).append (SetsC.one (s := bU r) (hs4.ext x9))).append (hc9.drop k), ((hcf.take k).append (FromC.one hf4)).append (hcf.drop k)⟩
     | false =>
      rw [hb2, if_neg (by simp)] at hput
      have hb6 := hb5.ext x6
      have h6 := hx6.at h4
      have x16 := x14.trans hx6
      have hp6 := hp1.ext (x5.trans x6)
      have hv6 := hvr.ext (x5.trans x6)
      have hpp := hp.ext x16
      clear hah hha
      refine_lift jY fun _ _ _ => ?_
      refine cE 9 (Ext w6) (by decide +kernel) ?_
      intro w7 x7 _
      refine ⟨x7, ?_⟩
      refine eG 0 ?_; refine eG 1 ?_; refine eG 2 ?_; refine eG 3 ?_; refine eG 4 ?_; refine eG 5 ?_; refine eG 6 ?_; refine eG 7 ?_; refine eG 8 ?_
      refine bT (i := 9) (by decide +kernel) rfl rfl ?_
      refine dF (cs := [aH (fold r.name), .int .i64 r.kind, .int .i64 r.ttl, vS]) (x7.at h6) rfl rfl rfl (show 2 < 4 by omega) (by decide +kernel) rfl ?_
      intro w8 p8
      refine aI ⟨cG rfl, ?_⟩
      refine cV (by decide +kernel) ?_
      have x18 : Ext w1 w8 := (x16.trans x7).move p8.mv (by rintro k ⟨⟩; exact hb)
      have h8 : w8.heap[b]? = some (.cells [aH (fold r.name), .int .i64 r.kind, .int .i64 (min r.ttl l[k].ttl), vS].toArray 119 (0, 0)) := p8.this
      have ho8 := (ho6.ext x7).put p8 hbz
      have hz8 : w6.heap.size ≤ w8.heap.size := Nat.le_trans x7.size (Nat.le_of_eq p8.size.symm)
      have hv8 := hv1.ext (x1.trans x18)
      have hp8 := hv8.elem hc1
      have hpp8 := hp.ext x18
      have hb8 := aE h8
      clear hb6 hb5 hbr hb4 hp6 hv6 hpp p8 h6 x7 hp5 hv5 hvr hp1
      refine_lift bX fun _ _ => ?_
      refine cE 9 (Ext w8) (by decide +kernel) ?_
      intro w9 x9 _
      refine ⟨x9, ?_⟩
      refine eG 0 ?_; refine eG 1 ?_; refine eG 2 ?_; refine eG 3 ?_; refine eG 4 ?_; refine eG 5 ?_; refine eG 6 ?_
      refine bT (i := 7) (by decide +kernel) rfl rfl ?_
      refine aL (enters_of Tryz.func199 rfl rfl) rfl rfl (MD x l[k].data r.data _ (hc2w.ext ((x1.trans x18).trans x9)) hdk) ?_
      intro y w10 x10 hy
      refine aA ?_
      have x1_10 := (x18.trans x9).trans x10
      refine aI ⟨cX (x9.trans x10), ?_⟩
      refine bT (i := 8) (by decide +kernel) rfl rfl ?_
      refine_lift aR ?_
      refine ⟨cX (x9.trans x10), ?_⟩
      refine bT (i := 9) (by decide +kernel) rfl rfl ?_
      have hy1 : y.oneCell' = true := by
       rcases hy with ⟨rfl, _⟩ | hy
       ·exact hc2w.one
       ·exact hy.sl.one
      have h10 := (x9.trans x10).at h8
      refine dF (cs := [aH (fold r.name), .int .i64 r.kind, .int .i64 (min r.ttl l[k].ttl), vS]) h10 rfl rfl rfl (show 3 < 4 by omega) (by decide +kernel) hy1 ?_
      intro w11 p11
      refine aI ⟨cG rfl, ?_⟩
      refine cV (by decide +kernel) ?_
      have x11 : Ext w w11 := x1.trans (x1_10.move p11.mv (by rintro k ⟨⟩; exact hb))
      have h11 : w11.heap[b]? = some (.cells [aH (fold r.name), .int .i64 r.kind, .int .i64 (min r.ttl l[k].ttl), y].toArray 119 (0, 0)) := p11.this
      have ho11 := (ho8.ext (x9.trans x10)).put p11 hbz
      have hz4 : w4.heap.size ≤ w11.heap.size := by
       have a1 := hx6.size
       have a2 := (x9.trans x10).size
       have a3 := p11.size
       omega
      have hz9 : b < w9.heap.size := by
       have a1 := hx6.size
       have a2 := x9.size
       omega
      have sy : (y = x ∧ dY r.data l[k].data = l[k].data) ∨ Own w9.heap.size 1 9 w11 y (aM (dY r.data l[k].data)) := by
       rcases hy with hy | hy
       ·exact .inl hy
       ·exact .inr (hy.put p11 hz9)
      have hfy : From B y := by
       rcases sy with ⟨rfl, _⟩ | sy
       ·exact hcf _ (List.mem_of_getElem? hc1) _ (by simp)
       ·exact sy.from' (by have a1 := hx6.size; have a2 := x9.size; omega)
      have hb11 := aE h11
      clear hb8 hp8 hpp8 p11 h10 h8 hv8
      refine_lift bX fun _ _ => ?_
      refine DY [aH (fold r.name), .int .i64 r.kind, .int .i64 (min r.ttl l[k].ttl), y] x11 ho11 (by rw [List.length_take]; omega) ?_ (by exact ⟨rfl, rfl, rfl, by intro u hu; simp only [List.mem_cons, List.not_mem_nil, or_false] at hu; rcases hu with rfl | rfl | rfl | rfl <;> first | rfl | exact hy1⟩) (hB := x4.size) (hBw := hz4)
      intro s12 v12 w12 w13 x12 m13 x13 o13
      refine aA ?_
      have hv13 := hv1.ext x13
      have sy13 : (y = x ∧ dY r.data l[k].data = l[k].data) ∨ Own w9.heap.size 1 9 w13 y (aM (dY r.data l[k].data)) := by
       rcases sy with sy | sy
       ·exact .inl sy
       ·exact .inr ((sy.ext x12).mv m13 ((sy.ext x12).ne (ho11.ext x12) (by decide)))
      refine_lift bX fun _ _ => ?_
      have hcut := hv13.cut (m := k + 1) (n := css.length) (by omega) (Nat.le_refl _)
      rw [List.take_length] at hcut
      have hc13 := hcs.ext x13
      refine cK (B := w4.heap.size) rfl o13 rfl hcut ((hc13.drop (k + 1)).cell) (Nat.le_trans hz4 (by have := x12.size; have := m13.size; omega)) (by simp only [List.length_append, List.length_take, List.length_drop, List.length_cons, List.length_nil]; omega) ?_
      intro v14 w14 o14 m14 _
      refine aA ?_
      have x14 := o13.mvx m14 x13 x4.size
      have hc14 := hcs.ext x14
      have sy14 : Sl 1 w14 y (aM (dY r.data l[k].data)) := by
       rcases sy13 with ⟨rfl, he⟩ | sy13
       ·rw [he]; exact hc2w.ext x14
       ·exact (sy13.mv m14 (sy13.ne o13 (by decide))).sl
      refine_lift aR ?_
      go_ret
      refine ⟨_, rfl, x14, ?_⟩
      rw [hput, show l.take k ++ ⟨fold r.name, r.kind, min r.ttl l[k].ttl, dY r.data l[k].data⟩ :: l.drop (k + 1) = l.take k ++ [⟨fold r.name, r.kind, min r.ttl l[k].ttl, dY r.data l[k].data⟩] ++ l.drop (k + 1) by simp]
      exact ⟨_, o14.sl, o14.from' hB4, ((hc14.take k).append (SetsC.one (s := ⟨fold r.name, r.kind, min r.ttl l[k].ttl, dY r.data l[k].data⟩) sy14)).append (hc14.drop (k + 1)), ((hcf.take k).append (FromC.one hfy)).append (hcf.drop (k + 1))⟩
   ·have : k = l.length := by omega
    subst this
    rw [List.drop_length, fN] at hput
    refine_lift OE ?_; intro _ _ _ _ _
    refine bD (by decide +kernel) (by decide +kernel) ?_
    refine_lift dP ?_
    rw [show decide ((l.length : Int) < (css.length : Int)) = false by simp; omega]
    refine_lift dP ?_
    intro w5 x5
    refine_lift gO fun _ _ _ _ => ?_
    have hv5 := hvr.ext x5
    have hb5 := hbr.ext x5
    refine bD (by decide +kernel) (by decide +kernel) ?_
    refine_lift dP ?_
    rw [show decide ((l.length : Int) < (css.length : Int)) = false by simp; omega]
    refine_lift dP ?_
    intro w6 x6
    have hx6 := (hx.trans x5).trans x6
    have ho6 := (ho.ext x5).ext x6
    have hb6 := hb5.ext x6
    refine_lift bX fun _ _ => ?_
    refine DY [aH (fold r.name), .int .i64 r.kind, .int .i64 r.ttl, vS] hx6 ho6 (by rw [List.length_take]; omega) ?_ (by exact ⟨rfl, rfl, rfl, by intro u hu; simp only [List.mem_cons, List.not_mem_nil, or_false] at hu; rcases hu with rfl | rfl | rfl | rfl <;> first | rfl | exact hs4.one⟩)
    intro s7 v7 w7 w8 x7 _ x8 o8
    refine aA ?_
    have hv8 := hv1.ext (x4.trans x8)
    refine_lift bX fun _ _ => ?_
    have hcut := hv8.cut (m := l.length) (n := css.length) (by omega) (Nat.le_refl _)
    rw [List.take_length] at hcut
    have hc8 := hcs.ext (x4.trans x8)
    refine cK (B := w4.heap.size) rfl o8 rfl hcut ((hc8.drop l.length).cell) x8.size (by simp only [List.length_append, List.length_take, List.length_drop, List.length_cons, List.length_nil]; omega) ?_
    intro v9 w9 o9 m9 _
    refine aA ?_
    have x9 := o8.mvx m9 x8 (Nat.le_refl _)
    have hc9 := hcs.ext (x4.trans x9)
    refine_lift aR ?_
    go_ret
    refine ⟨_, rfl, x4.trans x9, ?_⟩
    rw [hput, show l.take l.length ++ [bU r] = l.take l.length ++ [bU r] ++ l.drop l.length by simp]
    exact ⟨_, o9.sl, o9.from' hB4, ((hc9.take l.length).append (SetsC.one (s := bU r) (hs4.ext x9))).append (hc9.drop l.length), ((hcf.take l.length).append (FromC.one hf4)).append (hcf.drop l.length)⟩
def bH (l : List Rec) : List RSet := l.foldl (fun gs r => fN r gs) []
theorem iT {l : List Rec} {k : Nat} (h : k < l.length) : bH (l.take (k + 1)) = fN l[k] (bH (l.take k)) := by
 rw [bH, List.take_add_one, List.getElem?_eq_getElem h, Option.toList_some, List.foldl_append]
 rfl
theorem CP (r : Rec) : ∀ gs : List RSet, (fN r gs).length ≤ gs.length + 1
 | [] => by simp [fN]
 | g :: gs => by
   have := CP r gs
   rw [fN]
   split
   ·simp; omega
   ·split <;> simp
theorem yZ (r : Rec) (n : Nat) : ∀ gs : List RSet, (∀ s ∈ gs, s.data.length ≤ n) → ∀ s ∈ fN r gs, s.data.length ≤ n + 1
 | [], _, s, h => by
   have : s = bU r := by simpa [fN] using h
   subst this; simp [bU]
 | g :: gs, hn, s, h => by
   have hg := hn g (by simp)
   have hn' : ∀ s ∈ gs, s.data.length ≤ n := fun s hs => hn s (by simp [hs])
   rw [fN] at h
   split at h
   ·rcases List.mem_cons.1 h with rfl | h
    ·omega
    ·exact yZ r n gs hn' s h
   ·split at h
    ·rcases List.mem_cons.1 h with rfl | h
     ·simp [bU]
     ·have := hn s h; omega
    ·rcases List.mem_cons.1 h with rfl | h
     ·have := rM r.data g.data
      show (dY r.data g.data).length ≤ n + 1
      omega
     ·have := hn' s h; omega
theorem kL (l : List Rec) : ∀ k, k ≤ l.length → (bH (l.take k)).length ≤ k ∧ ∀ s ∈ bH (l.take k), s.data.length ≤ k
 | 0, _ => by simp [bH]
 | k + 1, h => by
   obtain ⟨h1, h2⟩ := kL l k (by omega)
   rw [iT (show k < l.length by omega)]
   have := CP (l[k]'(by omega)) (bH (l.take k))
   exact ⟨by omega, yZ _ k _ h2⟩
def jU (l : List Rec) : Int := if l.all tD = false then 1 else if 200 < (bH l).length then 4 else if (bH l).any CA = true then 4 else 0
def RefR (B : Nat) (l : List Rec) (r : Value) (w' : World) : Prop := if jU l = 0 then ∃ v, r = .tuple #[v, .int .i64 0] ∧ SetsO B w' v (bH l) else r = .tuple #[.slice none 0 0, .int .i64 (jU l)]
set_option maxHeartbeats 6000000 in
theorem JV (v : Value) (l : List Rec) (w : World) (hv : Sl 4 w v (aD l)) (hl : l.length ≤ 10000) (hd : ∀ r ∈ l, r.data.length ≤ 4611686018427387904) : Calls Tryz.prog 116 #[v] w (jI w (RefR w.heap.size l)) := by
 have hlen := aJ l
 go_enter Tryz.func116, Tryz.ntmps116
 refine_lift bX fun _ _ => ?_
 go_loopw [4] (fun i wr => ∃ k : Nat, k ≤ l.length ∧ i = .int .i64 k ∧ Ext w wr ∧ (l.take k).all tD = true) (fun i _ => l.length - (intOf i).toNat)
 case atStart => exact ⟨0, Nat.zero_le _, rfl, Ext.refl _, by simp⟩
 case round =>
  obtain ⟨k, hk, rfl, hx, hall⟩ := hrel
  have hvr := hv.ext hx
  by_cases hlt : k < l.length
  ·have hp := hvr.elem (cR hlt)
   refine_lift nK ?_; intro _ _ _ _ _ _
   refine aB (enters_of Tryz.func66 rfl rfl) rfl rfl (uQ l[k] _ (hd _ (List.getElem_mem hlt))) ?_; intro w2 x2; refine aA ?_
   refine_lift qD (fun _ => ?_) (fun _ => ?_)
   ·have hc := ‹(!decide (aX l[k] = 0)) = true›
    have hE : jU l = 1 := by
     have : l.all tD = false := gT hlt (by simp [tD] at hc ⊢; exact hc)
     rw [jU, if_pos this]
    go_ret2
    refine ⟨_, rfl, hx.trans x2, ?_⟩
    unfold RefR
    rw [hE, if_neg (by omega)]
    rfl
   ·have hc := ‹(!decide (aX l[k] = 0)) = false›
    exact ⟨⟨k + 1, by omega, by go_num, hx.trans x2, iR hlt hall (by simp [tD] at hc ⊢; exact hc)⟩, by simp [intOf]; omega⟩
  ·have : k = l.length := by omega
   subst this
   rw [List.take_length] at hall
   refine_lift jY fun _ _ _ => ?_
   go_loopw [5, 6] (fun o i wq => ∃ k : Nat, k ≤ l.length ∧ i = .int .i64 k ∧ Ext w wq ∧ SetsO w.heap.size wq o (bH (l.take k))) (fun _ i _ => l.length - (intOf i).toNat)
   case atStart => exact ⟨0, Nat.zero_le _, rfl, hx, SetsO.nil _ _⟩
   case round =>
    obtain ⟨k, hk, rfl, hxq, ho⟩ := hrel
    have hvq := hv.ext hxq
    by_cases hlt : k < l.length
    ·have hp := hvq.elem (cR hlt)
     obtain ⟨q1, q2⟩ := kL l k hk
     refine_lift gO ?_; intro _ _ _ _
     refine aL (enters_of Tryz.func172 rfl rfl) rfl rfl (OR u5 (bH (l.take k)) l[k] _ ho hxq.size (by omega) (fun s hs => by have := q2 s hs; omega)) ?_
     intro o2 w2 x2 ho2
     rw [← iT hlt] at ho2
     refine aA ?_
     refine_lift aR ?_
     exact ⟨⟨k + 1, by omega, by go_num, hxq.trans x2, ho2⟩, by simp [intOf]; omega⟩
    ·have : k = l.length := by omega
     subst this
     rw [List.take_length] at ho
     obtain ⟨css, hs1, hs2⟩ := ho.sets.rows
     have hsl := hs2.len
     refine_lift OD (fun _ _ _ _ => ?_) (fun _ _ _ _ => ?_)
     ·have h200 : 200 < (bH l).length := by omega
      have hE : jU l = 4 := by rw [jU, if_neg (by simp [hall]), if_pos h200]
      go_ret2
      refine ⟨_, rfl, hxq, ?_⟩
      unfold RefR
      rw [hE, if_neg (by omega)]
      rfl
     ·have h200 : ¬ 200 < (bH l).length := by omega
      go_loopw [7] (fun i w5 => ∃ k : Nat, k ≤ (bH l).length ∧ i = .int .i64 k ∧ Ext wr w5 ∧ ((bH l).take k).all (fun s => !CA s) = true) (fun i _ => (bH l).length - (intOf i).toNat)
      case atStart => exact ⟨0, Nat.zero_le _, rfl, Ext.refl _, by simp⟩
      case round =>
       obtain ⟨k, hk, rfl, hx5, hall5⟩ := hrel
       have hs5 := hs1.ext hx5
       by_cases hlt : k < (bH l).length
       ·obtain ⟨x, hc1, hc2⟩ := (hs2.ext hx5).at' k _ (List.getElem?_eq_getElem hlt)
        have hp := hs5.elem hc1
        have hdl := aP (bH l)[k].data
        refine_lift BS (fun _ _ => ?_) (fun _ _ _ _ => ?_)
        ·have hb : (fun s => !CA s) (bH l)[k] = false := by simp [CA]; omega
         have hE : jU l = 4 := by
          have hany : (bH l).any CA = true := List.any_eq_true.2 ⟨_, List.getElem_mem hlt, by simpa using hb⟩
          rw [jU, if_neg (by simp [hall]), if_neg h200, if_pos hany]
         go_ret2
         refine ⟨_, rfl, hxq.trans hx5, ?_⟩
         unfold RefR
         rw [hE, if_neg (by omega)]
         rfl
        ·exact ⟨⟨k + 1, by omega, by go_num, hx5, iR hlt hall5 (by simp [CA]; omega)⟩, by simp [intOf]; omega⟩
       ·have : k = (bH l).length := by omega
        subst this
        rw [List.take_length] at hall5
        have hE : jU l = 0 := by
         have hany : ¬ (bH l).any CA = true := by
          intro h
          obtain ⟨s, hs, hb⟩ := List.any_eq_true.1 h
          have := List.all_eq_true.1 hall5 s hs
          simp [hb] at this
         rw [jU, if_neg (by simp [hall]), if_neg h200, if_neg hany]
        refine_lift fH fun _ => ?_
        go_ret2
        refine ⟨_, rfl, hxq.trans hx5, ?_⟩
        unfold RefR
        rw [if_pos hE]
        exact ⟨_, rfl, ho.ext hx5⟩
theorem zA : ∀ {gs : List RSet} {r : Rec} {s : RSet}, rX gs → s ∈ cY gs r → (s ∈ gs ∧ bJ s r = false) ∨ (∃ t ∈ gs, bJ t r = true ∧ s = iY t r) ∨ ((∀ t ∈ gs, bJ t r = false) ∧ s = ⟨fold r.name, r.kind, r.ttl, [r.data]⟩)
 | [], r, s, _, h => by
   right; right
   exact ⟨by simp, by simpa [cY] using h⟩
 | a :: l, r, s, hd, h => by
   obtain ⟨p1, p2⟩ := List.pairwise_cons.1 (gC.1 hd)
   by_cases hm : bJ a r = true
   ·simp only [cY, hm, if_true, List.mem_cons] at h
    rcases h with h | h
    ·exact .inr (.inl ⟨a, by simp, hm, h⟩)
    ·refine .inl ⟨by simp [h], ?_⟩
     cases hs : bJ s r with
     | false => rfl
     | true =>
      exfalso
      simp only [bJ, Bool.and_eq_true, decide_eq_true_eq] at hs hm
      exact p1 s h ⟨by rw [hm.1, hs.1], by rw [hm.2, hs.2]⟩
   ·have hm' : bJ a r = false := by simpa using hm
    simp only [cY, hm', Bool.false_eq_true, if_false, List.mem_cons] at h
    rcases h with rfl | h
    ·exact .inl ⟨by simp, hm'⟩
    ·rcases zA (gC.2 p2) h with ⟨h1, h2⟩ | ⟨t, h1, h2, h3⟩ | ⟨h1, h2⟩
     ·exact .inl ⟨by simp [h1], h2⟩
     ·exact .inr (.inl ⟨t, by simp [h1], h2, h3⟩)
     ·refine .inr (.inr ⟨?_, h2⟩)
      intro t ht
      rcases List.mem_cons.1 ht with rfl | ht
      ·exact hm'
      ·exact h1 t ht
structure Ch (L : List Rec) (s : RSet) : Prop where
 dat : ∀ d, d ∈ s.data ↔ ∃ r ∈ L, bJ s r = true ∧ r.data = d
 ttl : ∃ r ∈ L, bJ s r = true ∧ r.ttl = s.ttl
 low : ∀ r ∈ L, bJ s r = true → s.ttl ≤ r.ttl
theorem Ch.miss {L : List Rec} {s : RSet} {r : Rec} (h : Ch L s) (hm : bJ s r = false) : Ch (L ++ [r]) s where
 dat d := by
  rw [h.dat]
  constructor
  ·rintro ⟨q, h1, h2⟩; exact ⟨q, by simp [h1], h2⟩
  ·rintro ⟨q, h1, h2, h3⟩
   rcases List.mem_append.1 h1 with h1 | h1
   ·exact ⟨q, h1, h2, h3⟩
   ·obtain rfl := List.mem_singleton.1 h1
    rw [hm] at h2; cases h2
 ttl := let ⟨q, h1, h2⟩ := h.ttl; ⟨q, by simp [h1], h2⟩
 low q h1 h2 := by
  rcases List.mem_append.1 h1 with h1 | h1
  ·exact h.low q h1 h2
  ·obtain rfl := List.mem_singleton.1 h1
   rw [hm] at h2; cases h2
theorem Ch.bump {L : List Rec} {s : RSet} {r : Rec} (h : Ch L s) (hm : bJ s r = true) : Ch (L ++ [r]) (X.iY s r) where
 dat d := by
  show d ∈ s.data ++ [r.data] ↔ ∃ q ∈ L ++ [r], bJ s q = true ∧ q.data = d
  rw [List.mem_append, h.dat, List.mem_singleton]
  constructor
  ·rintro (⟨q, h1, h2⟩ | rfl)
   ·exact ⟨q, by simp [h1], h2⟩
   ·exact ⟨r, by simp, hm, rfl⟩
  ·rintro ⟨q, h1, h2, h3⟩
   rcases List.mem_append.1 h1 with h1 | h1
   ·exact .inl ⟨q, h1, h2, h3⟩
   ·obtain rfl := List.mem_singleton.1 h1
    exact .inr h3.symm
 ttl := by
  show ∃ q ∈ L ++ [r], bJ s q = true ∧ q.ttl = min s.ttl r.ttl
  obtain ⟨q, h1, h2, h3⟩ := h.ttl
  rcases Int.le_total s.ttl r.ttl with hl | hl
  ·exact ⟨q, by simp [h1], h2, by rw [h3]; omega⟩
  ·exact ⟨r, by simp, hm, by omega⟩
 low q h1 h2 := by
  show min s.ttl r.ttl ≤ q.ttl
  rcases List.mem_append.1 h1 with h1 | h1
  ·have := h.low q h1 h2
   omega
  ·obtain rfl := List.mem_singleton.1 h1
   omega
theorem Ch.new {L : List Rec} {r : Rec} (h : ∀ q ∈ L, bJ ⟨fold r.name, r.kind, r.ttl, [r.data]⟩ q = false) : Ch (L ++ [r]) ⟨fold r.name, r.kind, r.ttl, [r.data]⟩ where
 dat d := by
  rw [List.mem_singleton]
  constructor
  ·rintro rfl; exact ⟨r, by simp, by simp [bJ], rfl⟩
  ·rintro ⟨q, h1, h2, h3⟩
   rcases List.mem_append.1 h1 with h1 | h1
   ·rw [h q h1] at h2; cases h2
   ·obtain rfl := List.mem_singleton.1 h1
    exact h3.symm
 ttl := ⟨r, by simp, by simp [bJ], rfl⟩
 low q h1 h2 := by
  rcases List.mem_append.1 h1 with h1 | h1
  ·rw [h q h1] at h2; cases h2
  ·obtain rfl := List.mem_singleton.1 h1
   exact Int.le_refl _
theorem zB (l : List Rec) : ∀ k, k ≤ l.length → ∀ s ∈ cI (l.take k), Ch (l.take k) s
 | 0, _, s, h => by simp [cI] at h
 | k + 1, hk, s, h => by
   have hlt : k < l.length := by omega
   have e : l.take (k + 1) = l.take k ++ [l[k]] := by simp
   rw [mU hlt] at h
   rw [e]
   have ih := zB l k (by omega)
   rcases zA (jJ _) h with ⟨h1, h2⟩ | ⟨t, h1, h2, rfl⟩ | ⟨h1, rfl⟩
   ·exact (ih s h1).miss h2
   ·exact (ih t h1).bump h2
   ·refine Ch.new fun q hq => ?_
    obtain ⟨t, ht, hm, _⟩ := uL hq
    have := h1 t ht
    cases hx : bJ ⟨fold l[k].name, l[k].kind, l[k].ttl, [l[k].data]⟩ q with
    | false => rfl
    | true =>
     exfalso
     simp only [bJ, Bool.and_eq_true, decide_eq_true_eq] at hx hm
     have h5 : bJ t l[k] = true := by
      simp only [bJ, Bool.and_eq_true, decide_eq_true_eq]
      exact ⟨by rw [hm.1, hx.1], by rw [hm.2, hx.2]⟩
     rw [this] at h5; cases h5
theorem Ch.norm {L : List Rec} {s : RSet} (h : Ch L s) : Ch L (X.kS s) where
 dat d := by
  show d ∈ QK s.data ↔ ∃ r ∈ L, bJ s r = true ∧ r.data = d
  rw [LU, h.dat]
 ttl := h.ttl
 low := h.low
theorem zC {l : List Rec} {s : RSet} (h : s ∈ eE l) : Ch l s ∧ s.data.Pairwise (· < ·) := by
 obtain ⟨u, hu, rfl⟩ := List.mem_map.1 h
 have := zB l l.length (Nat.le_refl _)
 rw [List.take_length] at this
 exact ⟨(this u hu).norm, ED _⟩
theorem Ch.uniq {L : List Rec} {s t : RSet} (h : Ch L s) (k : Ch L t) (hs : s.data.Pairwise (· < ·)) (ht : t.data.Pairwise (· < ·)) (hn : s.name = t.name) (hk : s.kind = t.kind) : s = t := by
 have hm : ∀ r, bJ s r = bJ t r := fun r => by rw [bJ, bJ, hn, hk]
 have hd : s.data = t.data := HC hs ht fun d => by
  rw [h.dat, k.dat]
  simp only [hm]
 have ha : s.ttl = t.ttl := by
  obtain ⟨q, h1, h2, h3⟩ := h.ttl
  obtain ⟨q', k1, k2, k3⟩ := k.ttl
  have e1 := k.low q h1 (by rw [← hm]; exact h2)
  have e2 := h.low q' k1 (by rw [hm]; exact k2)
  omega
 cases s; cases t
 simp_all
def lR (s t : RSet) : Int := dM s.name t.name s.kind t.kind
theorem uX : TPO lR := iG.comap fun s : RSet => (s.name, s.kind)
def SO (gs : List RSet) : Prop := gs.Pairwise fun s t => lR s t < 0
def QO (r : Rec) (t : RSet) : RSet := ⟨fold r.name, r.kind, min r.ttl t.ttl, dY r.data t.data⟩
theorem nP (a b : RSet) : fF a b = decide (lR a b < 0) := yR a b
theorem eB {s : RSet} {r : Rec} : bJ s r = true ↔ s.name = fold r.name ∧ s.kind = r.kind := by simp [bJ]
theorem qP {s t u : RSet} (hn : s.name = t.name) (hk : s.kind = t.kind) : lR u s = lR u t ∧ lR s u = lR t u := by
 unfold lR; rw [hn, hk]; exact ⟨rfl, rfl⟩
theorem qQ {s : RSet} {r : Rec} (h : lR s (bU r) ≠ 0) : bJ s r = false := by
 cases hm : bJ s r with
 | false => rfl
 | true =>
  obtain ⟨h1, h2⟩ := eB.1 hm
  exact absurd (by rw [(qP (t := bU r) h1 h2).2]; exact uX.refl _) h
theorem CQ {r : Rec} (hr : Small (fold r.name)) : ∀ {gs : List RSet} {s : RSet}, SO gs → (∀ g ∈ gs, Small g.name) → s ∈ fN r gs →
 (s ∈ gs ∧ bJ s r = false) ∨ (∃ t ∈ gs, bJ t r = true ∧ s = QO r t) ∨ ((∀ t ∈ gs, bJ t r = false) ∧ s = bU r)
 | [], s, _, _, h => by
   right; right
   exact ⟨by simp, by simpa [fN] using h⟩
 | g :: gs, s, hso, hsm, h => by
   obtain ⟨p1, p2⟩ := List.pairwise_cons.1 hso
   have hg := hsm g (by simp)
   rw [fN, nP, nP] at h
   by_cases h1 : lR g (bU r) < 0
   ·rw [if_pos (decide_eq_true h1)] at h
    have m1 : bJ g r = false := qQ (by omega)
    rcases List.mem_cons.1 h with rfl | h
    ·exact .inl ⟨by simp, m1⟩
    ·rcases CQ hr p2 (fun x hx => hsm x (by simp [hx])) h with ⟨a, b⟩ | ⟨t, a, b, c⟩ | ⟨a, b⟩
     ·exact .inl ⟨by simp [a], b⟩
     ·exact .inr (.inl ⟨t, by simp [a], b, c⟩)
     ·refine .inr (.inr ⟨fun t ht => ?_, b⟩)
      rcases List.mem_cons.1 ht with rfl | ht
      ·exact m1
      ·exact a t ht
   ·rw [if_neg (by simpa using h1)] at h
    by_cases h2 : lR (bU r) g < 0
    ·rw [if_pos (decide_eq_true h2)] at h
     have m1 : bJ g r = false := qQ (by have := uX.anti g (bU r); omega)
     have m2 : ∀ t ∈ gs, bJ t r = false := fun t ht => qQ (by
      have := uX.ltt h2 (p1 t ht)
      have := uX.anti t (bU r); omega)
     rcases List.mem_cons.1 h with rfl | h
     ·refine .inr (.inr ⟨fun t ht => ?_, rfl⟩)
      rcases List.mem_cons.1 ht with rfl | ht
      ·exact m1
      ·exact m2 t ht
     ·rcases List.mem_cons.1 h with rfl | h
      ·exact .inl ⟨by simp, m1⟩
      ·exact .inl ⟨by simp [h], m2 s h⟩
    ·rw [if_neg (by simpa using h2)] at h
     have h0 : lR g (bU r) = 0 := by have := uX.anti g (bU r); omega
     obtain ⟨e1, e2⟩ := kG hg hr h0
     have mg : bJ g r = true := eB.2 ⟨e1, e2⟩
     rcases List.mem_cons.1 h with rfl | h
     ·exact .inr (.inl ⟨g, by simp, mg, rfl⟩)
     ·refine .inl ⟨by simp [h], qQ ?_⟩
      have := p1 s h
      rw [(qP (t := bU r) e1 e2).2] at this
      have := uX.anti s (bU r); omega
theorem CR {r : Rec} : ∀ {gs : List RSet} {s : RSet}, s ∈ fN r gs → s ∈ gs ∨ (s.name = fold r.name ∧ s.kind = r.kind)
 | [], s, h => by
   right
   have : s = bU r := by simpa [fN] using h
   subst this; exact ⟨rfl, rfl⟩
 | g :: gs, s, h => by
   rw [fN] at h
   split at h
   ·rcases List.mem_cons.1 h with rfl | h
    ·exact .inl (by simp)
    ·rcases CR h with h | h
     ·exact .inl (by simp [h])
     ·exact .inr h
   ·split at h
    ·rcases List.mem_cons.1 h with rfl | h
     ·exact .inr ⟨rfl, rfl⟩
     ·exact .inl h
    ·rcases List.mem_cons.1 h with rfl | h
     ·exact .inr ⟨rfl, rfl⟩
     ·exact .inl (by simp [h])
theorem FT {r : Rec} (hr : Small (fold r.name)) : ∀ {gs : List RSet}, SO gs → (∀ g ∈ gs, Small g.name) → SO (fN r gs)
 | [], _, _ => by simp [fN, SO]
 | g :: gs, hso, hsm => by
   obtain ⟨p1, p2⟩ := List.pairwise_cons.1 hso
   have hg := hsm g (by simp)
   rw [fN, nP, nP]
   by_cases h1 : lR g (bU r) < 0
   ·rw [if_pos (decide_eq_true h1)]
    refine List.pairwise_cons.2 ⟨fun s hs => ?_, FT hr p2 fun x hx => hsm x (by simp [hx])⟩
    rcases CR hs with h | ⟨a, b⟩
    ·exact p1 s h
    ·rw [(qP (t := bU r) a b).1]; exact h1
   ·rw [if_neg (by simpa using h1)]
    by_cases h2 : lR (bU r) g < 0
    ·rw [if_pos (decide_eq_true h2)]
     refine List.pairwise_cons.2 ⟨fun s hs => ?_, hso⟩
     rcases List.mem_cons.1 hs with rfl | hs
     ·exact h2
     ·exact uX.ltt h2 (p1 s hs)
    ·rw [if_neg (by simpa using h2)]
     have h0 : lR g (bU r) = 0 := by have := uX.anti g (bU r); omega
     obtain ⟨e1, e2⟩ := kG hg hr h0
     refine List.pairwise_cons.2 ⟨fun s hs => ?_, p2⟩
     have := p1 s hs
     rw [(qP (s := g) (t := ⟨fold r.name, r.kind, min r.ttl g.ttl, dY r.data g.data⟩) e1 e2).2] at this
     exact this
theorem lS {s : List UInt8} : ∀ {l : List (List UInt8)}, l.Pairwise (· < ·) → (dY s l).Pairwise (· < ·) ∧ ∀ x, x ∈ dY s l ↔ x = s ∨ x ∈ l
 | [], _ => by simp [dY]
 | y :: l, h => by
   obtain ⟨p1, p2⟩ := List.pairwise_cons.1 h
   obtain ⟨i1, i2⟩ := lS (s := s) p2
   rw [dY]
   by_cases h1 : y < s
   ·rw [if_pos (BO.2 h1)]
    refine ⟨List.pairwise_cons.2 ⟨fun x hx => ?_, i1⟩, fun x => ?_⟩
    ·rcases (i2 x).1 hx with rfl | hx
     ·exact h1
     ·exact p1 x hx
    ·simp only [List.mem_cons, i2]; exact or_left_comm
   ·rw [if_neg (fun hb => h1 (BO.1 hb))]
    by_cases h2 : y = s
    ·rw [if_pos h2]
     subst h2
     exact ⟨h, fun x => by simp⟩
    ·rw [if_neg h2]
     have h3 : s < y := sF (List.not_lt.1 h1) (fun e => h2 e.symm)
     refine ⟨List.pairwise_cons.2 ⟨fun x hx => ?_, h⟩, fun x => by simp⟩
     rcases List.mem_cons.1 hx with rfl | hx
     ·exact h3
     ·exact List.lt_trans h3 (p1 x hx)
theorem zD {r : Rec} (hr : Small (fold r.name)) : ∀ {gs : List RSet}, (∀ g ∈ gs, Small g.name) → ∀ t ∈ gs, ∃ s ∈ fN r gs, s.name = t.name ∧ s.kind = t.kind
 | [], _, t, h => by simp at h
 | g :: gs, hsm, t, h => by
   have hg := hsm g (by simp)
   rw [fN, nP, nP]
   by_cases h1 : lR g (bU r) < 0
   ·rw [if_pos (decide_eq_true h1)]
    rcases List.mem_cons.1 h with rfl | h
    ·exact ⟨t, by simp, rfl, rfl⟩
    ·obtain ⟨s, a, b⟩ := zD hr (fun x hx => hsm x (by simp [hx])) t h
     exact ⟨s, by simp [a], b⟩
   ·rw [if_neg (by simpa using h1)]
    by_cases h2 : lR (bU r) g < 0
    ·rw [if_pos (decide_eq_true h2)]
     exact ⟨t, List.mem_cons_of_mem _ h, rfl, rfl⟩
    ·rw [if_neg (by simpa using h2)]
     have h0 : lR g (bU r) = 0 := by have := uX.anti g (bU r); omega
     obtain ⟨e1, e2⟩ := kG hg hr h0
     rcases List.mem_cons.1 h with rfl | h
     ·exact ⟨_, List.mem_cons_self, e1.symm, e2.symm⟩
     ·exact ⟨t, by simp [h], rfl, rfl⟩
theorem CS (r : Rec) : ∀ gs : List RSet, ∃ s ∈ fN r gs, s.name = fold r.name ∧ s.kind = r.kind
 | [] => ⟨bU r, by simp [fN], rfl, rfl⟩
 | g :: gs => by
   obtain ⟨s, a, b⟩ := CS r gs
   rw [fN]
   split
   ·exact ⟨s, by simp [a], b⟩
   ·split
    ·exact ⟨bU r, by simp, rfl, rfl⟩
    ·exact ⟨_, List.mem_cons_self, rfl, rfl⟩
theorem Ch.newS {L : List Rec} {t : RSet} {r : Rec} (h : Ch L t) (hm : bJ t r = true) (ht : t.data.Pairwise (· < ·)) : Ch (L ++ [r]) (X.QO r t) := by
 have hb := h.bump hm
 obtain ⟨e1, e2⟩ := eB.1 hm
 have hk : ∀ q, bJ (X.QO r t) q = bJ (X.iY t r) q := fun q => by simp only [bJ, X.QO, X.iY, e1, e2]; rfl
 refine ⟨fun d => ?_, ?_, fun q hq hmq => ?_⟩
 ·show d ∈ dY r.data t.data ↔ _
  rw [(lS ht).2]
  have := hb.dat d
  simp only [hk]
  rw [← this]
  show _ ↔ d ∈ t.data ++ [r.data]
  simp [or_comm]
 ·obtain ⟨q, a, b, c⟩ := hb.ttl
  exact ⟨q, a, by rw [hk]; exact b, by rw [c]; show min t.ttl r.ttl = min r.ttl t.ttl; omega⟩
 ·have := hb.low q hq (by rw [← hk]; exact hmq)
  show min r.ttl t.ttl ≤ q.ttl
  have h2 : min t.ttl r.ttl ≤ q.ttl := this
  omega
theorem JW {r : Rec} (h : tD r = true) : Small (fold r.name) := by
 obtain ⟨ls, hl⟩ := Option.isSome_iff_exists.1 (jK (r := r) (n := []) (by simpa [tD] using h)).1
 exact ⟨r.name, ls, hl, rfl⟩
theorem uY {l : List Rec} (hok : l.all tD = true) : ∀ k, k ≤ l.length → SO (bH (l.take k)) ∧ (∀ s ∈ bH (l.take k), Ch (l.take k) s ∧ s.data.Pairwise (· < ·) ∧ Small s.name) ∧ ∀ q ∈ l.take k, ∃ s ∈ bH (l.take k), bJ s q = true
 | 0, _ => by simp [bH, SO]
 | k + 1, h => by
   have hlt : k < l.length := by omega
   obtain ⟨i1, i2, i3⟩ := uY hok k (by omega)
   have hr := JW (List.all_eq_true.1 hok _ (List.getElem_mem hlt))
   have hsm : ∀ g ∈ bH (l.take k), Small g.name := fun g hg => (i2 g hg).2.2
   have e : l.take (k + 1) = l.take k ++ [l[k]] := by simp
   rw [iT hlt, e]
   refine ⟨FT hr i1 hsm, fun s hs => ?_, fun q hq => ?_⟩
   ·rcases CQ hr i1 hsm hs with ⟨a, b⟩ | ⟨t, a, b, rfl⟩ | ⟨a, rfl⟩
    ·exact ⟨(i2 s a).1.miss b, (i2 s a).2⟩
    ·exact ⟨(i2 t a).1.newS b (i2 t a).2.1, (lS (i2 t a).2.1).1, hr⟩
    ·refine ⟨Ch.new fun q hq => ?_, by simp [bU], hr⟩
     obtain ⟨t, ht, hm⟩ := i3 q hq
     cases hx : bJ ⟨fold l[k].name, l[k].kind, l[k].ttl, [l[k].data]⟩ q with
     | false => rfl
     | true =>
      exfalso
      obtain ⟨x1, x2⟩ := eB.1 hx
      obtain ⟨y1, y2⟩ := eB.1 hm
      have h5 : bJ t l[k] = true := eB.2 ⟨y1.trans x1.symm, y2.trans x2.symm⟩
      rw [a t ht] at h5; cases h5
   ·rcases List.mem_append.1 hq with hq | hq
    ·obtain ⟨t, ht, hm⟩ := i3 q hq
     obtain ⟨s, a, b, c⟩ := zD hr hsm t ht
     obtain ⟨y1, y2⟩ := eB.1 hm
     exact ⟨s, a, eB.2 ⟨b.trans y1, c.trans y2⟩⟩
    ·obtain rfl := List.mem_singleton.1 hq
     obtain ⟨s, a, b, c⟩ := CS l[k] (bH (l.take k))
     exact ⟨s, a, eB.2 ⟨b, c⟩⟩
theorem uZ {l : List Rec} (hok : l.all tD = true) : SO (bH l) ∧ (∀ s ∈ bH l, Ch l s ∧ s.data.Pairwise (· < ·) ∧ Small s.name) ∧ ∀ q ∈ l, ∃ s ∈ bH l, bJ s q = true := by
 have := uY hok l.length (Nat.le_refl _)
 rwa [List.take_length] at this
theorem sN {l : List Rec} (hok : l.all tD = true) : (bH l).Perm (eE l) := by
 obtain ⟨i1, i2, i3⟩ := uZ hok
 have n1 : (eE l).Nodup := (qK _).imp fun h e => by subst e; exact h ⟨rfl, rfl⟩
 have n0 : (bH l).Nodup := i1.imp fun h e => by subst e; have := uX.refl ‹RSet›; omega
 refine (List.perm_ext_iff_of_nodup n0 n1).2 fun s => ⟨fun hs => ?_, fun hs => ?_⟩
 ·obtain ⟨hc, hst, _⟩ := i2 s hs
  obtain ⟨q, h1, h2, _⟩ := hc.ttl
  obtain ⟨t, ht, hm, _⟩ := uL h1
  have hg : kS t ∈ eE l := List.mem_map_of_mem ht
  obtain ⟨hc', hst'⟩ := zC hg
  obtain ⟨x1, x2⟩ := eB.1 h2
  obtain ⟨y1, y2⟩ := eB.1 hm
  have e := hc.uniq hc' hst hst' (x1.trans y1.symm) (x2.trans y2.symm)
  rw [e]; exact hg
 ·obtain ⟨hc, hst⟩ := zC hs
  obtain ⟨q, h1, h2, _⟩ := hc.ttl
  obtain ⟨t, ht, hm⟩ := i3 q h1
  obtain ⟨hc', hst', _⟩ := i2 t ht
  obtain ⟨x1, x2⟩ := eB.1 h2
  obtain ⟨y1, y2⟩ := eB.1 hm
  have e := hc.uniq hc' hst hst' (x1.trans y1.symm) (x2.trans y2.symm)
  rw [e]; exact ht
theorem wV {l : List Rec} (hok : l.all tD = true) : rH (bH l) := by
 obtain ⟨i1, _, _⟩ := uZ hok
 intro i j s t hij hi hj
 obtain ⟨a, rfl⟩ := List.getElem?_eq_some_iff.1 hi
 obtain ⟨b, rfl⟩ := List.getElem?_eq_some_iff.1 hj
 have h := List.pairwise_iff_getElem.1 i1 i j a b hij
 have := uX.anti (bH l)[j] (bH l)[i]
 show 0 ≤ lR (bH l)[j] (bH l)[i]
 omega
theorem ME {l : List Rec} (hok : l.all tD = true) {out : List RSet} (hp : out.Perm (eE l)) (hs : rH out) : out = bH l :=
 EF hok hp (sN hok) hs (wV hok)
theorem QP (l : List Rec) : jU l = iZ l := by
 unfold jU iZ
 cases hok : l.all tD with
 | false => simp
 | true =>
  have hp := sN hok
  have hl := hp.length_eq
  have ha : (bH l).any CA = (eE l).any CA := by
   cases h : (eE l).any CA with
   | true =>
    obtain ⟨s, h1, h2⟩ := List.any_eq_true.1 h
    exact List.any_eq_true.2 ⟨s, hp.mem_iff.2 h1, h2⟩
   | false =>
    cases h' : (bH l).any CA with
    | false => rfl
    | true =>
     obtain ⟨s, h1, h2⟩ := List.any_eq_true.1 h'
     rw [List.any_eq_true.2 ⟨s, hp.mem_iff.1 h1, h2⟩] at h; cases h
  rw [ha, hl]
  simp only [Bool.true_eq_false, if_false]
  split <;> split <;> rfl
def aN : List Value := [aH [], .slice none 0 0]
theorem zE {s x : List UInt8} : ∀ {l : List (List UInt8)}, x ∈ dY s l → x = s ∨ x ∈ l
 | [], h => by simp [dY] at h; exact .inl h
 | y :: l, h => by
   unfold dY at h
   split at h
   ·rcases List.mem_cons.1 h with rfl | h
    ·exact .inr (by simp)
    ·rcases zE h with h | h
     ·exact .inl h
     ·exact .inr (by simp [h])
   ·split at h
    ·exact .inr h
    ·rcases List.mem_cons.1 h with rfl | h
     ·exact .inl rfl
     ·exact .inr h
theorem CT {r : Rec} : ∀ {gs : List RSet} {s : RSet} {d : List UInt8}, s ∈ fN r gs → d ∈ s.data → d = r.data ∨ ∃ t ∈ gs, d ∈ t.data
 | [], s, d, h, hd => by
   have : s = bU r := by simpa [fN] using h
   subst this
   exact .inl (by simpa [bU] using hd)
 | g :: gs, s, d, h, hd => by
   rw [fN] at h
   split at h
   ·rcases List.mem_cons.1 h with rfl | h
    ·exact .inr ⟨s, by simp, hd⟩
    ·rcases CT h hd with h | ⟨t, ht, h⟩
     ·exact .inl h
     ·exact .inr ⟨t, by simp [ht], h⟩
   ·split at h
    ·rcases List.mem_cons.1 h with rfl | h
     ·exact .inl (by simpa [bU] using hd)
     ·exact .inr ⟨s, h, hd⟩
    ·rcases List.mem_cons.1 h with rfl | h
     ·rcases zE hd with h | h
      ·exact .inl h
      ·exact .inr ⟨g, by simp, h⟩
     ·exact .inr ⟨s, by simp [h], hd⟩
theorem vD {l : List Rec} : ∀ k, k ≤ l.length → ∀ s ∈ bH (l.take k), ∀ d ∈ s.data, ∃ r ∈ l, d = r.data
 | 0, _, s, hs, _, _ => by simp [bH] at hs
 | k + 1, h, s, hs, d, hd => by
   rw [iT (show k < l.length by omega)] at hs
   rcases CT hs hd with h1 | ⟨t, ht, h1⟩
   ·exact ⟨_, List.getElem_mem _, h1⟩
   ·exact vD k (by omega) t ht d h1
theorem mY {l : List Rec} {s : RSet} (hs : s ∈ bH l) {d : List UInt8} (hd : d ∈ s.data) : ∃ r ∈ l, d = r.data :=
 vD l.length (Nat.le_refl _) s (by rw [List.take_length]; exact hs) d hd
theorem pS (l : List Rec) : ∀ s ∈ bH l, s.data.length ≤ l.length := by
 have := (kL l l.length (Nat.le_refl _)).2
 rwa [List.take_length] at this
def dZ (o : List UInt8) (l : List Rec) : Int := if jU l = 0 then aW (fold o) (bH l) else jU l
def cQ (o : List UInt8) (l : List Rec) : List UInt8 := if dZ o l = 0 then fold o else []
def bV (o : List UInt8) (l : List Rec) : List RSet := if dZ o l = 0 then bH l else []
def LoadU (B : Nat) (o : List UInt8) (l : List Rec) (r : Value) (w' : World) : Prop :=
 ∃ v, r = .tuple #[.agg #[aH (cQ o l), v], .int .i64 (dZ o l)] ∧ SetsO B w' v (bV o l)
theorem LoadU.bad {B : Nat} {o : List UInt8} {l : List Rec} {e : Int} {w' : World} (h : dZ o l = e) (he : e ≠ 0) : LoadU B o l (.tuple #[.agg aN.toArray, .int .i64 e]) w' := by
 refine ⟨.slice none 0 0, ?_, ?_⟩
 ·rw [h, cQ, if_neg (by rw [h]; exact he)]; rfl
 ·rw [bV, if_neg (by rw [h]; exact he)]; exact SetsO.nil _ _
theorem LoadU.good {B : Nat} {o : List UInt8} {l : List Rec} {v : Value} {w' : World} (h : dZ o l = 0) (hv : SetsO B w' v (bH l)) : LoadU B o l (.tuple #[.agg #[aH (fold o), v], .int .i64 0]) w' := by
 refine ⟨v, ?_, ?_⟩
 ·rw [cQ, if_pos h, h]
 ·rw [bV, if_pos h]; exact hv
def JX (B : Nat) (l : List Rec) (r : Value) (w' : World) : Prop := ∃ v, r = .tuple #[v, .int .i64 (jU l)] ∧ (jU l = 0 → SetsO B w' v (bH l))
theorem RefR.uni {B : Nat} {l : List Rec} {r : Value} {w' : World} (h : RefR B l r w') : JX B l r w' := by
 unfold RefR at h
 split at h
 ·rename_i h0
  obtain ⟨v, rfl, hv⟩ := h
  exact ⟨v, by rw [h0], fun _ => hv⟩
 ·rename_i h0
  exact ⟨_, h, fun h1 => absurd h1 h0⟩
theorem GroupO.uni {B : Nat} {l : List Rec} {r : Value} {w' : World} (h : GroupO B l r w') : JX B l r w' := by
 unfold GroupO at h
 rw [← QP] at h
 split at h
 ·rename_i h0
  obtain ⟨out, v, rfl, hp, hs, hv⟩ := h
  have hok : l.all tD = true := by
   cases hok : l.all tD with
   | true => rfl
   | false => rw [jU, if_pos hok] at h0; cases h0
  have e := ME hok hp hs
  exact ⟨v, by rw [h0], fun _ => by rw [← e]; exact hv⟩
 ·rename_i h0
  exact ⟨_, h, fun h1 => absurd h1 h0⟩
theorem bM {o : List UInt8} {v : Value} (h : v.oneCell' = true) : (Value.agg #[aH o, v]).cells.all (·.oneCell') = true := by
 simp [Value.cells, h, show (aH o).oneCell' = true from rfl]
set_option maxHeartbeats 3000000 in
theorem EQ (o : List UInt8) (v : Value) (l : List Rec) (w : World) (hv : Sl 4 w v (aD l)) (hl : l.length ≤ 10000) (hd : ∀ r ∈ l, r.data.length ≤ 4611686018427387904) : Calls Tryz.prog 36 #[aH o, v] w (jI w (LoadU w.heap.size o l)) := by
 have hb : ∀ s ∈ bH l, s.data.length ≤ 1000000 := fun s hs => by have := pS l s hs; omega
 have hd2 : ∀ s ∈ bH l, ∀ d ∈ s.data, d.length ≤ 4611686018427387904 := fun s hs d hd3 => by
  obtain ⟨r, hr, rfl⟩ := mY hs hd3
  exact hd r hr
 go_enter Tryz.func36, Tryz.ntmps36
 refine_lift hY fun _ _ => ?_
 refine aG (z := aN) rfl (by decide +kernel) ?_
 intro w1 x1 s1 h1
 refine aA ?_
 have hv1 := hv.ext x1
 refine_lift bX fun _ _ => ?_
 refine aL (enters_of Tryz.func85 rfl rfl) rfl rfl (UQ v l _ hv1 hl) ?_
 intro r w2 x2 hr
 obtain ⟨y, rfl, hy⟩ := hr.uni
 clear hr
 have h2 := x2.at h1
 have hx2 := x1.trans x2
 by_cases hE : jU l = 0
 ·have hy := hy hE
  have hLE : dZ o l = aW (fold o) (bH l) := by rw [dZ, if_pos hE]
  rw [hE]
  obtain ⟨ya, yn, yc, hys⟩ : ∃ a n c, y = .slice a n c := by obtain ⟨css, h, _⟩ := hy; exact h.slf
  refine_lift bX fun _ _ => ?_
  refine aB (enters_of Tryz.func62 rfl rfl) rfl rfl (LQ o _) ?_; intro w3 x3; refine aA ?_
  have h3 := x3.at h2
  have hx3 := hx2.trans x3
  have hy3 := hy.ext x3
  refine_lift aR ?_
  refine aQ (v := .agg #[aH (fold o), y]) rfl (Runs.build (vals := [(0, aH (fold o)), (1, y)]) rfl (by rw [hys]; kernel_rfl)) ?_
  refine aA ?_
  refine aG (z := aN) rfl (by decide +kernel) ?_
  intro w4 x4 s4 h4
  refine aA ?_
  have hy1 : y.oneCell' = true := by rw [hys]; rfl
  refine aC (v := .agg #[aH (fold o), y]) rfl rfl rfl h4 (show aO Tryz.prog 25 2 = true by decide +kernel) rfl (bM hy1) ?_
  intro w5 p5
  have x5 : Ext w3 w5 := x4.move p5.mv (by rintro k ⟨⟩; exact Nat.le_refl _)
  have h5 := aE (cs := [aH (fold o), y]) p5.this
  have hx5 := hx3.trans x5
  have hy5 := hy3.ext x5
  have hz5 := x5.at h3
  clear p5 h4 x4
  refine_lift gO fun _ _ _ _ => ?_
  refine aB (enters_of Tryz.func34 rfl rfl) rfl rfl (tG (fold o) y (bH l) _ hy5.sets hb) ?_; intro w6 x6; refine aA ?_
  have h6 := h5.ext x6
  have hx6 := hx5.trans x6
  have hy6 := hy5.ext x6
  have hz6 := x6.at hz5
  refine_lift wT (fun _ _ _ => ?_) (fun _ _ _ => ?_)
  ·have q : ¬ aW (fold o) (bH l) = 0 := by simpa using (by assumption : (!decide (aW (fold o) (bH l) = 0)) = true)
   refine aQ (v := .agg aN.toArray) rfl (Runs.build0 (by kernel_rfl)) ?_
   refine aA ?_
   refine_lift aR ?_
   refine aC (v := .agg aN.toArray) rfl rfl rfl hz6 (by decide +kernel) rfl (by decide +kernel) ?_
   intro w7 p7
   have x7 : Ext w w7 := hx6.move p7.mv (by rintro k ⟨⟩; exact Nat.le_refl _)
   refine_lift aR ?_
   refine bodyPost_ret (aF (cs := aN) rfl rfl p7.this (by decide +kernel)) rfl ⟨_, rfl, x7, ?_⟩
   exact LoadU.bad hLE q
  ·have q : aW (fold o) (bH l) = 0 := by simpa using (by assumption : (!decide (aW (fold o) (bH l) = 0)) = false)
   refine aC (v := .agg #[aH (fold o), y]) rfl rfl rfl hz6 (show aO Tryz.prog 25 2 = true by decide +kernel) rfl (bM hy1) ?_
   intro w7 p7
   have x7 : Ext w w7 := hx6.move p7.mv (by rintro k ⟨⟩; exact Nat.le_refl _)
   have hy7 := hy6.put p7 (by have := s1; omega)
   refine_lift aR ?_
   refine bodyPost_ret (aF (cs := [aH (fold o), y]) rfl rfl p7.this (show dQ Tryz.prog 25 2 = true by decide +kernel)) rfl ⟨_, rfl, x7, ?_⟩
   exact LoadU.good (by rw [hLE, q]) (hy7.weaken x1.size)
 ·have hLE : dZ o l = jU l := by rw [dZ, if_neg hE]
  refine_lift qE (fun _ _ _ => ?_) (fun _ _ _ _ _ => ?_)
  ·refine aQ (v := .agg aN.toArray) rfl (Runs.build0 (by kernel_rfl)) ?_
   refine aA ?_
   refine_lift aR ?_
   refine aC (v := .agg aN.toArray) rfl rfl rfl h2 (by decide +kernel) rfl (by decide +kernel) ?_
   intro w3 p3
   have x3 : Ext w w3 := hx2.move p3.mv (by rintro k ⟨⟩; exact Nat.le_refl _)
   refine_lift aR ?_
   refine bodyPost_ret (aF (cs := aN) rfl rfl p3.this (by decide +kernel)) rfl ⟨_, rfl, x3, ?_⟩
   exact LoadU.bad hLE hE
  ·exact absurd (by assumption : (!decide (jU l = 0)) = false) (by simp [hE])
set_option maxHeartbeats 3000000 in
theorem FU (o : List UInt8) (v : Value) (l : List Rec) (w : World) (hv : Sl 4 w v (aD l)) (hl : l.length ≤ 10000) (hd : ∀ r ∈ l, r.data.length ≤ 4611686018427387904) : Calls Tryz.prog 68 #[aH o, v] w (jI w (LoadU w.heap.size o l)) := by
 have hb : ∀ s ∈ bH l, s.data.length ≤ 1000000 := fun s hs => by have := pS l s hs; omega
 have hd2 : ∀ s ∈ bH l, ∀ d ∈ s.data, d.length ≤ 4611686018427387904 := fun s hs d hd3 => by
  obtain ⟨r, hr, rfl⟩ := mY hs hd3
  exact hd r hr
 go_enter Tryz.func68, Tryz.ntmps68
 refine_lift hY fun _ _ => ?_
 refine aG (z := aN) rfl (by decide +kernel) ?_
 intro w1 x1 s1 h1
 refine aA ?_
 have hv1 := hv.ext x1
 refine_lift bX fun _ _ => ?_
 refine aL (enters_of Tryz.func116 rfl rfl) rfl rfl (JV v l _ hv1 hl hd) ?_
 intro r w2 x2 hr
 obtain ⟨y, rfl, hy⟩ := hr.uni
 clear hr
 have h2 := x2.at h1
 have hx2 := x1.trans x2
 by_cases hE : jU l = 0
 ·have hy := hy hE
  have hLE : dZ o l = aW (fold o) (bH l) := by rw [dZ, if_pos hE]
  rw [hE]
  obtain ⟨ya, yn, yc, hys⟩ : ∃ a n c, y = .slice a n c := by obtain ⟨css, h, _⟩ := hy; exact h.slf
  refine_lift bX fun _ _ => ?_
  refine aB (enters_of Tryz.func67 rfl rfl) rfl rfl (gE o _) ?_; intro w3 x3; refine aA ?_
  have h3 := x3.at h2
  have hx3 := hx2.trans x3
  have hy3 := hy.ext x3
  refine_lift aR ?_
  refine aQ (v := .agg #[aH (fold o), y]) rfl (Runs.build (vals := [(0, aH (fold o)), (1, y)]) rfl (by rw [hys]; kernel_rfl)) ?_
  refine aA ?_
  refine aG (z := aN) rfl (by decide +kernel) ?_
  intro w4 x4 s4 h4
  refine aA ?_
  have hy1 : y.oneCell' = true := by rw [hys]; rfl
  refine aC (v := .agg #[aH (fold o), y]) rfl rfl rfl h4 (show aO Tryz.prog 25 2 = true by decide +kernel) rfl (bM hy1) ?_
  intro w5 p5
  have x5 : Ext w3 w5 := x4.move p5.mv (by rintro k ⟨⟩; exact Nat.le_refl _)
  have h5 := aE (cs := [aH (fold o), y]) p5.this
  have hx5 := hx3.trans x5
  have hy5 := hy3.ext x5
  have hz5 := x5.at h3
  clear p5 h4 x4
  refine_lift bX fun _ _ => ?_
  refine aB (enters_of Tryz.func41 rfl rfl) rfl rfl (CF (fold o) y (bH l) _ hy5.sets hb hd2) ?_; intro w6 x6; refine aA ?_
  have h6 := h5.ext x6
  have hx6 := hx5.trans x6
  have hy6 := hy5.ext x6
  have hz6 := x6.at hz5
  refine_lift qE (fun _ _ _ => ?_) (fun _ _ _ _ _ => ?_)
  ·have q : ¬ aW (fold o) (bH l) = 0 := by simpa using (by assumption : (!decide (aW (fold o) (bH l) = 0)) = true)
   refine aQ (v := .agg aN.toArray) rfl (Runs.build0 (by kernel_rfl)) ?_
   refine aA ?_
   refine_lift aR ?_
   refine aC (v := .agg aN.toArray) rfl rfl rfl hz6 (by decide +kernel) rfl (by decide +kernel) ?_
   intro w7 p7
   have x7 : Ext w w7 := hx6.move p7.mv (by rintro k ⟨⟩; exact Nat.le_refl _)
   refine_lift aR ?_
   refine bodyPost_ret (aF (cs := aN) rfl rfl p7.this (by decide +kernel)) rfl ⟨_, rfl, x7, ?_⟩
   exact LoadU.bad hLE q
  ·have q : aW (fold o) (bH l) = 0 := by simpa using (by assumption : (!decide (aW (fold o) (bH l) = 0)) = false)
   refine aC (v := .agg #[aH (fold o), y]) rfl rfl rfl hz6 (show aO Tryz.prog 25 2 = true by decide +kernel) rfl (bM hy1) ?_
   intro w7 p7
   have x7 : Ext w w7 := hx6.move p7.mv (by rintro k ⟨⟩; exact Nat.le_refl _)
   have hy7 := hy6.put p7 (by have := s1; omega)
   refine_lift aR ?_
   refine bodyPost_ret (aF (cs := [aH (fold o), y]) rfl rfl p7.this (show dQ Tryz.prog 25 2 = true by decide +kernel)) rfl ⟨_, rfl, x7, ?_⟩
   exact LoadU.good (by rw [hLE, q]) (hy7.weaken x1.size)
 ·have hLE : dZ o l = jU l := by rw [dZ, if_neg hE]
  refine_lift qE (fun _ _ _ => ?_) (fun _ _ _ _ _ => ?_)
  ·refine aQ (v := .agg aN.toArray) rfl (Runs.build0 (by kernel_rfl)) ?_
   refine aA ?_
   refine_lift aR ?_
   refine aC (v := .agg aN.toArray) rfl rfl rfl h2 (by decide +kernel) rfl (by decide +kernel) ?_
   intro w3 p3
   have x3 : Ext w w3 := hx2.move p3.mv (by rintro k ⟨⟩; exact Nat.le_refl _)
   refine_lift aR ?_
   refine bodyPost_ret (aF (cs := aN) rfl rfl p3.this (by decide +kernel)) rfl ⟨_, rfl, x3, ?_⟩
   exact LoadU.bad hLE hE
  ·exact absurd (by assumption : (!decide (jU l = 0)) = false) (by simp [hE])
end Go.Proofs.X
