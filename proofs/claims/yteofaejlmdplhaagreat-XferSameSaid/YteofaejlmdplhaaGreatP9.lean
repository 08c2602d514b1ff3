/- Laws and walks that the proof of the statement is made of (part 9). -/
import Derived.Test.YteofaejlmdplhaaGreatP8
set_option linter.unusedSimpArgs false
set_option linter.unusedVariables false
namespace Go.Proofs.X
open Go.RowKit
set_option maxRecDepth 100000
theorem BY {s : RSet} (h : fC s = true) {i : Nat} (hi : i < s.data.length) : aW ⟨s.name, s.kind, s.ttl, s.data[i]⟩ = 0 := by
 simp only [fC, Bool.and_eq_true, List.all_eq_true] at h
 have := h.2 i (by simpa using hi)
 simp only [jZ, Bool.not_eq_true', Bool.or_eq_false_iff, decide_eq_false_iff_not, ne_eq, Decidable.not_not] at this
 have e : s.data.getD i [] = s.data[i] := by simp [hi]
 rw [e] at this
 exact this.1
theorem tV {r : Rec} (h : aW r = 0) : r.data.length ≤ 4000 ∧ fits r.kind r.data = true := by
 unfold aW at h
 split at h
 ·omega
 ·split at h
  ·omega
  ·rename_i h2
   simp only [not_or, Bool.not_eq_false] at h2
   exact ⟨by omega, h2.2.2.2.2.2⟩
def zR : SoaR := ⟨[], [], 0, 0, 0, 0, 0⟩
theorem EF : zR.cells = aV := rfl
def iH (o : List UInt8) (l : List RSet) : List UInt8 := ((fK l o 6).getD AK).data.getD 0 []
def aP (o : List UInt8) (l : List RSet) : SoaR := if aX o l = 0 then cO (iH o l) else zR
theorem GL {d : List UInt8} (h : (cD d).isSome = true) : cD d = some (cO d) := by
 unfold cD at *
 simp only at *
 split at h
 ·rename_i h1; rw [if_pos h1]
 ·cases h
theorem ZoneOk.soaSet {o : List UInt8} {l : List RSet} (h : ZoneOk o l) : ∃ s, fK l o 6 = some s ∧ s ∈ l ∧ s.name = o ∧ s.kind = 6 ∧ s.data = [iH o l] ∧ cD (iH o l) = some (cO (iH o l)) ∧ (iH o l).length ≤ 4000 := by
 obtain ⟨s, hs⟩ := Option.isSome_iff_exists.1 h.soa
 obtain ⟨h1, h2, h3⟩ := JL hs
 have hr := h.right s h1
 have hm := h.may h1
 have hl : s.data.length = 1 := by
  simp only [dK, Bool.and_eq_true, Bool.not_eq_true', h3] at hr
  have := hr.1.1.2
  simp only [decide_true, Bool.true_and, Bool.or_eq_false_iff, decide_eq_false_iff_not, ne_eq, Decidable.not_not] at this
  exact this.2
 have hd : s.data = [iH o l] := by
  have e : iH o l = s.data.getD 0 [] := by rw [iH, hs]; rfl
  rw [e]
  match s.data, hl with
  | [d], _ => rfl
 have hc := BY hm (i := 0) (by omega)
 obtain ⟨c1, c2⟩ := tV hc
 have e0 : s.data[0]'(by omega) = iH o l := by simp [hd]
 simp only [e0, h3] at c1 c2
 refine ⟨s, hs, h1, by rw [h2, h.fold], h3, hd, GL ?_, c1⟩
 simpa [fits] using c2
theorem dI (s : SoaR) : (Value.agg s.cells.toArray).cells.all (·.oneCell') = true := by
 simp [SoaR.cells, Value.cells, Value.oneCell', aI]
set_option maxHeartbeats 3000000 in
theorem pU (o : List UInt8) (v : Value) (l : List RSet) (w : World) (hv : SetsAt w v l) (hb : ∀ s ∈ l, s.data.length ≤ 1000000) (hd : ∀ s ∈ l, ∀ d ∈ s.data, d.length ≤ 4611686018427387904) : Calls Tryz.prog 31 #[.agg #[aI o, v]] w (bG w (.tuple #[.agg (aP o l).cells.toArray, .int .i64 (aX o l)])) := by
 go_enter Tryz.func31, Tryz.ntmps31
 refine_lift hY fun _ _ => ?_
 refine aZ (vs := [aI o, v]) rfl rfl ?_
 intro p w1 x1 hp
 refine aA ?_
 refine aG (z := aV) rfl (by decide +kernel) ?_
 intro w2 x2 s2 h2
 refine aA ?_
 have hx2 := x1.trans x2
 have hp2 := hp.ext x2
 have hv2 := hv.ext hx2
 refine_lift gV fun _ _ _ _ => ?_
 refine aB (enters_of Tryz.func34 rfl rfl) rfl rfl (rR o v l _ hv2 hb) ?_; intro w3 x3; refine aA ?_
 have hx3 := hx2.trans x3
 have hp3 := hp2.ext x3
 have hv3 := hv2.ext x3
 have h3 := x3.at h2
 refine_lift yS (fun _ _ _ => ?_) (fun _ _ _ => ?_)
 ·have q : ¬ aX o l = 0 := by simpa using (by assumption : (!decide (aX o l = 0)) = true)
  refine aQ (v := .agg aV.toArray) rfl (Runs.build0 (by kernel_rfl)) ?_
  refine aA ?_
  refine_lift aS ?_
  refine aC (v := .agg aV.toArray) rfl rfl rfl h3 (by decide +kernel) rfl (by decide +kernel) ?_
  intro w4 p4
  have x4 : Ext w w4 := hx3.move p4.mv (by rintro k ⟨⟩; exact x1.size)
  refine_lift aS ?_
  refine bodyPost_ret (aH (cs := aV) rfl rfl p4.this (by decide +kernel)) rfl ⟨?_, x4⟩
  rw [show aP o l = zR by rw [aP, if_neg q], EF]
  rfl
 ·have q : aX o l = 0 := by simpa using (by assumption : (!decide (aX o l = 0)) = false)
  obtain ⟨s, hf, hs, hn, hk, hdat, hpar, hlen⟩ := (gF q).soaSet
  have hZ : aP o l = cO (iH o l) := by rw [aP, if_pos q]
  have hP : ∀ w', Calls Tryz.prog 80 #[aI (iH o l)] w' (bG w' (.tuple #[.agg (cO (iH o l)).cells.toArray, .int .i64 0])) := fun w' => by
   have := UM (iH o l) w' (by omega)
   rw [hpar] at this
   exact this
  clear hpar
  generalize iH o l = dd at *
  generalize hgen : cO dd = ss at *
  refine aK (enters_of Tryz.func79 rfl rfl) rfl rfl (UO v l o 6 _ hv3 (fun s hs => by have := hb s hs; omega)) ?_
  intro r4 w4 x4 hr4
  rw [hf] at hr4
  obtain ⟨y, rfl, oy⟩ := hr4
  have hx4 := hx3.trans x4
  refine_lift aS ?_
  refine aG (z := gR) rfl (by decide +kernel) ?_
  intro w5 x5 s5 h5
  refine aA ?_
  refine aC (v := .agg #[aI s.name, .int .i64 s.kind, .int .i64 s.ttl, y]) rfl rfl rfl h5 (show aO Tryz.prog 119 4 = true by decide +kernel) rfl (iM rfl rfl rfl oy.one) ?_
  intro w6 p6
  have x6 : Ext w4 w6 := x5.move p6.mv (by rintro k ⟨⟩; exact Nat.le_refl _)
  have hp6 := aE (cs := [aI s.name, .int .i64 s.kind, .int .i64 s.ttl, y]) p6.this
  have hy6 := oy.sl.ext x6
  rw [hdat] at hy6
  have hx6 := hx4.trans x6
  have h6 := (x4.trans x6).at h3
  have hy0 := hy6.elem (i := 0) (e := [aI dd]) rfl
  clear p6 h5 x5
  have hl1 : (aN [dd]).length = 1 := rfl
  refine_lift bY fun _ _ => ?_
  refine aB (enters_of Tryz.func80 rfl rfl) rfl rfl (hP _) ?_; intro w7 x7; refine aA ?_
  have h7 := x7.at h6
  refine_lift aS ?_
  refine aC (v := .agg ss.cells.toArray) rfl rfl rfl h7 (show aO Tryz.prog 67 7 = true by decide +kernel) rfl (dI _) ?_
  intro w8 p8
  have x8 : Ext w w8 := (hx6.trans x7).move p8.mv (by rintro k ⟨⟩; exact x1.size)
  refine_lift aS ?_
  refine bodyPost_ret (aH (cs := ss.cells) rfl rfl p8.this (show dY Tryz.prog 67 7 = true by decide +kernel)) rfl ⟨?_, x8⟩
  rw [hZ, q]
  rfl
set_option maxHeartbeats 3000000 in
theorem sX (o : List UInt8) (v : Value) (l : List RSet) (w : World) (hv : SetsAt w v l) (hb : ∀ s ∈ l, s.data.length ≤ 1000000) (hd : ∀ s ∈ l, ∀ d ∈ s.data, d.length ≤ 4611686018427387904) : Calls Tryz.prog 47 #[.agg #[aI o, v]] w (bG w (.tuple #[.agg (aP o l).cells.toArray, .int .i64 (aX o l)])) := by
 go_enter Tryz.func47, Tryz.ntmps47
 refine_lift hY fun _ _ => ?_
 refine aZ (vs := [aI o, v]) rfl rfl ?_
 intro p w1 x1 hp
 refine aA ?_
 refine aG (z := aV) rfl (by decide +kernel) ?_
 intro w2 x2 s2 h2
 refine aA ?_
 have hx2 := x1.trans x2
 have hp2 := hp.ext x2
 have hv2 := hv.ext hx2
 refine_lift bY fun _ _ => ?_
 refine aB (enters_of Tryz.func41 rfl rfl) rfl rfl (DX o v l _ hv2 hb hd) ?_; intro w3 x3; refine aA ?_
 have hx3 := hx2.trans x3
 have hp3 := hp2.ext x3
 have hv3 := hv2.ext x3
 have h3 := x3.at h2
 refine_lift rG (fun _ _ _ => ?_) (fun _ _ _ _ _ => ?_)
 ·have q : ¬ aX o l = 0 := by simpa using (by assumption : (!decide (aX o l = 0)) = true)
  refine aQ (v := .agg aV.toArray) rfl (Runs.build0 (by kernel_rfl)) ?_
  refine aA ?_
  refine_lift aS ?_
  refine aC (v := .agg aV.toArray) rfl rfl rfl h3 (by decide +kernel) rfl (by decide +kernel) ?_
  intro w4 p4
  have x4 : Ext w w4 := hx3.move p4.mv (by rintro k ⟨⟩; exact x1.size)
  refine_lift aS ?_
  refine bodyPost_ret (aH (cs := aV) rfl rfl p4.this (by decide +kernel)) rfl ⟨?_, x4⟩
  rw [show aP o l = zR by rw [aP, if_neg q], EF]
  rfl
 ·have q : aX o l = 0 := by simpa using (by assumption : (!decide (aX o l = 0)) = false)
  obtain ⟨s, hf, hs, hn, hk, hdat, hpar, hlen⟩ := (gF q).soaSet
  have hZ : aP o l = cO (iH o l) := by rw [aP, if_pos q]
  have hP : ∀ w', Calls Tryz.prog 98 #[aI (iH o l)] w' (bG w' (.tuple #[.agg (cO (iH o l)).cells.toArray, .int .i64 0])) := fun w' => by
   have := nO (iH o l) w' (by omega)
   rw [hpar] at this
   exact this
  clear hpar
  generalize iH o l = dd at *
  generalize hgen : cO dd = ss at *
  refine aK (enters_of Tryz.func95 rfl rfl) rfl rfl (HV v l o 6 _ hv3 hb) ?_
  intro r4 w4 x4 hr4
  rw [hf] at hr4
  obtain ⟨y, rfl, oy⟩ := hr4
  have hx4 := hx3.trans x4
  refine_lift aS ?_
  refine aG (z := gR) rfl (by decide +kernel) ?_
  intro w5 x5 s5 h5
  refine aA ?_
  refine aC (v := .agg #[aI s.name, .int .i64 s.kind, .int .i64 s.ttl, y]) rfl rfl rfl h5 (show aO Tryz.prog 119 4 = true by decide +kernel) rfl (iM rfl rfl rfl oy.one) ?_
  intro w6 p6
  have x6 : Ext w4 w6 := x5.move p6.mv (by rintro k ⟨⟩; exact Nat.le_refl _)
  have hp6 := aE (cs := [aI s.name, .int .i64 s.kind, .int .i64 s.ttl, y]) p6.this
  have hy6 := oy.sl.ext x6
  rw [hdat] at hy6
  have hx6 := hx4.trans x6
  have h6 := (x4.trans x6).at h3
  have hy0 := hy6.elem (i := 0) (e := [aI dd]) rfl
  clear p6 h5 x5
  have hl1 : (aN [dd]).length = 1 := rfl
  refine_lift bY fun _ _ => ?_
  refine aB (enters_of Tryz.func98 rfl rfl) rfl rfl (hP _) ?_; intro w7 x7; refine aA ?_
  have h7 := x7.at h6
  refine_lift aS ?_
  refine aC (v := .agg ss.cells.toArray) rfl rfl rfl h7 (show aO Tryz.prog 67 7 = true by decide +kernel) rfl (dI _) ?_
  intro w8 p8
  have x8 : Ext w w8 := (hx6.trans x7).move p8.mv (by rintro k ⟨⟩; exact x1.size)
  refine_lift aS ?_
  refine bodyPost_ret (aH (cs := ss.cells) rfl rfl p8.this (show dY Tryz.prog 67 7 = true by decide +kernel)) rfl ⟨?_, x8⟩
  rw [hZ, q]
  rfl
def eB (s : List UInt8) : List (List UInt8) → List (List UInt8)
 | [] => [s]
 | x :: l => if Op.bytesLess x s = true then x :: eB s l else if x = s then x :: l else s :: x :: l
theorem qR {s : List UInt8} : ∀ {l : List (List UInt8)} {k : Nat}, (∀ x ∈ l.take k, Op.bytesLess x s = true) → eB s l = l.take k ++ eB s (l.drop k)
 | l, 0, _ => by simp
 | [], k + 1, _ => by simp
 | x :: l, k + 1, h => by
   have h1 := h x (by simp)
   simp only [List.take_succ_cons, List.drop_succ_cons, List.cons_append]
   rw [eB, if_pos h1, qR (k := k) (fun y hy => h y (by simp [hy]))]
theorem sY (s : List UInt8) : ∀ l : List (List UInt8), (eB s l).length ≤ l.length + 1
 | [] => by simp [eB]
 | x :: l => by
   rw [eB]
   split
   ·have := sY s l; simp; omega
   ·split <;> simp
theorem wP (l : List (List UInt8)) : ∀ f ∈ aN l, ∀ u ∈ f, u.oneCell' = true := by
 intro f hf u hu
 obtain ⟨x, _, rfl⟩ := List.mem_map.1 hf
 simp only [List.mem_singleton] at hu
 subst hu; rfl
set_option maxHeartbeats 6000000 in
theorem OI (v : Value) (l : List (List UInt8)) (s : List UInt8) (w : World) (hv : Sl 1 w v (aN l)) (hl : l.length ≤ 100000) : Calls Tryz.prog 199 #[v, aI s] w (jE w fun r w' => (r = v ∧ eB s l = l) ∨ Own w.heap.size 1 9 w' r (aN (eB s l))) := by
 have hlen := aR l
 go_enter Tryz.func199, Tryz.ntmps199
 refine_lift kL ?_; intro _ _ _
 go_loopw [5, 6] (fun o i wr => ∃ k : Nat, k ≤ l.length ∧ i = .int .i64 k ∧ Ext w wr ∧ Own w.heap.size 1 9 wr o (aN (l.take k)) ∧ ∀ x ∈ l.take k, Op.bytesLess x s = true) (fun _ i _ => l.length - (intOf i).toNat)
 case atStart => exact ⟨0, Nat.zero_le _, rfl, Ext.refl _, Own.nil _ _ _ _, by simp⟩
 case round =>
  obtain ⟨k, hk, rfl, hx, ho, hall⟩ := hrel
  have hv1 := hv.ext hx
  have htx := qR hall
  by_cases hlt : k < l.length
  ·have hp := hv1.elem (eA hlt)
   have hd : l.drop k = l[k] :: l.drop (k + 1) := List.drop_eq_getElem_cons hlt
   rw [hd, eB] at htx
   (repeat' first | ((with_reducible refine cY ?_); go_step) | ((with_reducible refine bR ?_); first | refine fM ?_ | (refine dN ?_ ?_ <;> intro hc)) | fail)
   all_goals try (exfalso; omega)
   ·have hb := ‹Op.bytesLess l[k] s = true›
    refine FS [aI l[k]] hx ho (by rw [aR]; simp; omega) ?_
    intro s2 v2 w1 w2 _ _ x2 o2
    refine aA ?_
    refine_lift aS ?_
    refine ⟨⟨k + 1, by omega, by go_num, x2, ?_, ?_⟩, by simp [intOf]; omega⟩
    ·rw [show aN (l.take (k + 1)) = aN (l.take k) ++ [[aI l[k]]] by rw [aN, aN, eS hlt]]
     exact o2
    ·intro x hm
     rw [List.take_add_one, List.getElem?_eq_getElem hlt] at hm
     simp only [Option.toList_some, List.mem_append, List.mem_singleton] at hm
     rcases hm with hm | rfl
     ·exact hall x hm
     ·exact hb
   ·have hb := ‹Op.bytesLess l[k] s = false›
    have he := ‹l[k] = s›
    rw [hb, if_neg (by simp), if_pos he, ← hd, List.take_append_drop] at htx
    go_ret
    exact ⟨_, rfl, hx, .inl ⟨rfl, htx⟩⟩
   ·have hb := ‹Op.bytesLess l[k] s = false›
    have he := ‹¬l[k] = s›
    rw [hb, if_neg (by simp), if_neg he, ← hd] at htx
    refine FS [aI s] hx ho (by rw [aR]; simp; omega) ?_
    intro s2 v2 w1 w2 xa _ x2 o2
    refine aA ?_
    have hv3 := (hv.ext x2)
    refine_lift bY fun _ _ => ?_
    have hcut := hv3.cut (m := k) (n := (aN l).length) (by omega) (Nat.le_refl _)
    have e : (((aN l).take (aN l).length).drop k) = aN (l.drop k) := by rw [List.take_length]; simp [aN]
    rw [e] at hcut
    refine cP (B := w.heap.size) rfl o2 rfl hcut (wP _) x2.size (by simp only [List.length_append, aR, List.length_take, List.length_drop, List.length_cons, List.length_nil]; omega) ?_
    intro v3 w3 o3 m3 _
    refine aA ?_
    have x3 := o2.mvx m3 x2 (Nat.le_refl _)
    refine_lift aS ?_
    go_ret
    refine ⟨_, rfl, x3, .inr ?_⟩
    rw [htx]
    simpa [aN] using o3
  ·have : k = l.length := by omega
   subst this
   rw [List.drop_length, List.take_length, eB] at htx
   rw [List.take_length] at ho
   (repeat' first | ((with_reducible refine cY ?_); go_step) | ((with_reducible refine bR ?_); first | refine fM ?_ | (refine dN ?_ ?_ <;> intro hc)) | fail)
   all_goals try (exfalso; omega)
   refine FS [aI s] hx ho (by rw [aR]; omega) ?_
   intro s2 v2 w1 w2 xa _ x2 o2
   refine aA ?_
   have hv3 := (hv.ext x2)
   refine_lift bY fun _ _ => ?_
   have hcut := hv3.cut (m := l.length) (n := (aN l).length) (by omega) (Nat.le_refl _)
   have e : (((aN l).take (aN l).length).drop l.length) = aN [] := by rw [List.take_length]; simp [aN]
   rw [e] at hcut
   refine cP (B := w.heap.size) rfl o2 rfl hcut (wP _) x2.size (by simp only [List.length_append, aR, List.length_take, List.length_drop, List.length_cons, List.length_nil]; omega) ?_
   intro v3 w3 o3 m3 _
   refine aA ?_
   have x3 := o2.mvx m3 x2 (Nat.le_refl _)
   refine_lift aS ?_
   go_ret
   refine ⟨_, rfl, x3, .inr ?_⟩
   rw [htx]
   simpa [aN] using o3
def bN (r : Rec) : RSet := ⟨fold r.name, r.kind, r.ttl, [r.data]⟩
def fD (r : Rec) : List RSet → List RSet
 | [] => [bN r]
 | g :: gs => if dS g (bN r) = true then g :: fD r gs else if dS (bN r) g = true then bN r :: g :: gs else ⟨fold r.name, r.kind, min r.ttl g.ttl, eB r.data g.data⟩ :: gs
theorem sZ {r : Rec} : ∀ {l : List RSet} {k : Nat}, (∀ g ∈ l.take k, dS g (bN r) = true) → fD r l = l.take k ++ fD r (l.drop k)
 | l, 0, _ => by simp
 | [], k + 1, _ => by simp
 | x :: l, k + 1, h => by
   have h1 := h x (by simp)
   simp only [List.take_succ_cons, List.drop_succ_cons, List.cons_append]
   rw [fD, if_pos h1, sZ (k := k) (fun y hy => h y (by simp [hy]))]
set_option maxHeartbeats 6000000 in
theorem QX {B : Nat} (v : Value) (l : List RSet) (r : Rec) (w : World) (hv : SetsO B w v l) (hB : B ≤ w.heap.size) (hl : l.length ≤ 100000) (hd : ∀ s ∈ l, s.data.length ≤ 100000) :
 Calls Tryz.prog 172 #[v, .agg #[aI r.name, .int .i64 r.kind, .int .i64 r.ttl, aI r.data]] w (jE w fun u w' => SetsO B w' u (fD r l)) := by
 obtain ⟨css, hv1, hvf, hcs, hcf⟩ := hv
 have hcl := hcs.len
 go_enter Tryz.func172, Tryz.ntmps172
 refine_lift uL ?_; intro _ _ _
 refine aZ (vs := Rec.cells r) rfl rfl ?_
 intro p w1 x1 hp
 refine aA ?_
 have hp : Pts w1 p [aI r.name, .int .i64 r.kind, .int .i64 r.ttl, aI r.data] := hp
 refine_lift bY fun _ _ => ?_
 refine cC (S := fun w' => Ext w1 w') (by decide +kernel) ?_
 intro w2 x2 hh2
 refine tk 0 ?_; refine aA ?_; refine tk 1 ?_; refine aA ?_; refine tk 3 ?_; refine aA ?_; refine tk 4 ?_; refine aA ?_; refine tk 5 ?_; refine aA ?_; refine tk 6 ?_; refine aA ?_; refine tk 7 ?_; refine aA ?_; refine tk 8 ?_; refine aA ?_
 apply TA (F := fun (vS : Value) (b : Nat) w' => Ext w1 w' ∧ w1.heap.size ≤ b ∧ w'.heap[b]? = some (.cells gR.toArray 119 (0, 0)) ∧ Own w1.heap.size 1 9 w' vS ([aI r.data].map (·.cells.toList)))
 ·intro hG
  have hx0 := x2
  have hx : Ext w2 w2 := Ext.refl _
  have hz12 := x2.size
  refine IY (i := 2) (j := 9) (k := 11) (by decide +kernel) rfl rfl rfl rfl ?_ ?_ ?_
  ·refine aB (enters_of Tryz.func67 rfl rfl) rfl rfl (gM r.name _) ?_
   intro w_1 x_1
   have hx := hx.trans x_1
   refine aA ?_
   refine aJ ⟨hx0.trans hx, ?_⟩
   refine fJ (i := 9) (j := 11) (by decide +kernel) rfl rfl rfl ?_ ?_
   ·refine bZ (e := 9) (k := 1) (bytes := 16) (xs := [aI r.data]) rfl rfl rfl (by simp [aI, Value.cells]) (by decide +kernel) (by simp) ?_
    intro vS w_4 x_4 _ _ hs
    have hs := hs.weaken (Nat.le_trans hz12 (by have := hx.size; omega))
    have hx := hx.trans x_4
    refine aA ?_
    refine aJ ⟨hx0.trans hx, ?_⟩
    refine bP (i := 10) (v := .agg #[aI (fold r.name), .int .i64 r.kind, .int .i64 r.ttl, vS]) rfl rfl (by decide +kernel) (by decide +kernel) (by decide +kernel) rfl (hx0.trans hx) (fun w' _ => Runs.build rfl (by obtain ⟨_, _, _, rfl⟩ := hs.sl.slf; kernel_rfl)) (fun _ _ _ h => h) ?_; refine aA ?_
    refine aT (i := 11) (by decide +kernel) rfl rfl ?_
    refine aG (z := gR) rfl (by decide +kernel) ?_
    intro w_6 x_6 s_6 ha
    have hb := hx.size
    have hx := hx.trans x_6
    have hs := hs.ext x_6
    generalize hbE : w_4.heap.size = b at *
    refine aA ?_
    refine aJ ⟨hx0.trans hx, ?_⟩
    exact hG vS b _ ⟨hx0.trans hx, by omega, ha, hs⟩
   ·refine aG (z := gR) rfl (by decide +kernel) ?_
    intro w_5 x_5 s_5 ha
    have hb := hx.size
    have hx := hx.trans x_5
    generalize hbE : w_1.heap.size = b at *
    refine aA ?_
    refine aJ ⟨hx0.trans hx, ?_⟩
    refine aT (i := 9) (by decide +kernel) rfl rfl ?_
    refine bZ (e := 9) (k := 1) (bytes := 16) (xs := [aI r.data]) rfl rfl rfl (by simp [aI, Value.cells]) (by decide +kernel) (by simp) ?_
    intro vS w_7 x_7 _ _ hs
    have hs := hs.weaken (Nat.le_trans hz12 (by have := hx.size; omega))
    have hx := hx.trans x_7
    have ha := x_7.at ha
    refine aA ?_
    refine aJ ⟨hx0.trans hx, ?_⟩
    refine bP (i := 10) (v := .agg #[aI (fold r.name), .int .i64 r.kind, .int .i64 r.ttl, vS]) rfl rfl (by decide +kernel) (by decide +kernel) (by decide +kernel) rfl (hx0.trans hx) (fun w' _ => Runs.build rfl (by obtain ⟨_, _, _, rfl⟩ := hs.sl.slf; kernel_rfl)) (fun _ _ _ h => h) ?_; refine aA ?_
    exact hG vS b _ ⟨hx0.trans hx, by omega, ha, hs⟩
  ·refine bZ (e := 9) (k := 1) (bytes := 16) (xs := [aI r.data]) rfl rfl rfl (by simp [aI, Value.cells]) (by decide +kernel) (by simp) ?_
   intro vS w_2 x_2 _ _ hs
   have hs := hs.weaken (Nat.le_trans hz12 (by have := hx.size; omega))
   have hx := hx.trans x_2
   refine aA ?_
   refine aJ ⟨hx0.trans hx, ?_⟩
   refine fJ (i := 2) (j := 11) (by decide +kernel) rfl rfl rfl ?_ ?_
   ·refine aB (enters_of Tryz.func67 rfl rfl) rfl rfl (gM r.name _) ?_
    intro w_8 x_8
    have hx := hx.trans x_8
    have hs := hs.ext x_8
    refine aA ?_
    refine aJ ⟨hx0.trans hx, ?_⟩
    refine bP (i := 10) (v := .agg #[aI (fold r.name), .int .i64 r.kind, .int .i64 r.ttl, vS]) rfl rfl (by decide +kernel) (by decide +kernel) (by decide +kernel) rfl (hx0.trans hx) (fun w' _ => Runs.build rfl (by obtain ⟨_, _, _, rfl⟩ := hs.sl.slf; kernel_rfl)) (fun _ _ _ h => h) ?_; refine aA ?_
    refine aT (i := 11) (by decide +kernel) rfl rfl ?_
    refine aG (z := gR) rfl (by decide +kernel) ?_
    intro w_10 x_10 s_10 ha
    have hb := hx.size
    have hx := hx.trans x_10
    have hs := hs.ext x_10
    generalize hbE : w_8.heap.size = b at *
    refine aA ?_
    refine aJ ⟨hx0.trans hx, ?_⟩
    exact hG vS b _ ⟨hx0.trans hx, by omega, ha, hs⟩
   ·refine aG (z := gR) rfl (by decide +kernel) ?_
    intro w_9 x_9 s_9 ha
    have hb := hx.size
    have hx := hx.trans x_9
    have hs := hs.ext x_9
    generalize hbE : w_2.heap.size = b at *
    refine aA ?_
    refine aJ ⟨hx0.trans hx, ?_⟩
    refine aT (i := 2) (by decide +kernel) rfl rfl ?_
    refine aB (enters_of Tryz.func67 rfl rfl) rfl rfl (gM r.name _) ?_
    intro w_11 x_11
    have hx := hx.trans x_11
    have hs := hs.ext x_11
    have ha := x_11.at ha
    refine aA ?_
    refine aJ ⟨hx0.trans hx, ?_⟩
    refine bP (i := 10) (v := .agg #[aI (fold r.name), .int .i64 r.kind, .int .i64 r.ttl, vS]) rfl rfl (by decide +kernel) (by decide +kernel) (by decide +kernel) rfl (hx0.trans hx) (fun w' _ => Runs.build rfl (by obtain ⟨_, _, _, rfl⟩ := hs.sl.slf; kernel_rfl)) (fun _ _ _ h => h) ?_; refine aA ?_
    exact hG vS b _ ⟨hx0.trans hx, by omega, ha, hs⟩
  ·refine aG (z := gR) rfl (by decide +kernel) ?_
   intro w_3 x_3 s_3 ha
   have hb := hx.size
   have hx := hx.trans x_3
   generalize hbE : w2.heap.size = b at *
   refine aA ?_
   refine aJ ⟨hx0.trans hx, ?_⟩
   refine fJ (i := 2) (j := 9) (by decide +kernel) rfl rfl rfl ?_ ?_
   ·refine aB (enters_of Tryz.func67 rfl rfl) rfl rfl (gM r.name _) ?_
    intro w_12 x_12
    have hx := hx.trans x_12
    have ha := x_12.at ha
    refine aA ?_
    refine aJ ⟨hx0.trans hx, ?_⟩
    refine aT (i := 9) (by decide +kernel) rfl rfl ?_
    refine bZ (e := 9) (k := 1) (bytes := 16) (xs := [aI r.data]) rfl rfl rfl (by simp [aI, Value.cells]) (by decide +kernel) (by simp) ?_
    intro vS w_14 x_14 _ _ hs
    have hs := hs.weaken (Nat.le_trans hz12 (by have := hx.size; omega))
    have hx := hx.trans x_14
    have ha := x_14.at ha
    refine aA ?_
    refine aJ ⟨hx0.trans hx, ?_⟩
    refine bP (i := 10) (v := .agg #[aI (fold r.name), .int .i64 r.kind, .int .i64 r.ttl, vS]) rfl rfl (by decide +kernel) (by decide +kernel) (by decide +kernel) rfl (hx0.trans hx) (fun w' _ => Runs.build rfl (by obtain ⟨_, _, _, rfl⟩ := hs.sl.slf; kernel_rfl)) (fun _ _ _ h => h) ?_; refine aA ?_
    exact hG vS b _ ⟨hx0.trans hx, by omega, ha, hs⟩
   ·refine bZ (e := 9) (k := 1) (bytes := 16) (xs := [aI r.data]) rfl rfl rfl (by simp [aI, Value.cells]) (by decide +kernel) (by simp) ?_
    intro vS w_13 x_13 _ _ hs
    have hs := hs.weaken (Nat.le_trans hz12 (by have := hx.size; omega))
    have hx := hx.trans x_13
    have ha := x_13.at ha
    refine aA ?_
    refine aJ ⟨hx0.trans hx, ?_⟩
    refine aT (i := 2) (by decide +kernel) rfl rfl ?_
    refine aB (enters_of Tryz.func67 rfl rfl) rfl rfl (gM r.name _) ?_
    intro w_15 x_15
    have hx := hx.trans x_15
    have hs := hs.ext x_15
    have ha := x_15.at ha
    refine aA ?_
    refine aJ ⟨hx0.trans hx, ?_⟩
    refine bP (i := 10) (v := .agg #[aI (fold r.name), .int .i64 r.kind, .int .i64 r.ttl, vS]) rfl rfl (by decide +kernel) (by decide +kernel) (by decide +kernel) rfl (hx0.trans hx) (fun w' _ => Runs.build rfl (by obtain ⟨_, _, _, rfl⟩ := hs.sl.slf; kernel_rfl)) (fun _ _ _ h => h) ?_; refine aA ?_
    exact hG vS b _ ⟨hx0.trans hx, by omega, ha, hs⟩
 ·intro vS b w3 hF
  obtain ⟨x3, hb, h3, hs3⟩ := hF
  have hs3 : Own w1.heap.size 1 9 w3 vS (aN [r.data]) := by simpa [aN, Value.cells, aI] using hs3
  have x13 : Ext w w3 := x1.trans x3
  have s1 := x1.size
  refine aT (i := 12) (by decide +kernel) rfl rfl ?_
  refine aC (v := .agg #[aI (fold r.name), .int .i64 r.kind, .int .i64 r.ttl, vS]) rfl rfl rfl h3 (show aO Tryz.prog 119 4 = true by decide +kernel) rfl (iM rfl rfl rfl hs3.sl.one) ?_
  intro w4 p4
  have x14 : Ext w1 w4 := x3.move p4.mv (by rintro k ⟨⟩; exact hb)
  have x4 : Ext w w4 := x13.move p4.mv (by rintro k ⟨⟩; omega)
  have hB4 : B ≤ w4.heap.size := Nat.le_trans hB x4.size
  have hf4 : From B vS := hs3.from' (Nat.le_trans hB s1)
  have hs4 : Sl 1 w4 vS (aN [r.data]) := (hs3.mv p4.mv (.inr (hs3.neBlock h3 (by decide)))).sl
  have h4 : w4.heap[b]? = some (.cells [aI (fold r.name), .int .i64 r.kind, .int .i64 r.ttl, vS].toArray 119 (0, 0)) := p4.this
  have hbz : b < w4.heap.size := (Array.getElem?_eq_some_iff.1 h4).1
  refine aJ ⟨x14, ?_⟩
  refine cB (by decide +kernel) ?_
  clear p4 h3 hs3 x3 x13
  refine_lift bY fun _ _ => ?_
  have hb4 := aE h4
  go_loopw [6, 7] (fun o i wr => ∃ k : Nat, k ≤ l.length ∧ i = .int .i64 k ∧ Ext w4 wr ∧ Own w4.heap.size 4 119 wr o (css.take k) ∧ ∀ g ∈ l.take k, dS g (bN r) = true) (fun _ i _ => l.length - (intOf i).toNat)
  case atStart => exact ⟨0, Nat.zero_le _, rfl, Ext.refl _, Own.nil _ _ _ _, by simp⟩
  case round =>
   obtain ⟨k, hk, rfl, hx, ho, hall⟩ := hrel
   have hxw := x4.trans hx
   have hvr := hv1.ext hxw
   have hcr := hcs.ext hxw
   have hbr := hb4.ext hx
   have hput := sZ hall
   by_cases hlt : k < l.length
   ·obtain ⟨x, hc1, hc2w⟩ := hcs.at' k _ (List.getElem?_eq_getElem hlt)
    have hc2 := hc2w.ext hxw
    have hdk := hd _ (List.getElem_mem hlt)
    have hp1 := hvr.elem hc1
    rw [List.drop_eq_getElem_cons hlt, fD] at hput
    have hah : ∀ w', Calls Tryz.prog 149 #[.agg #[aI l[k].name, .int .i64 l[k].kind, .int .i64 l[k].ttl, x], .agg #[aI (fold r.name), .int .i64 r.kind, .int .i64 r.ttl, vS]] w' (bG w' (.bool (dS l[k] (bN r)))) := fun w' => wL l[k] (bN r) x vS w'
    have hha : ∀ w', Calls Tryz.prog 149 #[.agg #[aI (fold r.name), .int .i64 r.kind, .int .i64 r.ttl, vS], .agg #[aI l[k].name, .int .i64 l[k].kind, .int .i64 l[k].ttl, x]] w' (bG w' (.bool (dS (bN r) l[k]))) := fun w' => wL (bN r) l[k] vS x w'
    refine_lift QL ?_; intro _ _ _ _ _
    refine bB (by decide +kernel) (by decide +kernel) ?_
    refine_lift dX ?_
    rw [show decide ((k : Int) < (css.length : Int)) = true by simp; omega]
    refine_lift dX ?_
    refine cA (enters_of Tryz.func149 rfl rfl) rfl rfl (fun w' _ => hah w') ?_
    refine aA ?_
    refine_lift dX ?_
    intro w5 x5
    cases ha : dS l[k] (bN r) with
    | true =>
     refine_lift bY fun _ _ => ?_
     have ho5 := ho.ext x5
     have hx5 := hx.trans x5
     refine FS [aI l[k].name, .int .i64 l[k].kind, .int .i64 l[k].ttl, x] hx5 ho5 (by rw [List.length_take]; omega) ?_ (by exact ⟨rfl, rfl, rfl, by intro u hu; simp only [List.mem_cons, List.not_mem_nil, or_false] at hu; rcases hu with rfl | rfl | rfl | rfl <;> first | rfl | exact hc2.one⟩)
     intro s6 v6 w6 w7 x6 _ x7 o7
     refine aA ?_
     refine_lift aS ?_
     refine ⟨⟨k + 1, by omega, by go_num, x7, ?_, ?_⟩, by simp [intOf]; omega⟩
     ·rw [List.take_add_one, hc1]
      exact o7
     ·intro g hg
      rw [List.take_add_one, List.getElem?_eq_getElem hlt] at hg
      simp only [Option.toList_some, List.mem_append, List.mem_singleton] at hg
      rcases hg with hg | rfl
      ·exact hall g hg
      ·exact ha
    | false =>
     rw [ha, if_neg (by simp)] at hput
     refine_lift gV fun _ _ _ _ => ?_
     have hp5 := hp1.ext x5
     have hv5 := hvr.ext x5
     have hb5 := hbr.ext x5
     refine bB (by decide +kernel) (by decide +kernel) ?_
     refine_lift dX ?_
     rw [show decide ((k : Int) < (css.length : Int)) = true by simp; omega]
     refine_lift dX ?_
     refine cA (enters_of Tryz.func149 rfl rfl) rfl rfl (fun w' _ => hha w') ?_
     refine aA ?_
     refine_lift dX ?_
     intro w6 x6
     have hx6 := (hx.trans x5).trans x6
     have ho6 := (ho.ext x5).ext x6
     cases hb2 : dS (bN r) l[k] with
     | true =>
      rw [hb2, if_pos rfl] at hput
      have hv6 := hv1.ext (x4.trans hx6)
      have hb6 := hb5.ext x6
      refine_lift kL fun _ _ _ => ?_
      refine FS [aI (fold r.name), .int .i64 r.kind, .int .i64 r.ttl, vS] hx6 ho6 (by rw [List.length_take]; omega) ?_ (by exact ⟨rfl, rfl, rfl, by intro u hu; simp only [List.mem_cons, List.not_mem_nil, or_false] at hu; rcases hu with rfl | rfl | rfl | rfl <;> first | rfl | exact hs4.one⟩)
      intro s7 v7 w7 w8 x7 _ x8 o8
      refine aA ?_
      have hv8 := hv1.ext (x4.trans x8)
      refine_lift bY fun _ _ => ?_
      have hcut := hv8.cut (m := k) (n := css.length) (by omega) (Nat.le_refl _)
      rw [List.take_length] at hcut
      have hc8 := hcs.ext (x4.trans x8)
      refine cP (B := w4.heap.size) rfl o8 rfl hcut ((hc8.drop k).cell) x8.size (by simp only [List.length_append, List.length_take, List.length_drop, List.length_cons, List.length_nil]; omega) ?_
      intro v9 w9 o9 m9 _
      refine aA ?_
      have x9 := o8.mvx m9 x8 (Nat.le_refl _)
      have hc9 := hcs.ext (x4.trans x9)
      refine_lift aS ?_
      go_ret
      refine ⟨_, rfl, x4.trans x9, ?_⟩
      rw [hput, show l.take k ++ bN r :: l[k] :: l.drop (k + 1) = l.take k ++ [bN r] ++ l.drop k by rw [List.drop_eq_getElem_cons hlt]; simp]
      exact ⟨_, o9.sl, o9.from' hB4, ((hc9.take k).append (SetsC.one (s := bN r) (hs4.ext x9))).append (hc9.drop k), ((hcf.take k).append (FromC.one hf4)).append (hcf.drop k)⟩
     | false =>
      rw [hb2, if_neg (by simp)] at hput
      have hb6 := hb5.ext x6
      have h6 := hx6.at h4
      have x16 := x14.trans hx6
      have hp6 := hp1.ext (x5.trans x6)
      have hv6 := hvr.ext (x5.trans x6)
      have hpp := hp.ext x16
      clear hah hha
      refine_lift kL fun _ _ _ => ?_
      refine cG 9 (Ext w6) (by decide +kernel) ?_
      intro w7 x7 _
      refine ⟨x7, ?_⟩
      refine eL 0 ?_; refine eL 1 ?_; refine eL 2 ?_; refine eL 3 ?_; refine eL 4 ?_; refine eL 5 ?_; refine eL 6 ?_; refine eL 7 ?_; refine eL 8 ?_
      refine bV (i := 9) (by decide +kernel) rfl rfl ?_
      refine dP (cs := [aI (fold r.name), .int .i64 r.kind, .int .i64 r.ttl, vS]) (x7.at h6) rfl rfl rfl (show 2 < 4 by omega) (by decide +kernel) rfl ?_
      intro w8 p8
      refine aJ ⟨cJ rfl, ?_⟩
      refine cZ (by decide +kernel) ?_
      have x18 : Ext w1 w8 := (x16.trans x7).move p8.mv (by rintro k ⟨⟩; exact hb)
      have h8 : w8.heap[b]? = some (.cells [aI (fold r.name), .int .i64 r.kind, .int .i64 (min r.ttl l[k].ttl), vS].toArray 119 (0, 0)) := p8.this
      have ho8 := (ho6.ext x7).put p8 hbz
      have hz8 : w6.heap.size ≤ w8.heap.size := Nat.le_trans x7.size (Nat.le_of_eq p8.size.symm)
      have hv8 := hv1.ext (x1.trans x18)
      have hp8 := hv8.elem hc1
      have hpp8 := hp.ext x18
      have hb8 := aE h8
      clear hb6 hb5 hbr hb4 hp6 hv6 hpp p8 h6 x7 hp5 hv5 hvr hp1
      refine_lift bY fun _ _ => ?_
      refine cG 9 (Ext w8) (by decide +kernel) ?_
      intro w9 x9 _
      refine ⟨x9, ?_⟩
      refine eL 0 ?_; refine eL 1 ?_; refine eL 2 ?_; refine eL 3 ?_; refine eL 4 ?_; refine eL 5 ?_; refine eL 6 ?_
      refine bV (i := 7) (by decide +kernel) rfl rfl ?_
      refine aK (enters_of Tryz.func199 rfl rfl) rfl rfl (OI x l[k].data r.data _ (hc2w.ext ((x1.trans x18).trans x9)) hdk) ?_
      intro y w10 x10 hy
      refine aA ?_
      have x1_10 := (x18.trans x9).trans x10
      refine aJ ⟨dF (x9.trans x10), ?_⟩
      refine bV (i := 8) (by decide +kernel) rfl rfl ?_
      refine_lift aS ?_
      refine ⟨dF (x9.trans x10), ?_⟩
      refine bV (i := 9) (by decide +kernel) rfl rfl ?_
      have hy1 : y.oneCell' = true := by
       rcases hy with ⟨rfl, _⟩ | hy
       ·exact hc2w.one
       ·exact hy.sl.one
      have h10 := (x9.trans x10).at h8
      refine dP (cs := [aI (fold r.name), .int .i64 r.kind, .int .i64 (min r.ttl l[k].ttl), vS]) h10 rfl rfl rfl (show 3 < 4 by omega) (by decide +kernel) hy1 ?_
      intro w11 p11
      refine aJ ⟨cJ rfl, ?_⟩
      refine cZ (by decide +kernel) ?_
      have x11 : Ext w w11 := x1.trans (x1_10.move p11.mv (by rintro k ⟨⟩; exact hb))
      have h11 : w11.heap[b]? = some (.cells [aI (fold r.name), .int .i64 r.kind, .int .i64 (min r.ttl l[k].ttl), y].toArray 119 (0, 0)) := p11.this
      have ho11 := (ho8.ext (x9.trans x10)).put p11 hbz
      have hz4 : w4.heap.size ≤ w11.heap.size := by
       have a1 := hx6.size
       have a2 := (x9.trans x10).size
       have a3 := p11.size
       omega
      have hz9 : b < w9.heap.size := by
       have a1 := hx6.size
       have a2 := x9.size
       omega
      have sy : (y = x ∧ eB r.data l[k].data = l[k].data) ∨ Own w9.heap.size 1 9 w11 y (aN (eB r.data l[k].data)) := by
       rcases hy with hy | hy
       ·exact .inl hy
       ·exact .inr (hy.put p11 hz9)
      have hfy : From B y := by
       rcases sy with ⟨rfl, _⟩ | sy
       ·exact hcf _ (List.mem_of_getElem? hc1) _ (by simp)
       ·exact sy.from' (by have a1 := hx6.size; have a2 := x9.size; omega)
      have hb11 := aE h11
      clear hb8 hp8 hpp8 p11 h10 h8 hv8
      refine_lift bY fun _ _ => ?_
      refine FS [aI (fold r.name), .int .i64 r.kind, .int .i64 (min r.ttl l[k].ttl), y] x11 ho11 (by rw [List.length_take]; omega) ?_ (by exact ⟨rfl, rfl, rfl, by intro u hu; simp only [List.mem_cons, List.not_mem_nil, or_false] at hu; rcases hu with rfl | rfl | rfl | rfl <;> first | rfl | exact hy1⟩) (hB := x4.size) (hBw := hz4)
      intro s12 v12 w12 w13 x12 m13 x13 o13
      refine aA ?_
      have hv13 := hv1.ext x13
      have sy13 : (y = x ∧ eB r.data l[k].data = l[k].data) ∨ Own w9.heap.size 1 9 w13 y (aN (eB r.data l[k].data)) := by
       rcases sy with sy | sy
       ·exact .inl sy
       ·exact .inr ((sy.ext x12).mv m13 ((sy.ext x12).ne (ho11.ext x12) (by decide)))
      refine_lift bY fun _ _ => ?_
      have hcut := hv13.cut (m := k + 1) (n := css.length) (by omega) (Nat.le_refl _)
      rw [List.take_length] at hcut
      have hc13 := hcs.ext x13
      refine cP (B := w4.heap.size) rfl o13 rfl hcut ((hc13.drop (k + 1)).cell) (Nat.le_trans hz4 (by have := x12.size; have := m13.size; omega)) (by simp only [List.length_append, List.length_take, List.length_drop, List.length_cons, List.length_nil]; omega) ?_
      intro v14 w14 o14 m14 _
      refine aA ?_
      have x14 := o13.mvx m14 x13 x4.size
      have hc14 := hcs.ext x14
      have sy14 : Sl 1 w14 y (aN (eB r.data l[k].data)) := by
       rcases sy13 with ⟨rfl, he⟩ | sy13
       ·rw [he]; exact hc2w.ext x14
       ·exact (sy13.mv m14 (sy13.ne o13 (by decide))).sl
      refine_lift aS ?_
      go_ret
      refine ⟨_, rfl, x14, ?_⟩
      rw [hput, show l.take k ++ ⟨fold r.name, r.kind, min r.ttl l[k].ttl, eB r.data l[k].data⟩ :: l.drop (k + 1) = l.take k ++ [⟨fold r.name, r.kind, min r.ttl l[k].ttl, eB r.data l[k].data⟩] ++ l.drop (k + 1) by simp]
      exact ⟨_, o14.sl, o14.from' hB4, ((hc14.take k).append (SetsC.one (s := ⟨fold r.name, r.kind, min r.ttl l[k].ttl, eB r.data l[k].data⟩) sy14)).append (hc14.drop (k + 1)), ((hcf.take k).append (FromC.one hfy)).append (hcf.drop (k + 1))⟩
   ·have : k = l.length := by omega
    subst this
    rw [List.drop_length, fD] at hput
    refine_lift QL ?_; intro _ _ _ _ _
    refine bB (by decide +kernel) (by decide +kernel) ?_
    refine_lift dX ?_
    rw [show decide ((l.length : Int) < (css.length : Int)) = false by simp; omega]
    refine_lift dX ?_
    intro w5 x5
    refine_lift gV fun _ _ _ _ => ?_
    have hv5 := hvr.ext x5
    have hb5 := hbr.ext x5
    refine bB (by decide +kernel) (by decide +kernel) ?_
    refine_lift dX ?_
    rw [show decide ((l.length : Int) < (css.length : Int)) = false by simp; omega]
    refine_lift dX ?_
    intro w6 x6
    have hx6 := (hx.trans x5).trans x6
    have ho6 := (ho.ext x5).ext x6
    have hb6 := hb5.ext x6
    refine_lift bY fun _ _ => ?_
    refine FS [aI (fold r.name), .int .i64 r.kind, .int .i64 r.ttl, vS] hx6 ho6 (by rw [List.length_take]; omega) ?_ (by exact ⟨rfl, rfl, rfl, by intro u hu; simp only [List.mem_cons, List.not_mem_nil, or_false] at hu; rcases hu with rfl | rfl | rfl | rfl <;> first | rfl | exact hs4.one⟩)
    intro s7 v7 w7 w8 x7 _ x8 o8
    refine aA ?_
    have hv8 := hv1.ext (x4.trans x8)
    refine_lift bY fun _ _ => ?_
    have hcut := hv8.cut (m := l.length) (n := css.length) (by omega) (Nat.le_refl _)
    rw [List.take_length] at hcut
    have hc8 := hcs.ext (x4.trans x8)
    refine cP (B := w4.heap.size) rfl o8 rfl hcut ((hc8.drop l.length).cell) x8.size (by simp only [List.length_append, List.length_take, List.length_drop, List.length_cons, List.length_nil]; omega) ?_
    intro v9 w9 o9 m9 _
    refine aA ?_
    have x9 := o8.mvx m9 x8 (Nat.le_refl _)
    have hc9 := hcs.ext (x4.trans x9)
    refine_lift aS ?_
    go_ret
    refine ⟨_, rfl, x4.trans x9, ?_⟩
    rw [hput, show l.take l.length ++ [bN r] = l.take l.length ++ [bN r] ++ l.drop l.length by simp]
    exact ⟨_, o9.sl, o9.from' hB4, ((hc9.take l.length).append (SetsC.one (s := bN r) (hs4.ext x9))).append (hc9.drop l.length), ((hcf.take l.length).append (FromC.one hf4)).append (hcf.drop l.length)⟩
def bC (l : List Rec) : List RSet := l.foldl (fun gs r => fD r gs) []
theorem jD {l : List Rec} {k : Nat} (h : k < l.length) : bC (l.take (k + 1)) = fD l[k] (bC (l.take k)) := by
 rw [bC, List.take_add_one, List.getElem?_eq_getElem h, Option.toList_some, List.foldl_append]
 rfl
theorem EG (r : Rec) : ∀ gs : List RSet, (fD r gs).length ≤ gs.length + 1
 | [] => by simp [fD]
 | g :: gs => by
   have := EG r gs
   rw [fD]
   split
   ·simp; omega
   ·split <;> simp
theorem AL (r : Rec) (n : Nat) : ∀ gs : List RSet, (∀ s ∈ gs, s.data.length ≤ n) → ∀ s ∈ fD r gs, s.data.length ≤ n + 1
 | [], _, s, h => by
   have : s = bN r := by simpa [fD] using h
   subst this; simp [bN]
 | g :: gs, hn, s, h => by
   have hg := hn g (by simp)
   have hn' : ∀ s ∈ gs, s.data.length ≤ n := fun s hs => hn s (by simp [hs])
   rw [fD] at h
   split at h
   ·rcases List.mem_cons.1 h with rfl | h
    ·omega
    ·exact AL r n gs hn' s h
   ·split at h
    ·rcases List.mem_cons.1 h with rfl | h
     ·simp [bN]
     ·have := hn s h; omega
    ·rcases List.mem_cons.1 h with rfl | h
     ·have := sY r.data g.data
      show (eB r.data g.data).length ≤ n + 1
      omega
     ·have := hn' s h; omega
theorem kV (l : List Rec) : ∀ k, k ≤ l.length → (bC (l.take k)).length ≤ k ∧ ∀ s ∈ bC (l.take k), s.data.length ≤ k
 | 0, _ => by simp [bC]
 | k + 1, h => by
   obtain ⟨h1, h2⟩ := kV l k (by omega)
   rw [jD (show k < l.length by omega)]
   have := EG (l[k]'(by omega)) (bC (l.take k))
   exact ⟨by omega, AL _ k _ h2⟩
def gK (l : List Rec) : Int := if l.all mT = false then 1 else if 200 < (bC l).length then 4 else if (bC l).any BR = true then 4 else 0
def RefR (B : Nat) (l : List Rec) (r : Value) (w' : World) : Prop := if gK l = 0 then ∃ v, r = .tuple #[v, .int .i64 0] ∧ SetsO B w' v (bC l) else r = .tuple #[.slice none 0 0, .int .i64 (gK l)]
set_option maxHeartbeats 6000000 in
theorem LU (v : Value) (l : List Rec) (w : World) (hv : Sl 4 w v (aD l)) (hl : l.length ≤ 10000) (hd : ∀ r ∈ l, r.data.length ≤ 4611686018427387904) : Calls Tryz.prog 116 #[v] w (jE w (RefR w.heap.size l)) := by
 have hlen := aL l
 go_enter Tryz.func116, Tryz.ntmps116
 refine_lift bY fun _ _ => ?_
 go_loopw [4] (fun i wr => ∃ k : Nat, k ≤ l.length ∧ i = .int .i64 k ∧ Ext w wr ∧ (l.take k).all mT = true) (fun i _ => l.length - (intOf i).toNat)
 case atStart => exact ⟨0, Nat.zero_le _, rfl, Ext.refl _, by simp⟩
 case round =>
  obtain ⟨k, hk, rfl, hx, hall⟩ := hrel
  have hvr := hv.ext hx
  by_cases hlt : k < l.length
  ·have hp := hvr.elem (cT hlt)
   refine_lift oM ?_; intro _ _ _ _ _ _
   refine aB (enters_of Tryz.func66 rfl rfl) rfl rfl (vZ l[k] _ (hd _ (List.getElem_mem hlt))) ?_; intro w2 x2; refine aA ?_
   refine_lift rF (fun _ => ?_) (fun _ => ?_)
   ·have hc := ‹(!decide (aW l[k] = 0)) = true›
    have hE : gK l = 1 := by
     have : l.all mT = false := iA hlt (by simp [mT] at hc ⊢; exact hc)
     rw [gK, if_pos this]
    go_ret2
    refine ⟨_, rfl, hx.trans x2, ?_⟩
    unfold RefR
    rw [hE, if_neg (by omega)]
    rfl
   ·have hc := ‹(!decide (aW l[k] = 0)) = false›
    exact ⟨⟨k + 1, by omega, by go_num, hx.trans x2, jB hlt hall (by simp [mT] at hc ⊢; exact hc)⟩, by simp [intOf]; omega⟩
  ·have : k = l.length := by omega
   subst this
   rw [List.take_length] at hall
   refine_lift kL fun _ _ _ => ?_
   go_loopw [5, 6] (fun o i wq => ∃ k : Nat, k ≤ l.length ∧ i = .int .i64 k ∧ Ext w wq ∧ SetsO w.heap.size wq o (bC (l.take k))) (fun _ i _ => l.length - (intOf i).toNat)
   case atStart => exact ⟨0, Nat.zero_le _, rfl, hx, SetsO.nil _ _⟩
   case round =>
    obtain ⟨k, hk, rfl, hxq, ho⟩ := hrel
    have hvq := hv.ext hxq
    by_cases hlt : k < l.length
    ·have hp := hvq.elem (cT hlt)
     obtain ⟨q1, q2⟩ := kV l k hk
     refine_lift gV ?_; intro _ _ _ _
     refine aK (enters_of Tryz.func172 rfl rfl) rfl rfl (QX u5 (bC (l.take k)) l[k] _ ho hxq.size (by omega) (fun s hs => by have := q2 s hs; omega)) ?_
     intro o2 w2 x2 ho2
     rw [← jD hlt] at ho2
     refine aA ?_
     refine_lift aS ?_
     exact ⟨⟨k + 1, by omega, by go_num, hxq.trans x2, ho2⟩, by simp [intOf]; omega⟩
    ·have : k = l.length := by omega
     subst this
     rw [List.take_length] at ho
     obtain ⟨css, hs1, hs2⟩ := ho.sets.rows
     have hsl := hs2.len
     refine_lift QK (fun _ _ _ _ => ?_) (fun _ _ _ _ => ?_)
     ·have h200 : 200 < (bC l).length := by omega
      have hE : gK l = 4 := by rw [gK, if_neg (by simp [hall]), if_pos h200]
      go_ret2
      refine ⟨_, rfl, hxq, ?_⟩
      unfold RefR
      rw [hE, if_neg (by omega)]
      rfl
     ·have h200 : ¬ 200 < (bC l).length := by omega
      go_loopw [7] (fun i w5 => ∃ k : Nat, k ≤ (bC l).length ∧ i = .int .i64 k ∧ Ext wr w5 ∧ ((bC l).take k).all (fun s => !BR s) = true) (fun i _ => (bC l).length - (intOf i).toNat)
      case atStart => exact ⟨0, Nat.zero_le _, rfl, Ext.refl _, by simp⟩
      case round =>
       obtain ⟨k, hk, rfl, hx5, hall5⟩ := hrel
       have hs5 := hs1.ext hx5
       by_cases hlt : k < (bC l).length
       ·obtain ⟨x, hc1, hc2⟩ := (hs2.ext hx5).at' k _ (List.getElem?_eq_getElem hlt)
        have hp := hs5.elem hc1
        have hdl := aR (bC l)[k].data
        refine_lift DK (fun _ _ => ?_) (fun _ _ _ _ => ?_)
        ·have hb : (fun s => !BR s) (bC l)[k] = false := by simp [BR]; omega
         have hE : gK l = 4 := by
          have hany : (bC l).any BR = true := List.any_eq_true.2 ⟨_, List.getElem_mem hlt, by simpa using hb⟩
          rw [gK, if_neg (by simp [hall]), if_neg h200, if_pos hany]
         go_ret2
         refine ⟨_, rfl, hxq.trans hx5, ?_⟩
         unfold RefR
         rw [hE, if_neg (by omega)]
         rfl
        ·exact ⟨⟨k + 1, by omega, by go_num, hx5, jB hlt hall5 (by simp [BR]; omega)⟩, by simp [intOf]; omega⟩
       ·have : k = (bC l).length := by omega
        subst this
        rw [List.take_length] at hall5
        have hE : gK l = 0 := by
         have hany : ¬ (bC l).any BR = true := by
          intro h
          obtain ⟨s, hs, hb⟩ := List.any_eq_true.1 h
          have := List.all_eq_true.1 hall5 s hs
          simp [hb] at this
         rw [gK, if_neg (by simp [hall]), if_neg h200, if_neg hany]
        refine_lift fP fun _ => ?_
        go_ret2
        refine ⟨_, rfl, hxq.trans hx5, ?_⟩
        unfold RefR
        rw [if_pos hE]
        exact ⟨_, rfl, ho.ext hx5⟩
theorem AM : ∀ {gs : List RSet} {r : Rec} {s : RSet}, tK gs → s ∈ dG gs r → (s ∈ gs ∧ bI s r = false) ∨ (∃ t ∈ gs, bI t r = true ∧ s = jI t r) ∨ ((∀ t ∈ gs, bI t r = false) ∧ s = ⟨fold r.name, r.kind, r.ttl, [r.data]⟩)
 | [], r, s, _, h => by
   right; right
   exact ⟨by simp, by simpa [dG] using h⟩
 | a :: l, r, s, hd, h => by
   obtain ⟨p1, p2⟩ := List.pairwise_cons.1 (gJ.1 hd)
   by_cases hm : bI a r = true
   ·simp only [dG, hm, if_true, List.mem_cons] at h
    rcases h with h | h
    ·exact .inr (.inl ⟨a, by simp, hm, h⟩)
    ·refine .inl ⟨by simp [h], ?_⟩
     cases hs : bI s r with
     | false => rfl
     | true =>
      exfalso
      simp only [bI, Bool.and_eq_true, decide_eq_true_eq] at hs hm
      exact p1 s h ⟨by rw [hm.1, hs.1], by rw [hm.2, hs.2]⟩
   ·have hm' : bI a r = false := by simpa using hm
    simp only [dG, hm', Bool.false_eq_true, if_false, List.mem_cons] at h
    rcases h with rfl | h
    ·exact .inl ⟨by simp, hm'⟩
    ·rcases AM (gJ.2 p2) h with ⟨h1, h2⟩ | ⟨t, h1, h2, h3⟩ | ⟨h1, h2⟩
     ·exact .inl ⟨by simp [h1], h2⟩
     ·exact .inr (.inl ⟨t, by simp [h1], h2, h3⟩)
     ·refine .inr (.inr ⟨?_, h2⟩)
      intro t ht
      rcases List.mem_cons.1 ht with rfl | ht
      ·exact hm'
      ·exact h1 t ht
structure Ch (L : List Rec) (s : RSet) : Prop where
 dat : ∀ d, d ∈ s.data ↔ ∃ r ∈ L, bI s r = true ∧ r.data = d
 ttl : ∃ r ∈ L, bI s r = true ∧ r.ttl = s.ttl
 low : ∀ r ∈ L, bI s r = true → s.ttl ≤ r.ttl
theorem Ch.miss {L : List Rec} {s : RSet} {r : Rec} (h : Ch L s) (hm : bI s r = false) : Ch (L ++ [r]) s where
 dat d := by
  rw [h.dat]
  constructor
  ·rintro ⟨q, h1, h2⟩; exact ⟨q, by simp [h1], h2⟩
  ·rintro ⟨q, h1, h2, h3⟩
   rcases List.mem_append.1 h1 with h1 | h1
   ·exact ⟨q, h1, h2, h3⟩
   ·obtain rfl := List.mem_singleton.1 h1
    rw [hm] at h2; cases h2
 ttl := let ⟨q, h1, h2⟩ := h.ttl; ⟨q, by simp [h1], h2⟩
 low q h1 h2 := by
  rcases List.mem_append.1 h1 with h1 | h1
  ·exact h.low q h1 h2
  ·obtain rfl := List.mem_singleton.1 h1
   rw [hm] at h2; cases h2
theorem Ch.bump {L : List Rec} {s : RSet} {r : Rec} (h : Ch L s) (hm : bI s r = true) : Ch (L ++ [r]) (X.jI s r) where
 dat d := by
  show d ∈ s.data ++ [r.data] ↔ ∃ q ∈ L ++ [r], bI s q = true ∧ q.data = d
  rw [List.mem_append, h.dat, List.mem_singleton]
  constructor
  ·rintro (⟨q, h1, h2⟩ | rfl)
   ·exact ⟨q, by simp [h1], h2⟩
   ·exact ⟨r, by simp, hm, rfl⟩
  ·rintro ⟨q, h1, h2, h3⟩
   rcases List.mem_append.1 h1 with h1 | h1
   ·exact .inl ⟨q, h1, h2, h3⟩
   ·obtain rfl := List.mem_singleton.1 h1
    exact .inr h3.symm
 ttl := by
  show ∃ q ∈ L ++ [r], bI s q = true ∧ q.ttl = min s.ttl r.ttl
  obtain ⟨q, h1, h2, h3⟩ := h.ttl
  rcases Int.le_total s.ttl r.ttl with hl | hl
  ·exact ⟨q, by simp [h1], h2, by rw [h3]; omega⟩
  ·exact ⟨r, by simp, hm, by omega⟩
 low q h1 h2 := by
  show min s.ttl r.ttl ≤ q.ttl
  rcases List.mem_append.1 h1 with h1 | h1
  ·have := h.low q h1 h2
   omega
  ·obtain rfl := List.mem_singleton.1 h1
   omega
theorem Ch.new {L : List Rec} {r : Rec} (h : ∀ q ∈ L, bI ⟨fold r.name, r.kind, r.ttl, [r.data]⟩ q = false) : Ch (L ++ [r]) ⟨fold r.name, r.kind, r.ttl, [r.data]⟩ where
 dat d := by
  rw [List.mem_singleton]
  constructor
  ·rintro rfl; exact ⟨r, by simp, by simp [bI], rfl⟩
  ·rintro ⟨q, h1, h2, h3⟩
   rcases List.mem_append.1 h1 with h1 | h1
   ·rw [h q h1] at h2; cases h2
   ·obtain rfl := List.mem_singleton.1 h1
    exact h3.symm
 ttl := ⟨r, by simp, by simp [bI], rfl⟩
 low q h1 h2 := by
  rcases List.mem_append.1 h1 with h1 | h1
  ·rw [h q h1] at h2; cases h2
  ·obtain rfl := List.mem_singleton.1 h1
   exact Int.le_refl _
theorem AN (l : List Rec) : ∀ k, k ≤ l.length → ∀ s ∈ cL (l.take k), Ch (l.take k) s
 | 0, _, s, h => by simp [cL] at h
 | k + 1, hk, s, h => by
   have hlt : k < l.length := by omega
   have e : l.take (k + 1) = l.take k ++ [l[k]] := by simp
   rw [nN hlt] at h
   rw [e]
   have ih := AN l k (by omega)
   rcases AM (jR _) h with ⟨h1, h2⟩ | ⟨t, h1, h2, rfl⟩ | ⟨h1, rfl⟩
   ·exact (ih s h1).miss h2
   ·exact (ih t h1).bump h2
   ·refine Ch.new fun q hq => ?_
    obtain ⟨t, ht, hm, _⟩ := vV hq
    have := h1 t ht
    cases hx : bI ⟨fold l[k].name, l[k].kind, l[k].ttl, [l[k].data]⟩ q with
    | false => rfl
    | true =>
     exfalso
     simp only [bI, Bool.and_eq_true, decide_eq_true_eq] at hx hm
     have h5 : bI t l[k] = true := by
      simp only [bI, Bool.and_eq_true, decide_eq_true_eq]
      exact ⟨by rw [hm.1, hx.1], by rw [hm.2, hx.2]⟩
     rw [this] at h5; cases h5
theorem Ch.norm {L : List Rec} {s : RSet} (h : Ch L s) : Ch L (X.lI s) where
 dat d := by
  show d ∈ SY s.data ↔ ∃ r ∈ L, bI s r = true ∧ r.data = d
  rw [NZ, h.dat]
 ttl := h.ttl
 low := h.low
theorem AO {l : List Rec} {s : RSet} (h : s ∈ eI l) : Ch l s ∧ s.data.Pairwise (· < ·) := by
 obtain ⟨u, hu, rfl⟩ := List.mem_map.1 h
 have := AN l l.length (Nat.le_refl _)
 rw [List.take_length] at this
 exact ⟨(this u hu).norm, FY _⟩
theorem Ch.uniq {L : List Rec} {s t : RSet} (h : Ch L s) (k : Ch L t) (hs : s.data.Pairwise (· < ·)) (ht : t.data.Pairwise (· < ·)) (hn : s.name = t.name) (hk : s.kind = t.kind) : s = t := by
 have hm : ∀ r, bI s r = bI t r := fun r => by rw [bI, bI, hn, hk]
 have hd : s.data = t.data := JE hs ht fun d => by
  rw [h.dat, k.dat]
  simp only [hm]
 have ha : s.ttl = t.ttl := by
  obtain ⟨q, h1, h2, h3⟩ := h.ttl
  obtain ⟨q', k1, k2, k3⟩ := k.ttl
  have e1 := k.low q h1 (by rw [← hm]; exact h2)
  have e2 := h.low q' k1 (by rw [hm]; exact k2)
  omega
 cases s; cases t
 simp_all
def kM (s t : RSet) : Int := dQ s.name t.name s.kind t.kind
theorem tA : TPO kM := iO.comap fun s : RSet => (s.name, s.kind)
def SO (gs : List RSet) : Prop := gs.Pairwise fun s t => kM s t < 0
def TC (r : Rec) (t : RSet) : RSet := ⟨fold r.name, r.kind, min r.ttl t.ttl, eB r.data t.data⟩
theorem oR (a b : RSet) : dS a b = decide (kM a b < 0) := AF a b
theorem eH {s : RSet} {r : Rec} : bI s r = true ↔ s.name = fold r.name ∧ s.kind = r.kind := by simp [bI]
theorem rS {s t u : RSet} (hn : s.name = t.name) (hk : s.kind = t.kind) : kM u s = kM u t ∧ kM s u = kM t u := by
 unfold kM; rw [hn, hk]; exact ⟨rfl, rfl⟩
theorem rT {s : RSet} {r : Rec} (h : kM s (bN r) ≠ 0) : bI s r = false := by
 cases hm : bI s r with
 | false => rfl
 | true =>
  obtain ⟨h1, h2⟩ := eH.1 hm
  exact absurd (by rw [(rS (t := bN r) h1 h2).2]; exact tA.refl _) h
theorem EH {r : Rec} (hr : Small (fold r.name)) : ∀ {gs : List RSet} {s : RSet}, SO gs → (∀ g ∈ gs, Small g.name) → s ∈ fD r gs →
 (s ∈ gs ∧ bI s r = false) ∨ (∃ t ∈ gs, bI t r = true ∧ s = TC r t) ∨ ((∀ t ∈ gs, bI t r = false) ∧ s = bN r)
 | [], s, _, _, h => by
   right; right
   exact ⟨by simp, by simpa [fD] using h⟩
 | g :: gs, s, hso, hsm, h => by
   obtain ⟨p1, p2⟩ := List.pairwise_cons.1 hso
   have hg := hsm g (by simp)
   rw [fD, oR, oR] at h
   by_cases h1 : kM g (bN r) < 0
   ·rw [if_pos (decide_eq_true h1)] at h
    have m1 : bI g r = false := rT (by omega)
    rcases List.mem_cons.1 h with rfl | h
    ·exact .inl ⟨by simp, m1⟩
    ·rcases EH hr p2 (fun x hx => hsm x (by simp [hx])) h with ⟨a, b⟩ | ⟨t, a, b, c⟩ | ⟨a, b⟩
     ·exact .inl ⟨by simp [a], b⟩
     ·exact .inr (.inl ⟨t, by simp [a], b, c⟩)
     ·refine .inr (.inr ⟨fun t ht => ?_, b⟩)
      rcases List.mem_cons.1 ht with rfl | ht
      ·exact m1
      ·exact a t ht
   ·rw [if_neg (by simpa using h1)] at h
    by_cases h2 : kM (bN r) g < 0
    ·rw [if_pos (decide_eq_true h2)] at h
     have m1 : bI g r = false := rT (by have := tA.anti g (bN r); omega)
     have m2 : ∀ t ∈ gs, bI t r = false := fun t ht => rT (by
      have := tA.ltt h2 (p1 t ht)
      have := tA.anti t (bN r); omega)
     rcases List.mem_cons.1 h with rfl | h
     ·refine .inr (.inr ⟨fun t ht => ?_, rfl⟩)
      rcases List.mem_cons.1 ht with rfl | ht
      ·exact m1
      ·exact m2 t ht
     ·rcases List.mem_cons.1 h with rfl | h
      ·exact .inl ⟨by simp, m1⟩
      ·exact .inl ⟨by simp [h], m2 s h⟩
    ·rw [if_neg (by simpa using h2)] at h
     have h0 : kM g (bN r) = 0 := by have := tA.anti g (bN r); omega
     obtain ⟨e1, e2⟩ := kQ hg hr h0
     have mg : bI g r = true := eH.2 ⟨e1, e2⟩
     rcases List.mem_cons.1 h with rfl | h
     ·exact .inr (.inl ⟨g, by simp, mg, rfl⟩)
     ·refine .inl ⟨by simp [h], rT ?_⟩
      have := p1 s h
      rw [(rS (t := bN r) e1 e2).2] at this
      have := tA.anti s (bN r); omega
theorem EI {r : Rec} : ∀ {gs : List RSet} {s : RSet}, s ∈ fD r gs → s ∈ gs ∨ (s.name = fold r.name ∧ s.kind = r.kind)
 | [], s, h => by
   right
   have : s = bN r := by simpa [fD] using h
   subst this; exact ⟨rfl, rfl⟩
 | g :: gs, s, h => by
   rw [fD] at h
   split at h
   ·rcases List.mem_cons.1 h with rfl | h
    ·exact .inl (by simp)
    ·rcases EI h with h | h
     ·exact .inl (by simp [h])
     ·exact .inr h
   ·split at h
    ·rcases List.mem_cons.1 h with rfl | h
     ·exact .inr ⟨rfl, rfl⟩
     ·exact .inl h
    ·rcases List.mem_cons.1 h with rfl | h
     ·exact .inr ⟨rfl, rfl⟩
     ·exact .inl (by simp [h])
theorem HX {r : Rec} (hr : Small (fold r.name)) : ∀ {gs : List RSet}, SO gs → (∀ g ∈ gs, Small g.name) → SO (fD r gs)
 | [], _, _ => by simp [fD, SO]
 | g :: gs, hso, hsm => by
   obtain ⟨p1, p2⟩ := List.pairwise_cons.1 hso
   have hg := hsm g (by simp)
   rw [fD, oR, oR]
   by_cases h1 : kM g (bN r) < 0
   ·rw [if_pos (decide_eq_true h1)]
    refine List.pairwise_cons.2 ⟨fun s hs => ?_, HX hr p2 fun x hx => hsm x (by simp [hx])⟩
    rcases EI hs with h | ⟨a, b⟩
    ·exact p1 s h
    ·rw [(rS (t := bN r) a b).1]; exact h1
   ·rw [if_neg (by simpa using h1)]
    by_cases h2 : kM (bN r) g < 0
    ·rw [if_pos (decide_eq_true h2)]
     refine List.pairwise_cons.2 ⟨fun s hs => ?_, hso⟩
     rcases List.mem_cons.1 hs with rfl | hs
     ·exact h2
     ·exact tA.ltt h2 (p1 s hs)
    ·rw [if_neg (by simpa using h2)]
     have h0 : kM g (bN r) = 0 := by have := tA.anti g (bN r); omega
     obtain ⟨e1, e2⟩ := kQ hg hr h0
     refine List.pairwise_cons.2 ⟨fun s hs => ?_, p2⟩
     have := p1 s hs
     rw [(rS (s := g) (t := ⟨fold r.name, r.kind, min r.ttl g.ttl, eB r.data g.data⟩) e1 e2).2] at this
     exact this
theorem mG {s : List UInt8} : ∀ {l : List (List UInt8)}, l.Pairwise (· < ·) → (eB s l).Pairwise (· < ·) ∧ ∀ x, x ∈ eB s l ↔ x = s ∨ x ∈ l
 | [], _ => by simp [eB]
 | y :: l, h => by
   obtain ⟨p1, p2⟩ := List.pairwise_cons.1 h
   obtain ⟨i1, i2⟩ := mG (s := s) p2
   rw [eB]
   by_cases h1 : y < s
   ·rw [if_pos (zN.2 h1)]
    refine ⟨List.pairwise_cons.2 ⟨fun x hx => ?_, i1⟩, fun x => ?_⟩
    ·rcases (i2 x).1 hx with rfl | hx
     ·exact h1
     ·exact p1 x hx
    ·simp only [List.mem_cons, i2]; exact or_left_comm
   ·rw [if_neg (fun hb => h1 (zN.1 hb))]
    by_cases h2 : y = s
    ·rw [if_pos h2]
     subst h2
     exact ⟨h, fun x => by simp⟩
    ·rw [if_neg h2]
     have h3 : s < y := tO (List.not_lt.1 h1) (fun e => h2 e.symm)
     refine ⟨List.pairwise_cons.2 ⟨fun x hx => ?_, h⟩, fun x => by simp⟩
     rcases List.mem_cons.1 hx with rfl | hx
     ·exact h3
     ·exact List.lt_trans h3 (p1 x hx)
theorem AP {r : Rec} (hr : Small (fold r.name)) : ∀ {gs : List RSet}, (∀ g ∈ gs, Small g.name) → ∀ t ∈ gs, ∃ s ∈ fD r gs, s.name = t.name ∧ s.kind = t.kind
 | [], _, t, h => by simp at h
 | g :: gs, hsm, t, h => by
   have hg := hsm g (by simp)
   rw [fD, oR, oR]
   by_cases h1 : kM g (bN r) < 0
   ·rw [if_pos (decide_eq_true h1)]
    rcases List.mem_cons.1 h with rfl | h
    ·exact ⟨t, by simp, rfl, rfl⟩
    ·obtain ⟨s, a, b⟩ := AP hr (fun x hx => hsm x (by simp [hx])) t h
     exact ⟨s, by simp [a], b⟩
   ·rw [if_neg (by simpa using h1)]
    by_cases h2 : kM (bN r) g < 0
    ·rw [if_pos (decide_eq_true h2)]
     exact ⟨t, List.mem_cons_of_mem _ h, rfl, rfl⟩
    ·rw [if_neg (by simpa using h2)]
     have h0 : kM g (bN r) = 0 := by have := tA.anti g (bN r); omega
     obtain ⟨e1, e2⟩ := kQ hg hr h0
     rcases List.mem_cons.1 h with rfl | h
     ·exact ⟨_, List.mem_cons_self, e1.symm, e2.symm⟩
     ·exact ⟨t, by simp [h], rfl, rfl⟩
theorem EJ (r : Rec) : ∀ gs : List RSet, ∃ s ∈ fD r gs, s.name = fold r.name ∧ s.kind = r.kind
 | [] => ⟨bN r, by simp [fD], rfl, rfl⟩
 | g :: gs => by
   obtain ⟨s, a, b⟩ := EJ r gs
   rw [fD]
   split
   ·exact ⟨s, by simp [a], b⟩
   ·split
    ·exact ⟨bN r, by simp, rfl, rfl⟩
    ·exact ⟨_, List.mem_cons_self, rfl, rfl⟩
theorem Ch.newS {L : List Rec} {t : RSet} {r : Rec} (h : Ch L t) (hm : bI t r = true) (ht : t.data.Pairwise (· < ·)) : Ch (L ++ [r]) (X.TC r t) := by
 have hb := h.bump hm
 obtain ⟨e1, e2⟩ := eH.1 hm
 have hk : ∀ q, bI (X.TC r t) q = bI (X.jI t r) q := fun q => by simp only [bI, X.TC, X.jI, e1, e2]; rfl
 refine ⟨fun d => ?_, ?_, fun q hq hmq => ?_⟩
 ·show d ∈ eB r.data t.data ↔ _
  rw [(mG ht).2]
  have := hb.dat d
  simp only [hk]
  rw [← this]
  show _ ↔ d ∈ t.data ++ [r.data]
  simp [or_comm]
 ·obtain ⟨q, a, b, c⟩ := hb.ttl
  exact ⟨q, a, by rw [hk]; exact b, by rw [c]; show min t.ttl r.ttl = min r.ttl t.ttl; omega⟩
 ·have := hb.low q hq (by rw [← hk]; exact hmq)
  show min r.ttl t.ttl ≤ q.ttl
  have h2 : min t.ttl r.ttl ≤ q.ttl := this
  omega
theorem LV {r : Rec} (h : mT r = true) : Small (fold r.name) := by
 obtain ⟨ls, hl⟩ := Option.isSome_iff_exists.1 (jS (r := r) (n := []) (by simpa [mT] using h)).1
 exact ⟨r.name, ls, hl, rfl⟩
theorem wQ {l : List Rec} (hok : l.all mT = true) : ∀ k, k ≤ l.length → SO (bC (l.take k)) ∧ (∀ s ∈ bC (l.take k), Ch (l.take k) s ∧ s.data.Pairwise (· < ·) ∧ Small s.name) ∧ ∀ q ∈ l.take k, ∃ s ∈ bC (l.take k), bI s q = true
 | 0, _ => by simp [bC, SO]
 | k + 1, h => by
   have hlt : k < l.length := by omega
   obtain ⟨i1, i2, i3⟩ := wQ hok k (by omega)
   have hr := LV (List.all_eq_true.1 hok _ (List.getElem_mem hlt))
   have hsm : ∀ g ∈ bC (l.take k), Small g.name := fun g hg => (i2 g hg).2.2
   have e : l.take (k + 1) = l.take k ++ [l[k]] := by simp
   rw [jD hlt, e]
   refine ⟨HX hr i1 hsm, fun s hs => ?_, fun q hq => ?_⟩
   ·rcases EH hr i1 hsm hs with ⟨a, b⟩ | ⟨t, a, b, rfl⟩ | ⟨a, rfl⟩
    ·exact ⟨(i2 s a).1.miss b, (i2 s a).2⟩
    ·exact ⟨(i2 t a).1.newS b (i2 t a).2.1, (mG (i2 t a).2.1).1, hr⟩
    ·refine ⟨Ch.new fun q hq => ?_, by simp [bN], hr⟩
     obtain ⟨t, ht, hm⟩ := i3 q hq
     cases hx : bI ⟨fold l[k].name, l[k].kind, l[k].ttl, [l[k].data]⟩ q with
     | false => rfl
     | true =>
      exfalso
      obtain ⟨x1, x2⟩ := eH.1 hx
      obtain ⟨y1, y2⟩ := eH.1 hm
      have h5 : bI t l[k] = true := eH.2 ⟨y1.trans x1.symm, y2.trans x2.symm⟩
      rw [a t ht] at h5; cases h5
   ·rcases List.mem_append.1 hq with hq | hq
    ·obtain ⟨t, ht, hm⟩ := i3 q hq
     obtain ⟨s, a, b, c⟩ := AP hr hsm t ht
     obtain ⟨y1, y2⟩ := eH.1 hm
     exact ⟨s, a, eH.2 ⟨b.trans y1, c.trans y2⟩⟩
    ·obtain rfl := List.mem_singleton.1 hq
     obtain ⟨s, a, b, c⟩ := EJ l[k] (bC (l.take k))
     exact ⟨s, a, eH.2 ⟨b, c⟩⟩
theorem iP {l : List Rec} (hok : l.all mT = true) : SO (bC l) ∧ (∀ s ∈ bC l, Ch l s ∧ s.data.Pairwise (· < ·) ∧ Small s.name) ∧ ∀ q ∈ l, ∃ s ∈ bC l, bI s q = true := by
 have := wQ hok l.length (Nat.le_refl _)
 rwa [List.take_length] at this
theorem tW {l : List Rec} (hok : l.all mT = true) : (bC l).Perm (eI l) := by
 obtain ⟨i1, i2, i3⟩ := iP hok
 have n1 : (eI l).Nodup := (rM _).imp fun h e => by subst e; exact h ⟨rfl, rfl⟩
 have n0 : (bC l).Nodup := i1.imp fun h e => by subst e; have := tA.refl ‹RSet›; omega
 refine (List.perm_ext_iff_of_nodup n0 n1).2 fun s => ⟨fun hs => ?_, fun hs => ?_⟩
 ·obtain ⟨hc, hst, _⟩ := i2 s hs
  obtain ⟨q, h1, h2, _⟩ := hc.ttl
  obtain ⟨t, ht, hm, _⟩ := vV h1
  have hg : lI t ∈ eI l := List.mem_map_of_mem ht
  obtain ⟨hc', hst'⟩ := AO hg
  obtain ⟨x1, x2⟩ := eH.1 h2
  obtain ⟨y1, y2⟩ := eH.1 hm
  have e := hc.uniq hc' hst hst' (x1.trans y1.symm) (x2.trans y2.symm)
  rw [e]; exact hg
 ·obtain ⟨hc, hst⟩ := AO hs
  obtain ⟨q, h1, h2, _⟩ := hc.ttl
  obtain ⟨t, ht, hm⟩ := i3 q h1
  obtain ⟨hc', hst', _⟩ := i2 t ht
  obtain ⟨x1, x2⟩ := eH.1 h2
  obtain ⟨y1, y2⟩ := eH.1 hm
  have e := hc.uniq hc' hst hst' (x1.trans y1.symm) (x2.trans y2.symm)
  rw [e]; exact ht
theorem yU {l : List Rec} (hok : l.all mT = true) : sS (bC l) := by
 obtain ⟨i1, _, _⟩ := iP hok
 intro i j s t hij hi hj
 obtain ⟨a, rfl⟩ := List.getElem?_eq_some_iff.1 hi
 obtain ⟨b, rfl⟩ := List.getElem?_eq_some_iff.1 hj
 have h := List.pairwise_iff_getElem.1 i1 i j a b hij
 have := tA.anti (bC l)[j] (bC l)[i]
 show 0 ≤ kM (bC l)[j] (bC l)[i]
 omega
theorem OJ {l : List Rec} (hok : l.all mT = true) {out : List RSet} (hp : out.Perm (eI l)) (hs : sS out) : out = bC l :=
 GA hok hp (tW hok) hs (yU hok)
theorem TD (l : List Rec) : gK l = jJ l := by
 unfold gK jJ
 cases hok : l.all mT with
 | false => simp
 | true =>
  have hp := tW hok
  have hl := hp.length_eq
  have ha : (bC l).any BR = (eI l).any BR := by
   cases h : (eI l).any BR with
   | true =>
    obtain ⟨s, h1, h2⟩ := List.any_eq_true.1 h
    exact List.any_eq_true.2 ⟨s, hp.mem_iff.2 h1, h2⟩
   | false =>
    cases h' : (bC l).any BR with
    | false => rfl
    | true =>
     obtain ⟨s, h1, h2⟩ := List.any_eq_true.1 h'
     rw [List.any_eq_true.2 ⟨s, hp.mem_iff.1 h1, h2⟩] at h; cases h
  rw [ha, hl]
  simp only [Bool.true_eq_false, if_false]
  split <;> split <;> rfl
def aM : List Value := [aI [], .slice none 0 0]
theorem AQ {s x : List UInt8} : ∀ {l : List (List UInt8)}, x ∈ eB s l → x = s ∨ x ∈ l
 | [], h => by simp [eB] at h; exact .inl h
 | y :: l, h => by
   unfold eB at h
   split at h
   ·rcases List.mem_cons.1 h with rfl | h
    ·exact .inr (by simp)
    ·rcases AQ h with h | h
     ·exact .inl h
     ·exact .inr (by simp [h])
   ·split at h
    ·exact .inr h
    ·rcases List.mem_cons.1 h with rfl | h
     ·exact .inl rfl
     ·exact .inr h
theorem EK {r : Rec} : ∀ {gs : List RSet} {s : RSet} {d : List UInt8}, s ∈ fD r gs → d ∈ s.data → d = r.data ∨ ∃ t ∈ gs, d ∈ t.data
 | [], s, d, h, hd => by
   have : s = bN r := by simpa [fD] using h
   subst this
   exact .inl (by simpa [bN] using hd)
 | g :: gs, s, d, h, hd => by
   rw [fD] at h
   split at h
   ·rcases List.mem_cons.1 h with rfl | h
    ·exact .inr ⟨s, by simp, hd⟩
    ·rcases EK h hd with h | ⟨t, ht, h⟩
     ·exact .inl h
     ·exact .inr ⟨t, by simp [ht], h⟩
   ·split at h
    ·rcases List.mem_cons.1 h with rfl | h
     ·exact .inl (by simpa [bN] using hd)
     ·exact .inr ⟨s, h, hd⟩
    ·rcases List.mem_cons.1 h with rfl | h
     ·rcases AQ hd with h | h
      ·exact .inl h
      ·exact .inr ⟨g, by simp, h⟩
     ·exact .inr ⟨s, by simp [h], hd⟩
theorem wR {l : List Rec} : ∀ k, k ≤ l.length → ∀ s ∈ bC (l.take k), ∀ d ∈ s.data, ∃ r ∈ l, d = r.data
 | 0, _, s, hs, _, _ => by simp [bC] at hs
 | k + 1, h, s, hs, d, hd => by
   rw [jD (show k < l.length by omega)] at hs
   rcases EK hs hd with h1 | ⟨t, ht, h1⟩
   ·exact ⟨_, List.getElem_mem _, h1⟩
   ·exact wR k (by omega) t ht d h1
theorem nR {l : List Rec} {s : RSet} (hs : s ∈ bC l) {d : List UInt8} (hd : d ∈ s.data) : ∃ r ∈ l, d = r.data :=
 wR l.length (Nat.le_refl _) s (by rw [List.take_length]; exact hs) d hd
theorem qS (l : List Rec) : ∀ s ∈ bC l, s.data.length ≤ l.length := by
 have := (kV l l.length (Nat.le_refl _)).2
 rwa [List.take_length] at this
def dE (o : List UInt8) (l : List Rec) : Int := if gK l = 0 then aX (fold o) (bC l) else gK l
def cH (o : List UInt8) (l : List Rec) : List UInt8 := if dE o l = 0 then fold o else []
def bT (o : List UInt8) (l : List Rec) : List RSet := if dE o l = 0 then bC l else []
def LoadU (B : Nat) (o : List UInt8) (l : List Rec) (r : Value) (w' : World) : Prop :=
 ∃ v, r = .tuple #[.agg #[aI (cH o l), v], .int .i64 (dE o l)] ∧ SetsO B w' v (bT o l)
theorem LoadU.bad {B : Nat} {o : List UInt8} {l : List Rec} {e : Int} {w' : World} (h : dE o l = e) (he : e ≠ 0) : LoadU B o l (.tuple #[.agg aM.toArray, .int .i64 e]) w' := by
 refine ⟨.slice none 0 0, ?_, ?_⟩
 ·rw [h, cH, if_neg (by rw [h]; exact he)]; rfl
 ·rw [bT, if_neg (by rw [h]; exact he)]; exact SetsO.nil _ _
theorem LoadU.good {B : Nat} {o : List UInt8} {l : List Rec} {v : Value} {w' : World} (h : dE o l = 0) (hv : SetsO B w' v (bC l)) : LoadU B o l (.tuple #[.agg #[aI (fold o), v], .int .i64 0]) w' := by
 refine ⟨v, ?_, ?_⟩
 ·rw [cH, if_pos h, h]
 ·rw [bT, if_pos h]; exact hv
def LW (B : Nat) (l : List Rec) (r : Value) (w' : World) : Prop := ∃ v, r = .tuple #[v, .int .i64 (gK l)] ∧ (gK l = 0 → SetsO B w' v (bC l))
theorem RefR.uni {B : Nat} {l : List Rec} {r : Value} {w' : World} (h : RefR B l r w') : LW B l r w' := by
 unfold RefR at h
 split at h
 ·rename_i h0
  obtain ⟨v, rfl, hv⟩ := h
  exact ⟨v, by rw [h0], fun _ => hv⟩
 ·rename_i h0
  exact ⟨_, h, fun h1 => absurd h1 h0⟩
theorem GroupO.uni {B : Nat} {l : List Rec} {r : Value} {w' : World} (h : GroupO B l r w') : LW B l r w' := by
 unfold GroupO at h
 rw [← TD] at h
 split at h
 ·rename_i h0
  obtain ⟨out, v, rfl, hp, hs, hv⟩ := h
  have hok : l.all mT = true := by
   cases hok : l.all mT with
   | true => rfl
   | false => rw [gK, if_pos hok] at h0; cases h0
  have e := OJ hok hp hs
  exact ⟨v, by rw [h0], fun _ => by rw [← e]; exact hv⟩
 ·rename_i h0
  exact ⟨_, h, fun h1 => absurd h1 h0⟩
theorem bE {o : List UInt8} {v : Value} (h : v.oneCell' = true) : (Value.agg #[aI o, v]).cells.all (·.oneCell') = true := by
 simp [Value.cells, h, show (aI o).oneCell' = true from rfl]
set_option maxHeartbeats 3000000 in
theorem GM (o : List UInt8) (v : Value) (l : List Rec) (w : World) (hv : Sl 4 w v (aD l)) (hl : l.length ≤ 10000) (hd : ∀ r ∈ l, r.data.length ≤ 4611686018427387904) : Calls Tryz.prog 36 #[aI o, v] w (jE w (LoadU w.heap.size o l)) := by
 have hb : ∀ s ∈ bC l, s.data.length ≤ 1000000 := fun s hs => by have := qS l s hs; omega
 have hd2 : ∀ s ∈ bC l, ∀ d ∈ s.data, d.length ≤ 4611686018427387904 := fun s hs d hd3 => by
  obtain ⟨r, hr, rfl⟩ := nR hs hd3
  exact hd r hr
 go_enter Tryz.func36, Tryz.ntmps36
 refine_lift hY fun _ _ => ?_
 refine aG (z := aM) rfl (by decide +kernel) ?_
 intro w1 x1 s1 h1
 refine aA ?_
 have hv1 := hv.ext x1
 refine_lift bY fun _ _ => ?_
 refine aK (enters_of Tryz.func85 rfl rfl) rfl rfl (WX v l _ hv1 hl) ?_
 intro r w2 x2 hr
 obtain ⟨y, rfl, hy⟩ := hr.uni
 clear hr
 have h2 := x2.at h1
 have hx2 := x1.trans x2
 by_cases hE : gK l = 0
 ·have hy := hy hE
  have hLE : dE o l = aX (fold o) (bC l) := by rw [dE, if_pos hE]
  rw [hE]
  obtain ⟨ya, yn, yc, hys⟩ : ∃ a n c, y = .slice a n c := by obtain ⟨css, h, _⟩ := hy; exact h.slf
  refine_lift bY fun _ _ => ?_
  refine aB (enters_of Tryz.func62 rfl rfl) rfl rfl (NV o _) ?_; intro w3 x3; refine aA ?_
  have h3 := x3.at h2
  have hx3 := hx2.trans x3
  have hy3 := hy.ext x3
  refine_lift aS ?_
  refine aQ (v := .agg #[aI (fold o), y]) rfl (Runs.build (vals := [(0, aI (fold o)), (1, y)]) rfl (by rw [hys]; kernel_rfl)) ?_
  refine aA ?_
  refine aG (z := aM) rfl (by decide +kernel) ?_
  intro w4 x4 s4 h4
  refine aA ?_
  have hy1 : y.oneCell' = true := by rw [hys]; rfl
  refine aC (v := .agg #[aI (fold o), y]) rfl rfl rfl h4 (show aO Tryz.prog 25 2 = true by decide +kernel) rfl (bE hy1) ?_
  intro w5 p5
  have x5 : Ext w3 w5 := x4.move p5.mv (by rintro k ⟨⟩; exact Nat.le_refl _)
  have h5 := aE (cs := [aI (fold o), y]) p5.this
  have hx5 := hx3.trans x5
  have hy5 := hy3.ext x5
  have hz5 := x5.at h3
  clear p5 h4 x4
  refine_lift gV fun _ _ _ _ => ?_
  refine aB (enters_of Tryz.func34 rfl rfl) rfl rfl (rR (fold o) y (bC l) _ hy5.sets hb) ?_; intro w6 x6; refine aA ?_
  have h6 := h5.ext x6
  have hx6 := hx5.trans x6
  have hy6 := hy5.ext x6
  have hz6 := x6.at hz5
  refine_lift yS (fun _ _ _ => ?_) (fun _ _ _ => ?_)
  ·have q : ¬ aX (fold o) (bC l) = 0 := by simpa using (by assumption : (!decide (aX (fold o) (bC l) = 0)) = true)
   refine aQ (v := .agg aM.toArray) rfl (Runs.build0 (by kernel_rfl)) ?_
   refine aA ?_
   refine_lift aS ?_
   refine aC (v := .agg aM.toArray) rfl rfl rfl hz6 (by decide +kernel) rfl (by decide +kernel) ?_
   intro w7 p7
   have x7 : Ext w w7 := hx6.move p7.mv (by rintro k ⟨⟩; exact Nat.le_refl _)
   refine_lift aS ?_
   refine bodyPost_ret (aH (cs := aM) rfl rfl p7.this (by decide +kernel)) rfl ⟨_, rfl, x7, ?_⟩
   exact LoadU.bad hLE q
  ·have q : aX (fold o) (bC l) = 0 := by simpa using (by assumption : (!decide (aX (fold o) (bC l) = 0)) = false)
   refine aC (v := .agg #[aI (fold o), y]) rfl rfl rfl hz6 (show aO Tryz.prog 25 2 = true by decide +kernel) rfl (bE hy1) ?_
   intro w7 p7
   have x7 : Ext w w7 := hx6.move p7.mv (by rintro k ⟨⟩; exact Nat.le_refl _)
   have hy7 := hy6.put p7 (by have := s1; omega)
   refine_lift aS ?_
   refine bodyPost_ret (aH (cs := [aI (fold o), y]) rfl rfl p7.this (show dY Tryz.prog 25 2 = true by decide +kernel)) rfl ⟨_, rfl, x7, ?_⟩
   exact LoadU.good (by rw [hLE, q]) (hy7.weaken x1.size)
 ·have hLE : dE o l = gK l := by rw [dE, if_neg hE]
  refine_lift rG (fun _ _ _ => ?_) (fun _ _ _ _ _ => ?_)
  ·refine aQ (v := .agg aM.toArray) rfl (Runs.build0 (by kernel_rfl)) ?_
   refine aA ?_
   refine_lift aS ?_
   refine aC (v := .agg aM.toArray) rfl rfl rfl h2 (by decide +kernel) rfl (by decide +kernel) ?_
   intro w3 p3
   have x3 : Ext w w3 := hx2.move p3.mv (by rintro k ⟨⟩; exact Nat.le_refl _)
   refine_lift aS ?_
   refine bodyPost_ret (aH (cs := aM) rfl rfl p3.this (by decide +kernel)) rfl ⟨_, rfl, x3, ?_⟩
   exact LoadU.bad hLE hE
  ·exact absurd (by assumption : (!decide (gK l = 0)) = false) (by simp [hE])
set_option maxHeartbeats 3000000 in
theorem HY (o : List UInt8) (v : Value) (l : List Rec) (w : World) (hv : Sl 4 w v (aD l)) (hl : l.length ≤ 10000) (hd : ∀ r ∈ l, r.data.length ≤ 4611686018427387904) : Calls Tryz.prog 68 #[aI o, v] w (jE w (LoadU w.heap.size o l)) := by
 have hb : ∀ s ∈ bC l, s.data.length ≤ 1000000 := fun s hs => by have := qS l s hs; omega
 have hd2 : ∀ s ∈ bC l, ∀ d ∈ s.data, d.length ≤ 4611686018427387904 := fun s hs d hd3 => by
  obtain ⟨r, hr, rfl⟩ := nR hs hd3
  exact hd r hr
 go_enter Tryz.func68, Tryz.ntmps68
 refine_lift hY fun _ _ => ?_
 refine aG (z := aM) rfl (by decide +kernel) ?_
 intro w1 x1 s1 h1
 refine aA ?_
 have hv1 := hv.ext x1
 refine_lift bY fun _ _ => ?_
 refine aK (enters_of Tryz.func116 rfl rfl) rfl rfl (LU v l _ hv1 hl hd) ?_
 intro r w2 x2 hr
 obtain ⟨y, rfl, hy⟩ := hr.uni
 clear hr
 have h2 := x2.at h1
 have hx2 := x1.trans x2
 by_cases hE : gK l = 0
 ·have hy := hy hE
  have hLE : dE o l = aX (fold o) (bC l) := by rw [dE, if_pos hE]
  rw [hE]
  obtain ⟨ya, yn, yc, hys⟩ : ∃ a n c, y = .slice a n c := by obtain ⟨css, h, _⟩ := hy; exact h.slf
  refine_lift bY fun _ _ => ?_
  refine aB (enters_of Tryz.func67 rfl rfl) rfl rfl (gM o _) ?_; intro w3 x3; refine aA ?_
  have h3 := x3.at h2
  have hx3 := hx2.trans x3
  have hy3 := hy.ext x3
  refine_lift aS ?_
  refine aQ (v := .agg #[aI (fold o), y]) rfl (Runs.build (vals := [(0, aI (fold o)), (1, y)]) rfl (by rw [hys]; kernel_rfl)) ?_
  refine aA ?_
  refine aG (z := aM) rfl (by decide +kernel) ?_
  intro w4 x4 s4 h4
  refine aA ?_
  have hy1 : y.oneCell' = true := by rw [hys]; rfl
  refine aC (v := .agg #[aI (fold o), y]) rfl rfl rfl h4 (show aO Tryz.prog 25 2 = true by decide +kernel) rfl (bE hy1) ?_
  intro w5 p5
  have x5 : Ext w3 w5 := x4.move p5.mv (by rintro k ⟨⟩; exact Nat.le_refl _)
  have h5 := aE (cs := [aI (fold o), y]) p5.this
  have hx5 := hx3.trans x5
  have hy5 := hy3.ext x5
  have hz5 := x5.at h3
  clear p5 h4 x4
  refine_lift bY fun _ _ => ?_
  refine aB (enters_of Tryz.func41 rfl rfl) rfl rfl (DX (fold o) y (bC l) _ hy5.sets hb hd2) ?_; intro w6 x6; refine aA ?_
  have h6 := h5.ext x6
  have hx6 := hx5.trans x6
  have hy6 := hy5.ext x6
  have hz6 := x6.at hz5
  refine_lift rG (fun _ _ _ => ?_) (fun _ _ _ _ _ => ?_)
  ·have q : ¬ aX (fold o) (bC l) = 0 := by simpa using (by assumption : (!decide (aX (fold o) (bC l) = 0)) = true)
   refine aQ (v := .agg aM.toArray) rfl (Runs.build0 (by kernel_rfl)) ?_
   refine aA ?_
   refine_lift aS ?_
   refine aC (v := .agg aM.toArray) rfl rfl rfl hz6 (by decide +kernel) rfl (by decide +kernel) ?_
   intro w7 p7
   have x7 : Ext w w7 := hx6.move p7.mv (by rintro k ⟨⟩; exact Nat.le_refl _)
   refine_lift aS ?_
   refine bodyPost_ret (aH (cs := aM) rfl rfl p7.this (by decide +kernel)) rfl ⟨_, rfl, x7, ?_⟩
   exact LoadU.bad hLE q
  ·have q : aX (fold o) (bC l) = 0 := by simpa using (by assumption : (!decide (aX (fold o) (bC l) = 0)) = false)
   refine aC (v := .agg #[aI (fold o), y]) rfl rfl rfl hz6 (show aO Tryz.prog 25 2 = true by decide +kernel) rfl (bE hy1) ?_
   intro w7 p7
   have x7 : Ext w w7 := hx6.move p7.mv (by rintro k ⟨⟩; exact Nat.le_refl _)
   have hy7 := hy6.put p7 (by have := s1; omega)
   refine_lift aS ?_
   refine bodyPost_ret (aH (cs := [aI (fold o), y]) rfl rfl p7.this (show dY Tryz.prog 25 2 = true by decide +kernel)) rfl ⟨_, rfl, x7, ?_⟩
   exact LoadU.good (by rw [hLE, q]) (hy7.weaken x1.size)
 ·have hLE : dE o l = gK l := by rw [dE, if_neg hE]
  refine_lift rG (fun _ _ _ => ?_) (fun _ _ _ _ _ => ?_)
  ·refine aQ (v := .agg aM.toArray) rfl (Runs.build0 (by kernel_rfl)) ?_
   refine aA ?_
   refine_lift aS ?_
   refine aC (v := .agg aM.toArray) rfl rfl rfl h2 (by decide +kernel) rfl (by decide +kernel) ?_
   intro w3 p3
   have x3 : Ext w w3 := hx2.move p3.mv (by rintro k ⟨⟩; exact Nat.le_refl _)
   refine_lift aS ?_
   refine bodyPost_ret (aH (cs := aM) rfl rfl p3.this (by decide +kernel)) rfl ⟨_, rfl, x3, ?_⟩
   exact LoadU.bad hLE hE
  ·exact absurd (by assumption : (!decide (gK l = 0)) = false) (by simp [hE])
end Go.Proofs.X
