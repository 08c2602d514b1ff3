/- Laws and walks that the proof of the statement is made of (part 9). -/
import Derived.Test.YteofaejlmdplhaaGreatP8
set_option linter.unusedSimpArgs false
set_option linter.unusedVariables false
namespace Go.Proofs.X
open Go.RowKit
set_option maxRecDepth 100000
theorem KK {s : RSet} (h : fH s = true) {i : Nat} (hi : i < s.data.length) : aV ⟨s.name, s.kind, s.ttl, s.data[i]⟩ = 0 := by
 simp only [fH, Bool.and_eq_true, List.all_eq_true] at h
 have := h.2 i (by simpa using hi)
 simp only [jX, Bool.not_eq_true', Bool.or_eq_false_iff, decide_eq_false_iff_not, ne_eq, Decidable.not_not] at this
 have e : s.data.getD i [] = s.data[i] := by simp [hi]
 rw [e] at this
 exact this.1
theorem sZ {r : Rec} (h : aV r = 0) : r.data.length ≤ 4000 ∧ fits r.kind r.data = true := by
 unfold aV at h
 split at h
 ·omega
 ·split at h
  ·omega
  ·rename_i h2
   simp only [not_or, Bool.not_eq_false] at h2
   exact ⟨by omega, h2.2.2.2.2.2⟩
def zR : SoaR := ⟨[], [], 0, 0, 0, 0, 0⟩
theorem CY : zR.cells = aX := rfl
def gR (o : List UInt8) (l : List RSet) : List UInt8 := ((fB l o 6).getD zI).data.getD 0 []
def bD (o : List UInt8) (l : List RSet) : SoaR := if aQ o l = 0 then cG (gR o l) else zR
theorem FE {d : List UInt8} (h : (cB d).isSome = true) : cB d = some (cG d) := by
 unfold cB at *
 simp only at *
 split at h
 ·rename_i h1; rw [if_pos h1]
 ·cases h
theorem ZoneOk.soaSet {o : List UInt8} {l : List RSet} (h : ZoneOk o l) : ∃ s, fB l o 6 = some s ∧ s ∈ l ∧ s.name = o ∧ s.kind = 6 ∧ s.data = [gR o l] ∧ cB (gR o l) = some (cG (gR o l)) ∧ (gR o l).length ≤ 4000 := by
 obtain ⟨s, hs⟩ := Option.isSome_iff_exists.1 h.soa
 obtain ⟨h1, h2, h3⟩ := HU hs
 have hr := h.right s h1
 have hm := h.may h1
 have hl : s.data.length = 1 := by
  simp only [dE, Bool.and_eq_true, Bool.not_eq_true', h3] at hr
  have := hr.1.1.2
  simp only [decide_true, Bool.true_and, Bool.or_eq_false_iff, decide_eq_false_iff_not, ne_eq, Decidable.not_not] at this
  exact this.2
 have hd : s.data = [gR o l] := by
  have e : gR o l = s.data.getD 0 [] := by rw [gR, hs]; rfl
  rw [e]
  match s.data, hl with
  | [d], _ => rfl
 have hc := KK hm (i := 0) (by omega)
 obtain ⟨c1, c2⟩ := sZ hc
 have e0 : s.data[0]'(by omega) = gR o l := by simp [hd]
 simp only [e0, h3] at c1 c2
 refine ⟨s, hs, h1, by rw [h2, h.fold], h3, hd, FE ?_, c1⟩
 simpa [fits] using c2
theorem dS (s : SoaR) : (Value.agg s.cells.toArray).cells.all (·.oneCell') = true := by
 simp [SoaR.cells, Value.cells, Value.oneCell', aH]
set_option maxHeartbeats 3000000 in
theorem qV (o : List UInt8) (v : Value) (l : List RSet) (w : World) (hv : SetsAt w v l) (hb : ∀ s ∈ l, s.data.length ≤ 1000000) (hd : ∀ s ∈ l, ∀ d ∈ s.data, d.length ≤ 4611686018427387904) : Calls Tryz.prog 31 #[.agg #[aH o, v]] w (bC w (.tuple #[.agg (bD o l).cells.toArray, .int .i64 (aQ o l)])) := by
 go_enter Tryz.func31, Tryz.ntmps31
 refine_lift gT fun _ _ => ?_
 refine aT (vs := [aH o, v]) rfl rfl ?_
 intro p w1 x1 hp
 refine aA ?_
 refine aF (z := aX) rfl (by decide +kernel) ?_
 intro w2 x2 s2 h2
 refine aA ?_
 have hx2 := x1.trans x2
 have hp2 := hp.ext x2
 have hv2 := hv.ext hx2
 refine_lift gO fun _ _ _ _ => ?_
 refine aB (enters_of Tryz.func34 rfl rfl) rfl rfl (tV o v l _ hv2 hb) ?_; intro w3 x3; refine aA ?_
 have hx3 := hx2.trans x3
 have hp3 := hp2.ext x3
 have hv3 := hv2.ext x3
 have h3 := x3.at h2
 refine_lift CD (fun _ _ _ => ?_) (fun _ _ _ => ?_)
 ·have q : ¬ aQ o l = 0 := by simpa using (by assumption : (!decide (aQ o l = 0)) = true)
  refine aU (v := .agg aX.toArray) rfl (Runs.build0 (by kernel_rfl)) ?_
  refine aA ?_
  refine_lift aP ?_
  refine aD (v := .agg aX.toArray) rfl rfl rfl h3 (by decide +kernel) rfl (by decide +kernel) ?_
  intro w4 p4
  have x4 : Ext w w4 := hx3.move p4.mv (by rintro k ⟨⟩; exact x1.size)
  refine_lift aP ?_
  refine bodyPost_ret (aJ (cs := aX) rfl rfl p4.this (by decide +kernel)) rfl ⟨?_, x4⟩
  rw [show bD o l = zR by rw [bD, if_neg q], CY]
  rfl
 ·have q : aQ o l = 0 := by simpa using (by assumption : (!decide (aQ o l = 0)) = false)
  obtain ⟨s, hf, hs, hn, hk, hdat, hpar, hlen⟩ := (eW q).soaSet
  have hZ : bD o l = cG (gR o l) := by rw [bD, if_pos q]
  have hP : ∀ w', Calls Tryz.prog 80 #[aH (gR o l)] w' (bC w' (.tuple #[.agg (cG (gR o l)).cells.toArray, .int .i64 0])) := fun w' => by
   have := SN (gR o l) w' (by omega)
   rw [hpar] at this
   exact this
  clear hpar
  generalize gR o l = dd at *
  generalize hgen : cG dd = ss at *
  refine aI (enters_of Tryz.func79 rfl rfl) rfl rfl (SQ v l o 6 _ hv3 (fun s hs => by have := hb s hs; omega)) ?_
  intro r4 w4 x4 hr4
  rw [hf] at hr4
  obtain ⟨y, rfl, oy⟩ := hr4
  have hx4 := hx3.trans x4
  refine_lift aP ?_
  refine aF (z := iS) rfl (by decide +kernel) ?_
  intro w5 x5 s5 h5
  refine aA ?_
  refine aD (v := .agg #[aH s.name, .int .i64 s.kind, .int .i64 s.ttl, y]) rfl rfl rfl h5 (show aO Tryz.prog 119 4 = true by decide +kernel) rfl (fU rfl rfl rfl oy.one) ?_
  intro w6 p6
  have x6 : Ext w4 w6 := x5.move p6.mv (by rintro k ⟨⟩; exact Nat.le_refl _)
  have hp6 := aE (cs := [aH s.name, .int .i64 s.kind, .int .i64 s.ttl, y]) p6.this
  have hy6 := oy.sl.ext x6
  rw [hdat] at hy6
  have hx6 := hx4.trans x6
  have h6 := (x4.trans x6).at h3
  have hy0 := hy6.elem (i := 0) (e := [aH dd]) rfl
  clear p6 h5 x5
  have hl1 : (aM [dd]).length = 1 := rfl
  refine_lift bS fun _ _ => ?_
  refine aB (enters_of Tryz.func80 rfl rfl) rfl rfl (hP _) ?_; intro w7 x7; refine aA ?_
  have h7 := x7.at h6
  refine_lift aP ?_
  refine aD (v := .agg ss.cells.toArray) rfl rfl rfl h7 (show aO Tryz.prog 67 7 = true by decide +kernel) rfl (dS _) ?_
  intro w8 p8
  have x8 : Ext w w8 := (hx6.trans x7).move p8.mv (by rintro k ⟨⟩; exact x1.size)
  refine_lift aP ?_
  refine bodyPost_ret (aJ (cs := ss.cells) rfl rfl p8.this (show cY Tryz.prog 67 7 = true by decide +kernel)) rfl ⟨?_, x8⟩
  rw [hZ, q]
  rfl
set_option maxHeartbeats 3000000 in
theorem AW (o : List UInt8) (v : Value) (l : List RSet) (w : World) (hv : SetsAt w v l) (hb : ∀ s ∈ l, s.data.length ≤ 1000000) (hd : ∀ s ∈ l, ∀ d ∈ s.data, d.length ≤ 4611686018427387904) : Calls Tryz.prog 47 #[.agg #[aH o, v]] w (bC w (.tuple #[.agg (bD o l).cells.toArray, .int .i64 (aQ o l)])) := by
 go_enter Tryz.func47, Tryz.ntmps47
 refine_lift gT fun _ _ => ?_
 refine aT (vs := [aH o, v]) rfl rfl ?_
 intro p w1 x1 hp
 refine aA ?_
 refine aF (z := aX) rfl (by decide +kernel) ?_
 intro w2 x2 s2 h2
 refine aA ?_
 have hx2 := x1.trans x2
 have hp2 := hp.ext x2
 have hv2 := hv.ext hx2
 refine_lift bS fun _ _ => ?_
 refine aB (enters_of Tryz.func41 rfl rfl) rfl rfl (vG o v l _ hv2 hb hd) ?_; intro w3 x3; refine aA ?_
 have hx3 := hx2.trans x3
 have hp3 := hp2.ext x3
 have hv3 := hv2.ext x3
 have h3 := x3.at h2
 refine_lift tK (fun _ _ _ => ?_) (fun _ _ _ _ _ => ?_)
 ·have q : ¬ aQ o l = 0 := by simpa using (by assumption : (!decide (aQ o l = 0)) = true)
  refine aU (v := .agg aX.toArray) rfl (Runs.build0 (by kernel_rfl)) ?_
  refine aA ?_
  refine_lift aP ?_
  refine aD (v := .agg aX.toArray) rfl rfl rfl h3 (by decide +kernel) rfl (by decide +kernel) ?_
  intro w4 p4
  have x4 : Ext w w4 := hx3.move p4.mv (by rintro k ⟨⟩; exact x1.size)
  refine_lift aP ?_
  refine bodyPost_ret (aJ (cs := aX) rfl rfl p4.this (by decide +kernel)) rfl ⟨?_, x4⟩
  rw [show bD o l = zR by rw [bD, if_neg q], CY]
  rfl
 ·have q : aQ o l = 0 := by simpa using (by assumption : (!decide (aQ o l = 0)) = false)
  obtain ⟨s, hf, hs, hn, hk, hdat, hpar, hlen⟩ := (eW q).soaSet
  have hZ : bD o l = cG (gR o l) := by rw [bD, if_pos q]
  have hP : ∀ w', Calls Tryz.prog 98 #[aH (gR o l)] w' (bC w' (.tuple #[.agg (cG (gR o l)).cells.toArray, .int .i64 0])) := fun w' => by
   have := sT (gR o l) w' (by omega)
   rw [hpar] at this
   exact this
  clear hpar
  generalize gR o l = dd at *
  generalize hgen : cG dd = ss at *
  refine aI (enters_of Tryz.func95 rfl rfl) rfl rfl (AT v l o 6 _ hv3 hb) ?_
  intro r4 w4 x4 hr4
  rw [hf] at hr4
  obtain ⟨y, rfl, oy⟩ := hr4
  have hx4 := hx3.trans x4
  refine_lift aP ?_
  refine aF (z := iS) rfl (by decide +kernel) ?_
  intro w5 x5 s5 h5
  refine aA ?_
  refine aD (v := .agg #[aH s.name, .int .i64 s.kind, .int .i64 s.ttl, y]) rfl rfl rfl h5 (show aO Tryz.prog 119 4 = true by decide +kernel) rfl (fU rfl rfl rfl oy.one) ?_
  intro w6 p6
  have x6 : Ext w4 w6 := x5.move p6.mv (by rintro k ⟨⟩; exact Nat.le_refl _)
  have hp6 := aE (cs := [aH s.name, .int .i64 s.kind, .int .i64 s.ttl, y]) p6.this
  have hy6 := oy.sl.ext x6
  rw [hdat] at hy6
  have hx6 := hx4.trans x6
  have h6 := (x4.trans x6).at h3
  have hy0 := hy6.elem (i := 0) (e := [aH dd]) rfl
  clear p6 h5 x5
  have hl1 : (aM [dd]).length = 1 := rfl
  refine_lift bS fun _ _ => ?_
  refine aB (enters_of Tryz.func98 rfl rfl) rfl rfl (hP _) ?_; intro w7 x7; refine aA ?_
  have h7 := x7.at h6
  refine_lift aP ?_
  refine aD (v := .agg ss.cells.toArray) rfl rfl rfl h7 (show aO Tryz.prog 67 7 = true by decide +kernel) rfl (dS _) ?_
  intro w8 p8
  have x8 : Ext w w8 := (hx6.trans x7).move p8.mv (by rintro k ⟨⟩; exact x1.size)
  refine_lift aP ?_
  refine bodyPost_ret (aJ (cs := ss.cells) rfl rfl p8.this (show cY Tryz.prog 67 7 = true by decide +kernel)) rfl ⟨?_, x8⟩
  rw [hZ, q]
  rfl
def iU (s : List UInt8) : List (List UInt8) → List (List UInt8)
 | [] => [s]
 | x :: l => if Op.bytesLess x s = true then x :: iU s l else if x = s then x :: l else s :: x :: l
theorem rW (s : List UInt8) : ∀ l : List (List UInt8), (iU s l).length ≤ l.length + 1
 | [] => by simp [iU]
 | x :: l => by
   rw [iU]
   split
   ·have := rW s l; simp; omega
   ·split <;> simp
def cO (r : Rec) : RSet := ⟨fold r.name, r.kind, r.ttl, [r.data]⟩
def gZ (r : Rec) : List RSet → List RSet
 | [] => [cO r]
 | g :: gs => if jD g (cO r) = true then g :: gZ r gs else if jD (cO r) g = true then cO r :: g :: gs else ⟨fold r.name, r.kind, min r.ttl g.ttl, iU r.data g.data⟩ :: gs
def bP (l : List Rec) : List RSet := l.foldl (fun gs r => gZ r gs) []
theorem kN {l : List Rec} {k : Nat} (h : k < l.length) : bP (l.take (k + 1)) = gZ l[k] (bP (l.take k)) := by
 rw [bP, List.take_add_one, List.getElem?_eq_getElem h, Option.toList_some, List.foldl_append]
 rfl
theorem CZ (r : Rec) : ∀ gs : List RSet, (gZ r gs).length ≤ gs.length + 1
 | [] => by simp [gZ]
 | g :: gs => by
   have := CZ r gs
   rw [gZ]
   split
   ·simp; omega
   ·split <;> simp
theorem zJ (r : Rec) (n : Nat) : ∀ gs : List RSet, (∀ s ∈ gs, s.data.length ≤ n) → ∀ s ∈ gZ r gs, s.data.length ≤ n + 1
 | [], _, s, h => by
   have : s = cO r := by simpa [gZ] using h
   subst this; simp [cO]
 | g :: gs, hn, s, h => by
   have hg := hn g (by simp)
   have hn' : ∀ s ∈ gs, s.data.length ≤ n := fun s hs => hn s (by simp [hs])
   rw [gZ] at h
   split at h
   ·rcases List.mem_cons.1 h with rfl | h
    ·omega
    ·exact zJ r n gs hn' s h
   ·split at h
    ·rcases List.mem_cons.1 h with rfl | h
     ·simp [cO]
     ·have := hn s h; omega
    ·rcases List.mem_cons.1 h with rfl | h
     ·have := rW r.data g.data
      show (iU r.data g.data).length ≤ n + 1
      omega
     ·have := hn' s h; omega
theorem pD (l : List Rec) : ∀ k, k ≤ l.length → (bP (l.take k)).length ≤ k ∧ ∀ s ∈ bP (l.take k), s.data.length ≤ k
 | 0, _ => by simp [bP]
 | k + 1, h => by
   obtain ⟨h1, h2⟩ := pD l k (by omega)
   rw [kN (show k < l.length by omega)]
   have := CZ (l[k]'(by omega)) (bP (l.take k))
   exact ⟨by omega, zJ _ k _ h2⟩
def tO (l : List Rec) : Int := if l.all yS = false then 1 else if 200 < (bP l).length then 4 else if (bP l).any JS = true then 4 else 0
def RefR (B : Nat) (l : List Rec) (r : Value) (w' : World) : Prop := if tO l = 0 then ∃ v, r = .tuple #[v, .int .i64 0] ∧ SetsO B w' v (bP l) else r = .tuple #[.slice none 0 0, .int .i64 (tO l)]
theorem zK : ∀ {gs : List RSet} {r : Rec} {s : RSet}, sN gs → s ∈ dB gs r → (s ∈ gs ∧ bF s r = false) ∨ (∃ t ∈ gs, bF t r = true ∧ s = jA t r) ∨ ((∀ t ∈ gs, bF t r = false) ∧ s = ⟨fold r.name, r.kind, r.ttl, [r.data]⟩)
 | [], r, s, _, h => by
   right; right
   exact ⟨by simp, by simpa [dB] using h⟩
 | a :: l, r, s, hd, h => by
   obtain ⟨p1, p2⟩ := List.pairwise_cons.1 (gG.1 hd)
   by_cases hm : bF a r = true
   ·simp only [dB, hm, if_true, List.mem_cons] at h
    rcases h with h | h
    ·exact .inr (.inl ⟨a, by simp, hm, h⟩)
    ·refine .inl ⟨by simp [h], ?_⟩
     cases hs : bF s r with
     | false => rfl
     | true =>
      exfalso
      simp only [bF, Bool.and_eq_true, decide_eq_true_eq] at hs hm
      exact p1 s h ⟨by rw [hm.1, hs.1], by rw [hm.2, hs.2]⟩
   ·have hm' : bF a r = false := by simpa using hm
    simp only [dB, hm', Bool.false_eq_true, if_false, List.mem_cons] at h
    rcases h with rfl | h
    ·exact .inl ⟨by simp, hm'⟩
    ·rcases zK (gG.2 p2) h with ⟨h1, h2⟩ | ⟨t, h1, h2, h3⟩ | ⟨h1, h2⟩
     ·exact .inl ⟨by simp [h1], h2⟩
     ·exact .inr (.inl ⟨t, by simp [h1], h2, h3⟩)
     ·refine .inr (.inr ⟨?_, h2⟩)
      intro t ht
      rcases List.mem_cons.1 ht with rfl | ht
      ·exact hm'
      ·exact h1 t ht
structure Ch (L : List Rec) (s : RSet) : Prop where
 dat : ∀ d, d ∈ s.data ↔ ∃ r ∈ L, bF s r = true ∧ r.data = d
 ttl : ∃ r ∈ L, bF s r = true ∧ r.ttl = s.ttl
 low : ∀ r ∈ L, bF s r = true → s.ttl ≤ r.ttl
theorem Ch.miss {L : List Rec} {s : RSet} {r : Rec} (h : Ch L s) (hm : bF s r = false) : Ch (L ++ [r]) s where
 dat d := by
  rw [h.dat]
  constructor
  ·rintro ⟨q, h1, h2⟩; exact ⟨q, by simp [h1], h2⟩
  ·rintro ⟨q, h1, h2, h3⟩
   rcases List.mem_append.1 h1 with h1 | h1
   ·exact ⟨q, h1, h2, h3⟩
   ·obtain rfl := List.mem_singleton.1 h1
    rw [hm] at h2; cases h2
 ttl := let ⟨q, h1, h2⟩ := h.ttl; ⟨q, by simp [h1], h2⟩
 low q h1 h2 := by
  rcases List.mem_append.1 h1 with h1 | h1
  ·exact h.low q h1 h2
  ·obtain rfl := List.mem_singleton.1 h1
   rw [hm] at h2; cases h2
theorem Ch.bump {L : List Rec} {s : RSet} {r : Rec} (h : Ch L s) (hm : bF s r = true) : Ch (L ++ [r]) (X.jA s r) where
 dat d := by
  show d ∈ s.data ++ [r.data] ↔ ∃ q ∈ L ++ [r], bF s q = true ∧ q.data = d
  rw [List.mem_append, h.dat, List.mem_singleton]
  constructor
  ·rintro (⟨q, h1, h2⟩ | rfl)
   ·exact ⟨q, by simp [h1], h2⟩
   ·exact ⟨r, by simp, hm, rfl⟩
  ·rintro ⟨q, h1, h2, h3⟩
   rcases List.mem_append.1 h1 with h1 | h1
   ·exact .inl ⟨q, h1, h2, h3⟩
   ·obtain rfl := List.mem_singleton.1 h1
    exact .inr h3.symm
 ttl := by
  show ∃ q ∈ L ++ [r], bF s q = true ∧ q.ttl = min s.ttl r.ttl
  obtain ⟨q, h1, h2, h3⟩ := h.ttl
  rcases Int.le_total s.ttl r.ttl with hl | hl
  ·exact ⟨q, by simp [h1], h2, by rw [h3]; omega⟩
  ·exact ⟨r, by simp, hm, by omega⟩
 low q h1 h2 := by
  show min s.ttl r.ttl ≤ q.ttl
  rcases List.mem_append.1 h1 with h1 | h1
  ·have := h.low q h1 h2
   omega
  ·obtain rfl := List.mem_singleton.1 h1
   omega
theorem Ch.new {L : List Rec} {r : Rec} (h : ∀ q ∈ L, bF ⟨fold r.name, r.kind, r.ttl, [r.data]⟩ q = false) : Ch (L ++ [r]) ⟨fold r.name, r.kind, r.ttl, [r.data]⟩ where
 dat d := by
  rw [List.mem_singleton]
  constructor
  ·rintro rfl; exact ⟨r, by simp, by simp [bF], rfl⟩
  ·rintro ⟨q, h1, h2, h3⟩
   rcases List.mem_append.1 h1 with h1 | h1
   ·rw [h q h1] at h2; cases h2
   ·obtain rfl := List.mem_singleton.1 h1
    exact h3.symm
 ttl := ⟨r, by simp, by simp [bF], rfl⟩
 low q h1 h2 := by
  rcases List.mem_append.1 h1 with h1 | h1
  ·rw [h q h1] at h2; cases h2
  ·obtain rfl := List.mem_singleton.1 h1
   exact Int.le_refl _
theorem zL (l : List Rec) : ∀ k, k ≤ l.length → ∀ s ∈ cF (l.take k), Ch (l.take k) s
 | 0, _, s, h => by simp [cF] at h
 | k + 1, hk, s, h => by
   have hlt : k < l.length := by omega
   have e : l.take (k + 1) = l.take k ++ [l[k]] := by simp
   rw [nJ hlt] at h
   rw [e]
   have ih := zL l k (by omega)
   rcases zK (jM _) h with ⟨h1, h2⟩ | ⟨t, h1, h2, rfl⟩ | ⟨h1, rfl⟩
   ·exact (ih s h1).miss h2
   ·exact (ih t h1).bump h2
   ·refine Ch.new fun q hq => ?_
    obtain ⟨t, ht, hm, _⟩ := uY hq
    have := h1 t ht
    cases hx : bF ⟨fold l[k].name, l[k].kind, l[k].ttl, [l[k].data]⟩ q with
    | false => rfl
    | true =>
     exfalso
     simp only [bF, Bool.and_eq_true, decide_eq_true_eq] at hx hm
     have h5 : bF t l[k] = true := by
      simp only [bF, Bool.and_eq_true, decide_eq_true_eq]
      exact ⟨by rw [hm.1, hx.1], by rw [hm.2, hx.2]⟩
     rw [this] at h5; cases h5
theorem Ch.norm {L : List Rec} {s : RSet} (h : Ch L s) : Ch L (X.lH s) where
 dat d := by
  show d ∈ RD s.data ↔ ∃ r ∈ L, bF s r = true ∧ r.data = d
  rw [MM, h.dat]
 ttl := h.ttl
 low := h.low
theorem zM {l : List Rec} {s : RSet} (h : s ∈ dZ l) : Ch l s ∧ s.data.Pairwise (· < ·) := by
 obtain ⟨u, hu, rfl⟩ := List.mem_map.1 h
 have := zL l l.length (Nat.le_refl _)
 rw [List.take_length] at this
 exact ⟨(this u hu).norm, ES _⟩
theorem Ch.uniq {L : List Rec} {s t : RSet} (h : Ch L s) (k : Ch L t) (hs : s.data.Pairwise (· < ·)) (ht : t.data.Pairwise (· < ·)) (hn : s.name = t.name) (hk : s.kind = t.kind) : s = t := by
 have hm : ∀ r, bF s r = bF t r := fun r => by rw [bF, bF, hn, hk]
 have hd : s.data = t.data := HN hs ht fun d => by
  rw [h.dat, k.dat]
  simp only [hm]
 have ha : s.ttl = t.ttl := by
  obtain ⟨q, h1, h2, h3⟩ := h.ttl
  obtain ⟨q', k1, k2, k3⟩ := k.ttl
  have e1 := k.low q h1 (by rw [← hm]; exact h2)
  have e2 := h.low q' k1 (by rw [hm]; exact k2)
  omega
 cases s; cases t
 simp_all
def mH (s t : RSet) : Int := dK s.name t.name s.kind t.kind
theorem vK : TPO mH := iJ.comap fun s : RSet => (s.name, s.kind)
def SO (gs : List RSet) : Prop := gs.Pairwise fun s t => mH s t < 0
def RG (r : Rec) (t : RSet) : RSet := ⟨fold r.name, r.kind, min r.ttl t.ttl, iU r.data t.data⟩
theorem oE (a b : RSet) : jD a b = decide (mH a b < 0) := zC a b
theorem dX {s : RSet} {r : Rec} : bF s r = true ↔ s.name = fold r.name ∧ s.kind = r.kind := by simp [bF]
theorem qW {s t u : RSet} (hn : s.name = t.name) (hk : s.kind = t.kind) : mH u s = mH u t ∧ mH s u = mH t u := by
 unfold mH; rw [hn, hk]; exact ⟨rfl, rfl⟩
theorem qX {s : RSet} {r : Rec} (h : mH s (cO r) ≠ 0) : bF s r = false := by
 cases hm : bF s r with
 | false => rfl
 | true =>
  obtain ⟨h1, h2⟩ := dX.1 hm
  exact absurd (by rw [(qW (t := cO r) h1 h2).2]; exact vK.refl _) h
theorem DA {r : Rec} (hr : Small (fold r.name)) : ∀ {gs : List RSet} {s : RSet}, SO gs → (∀ g ∈ gs, Small g.name) → s ∈ gZ r gs →
 (s ∈ gs ∧ bF s r = false) ∨ (∃ t ∈ gs, bF t r = true ∧ s = RG r t) ∨ ((∀ t ∈ gs, bF t r = false) ∧ s = cO r)
 | [], s, _, _, h => by
   right; right
   exact ⟨by simp, by simpa [gZ] using h⟩
 | g :: gs, s, hso, hsm, h => by
   obtain ⟨p1, p2⟩ := List.pairwise_cons.1 hso
   have hg := hsm g (by simp)
   rw [gZ, oE, oE] at h
   by_cases h1 : mH g (cO r) < 0
   ·rw [if_pos (decide_eq_true h1)] at h
    have m1 : bF g r = false := qX (by omega)
    rcases List.mem_cons.1 h with rfl | h
    ·exact .inl ⟨by simp, m1⟩
    ·rcases DA hr p2 (fun x hx => hsm x (by simp [hx])) h with ⟨a, b⟩ | ⟨t, a, b, c⟩ | ⟨a, b⟩
     ·exact .inl ⟨by simp [a], b⟩
     ·exact .inr (.inl ⟨t, by simp [a], b, c⟩)
     ·refine .inr (.inr ⟨fun t ht => ?_, b⟩)
      rcases List.mem_cons.1 ht with rfl | ht
      ·exact m1
      ·exact a t ht
   ·rw [if_neg (by simpa using h1)] at h
    by_cases h2 : mH (cO r) g < 0
    ·rw [if_pos (decide_eq_true h2)] at h
     have m1 : bF g r = false := qX (by have := vK.anti g (cO r); omega)
     have m2 : ∀ t ∈ gs, bF t r = false := fun t ht => qX (by
      have := vK.ltt h2 (p1 t ht)
      have := vK.anti t (cO r); omega)
     rcases List.mem_cons.1 h with rfl | h
     ·refine .inr (.inr ⟨fun t ht => ?_, rfl⟩)
      rcases List.mem_cons.1 ht with rfl | ht
      ·exact m1
      ·exact m2 t ht
     ·rcases List.mem_cons.1 h with rfl | h
      ·exact .inl ⟨by simp, m1⟩
      ·exact .inl ⟨by simp [h], m2 s h⟩
    ·rw [if_neg (by simpa using h2)] at h
     have h0 : mH g (cO r) = 0 := by have := vK.anti g (cO r); omega
     obtain ⟨e1, e2⟩ := kL hg hr h0
     have mg : bF g r = true := dX.2 ⟨e1, e2⟩
     rcases List.mem_cons.1 h with rfl | h
     ·exact .inr (.inl ⟨g, by simp, mg, rfl⟩)
     ·refine .inl ⟨by simp [h], qX ?_⟩
      have := p1 s h
      rw [(qW (t := cO r) e1 e2).2] at this
      have := vK.anti s (cO r); omega
theorem DB {r : Rec} : ∀ {gs : List RSet} {s : RSet}, s ∈ gZ r gs → s ∈ gs ∨ (s.name = fold r.name ∧ s.kind = r.kind)
 | [], s, h => by
   right
   have : s = cO r := by simpa [gZ] using h
   subst this; exact ⟨rfl, rfl⟩
 | g :: gs, s, h => by
   rw [gZ] at h
   split at h
   ·rcases List.mem_cons.1 h with rfl | h
    ·exact .inl (by simp)
    ·rcases DB h with h | h
     ·exact .inl (by simp [h])
     ·exact .inr h
   ·split at h
    ·rcases List.mem_cons.1 h with rfl | h
     ·exact .inr ⟨rfl, rfl⟩
     ·exact .inl h
    ·rcases List.mem_cons.1 h with rfl | h
     ·exact .inr ⟨rfl, rfl⟩
     ·exact .inl (by simp [h])
theorem GJ {r : Rec} (hr : Small (fold r.name)) : ∀ {gs : List RSet}, SO gs → (∀ g ∈ gs, Small g.name) → SO (gZ r gs)
 | [], _, _ => by simp [gZ, SO]
 | g :: gs, hso, hsm => by
   obtain ⟨p1, p2⟩ := List.pairwise_cons.1 hso
   have hg := hsm g (by simp)
   rw [gZ, oE, oE]
   by_cases h1 : mH g (cO r) < 0
   ·rw [if_pos (decide_eq_true h1)]
    refine List.pairwise_cons.2 ⟨fun s hs => ?_, GJ hr p2 fun x hx => hsm x (by simp [hx])⟩
    rcases DB hs with h | ⟨a, b⟩
    ·exact p1 s h
    ·rw [(qW (t := cO r) a b).1]; exact h1
   ·rw [if_neg (by simpa using h1)]
    by_cases h2 : mH (cO r) g < 0
    ·rw [if_pos (decide_eq_true h2)]
     refine List.pairwise_cons.2 ⟨fun s hs => ?_, hso⟩
     rcases List.mem_cons.1 hs with rfl | hs
     ·exact h2
     ·exact vK.ltt h2 (p1 s hs)
    ·rw [if_neg (by simpa using h2)]
     have h0 : mH g (cO r) = 0 := by have := vK.anti g (cO r); omega
     obtain ⟨e1, e2⟩ := kL hg hr h0
     refine List.pairwise_cons.2 ⟨fun s hs => ?_, p2⟩
     have := p1 s hs
     rw [(qW (s := g) (t := ⟨fold r.name, r.kind, min r.ttl g.ttl, iU r.data g.data⟩) e1 e2).2] at this
     exact this
theorem mI {s : List UInt8} : ∀ {l : List (List UInt8)}, l.Pairwise (· < ·) → (iU s l).Pairwise (· < ·) ∧ ∀ x, x ∈ iU s l ↔ x = s ∨ x ∈ l
 | [], _ => by simp [iU]
 | y :: l, h => by
   obtain ⟨p1, p2⟩ := List.pairwise_cons.1 h
   obtain ⟨i1, i2⟩ := mI (s := s) p2
   rw [iU]
   by_cases h1 : y < s
   ·rw [if_pos (BZ.2 h1)]
    refine ⟨List.pairwise_cons.2 ⟨fun x hx => ?_, i1⟩, fun x => ?_⟩
    ·rcases (i2 x).1 hx with rfl | hx
     ·exact h1
     ·exact p1 x hx
    ·simp only [List.mem_cons, i2]; exact or_left_comm
   ·rw [if_neg (fun hb => h1 (BZ.1 hb))]
    by_cases h2 : y = s
    ·rw [if_pos h2]
     subst h2
     exact ⟨h, fun x => by simp⟩
    ·rw [if_neg h2]
     have h3 : s < y := sQ (List.not_lt.1 h1) (fun e => h2 e.symm)
     refine ⟨List.pairwise_cons.2 ⟨fun x hx => ?_, h⟩, fun x => by simp⟩
     rcases List.mem_cons.1 hx with rfl | hx
     ·exact h3
     ·exact List.lt_trans h3 (p1 x hx)
theorem zN {r : Rec} (hr : Small (fold r.name)) : ∀ {gs : List RSet}, (∀ g ∈ gs, Small g.name) → ∀ t ∈ gs, ∃ s ∈ gZ r gs, s.name = t.name ∧ s.kind = t.kind
 | [], _, t, h => by simp at h
 | g :: gs, hsm, t, h => by
   have hg := hsm g (by simp)
   rw [gZ, oE, oE]
   by_cases h1 : mH g (cO r) < 0
   ·rw [if_pos (decide_eq_true h1)]
    rcases List.mem_cons.1 h with rfl | h
    ·exact ⟨t, by simp, rfl, rfl⟩
    ·obtain ⟨s, a, b⟩ := zN hr (fun x hx => hsm x (by simp [hx])) t h
     exact ⟨s, by simp [a], b⟩
   ·rw [if_neg (by simpa using h1)]
    by_cases h2 : mH (cO r) g < 0
    ·rw [if_pos (decide_eq_true h2)]
     exact ⟨t, List.mem_cons_of_mem _ h, rfl, rfl⟩
    ·rw [if_neg (by simpa using h2)]
     have h0 : mH g (cO r) = 0 := by have := vK.anti g (cO r); omega
     obtain ⟨e1, e2⟩ := kL hg hr h0
     rcases List.mem_cons.1 h with rfl | h
     ·exact ⟨_, List.mem_cons_self, e1.symm, e2.symm⟩
     ·exact ⟨t, by simp [h], rfl, rfl⟩
theorem DC (r : Rec) : ∀ gs : List RSet, ∃ s ∈ gZ r gs, s.name = fold r.name ∧ s.kind = r.kind
 | [] => ⟨cO r, by simp [gZ], rfl, rfl⟩
 | g :: gs => by
   obtain ⟨s, a, b⟩ := DC r gs
   rw [gZ]
   split
   ·exact ⟨s, by simp [a], b⟩
   ·split
    ·exact ⟨cO r, by simp, rfl, rfl⟩
    ·exact ⟨_, List.mem_cons_self, rfl, rfl⟩
theorem Ch.newS {L : List Rec} {t : RSet} {r : Rec} (h : Ch L t) (hm : bF t r = true) (ht : t.data.Pairwise (· < ·)) : Ch (L ++ [r]) (X.RG r t) := by
 have hb := h.bump hm
 obtain ⟨e1, e2⟩ := dX.1 hm
 have hk : ∀ q, bF (X.RG r t) q = bF (X.jA t r) q := fun q => by simp only [bF, X.RG, X.jA, e1, e2]; rfl
 refine ⟨fun d => ?_, ?_, fun q hq hmq => ?_⟩
 ·show d ∈ iU r.data t.data ↔ _
  rw [(mI ht).2]
  have := hb.dat d
  simp only [hk]
  rw [← this]
  show _ ↔ d ∈ t.data ++ [r.data]
  simp [or_comm]
 ·obtain ⟨q, a, b, c⟩ := hb.ttl
  exact ⟨q, a, by rw [hk]; exact b, by rw [c]; show min t.ttl r.ttl = min r.ttl t.ttl; omega⟩
 ·have := hb.low q hq (by rw [← hk]; exact hmq)
  show min r.ttl t.ttl ≤ q.ttl
  have h2 : min t.ttl r.ttl ≤ q.ttl := this
  omega
theorem KL {r : Rec} (h : yS r = true) : Small (fold r.name) := by
 obtain ⟨ls, hl⟩ := Option.isSome_iff_exists.1 (jO (r := r) (n := []) (by simpa [yS] using h)).1
 exact ⟨r.name, ls, hl, rfl⟩
theorem vL {l : List Rec} (hok : l.all yS = true) : ∀ k, k ≤ l.length → SO (bP (l.take k)) ∧ (∀ s ∈ bP (l.take k), Ch (l.take k) s ∧ s.data.Pairwise (· < ·) ∧ Small s.name) ∧ ∀ q ∈ l.take k, ∃ s ∈ bP (l.take k), bF s q = true
 | 0, _ => by simp [bP, SO]
 | k + 1, h => by
   have hlt : k < l.length := by omega
   obtain ⟨i1, i2, i3⟩ := vL hok k (by omega)
   have hr := KL (List.all_eq_true.1 hok _ (List.getElem_mem hlt))
   have hsm : ∀ g ∈ bP (l.take k), Small g.name := fun g hg => (i2 g hg).2.2
   have e : l.take (k + 1) = l.take k ++ [l[k]] := by simp
   rw [kN hlt, e]
   refine ⟨GJ hr i1 hsm, fun s hs => ?_, fun q hq => ?_⟩
   ·rcases DA hr i1 hsm hs with ⟨a, b⟩ | ⟨t, a, b, rfl⟩ | ⟨a, rfl⟩
    ·exact ⟨(i2 s a).1.miss b, (i2 s a).2⟩
    ·exact ⟨(i2 t a).1.newS b (i2 t a).2.1, (mI (i2 t a).2.1).1, hr⟩
    ·refine ⟨Ch.new fun q hq => ?_, by simp [cO], hr⟩
     obtain ⟨t, ht, hm⟩ := i3 q hq
     cases hx : bF ⟨fold l[k].name, l[k].kind, l[k].ttl, [l[k].data]⟩ q with
     | false => rfl
     | true =>
      exfalso
      obtain ⟨x1, x2⟩ := dX.1 hx
      obtain ⟨y1, y2⟩ := dX.1 hm
      have h5 : bF t l[k] = true := dX.2 ⟨y1.trans x1.symm, y2.trans x2.symm⟩
      rw [a t ht] at h5; cases h5
   ·rcases List.mem_append.1 hq with hq | hq
    ·obtain ⟨t, ht, hm⟩ := i3 q hq
     obtain ⟨s, a, b, c⟩ := zN hr hsm t ht
     obtain ⟨y1, y2⟩ := dX.1 hm
     exact ⟨s, a, dX.2 ⟨b.trans y1, c.trans y2⟩⟩
    ·obtain rfl := List.mem_singleton.1 hq
     obtain ⟨s, a, b, c⟩ := DC l[k] (bP (l.take k))
     exact ⟨s, a, dX.2 ⟨b, c⟩⟩
theorem vM {l : List Rec} (hok : l.all yS = true) : SO (bP l) ∧ (∀ s ∈ bP l, Ch l s ∧ s.data.Pairwise (· < ·) ∧ Small s.name) ∧ ∀ q ∈ l, ∃ s ∈ bP l, bF s q = true := by
 have := vL hok l.length (Nat.le_refl _)
 rwa [List.take_length] at this
theorem tA {l : List Rec} (hok : l.all yS = true) : (bP l).Perm (dZ l) := by
 obtain ⟨i1, i2, i3⟩ := vM hok
 have n1 : (dZ l).Nodup := (qR _).imp fun h e => by subst e; exact h ⟨rfl, rfl⟩
 have n0 : (bP l).Nodup := i1.imp fun h e => by subst e; have := vK.refl ‹RSet›; omega
 refine (List.perm_ext_iff_of_nodup n0 n1).2 fun s => ⟨fun hs => ?_, fun hs => ?_⟩
 ·obtain ⟨hc, hst, _⟩ := i2 s hs
  obtain ⟨q, h1, h2, _⟩ := hc.ttl
  obtain ⟨t, ht, hm, _⟩ := uY h1
  have hg : lH t ∈ dZ l := List.mem_map_of_mem ht
  obtain ⟨hc', hst'⟩ := zM hg
  obtain ⟨x1, x2⟩ := dX.1 h2
  obtain ⟨y1, y2⟩ := dX.1 hm
  have e := hc.uniq hc' hst hst' (x1.trans y1.symm) (x2.trans y2.symm)
  rw [e]; exact hg
 ·obtain ⟨hc, hst⟩ := zM hs
  obtain ⟨q, h1, h2, _⟩ := hc.ttl
  obtain ⟨t, ht, hm⟩ := i3 q h1
  obtain ⟨hc', hst', _⟩ := i2 t ht
  obtain ⟨x1, x2⟩ := dX.1 h2
  obtain ⟨y1, y2⟩ := dX.1 hm
  have e := hc.uniq hc' hst hst' (x1.trans y1.symm) (x2.trans y2.symm)
  rw [e]; exact ht
theorem xQ {l : List Rec} (hok : l.all yS = true) : rS (bP l) := by
 obtain ⟨i1, _, _⟩ := vM hok
 intro i j s t hij hi hj
 obtain ⟨a, rfl⟩ := List.getElem?_eq_some_iff.1 hi
 obtain ⟨b, rfl⟩ := List.getElem?_eq_some_iff.1 hj
 have h := List.pairwise_iff_getElem.1 i1 i j a b hij
 have := vK.anti (bP l)[j] (bP l)[i]
 show 0 ≤ mH (bP l)[j] (bP l)[i]
 omega
theorem MU {l : List Rec} (hok : l.all yS = true) {out : List RSet} (hp : out.Perm (dZ l)) (hs : rS out) : out = bP l :=
 EU hok hp (tA hok) hs (xQ hok)
theorem RH (l : List Rec) : tO l = jB l := by
 unfold tO jB
 cases hok : l.all yS with
 | false => simp
 | true =>
  have hp := tA hok
  have hl := hp.length_eq
  have ha : (bP l).any JS = (dZ l).any JS := by
   cases h : (dZ l).any JS with
   | true =>
    obtain ⟨s, h1, h2⟩ := List.any_eq_true.1 h
    exact List.any_eq_true.2 ⟨s, hp.mem_iff.2 h1, h2⟩
   | false =>
    cases h' : (bP l).any JS with
    | false => rfl
    | true =>
     obtain ⟨s, h1, h2⟩ := List.any_eq_true.1 h'
     rw [List.any_eq_true.2 ⟨s, hp.mem_iff.1 h1, h2⟩] at h; cases h
  rw [ha, hl]
  simp only [Bool.true_eq_false, if_false]
  split <;> split <;> rfl
def aZ : List Value := [aH [], .slice none 0 0]
theorem zO {s x : List UInt8} : ∀ {l : List (List UInt8)}, x ∈ iU s l → x = s ∨ x ∈ l
 | [], h => by simp [iU] at h; exact .inl h
 | y :: l, h => by
   unfold iU at h
   split at h
   ·rcases List.mem_cons.1 h with rfl | h
    ·exact .inr (by simp)
    ·rcases zO h with h | h
     ·exact .inl h
     ·exact .inr (by simp [h])
   ·split at h
    ·exact .inr h
    ·rcases List.mem_cons.1 h with rfl | h
     ·exact .inl rfl
     ·exact .inr h
theorem DD {r : Rec} : ∀ {gs : List RSet} {s : RSet} {d : List UInt8}, s ∈ gZ r gs → d ∈ s.data → d = r.data ∨ ∃ t ∈ gs, d ∈ t.data
 | [], s, d, h, hd => by
   have : s = cO r := by simpa [gZ] using h
   subst this
   exact .inl (by simpa [cO] using hd)
 | g :: gs, s, d, h, hd => by
   rw [gZ] at h
   split at h
   ·rcases List.mem_cons.1 h with rfl | h
    ·exact .inr ⟨s, by simp, hd⟩
    ·rcases DD h hd with h | ⟨t, ht, h⟩
     ·exact .inl h
     ·exact .inr ⟨t, by simp [ht], h⟩
   ·split at h
    ·rcases List.mem_cons.1 h with rfl | h
     ·exact .inl (by simpa [cO] using hd)
     ·exact .inr ⟨s, h, hd⟩
    ·rcases List.mem_cons.1 h with rfl | h
     ·rcases zO hd with h | h
      ·exact .inl h
      ·exact .inr ⟨g, by simp, h⟩
     ·exact .inr ⟨s, by simp [h], hd⟩
theorem vO {l : List Rec} : ∀ k, k ≤ l.length → ∀ s ∈ bP (l.take k), ∀ d ∈ s.data, ∃ r ∈ l, d = r.data
 | 0, _, s, hs, _, _ => by simp [bP] at hs
 | k + 1, h, s, hs, d, hd => by
   rw [kN (show k < l.length by omega)] at hs
   rcases DD hs hd with h1 | ⟨t, ht, h1⟩
   ·exact ⟨_, List.getElem_mem _, h1⟩
   ·exact vO k (by omega) t ht d h1
theorem tB {l : List Rec} {s : RSet} (hs : s ∈ bP l) {d : List UInt8} (hd : d ∈ s.data) : ∃ r ∈ l, d = r.data :=
 vO l.length (Nat.le_refl _) s (by rw [List.take_length]; exact hs) d hd
theorem vP (l : List Rec) : ∀ s ∈ bP l, s.data.length ≤ l.length := by
 have := (pD l l.length (Nat.le_refl _)).2
 rwa [List.take_length] at this
def gC (o : List UInt8) (l : List Rec) : Int := if tO l = 0 then aQ (fold o) (bP l) else tO l
def eA (o : List UInt8) (l : List Rec) : List UInt8 := if gC o l = 0 then fold o else []
def dF (o : List UInt8) (l : List Rec) : List RSet := if gC o l = 0 then bP l else []
def LoadU (B : Nat) (o : List UInt8) (l : List Rec) (r : Value) (w' : World) : Prop :=
 ∃ v, r = .tuple #[.agg #[aH (eA o l), v], .int .i64 (gC o l)] ∧ SetsO B w' v (dF o l)
theorem LoadU.bad {B : Nat} {o : List UInt8} {l : List Rec} {e : Int} {w' : World} (h : gC o l = e) (he : e ≠ 0) : LoadU B o l (.tuple #[.agg aZ.toArray, .int .i64 e]) w' := by
 refine ⟨.slice none 0 0, ?_, ?_⟩
 ·rw [h, eA, if_neg (by rw [h]; exact he)]; rfl
 ·rw [dF, if_neg (by rw [h]; exact he)]; exact SetsO.nil _ _
theorem LoadU.good {B : Nat} {o : List UInt8} {l : List Rec} {v : Value} {w' : World} (h : gC o l = 0) (hv : SetsO B w' v (bP l)) : LoadU B o l (.tuple #[.agg #[aH (fold o), v], .int .i64 0]) w' := by
 refine ⟨v, ?_, ?_⟩
 ·rw [eA, if_pos h, h]
 ·rw [dF, if_pos h]; exact hv
def KM (B : Nat) (l : List Rec) (r : Value) (w' : World) : Prop := ∃ v, r = .tuple #[v, .int .i64 (tO l)] ∧ (tO l = 0 → SetsO B w' v (bP l))
theorem RefR.uni {B : Nat} {l : List Rec} {r : Value} {w' : World} (h : RefR B l r w') : KM B l r w' := by
 unfold RefR at h
 split at h
 ·rename_i h0
  obtain ⟨v, rfl, hv⟩ := h
  exact ⟨v, by rw [h0], fun _ => hv⟩
 ·rename_i h0
  exact ⟨_, h, fun h1 => absurd h1 h0⟩
theorem GroupO.uni {B : Nat} {l : List Rec} {r : Value} {w' : World} (h : GroupO B l r w') : KM B l r w' := by
 unfold GroupO at h
 rw [← RH] at h
 split at h
 ·rename_i h0
  obtain ⟨out, v, rfl, hp, hs, hv⟩ := h
  have hok : l.all yS = true := by
   cases hok : l.all yS with
   | true => rfl
   | false => rw [tO, if_pos hok] at h0; cases h0
  have e := MU hok hp hs
  exact ⟨v, by rw [h0], fun _ => by rw [← e]; exact hv⟩
 ·rename_i h0
  exact ⟨_, h, fun h1 => absurd h1 h0⟩
theorem cX {o : List UInt8} {v : Value} (h : v.oneCell' = true) : (Value.agg #[aH o, v]).cells.all (·.oneCell') = true := by
 simp [Value.cells, h, show (aH o).oneCell' = true from rfl]
set_option maxHeartbeats 3000000 in
theorem FF (o : List UInt8) (v : Value) (l : List Rec) (w : World) (hv : Sl 4 w v (aC l)) (hl : l.length ≤ 10000) (hd : ∀ r ∈ l, r.data.length ≤ 4611686018427387904) : Calls Tryz.prog 36 #[aH o, v] w (jK w (LoadU w.heap.size o l)) := by
 have hb : ∀ s ∈ bP l, s.data.length ≤ 1000000 := fun s hs => by have := vP l s hs; omega
 have hd2 : ∀ s ∈ bP l, ∀ d ∈ s.data, d.length ≤ 4611686018427387904 := fun s hs d hd3 => by
  obtain ⟨r, hr, rfl⟩ := tB hs hd3
  exact hd r hr
 go_enter Tryz.func36, Tryz.ntmps36
 refine_lift gT fun _ _ => ?_
 refine aF (z := aZ) rfl (by decide +kernel) ?_
 intro w1 x1 s1 h1
 refine aA ?_
 have hv1 := hv.ext x1
 refine_lift bS fun _ _ => ?_
 refine aI (enters_of Tryz.func85 rfl rfl) rfl rfl (VC v l _ hv1 hl) ?_
 intro r w2 x2 hr
 obtain ⟨y, rfl, hy⟩ := hr.uni
 clear hr
 have h2 := x2.at h1
 have hx2 := x1.trans x2
 by_cases hE : tO l = 0
 ·have hy := hy hE
  have hLE : gC o l = aQ (fold o) (bP l) := by rw [gC, if_pos hE]
  rw [hE]
  obtain ⟨ya, yn, yc, hys⟩ : ∃ a n c, y = .slice a n c := by obtain ⟨css, h, _⟩ := hy; exact h.slf
  refine_lift bS fun _ _ => ?_
  refine aB (enters_of Tryz.func62 rfl rfl) rfl rfl (MI o _) ?_; intro w3 x3; refine aA ?_
  have h3 := x3.at h2
  have hx3 := hx2.trans x3
  have hy3 := hy.ext x3
  refine_lift aP ?_
  refine aU (v := .agg #[aH (fold o), y]) rfl (Runs.build (vals := [(0, aH (fold o)), (1, y)]) rfl (by rw [hys]; kernel_rfl)) ?_
  refine aA ?_
  refine aF (z := aZ) rfl (by decide +kernel) ?_
  intro w4 x4 s4 h4
  refine aA ?_
  have hy1 : y.oneCell' = true := by rw [hys]; rfl
  refine aD (v := .agg #[aH (fold o), y]) rfl rfl rfl h4 (show aO Tryz.prog 25 2 = true by decide +kernel) rfl (cX hy1) ?_
  intro w5 p5
  have x5 : Ext w3 w5 := x4.move p5.mv (by rintro k ⟨⟩; exact Nat.le_refl _)
  have h5 := aE (cs := [aH (fold o), y]) p5.this
  have hx5 := hx3.trans x5
  have hy5 := hy3.ext x5
  have hz5 := x5.at h3
  clear p5 h4 x4
  refine_lift gO fun _ _ _ _ => ?_
  refine aB (enters_of Tryz.func34 rfl rfl) rfl rfl (tV (fold o) y (bP l) _ hy5.sets hb) ?_; intro w6 x6; refine aA ?_
  have h6 := h5.ext x6
  have hx6 := hx5.trans x6
  have hy6 := hy5.ext x6
  have hz6 := x6.at hz5
  refine_lift CD (fun _ _ _ => ?_) (fun _ _ _ => ?_)
  ·have q : ¬ aQ (fold o) (bP l) = 0 := by simpa using (by assumption : (!decide (aQ (fold o) (bP l) = 0)) = true)
   refine aU (v := .agg aZ.toArray) rfl (Runs.build0 (by kernel_rfl)) ?_
   refine aA ?_
   refine_lift aP ?_
   refine aD (v := .agg aZ.toArray) rfl rfl rfl hz6 (by decide +kernel) rfl (by decide +kernel) ?_
   intro w7 p7
   have x7 : Ext w w7 := hx6.move p7.mv (by rintro k ⟨⟩; exact Nat.le_refl _)
   refine_lift aP ?_
   refine bodyPost_ret (aJ (cs := aZ) rfl rfl p7.this (by decide +kernel)) rfl ⟨_, rfl, x7, ?_⟩
   exact LoadU.bad hLE q
  ·have q : aQ (fold o) (bP l) = 0 := by simpa using (by assumption : (!decide (aQ (fold o) (bP l) = 0)) = false)
   refine aD (v := .agg #[aH (fold o), y]) rfl rfl rfl hz6 (show aO Tryz.prog 25 2 = true by decide +kernel) rfl (cX hy1) ?_
   intro w7 p7
   have x7 : Ext w w7 := hx6.move p7.mv (by rintro k ⟨⟩; exact Nat.le_refl _)
   have hy7 := hy6.put p7 (by have := s1; omega)
   refine_lift aP ?_
   refine bodyPost_ret (aJ (cs := [aH (fold o), y]) rfl rfl p7.this (show cY Tryz.prog 25 2 = true by decide +kernel)) rfl ⟨_, rfl, x7, ?_⟩
   exact LoadU.good (by rw [hLE, q]) (hy7.weaken x1.size)
 ·have hLE : gC o l = tO l := by rw [gC, if_neg hE]
  refine_lift tK (fun _ _ _ => ?_) (fun _ _ _ _ _ => ?_)
  ·refine aU (v := .agg aZ.toArray) rfl (Runs.build0 (by kernel_rfl)) ?_
   refine aA ?_
   refine_lift aP ?_
   refine aD (v := .agg aZ.toArray) rfl rfl rfl h2 (by decide +kernel) rfl (by decide +kernel) ?_
   intro w3 p3
   have x3 : Ext w w3 := hx2.move p3.mv (by rintro k ⟨⟩; exact Nat.le_refl _)
   refine_lift aP ?_
   refine bodyPost_ret (aJ (cs := aZ) rfl rfl p3.this (by decide +kernel)) rfl ⟨_, rfl, x3, ?_⟩
   exact LoadU.bad hLE hE
  ·exact absurd (by assumption : (!decide (tO l = 0)) = false) (by simp [hE])
theorem qY {k : Nat} {c : Value} : ∀ (es : List (List Value)) (i j : Nat) (e : List Value), (∀ x ∈ es, x.length = k) → es[i]? = some e → j < k → (es.set i (e.set j c)).flatten = es.flatten.set (i * k + j) c
 | [], i, _, _, _, hi, _ => by simp at hi
 | x :: es, 0, j, e, hall, hi, hj => by
   have hx := hall x (by simp)
   cases hi
   simp only [List.set_cons_zero, List.flatten_cons, Nat.zero_mul, Nat.zero_add]
   rw [List.set_append_left _ _ (by omega)]
 | x :: es, i + 1, j, e, hall, hi, hj => by
   have hx := hall x (by simp)
   simp only [List.set_cons_succ, List.flatten_cons]
   rw [qY es i j e (fun y hy => hall y (by simp [hy])) (by simpa using hi) hj]
   rw [List.set_append_right _ _ (by rw [Nat.add_mul]; omega), show (i + 1) * k + j - x.length = i * k + j by rw [hx, Nat.add_mul]; omega]
theorem Own.storeF {P : Program} {B k e : Nat} {w : World} {v : Value} {es : List (List Value)} {t : TypeId} {i j : Nat} {ce : List Value} {c : Value} (h : Own B k e w v es) (hi : es[i]? = some ce) (hj : j < k) (hs : aO P t 1 = true) (h1 : c.oneCell' = true) :
 ∃ w' b o, bG (bU v (i * k)) j = .pointer (some ⟨b, o, none⟩) ∧ (storeVar t ⟨b, o, none⟩ c).run P w = .ok () w' ∧ Own B k e w' v (es.set i (ce.set j c)) ∧ Mv v.ownBlock w w' := by
 have hil := (List.getElem?_eq_some_iff.1 hi).1
 have hce : ce.length = k := h.each ce (List.mem_of_getElem? hi)
 have hcc : c.cells = #[c] := by cases c <;> first | rfl | cases h1
 rcases h.row.2 with ⟨rfl, h0⟩ | ⟨g, cap, cur, fz, rfl, hb, hg, hfz, hnc, hcm, hcs, htake⟩
 ·omega
 ·have hl := aW h.each
  have hik : i * k + k ≤ es.length * k := by
   have : (i + 1) * k ≤ es.length * k := Nat.mul_le_mul_right k hil
   rwa [Nat.add_mul, Nat.one_mul] at this
  have hck : es.length * k ≤ cap * k := Nat.mul_le_mul_right k hnc
  have hst := cS P g (i * k + j) e fz [c] 0 cur w hg hfz (by simp; omega) (by simpa using h1)
  simp only [Nat.add_zero, List.length_cons, List.length_nil, Nat.zero_add] at hst
  have hset : cur.toList.take (i * k + j) ++ [c] ++ cur.toList.drop (i * k + j + 1) = cur.toList.set (i * k + j) c := by
   rw [List.set_eq_take_append_cons_drop, if_pos (by simp; omega)]; simp
  rw [hset] at hst
  obtain ⟨ti, hq, hsz⟩ := lR (fL hs)
  have hall : ∀ x ∈ es.set i (ce.set j c), x.length = k := by
   intro x hx
   rcases List.mem_or_eq_of_mem_set hx with hx | rfl
   ·exact h.each x hx
   ·simpa using hce
  refine ⟨w.setRow g (cur.toList.set (i * k + j) c).toArray, g, i * k + j, by simp [bU, bG, cJ], ?_, ⟨⟨?_, .inr ⟨g, cap, (cur.toList.set (i * k + j) c).toArray, fz, ?_, hb, setRow_heap w g cur _ e _ hg, ?_, ?_, hcm, ?_, ?_⟩⟩, hall⟩, ⟨rfl, rfl, rfl, by simp, fun k _ hk => setRow_other w g k _ (fun e => hk (by simp [Value.ownBlock, e])), Nat.le_refl _⟩⟩
  ·simpa [storeVar, sizeOf, typeInfo, hq, hsz, hcc] using hst
  ·rw [aW hall]
  ·simp
  ·simpa using hfz
  ·simpa using hnc
  ·simpa using hcs
  ·rw [qY es i j ce h.each hi hj, ← htake]
   simp only [List.length_set, List.take_set]
section
variable {P : Program} {ops : Array Oper} {Q : Exit → Act → World → Prop} {w : World} {rest : List Oper} {ts : List Value} {df : List Deferred} {ty : TypeId} {ps : String} {af : Array Edge} {g : Option (Nat × Bool)}
theorem kO {B k e : Nat} {v c : Value} {es : List (List Value)} {ce : List Value} {t ty2 : TypeId} {x y : Operand} {i j : Nat} (hw : Region.wanted (Oper.mk none (.store t x y) ty2 ps af g) (yielded ops ts.toArray) = true)
 (hx : (Act.mk ts.toArray df).eval x = bG (bU v (i * k)) j) (hy : (Act.mk ts.toArray df).eval y = c) (h : Own B k e w v es) (hi : es[i]? = some ce) (hj : j < k) (hs : aO P t 1 = true) (h1 : c.oneCell' = true)
 (hk : ∀ w', Own B k e w' v (es.set i (ce.set j c)) → Mv v.ownBlock w w' → wpList P ops Q rest (Act.mk ts.toArray df) w') : wpList P ops Q (Oper.mk none (.store t x y) ty2 ps af g :: rest) (Act.mk ts.toArray df) w := by
 obtain ⟨w', b, o, he, hr, ho, hm⟩ := h.storeF (P := P) hi hj hs h1
 refine fM hw (w' := w') ?_ (hk w' ho hm)
 simp [execOp, hx, hy, he, Instr.storeAt, Instr.sureAddr, hr]
end
structure SetsW (B : Nat) (w : World) (css : List (List Value)) (l : List RSet) : Prop where
 len : css.length = l.length
 at' : ∀ (i : Nat) (s : RSet), l[i]? = some s → ∃ x, css[i]? = some [aH s.name, .int .i64 s.kind, .int .i64 s.ttl, x] ∧ Own B 1 9 w x (aM s.data)
theorem SetsW.sets {B : Nat} {w : World} {css : List (List Value)} {l : List RSet} (h : SetsW B w css l) : SetsC w css l :=
 ⟨h.len, fun i s hi => let ⟨x, a, b⟩ := h.at' i s hi; ⟨x, a, b.sl⟩⟩
theorem SetsW.ext {B : Nat} {w w' : World} {css : List (List Value)} {l : List RSet} (h : SetsW B w css l) (hx : Ext w w') : SetsW B w' css l :=
 ⟨h.len, fun i s hi => let ⟨x, a, b⟩ := h.at' i s hi; ⟨x, a, b.ext hx⟩⟩
theorem SetsW.mv {B B' k' e' : Nat} {w w' : World} {css : List (List Value)} {l : List RSet} {v : Value} {es : List (List Value)} (h : SetsW B w css l) (ho : Own B' k' e' w v es) (he : 9 ≠ e') (hm : Mv v.ownBlock w w') : SetsW B w' css l :=
 ⟨h.len, fun i s hi => let ⟨x, a, b⟩ := h.at' i s hi; ⟨x, a, b.mv hm (b.ne ho he)⟩⟩
theorem SetsW.put {B b t : Nat} {w w' : World} {css : List (List Value)} {l : List RSet} {cs : Array Value} {fz : Nat × Nat} {o : Obj} (h : SetsW B w css l) (hb : w.heap[b]? = some (.cells cs t fz)) (ht : t ≠ 9) (hp : Put w w' b o) : SetsW B w' css l :=
 ⟨h.len, fun i s hi => let ⟨x, a, c⟩ := h.at' i s hi; ⟨x, a, c.mv hp.mv (.inr (c.neBlock hb ht))⟩⟩
theorem SetsW.weaken {B C : Nat} {w : World} {css : List (List Value)} {l : List RSet} (h : SetsW B w css l) (hc : C ≤ B) : SetsW C w css l :=
 ⟨h.len, fun i s hi => let ⟨x, a, b⟩ := h.at' i s hi; ⟨x, a, b.weaken hc⟩⟩
theorem SetsW.append {B : Nat} {w : World} {l m : List RSet} {c d : List (List Value)} (h : SetsW B w c l) (k : SetsW B w d m) : SetsW B w (c ++ d) (l ++ m) := by
 refine ⟨by rw [List.length_append, List.length_append, h.len, k.len], fun i s hi => ?_⟩
 rw [List.getElem?_append] at hi ⊢
 rw [h.len]
 split at hi
 ·rw [if_pos ‹_›]; exact h.at' i s hi
 ·rw [if_neg ‹_›]; exact k.at' _ s hi
theorem SetsW.one {B : Nat} {w : World} {s : RSet} {x : Value} (h : Own B 1 9 w x (aM s.data)) : SetsW B w [[aH s.name, .int .i64 s.kind, .int .i64 s.ttl, x]] [s] :=
 ⟨rfl, fun i t hi => by
  match i, hi with
  | 0, hi => cases hi; exact ⟨x, rfl, h⟩⟩
theorem SetsW.nil (B : Nat) (w : World) : SetsW B w [] [] := ⟨rfl, by simp⟩
theorem SetsW.from' {B C : Nat} {w : World} {css : List (List Value)} {l : List RSet} (h : SetsW B w css l) (hc : C ≤ B) : FromC C css := by
 intro f hf u hu
 obtain ⟨i, hi, rfl⟩ := List.mem_iff_getElem.1 hf
 obtain ⟨x, h1, h2⟩ := h.at' i _ (List.getElem?_eq_getElem (by rw [← h.len]; exact hi))
 rw [List.getElem?_eq_getElem hi] at h1
 rw [Option.some.inj h1] at hu
 exact (FromC.one (h2.from' hc)) _ (List.mem_singleton.2 rfl) u hu
structure SetsV (B : Nat) (w : World) (v : Value) (l : List RSet) : Prop where
 out : ∃ css, Own B 4 119 w v css ∧ SetsW B w css l
theorem SetsV.toO {B C : Nat} {w : World} {v : Value} {l : List RSet} (h : SetsV B w v l) (hc : C ≤ B) : SetsO C w v l := by
 obtain ⟨css, h1, h2⟩ := h
 exact ⟨css, h1.sl, h1.from' hc, h2.sets, h2.from' hc⟩
theorem SetsV.ext {B : Nat} {w w' : World} {v : Value} {l : List RSet} (h : SetsV B w v l) (hx : Ext w w') : SetsV B w' v l := by
 obtain ⟨css, h1, h2⟩ := h
 exact ⟨css, h1.ext hx, h2.ext hx⟩
theorem SetsV.weaken {B C : Nat} {w : World} {v : Value} {l : List RSet} (h : SetsV B w v l) (hc : C ≤ B) : SetsV C w v l := by
 obtain ⟨css, h1, h2⟩ := h
 exact ⟨css, h1.weaken hc, h2.weaken hc⟩
theorem SetsV.put {B b t : Nat} {w w' : World} {v : Value} {l : List RSet} {cs : Array Value} {fz : Nat × Nat} {o : Obj} (h : SetsV B w v l) (hb : w.heap[b]? = some (.cells cs t fz)) (ht : t ≠ 9) (ht2 : t ≠ 119) (hp : Put w w' b o) : SetsV B w' v l := by
 obtain ⟨css, h1, h2⟩ := h
 exact ⟨css, h1.mv hp.mv (.inr (h1.neBlock hb ht2)), h2.put hb ht hp⟩
theorem SetsV.slf {B : Nat} {w : World} {v : Value} {l : List RSet} (h : SetsV B w v l) : ∃ a n c, v = .slice a n c := by
 obtain ⟨css, h1, h2⟩ := h
 exact h1.sl.slf
set_option maxHeartbeats 6000000 in
theorem HY (v : Value) (l : List RSet) (w : World) (hv : SetsAt w v l) (hl : l.length ≤ 100000) (hb : ∀ s ∈ l, s.data.length ≤ 1000000) : Calls Tryz.prog 56 #[v] w (jK w fun r w' => SetsV w.heap.size w' r l) := by
 obtain ⟨cv, hv1, hvl⟩ := hv.sl
 have hle := hv1.le
 go_enter Tryz.func56, Tryz.ntmps56
 refine_lift kT ?_; intro _ _ _
 go_loopw [3, 4] (fun o i wr => ∃ (k : Nat) (css : List (List Value)), k ≤ l.length ∧ i = .int .i64 k ∧ Ext w wr ∧ Own w.heap.size 4 119 wr o css ∧ SetsW w.heap.size wr css (l.take k)) (fun _ i _ => l.length - (intOf i).toNat)
 case atStart => exact ⟨0, [], Nat.zero_le _, rfl, Ext.refl _, Own.nil _ _ _ _, SetsW.nil _ _⟩
 case round =>
  obtain ⟨k, css, hk, rfl, hx, ho, hs⟩ := hrel
  have hv2 := hv1.ext hx
  have hsl := hs.len
  rw [List.length_take] at hsl
  by_cases hlt : k < l.length
  ·obtain ⟨x, h4, h4d⟩ := (hv.ext hx).elem (List.getElem?_eq_getElem hlt)
   refine_lift gO ?_; intro _ _ _ _
   refine aI (enters_of Tryz.func105 rfl rfl) rfl rfl (GH l[k] x _ h4d (hb _ (List.getElem_mem hlt))) ?_
   intro r2 w2 x2 hr2
   obtain ⟨y, rfl, oy⟩ := hr2
   have hx2 := hx.trans x2
   have ho2 := ho.ext x2
   have hs2 := hs.ext x2
   have oy := oy.weaken hx.size
   refine aA ?_
   refine_lift aP ?_
   refine JE [aH l[k].name, .int .i64 l[k].kind, .int .i64 l[k].ttl, y] hx2 ho2 (by omega) ?_ (by exact ⟨rfl, rfl, rfl, by intro u hu; simp only [List.mem_cons, List.not_mem_nil, or_false] at hu; rcases hu with rfl | rfl | rfl | rfl <;> first | rfl | exact oy.one⟩)
   intro s3 v3 w3 w4 x3 m4 x4 o4
   refine aA ?_
   have oy4 := (oy.ext x3).mv m4 ((oy.ext x3).ne (ho2.ext x3) (by decide))
   have hs4 := (hs2.ext x3).mv (ho2.ext x3) (by decide) m4
   refine_lift aP ?_
   refine ⟨⟨k + 1, _, by omega, by go_num, x4, o4, ?_⟩, by simp [intOf]; omega⟩
   rw [List.take_add_one, List.getElem?_eq_getElem hlt]
   exact hs4.append (SetsW.one oy4)
  ·have : k = l.length := by omega
   subst this
   rw [List.take_length] at hs
   refine_lift fG fun _ => ?_
   go_ret
   exact ⟨_, rfl, hx, css, ho, hs⟩
set_option maxHeartbeats 6000000 in
theorem AX (o : List UInt8) (v : Value) (l : List RSet) (w : World) (hv : SetsAt w v l) (hl : l.length ≤ 100000) (hb : ∀ s ∈ l, s.data.length ≤ 1000000) : Calls Tryz.prog 20 #[.agg #[aH o, v]] w (jK w fun r w' => ∃ y, r = .agg #[aH o, y] ∧ SetsV w.heap.size w' y l) := by
 go_enter Tryz.func20, Tryz.ntmps20
 refine_lift rF ?_; intro _ _ _
 refine aT (vs := [aH o, v]) rfl rfl ?_
 intro p w1 x1 hp
 refine aA ?_
 refine aF (z := aZ) rfl (by decide +kernel) ?_
 intro w2 x2 s2 h2
 refine aA ?_
 have hp2 := hp.ext x2
 have hx2 := x1.trans x2
 have hv2 := hv.ext hx2
 have z1 := x1.size
 refine_lift bS fun _ _ => ?_
 refine cE (S := fun w' => Ext w1 w') (by decide +kernel) ?_
 intro w3 x3 hh3
 have hp3 := hp2.ext x3
 have hS3 : Ext w1 w3 := x2.trans x3
 refine tk 0 ?_ (hS := hS3) (hy := by intro w9 hS9; exact Runs.fieldTn (hp.ext hS9) (by decide +kernel)); refine aA ?_
 refine tk 1 ?_ (hS := hS3) (hy := by intro w9 hS9; have := hp.ext hS9; exact rn); refine aA ?_
 refine tk 2 ?_ (hS := hS3) (hy := by intro w9 hS9; have := hp.ext hS9; exact rn); refine aA ?_
 refine tk 3 ?_ (hS := hS3) (hy := by intro w9 hS9; have := hp.ext hS9; exact rn); refine aA ?_
 refine aY (i := 4) (by decide +kernel) rfl rfl ?_
 refine aI (enters_of Tryz.func56 rfl rfl) rfl rfl (HY v l _ (hv2.ext x3) hl hb) ?_
 intro y w4 x4 hy
 refine aA ?_
 have hS4 := hS3.trans x4
 refine aK ⟨hS4, ?_⟩
 obtain ⟨ya, yn, yc, hys⟩ := hy.slf
 have hy1 : y.oneCell' = true := by rw [hys]; rfl
 refine cA (i := 5) (v := .agg #[aH o, y]) rfl rfl (by decide +kernel) (by decide +kernel) (by decide +kernel) rfl hS4 (fun w' _ => Runs.build (vals := [(0, aH o), (1, y)]) rfl (by rw [hys]; kernel_rfl)) (fun _ _ _ h => h) ?_
 refine aA ?_
 refine aY (i := 6) (by decide +kernel) rfl rfl ?_
 have h4 := (x3.trans x4).at h2
 refine aD (v := .agg #[aH o, y]) rfl rfl rfl h4 (show aO Tryz.prog 25 2 = true by decide +kernel) rfl (cX hy1) ?_
 intro w5 p5
 have hS5 : Ext w1 w5 := hS4.move p5.mv (by rintro k ⟨⟩; exact Nat.le_refl _)
 have hy5 := hy.put h4 (by decide) (by decide) p5
 refine aK ⟨hS5, ?_⟩
 refine cL (by decide +kernel) ?_
 refine_lift aP ?_
 refine bodyPost_ret (dU (cs := [aH o, y]) rfl rfl p5.this (show cY Tryz.prog 25 2 = true by decide +kernel)) rfl ⟨_, rfl, x1.trans hS5, y, rfl, hy5.weaken (Nat.le_trans z1 hS3.size)⟩
set_option maxHeartbeats 6000000 in
theorem DE (v : Value) (css : List (List Value)) (w : World) (hv : Sl 4 w v css) (h1 : ∀ f ∈ css, ∀ u ∈ f, u.oneCell' = true) (hl : css.length ≤ 1000000) : Calls Tryz.prog 87 #[v] w (jK w fun v' w' => Own w.heap.size 4 119 w' v' css) := by
 go_enter Tryz.func87, Tryz.ntmps87
 (repeat' first | ((with_reducible refine cI ?_); go_step) | ((with_reducible refine bJ ?_); first | refine fD ?_ | (refine cZ ?_ ?_ <;> intro hc)) | fail)
 ·have hn := ‹uB v = true›
  go_ret
  have : css = [] := hv.isNil hn
  refine ⟨_, rfl, Ext.refl _, ?_⟩
  rw [this]
  exact Own.nil _ _ _ _
 ·refine jV (t := 23) (e := 119) (k := 4) (bytes := 56) (by decide +kernel) rfl ?_
  intro v2 w2 x2 s2 o2
  refine aA ?_
  refine_lift aP ?_
  refine bW (B := w.heap.size) (e := 119) rfl o2 rfl (hv.ext x2) h1 x2.size (by simp; omega) ?_
  intro v3 w3 o3 m3 _
  have x3 := o2.mvx m3 x2 (Nat.le_refl _)
  refine aA ?_
  refine_lift aP ?_
  go_ret
  exact ⟨_, rfl, x3, by simpa using o3⟩
def pG (s : SoaR) (n : Int) : SoaR := { s with serial := n }
def xR (o : List UInt8) (l : List RSet) (n : Int) : Int := if aQ o l = 0 then (if (pG (bD o l) n).ok = true then 0 else 1) else aQ o l
def MV (o : List UInt8) (l : List RSet) (n : Int) : List UInt8 := (pG (bD o l) n).data
def mL (d : List UInt8) (s : RSet) : RSet := if s.kind = 6 then ⟨s.name, s.kind, s.ttl, [d]⟩ else s
def MW (o : List UInt8) (l : List RSet) (n : Int) : List RSet := if xR o l n = 0 then l.map (mL (MV o l n)) else []
def MX (o : List UInt8) (l : List RSet) (n : Int) : List UInt8 := if xR o l n = 0 then o else []
def RenU (B : Nat) (o : List UInt8) (l : List RSet) (n : Int) (r : Value) (w' : World) : Prop :=
 ∃ v, r = .tuple #[.agg #[aH (MX o l n), v], .int .i64 (xR o l n)] ∧ SetsO B w' v (MW o l n)
theorem RenU.bad {B : Nat} {o : List UInt8} {l : List RSet} {n e : Int} {w' : World} (h : xR o l n = e) (he : e ≠ 0) : RenU B o l n (.tuple #[.agg aZ.toArray, .int .i64 e]) w' := by
 refine ⟨.slice none 0 0, ?_, ?_⟩
 ·rw [h, MX, if_neg (by rw [h]; exact he)]; rfl
 ·rw [MW, if_neg (by rw [h]; exact he)]; exact SetsO.nil _ _
theorem RenU.good {B : Nat} {o : List UInt8} {l : List RSet} {n : Int} {v : Value} {w' : World} (h : xR o l n = 0) (hv : SetsO B w' v (l.map (mL (MV o l n)))) : RenU B o l n (.tuple #[.agg #[aH o, v], .int .i64 0]) w' := by
 refine ⟨v, ?_, ?_⟩
 ·rw [MX, if_pos h, h]
 ·rw [MW, if_pos h]; exact hv
theorem KN {o : List UInt8} {l : List RSet} : (bD o l).main.length ≤ 4611686018427387904 ∧ (bD o l).mail.length ≤ 4611686018427387904 := by
 unfold bD
 split
 ·rename_i q
  obtain ⟨s, _, _, _, _, _, _, h⟩ := (eW q).soaSet
  obtain ⟨h1, h2⟩ := mA (gR o l)
  obtain ⟨h3, h4⟩ := mA (bO (gR o l)).2.1
  exact ⟨by show (bO (gR o l)).1.length ≤ _; omega, by show (bO (bO (gR o l)).2.1).1.length ≤ _; omega⟩
 ·exact ⟨by simp [zR], by simp [zR]⟩
theorem ZoneOk.one6 {o : List UInt8} {l : List RSet} (h : ZoneOk o l) {s : RSet} (hs : s ∈ l) (h6 : s.kind = 6) : s.name = o ∧ s.data.length = 1 := by
 have hr := h.right s hs
 simp only [dE, Bool.and_eq_true, Bool.not_eq_true', h6] at hr
 have := hr.1.1.2
 simp only [decide_true, Bool.true_and, Bool.or_eq_false_iff, decide_eq_false_iff_not, ne_eq, Decidable.not_not] at this
 exact this
theorem AY {d : List UInt8} {s : RSet} (h : ¬ s.kind = 6) : mL d s = s := by rw [mL, if_neg h]
theorem vQ {d : List UInt8} {s : RSet} (h : s.kind = 6) : mL d s = ⟨s.name, s.kind, s.ttl, [d]⟩ := by rw [mL, if_pos h]
theorem SetsW.set {B : Nat} {w : World} {css : List (List Value)} {l : List RSet} (h : SetsW B w css l) {i : Nat} {s : RSet} {x : Value} (hx : Own B 1 9 w x (aM s.data)) : SetsW B w (css.set i [aH s.name, .int .i64 s.kind, .int .i64 s.ttl, x]) (l.set i s) := by
 refine ⟨by rw [List.length_set, List.length_set, h.len], fun j t hj => ?_⟩
 by_cases e : i = j
 ·subst e
  have hlt : i < l.length := by have := (List.getElem?_eq_some_iff.1 hj).1; simpa using this
  rw [List.getElem?_set_self hlt] at hj
  cases hj
  exact ⟨x, List.getElem?_set_self (by rw [h.len]; exact hlt), hx⟩
 ·rw [List.getElem?_set_ne e] at hj
  rw [List.getElem?_set_ne e]
  exact h.at' j t hj
structure SetsM (B : Nat) (w0 w : World) (css0 css : List (List Value)) (l : List RSet) (d : List UInt8) (k : Nat) : Prop where
 len : css.length = l.length
 new : ∀ (i : Nat) (s : RSet), l[i]? = some s → i < k → ∃ x, css[i]? = some [aH s.name, .int .i64 s.kind, .int .i64 s.ttl, x] ∧ Own B 1 9 w x (aM (mL d s).data)
 old : ∀ i, k ≤ i → css[i]? = css0[i]?
theorem SetsM.ext {B : Nat} {w0 w w' : World} {css0 css : List (List Value)} {l : List RSet} {d : List UInt8} {k : Nat} (h : SetsM B w0 w css0 css l d k) (hx : Ext w w') : SetsM B w0 w' css0 css l d k :=
 ⟨h.len, fun i s hi hk => let ⟨x, a, b⟩ := h.new i s hi hk; ⟨x, a, b.ext hx⟩, h.old⟩
theorem SetsM.mv {B : Nat} {w0 w w' : World} {css0 css : List (List Value)} {l : List RSet} {d : List UInt8} {k : Nat} {row : Option Nat} (h : SetsM B w0 w css0 css l d k) (hm : Mv row w w') (hne : ∀ x es, Own B 1 9 w x es → x.ownBlock = none ∨ x.ownBlock ≠ row) : SetsM B w0 w' css0 css l d k :=
 ⟨h.len, fun i s hi hk => let ⟨x, a, b⟩ := h.new i s hi hk; ⟨x, a, b.mv hm (hne x _ b)⟩, h.old⟩
theorem SetsM.step {B : Nat} {w0 w : World} {css0 css : List (List Value)} {l : List RSet} {d : List UInt8} {k : Nat} (h : SetsM B w0 w css0 css l d k) (hk : k < l.length) {y : Value} (hy : Own B 1 9 w y (aM (mL d l[k]).data)) :
 SetsM B w0 w css0 (css.set k [aH l[k].name, .int .i64 l[k].kind, .int .i64 l[k].ttl, y]) l d (k + 1) := by
 refine ⟨by rw [List.length_set, h.len], fun i s hi hik => ?_, fun i hi => ?_⟩
 ·by_cases e : k = i
  ·subst e
   rw [List.getElem?_eq_getElem hk] at hi
   cases hi
   exact ⟨y, List.getElem?_set_self (by rw [h.len]; exact hk), hy⟩
  ·obtain ⟨x, a, b⟩ := h.new i s hi (by omega)
   exact ⟨x, by rw [List.getElem?_set_ne e]; exact a, b⟩
 ·rw [List.getElem?_set_ne (by omega)]; exact h.old i (by omega)
theorem HZ {d : List UInt8} {s : RSet} : (mL d s).name = s.name ∧ (mL d s).kind = s.kind ∧ (mL d s).ttl = s.ttl := by
 unfold mL; split <;> exact ⟨rfl, rfl, rfl⟩
theorem SetsM.done {B : Nat} {w0 w : World} {css0 css : List (List Value)} {l : List RSet} {d : List UInt8} (h : SetsM B w0 w css0 css l d l.length) : SetsW B w css (l.map (mL d)) := by
 refine ⟨by rw [List.length_map, h.len], fun i s hi => ?_⟩
 rw [List.getElem?_map] at hi
 cases hq : l[i]? with
 | none => rw [hq] at hi; cases hi
 | some t =>
  rw [hq] at hi
  cases hi
  obtain ⟨x, a, b⟩ := h.new i t hq (List.getElem?_eq_some_iff.1 hq).1
  obtain ⟨e1, e2, e3⟩ := HZ (d := d) (s := t)
  exact ⟨x, by rw [e1, e2, e3]; exact a, b⟩
set_option maxHeartbeats 6000000 in
theorem MY (o : List UInt8) (v : Value) (l : List RSet) (n : Int) (w : World) (hv : SetsAt w v l) (hl : l.length ≤ 100000) (hb : ∀ s ∈ l, s.data.length ≤ 1000000) (hd : ∀ s ∈ l, ∀ d ∈ s.data, d.length ≤ 4611686018427387904) : Calls Tryz.prog 38 #[.agg #[aH o, v], .int .i64 n] w (jK w (RenU w.heap.size o l n)) := by
 obtain ⟨hm1, hm2⟩ := KN (o := o) (l := l)
 have hsoa : ∀ w', Calls Tryz.prog 86 #[.agg (pG (bD o l) n).cells.toArray] w' (bC w' (if (pG (bD o l) n).ok = true then .tuple #[aH (pG (bD o l) n).data, .int .i64 0] else .tuple #[aH [], .int .i64 1])) := fun w' => TY (pG (bD o l) n) w' hm1 hm2
 clear hm1 hm2
 go_enter Tryz.func38, Tryz.ntmps38
 refine_lift gT fun _ _ => ?_
 refine dL (vs := [aH o, v]) rfl rfl ?_
 intro w1 x1 s1 hz1
 refine aA ?_
 refine aF (z := aZ) rfl (by decide +kernel) ?_
 intro w2 x2 s2 h2
 refine aA ?_
 have hz2 := x2.at hz1
 have hx2 := x1.trans x2
 have hv2 := hv.ext hx2
 have z1 := x1.size
 have hp2 := aE hz2
 refine_lift bS fun _ _ => ?_
 refine aB (enters_of Tryz.func31 rfl rfl) rfl rfl (qV o v l _ hv2 hb hd) ?_; intro w3 x3; refine aA ?_
 have hx3 := hx2.trans x3
 have hz3 := x3.at hz2
 have h3 := x3.at h2
 have hp3 := hp2.ext x3
 refine_lift aP ?_
 refine aF (z := aX) rfl (by decide +kernel) ?_
 intro w4 x4 s4 h4
 refine aA ?_
 refine aD (v := .agg (bD o l).cells.toArray) rfl rfl rfl h4 (show aO Tryz.prog 67 7 = true by decide +kernel) rfl (dS _) ?_
 intro w5 p5
 have x5 : Ext w3 w5 := x4.move p5.mv (by rintro k ⟨⟩; exact Nat.le_refl _)
 have hb5 : w5.heap[w3.heap.size]? = some (.cells (bD o l).cells.toArray 67 (0, 0)) := p5.this
 have hx5 := hx3.trans x5
 have hp5 := hp3.ext x5
 have h5 := x5.at h3
 have hz5 := x5.at hz3
 have z3 := x3.size
 have z2 := x2.size
 clear p5 h4 x4
 refine_lift tK (fun _ _ _ => ?_) (fun _ _ _ _ _ => ?_)
 ·have q : ¬ aQ o l = 0 := by simpa using (by assumption : (!decide (aQ o l = 0)) = true)
  refine aU (v := .agg aZ.toArray) rfl (Runs.build0 (by kernel_rfl)) ?_
  refine aA ?_
  refine_lift aP ?_
  refine aD (v := .agg aZ.toArray) rfl rfl rfl h5 (by decide +kernel) rfl (by decide +kernel) ?_
  intro w6 p6
  have x6 : Ext w w6 := hx5.move p6.mv (by rintro k ⟨⟩; exact z1)
  refine_lift aP ?_
  refine bodyPost_ret (aJ (cs := aZ) rfl rfl p6.this (by decide +kernel)) rfl ⟨_, rfl, x6, ?_⟩
  exact RenU.bad (by rw [xR, if_neg q]) q
 ·have q : aQ o l = 0 := by simpa using (by assumption : (!decide (aQ o l = 0)) = false)
  have hone : ∀ s ∈ l, s.kind = 6 → s.data.length = 1 := fun s hs h6 => ((eW q).one6 hs h6).2
  have hp5s := aE hb5
  refine_lift aP ?_
  refine cT (n := 2) hb5 rfl rfl rfl (by simp [SoaR.cells]) (by decide +kernel) rfl ?_
  intro w6 p6
  have x6 : Ext w3 w6 := x5.move p6.mv (by rintro k ⟨⟩; exact Nat.le_refl _)
  have hb6 : w6.heap[w3.heap.size]? = some (.cells (pG (bD o l) n).cells.toArray 67 (0, 0)) := p6.this
  have hx6 := hx3.trans x6
  have h6 := x6.at h3
  have hz6 := x6.at hz3
  clear p6 hb5 hp5s x5 hp5 h5 hz5
  have hren : xR o l n = if (pG (bD o l) n).ok = true then 0 else 1 := by rw [xR, if_pos q]
  have hrd : MV o l n = (pG (bD o l) n).data := rfl
  generalize pG (bD o l) n = sn at *
  have hp6s := aE (cs := [aH sn.main, aH sn.mail, .int .i64 sn.serial, .int .i64 sn.refresh, .int .i64 sn.retry, .int .i64 sn.expire, .int .i64 sn.minimum]) hb6
  refine_lift bS fun _ _ => ?_
  refine aB (enters_of Tryz.func86 rfl rfl) rfl rfl (hsoa _) ?_; intro w7 x7; refine aA ?_
  have hx7 := hx6.trans x7
  have hz7 := x7.at hz6
  have h7 := x7.at h6
  cases hok : sn.ok with
  | false =>
   rw [hok] at hren
   refine_lift MG fun _ _ _ _ _ => ?_
   refine aU (v := .agg aZ.toArray) rfl (Runs.build0 (by kernel_rfl)) ?_
   refine aA ?_
   refine_lift aP ?_
   refine aD (v := .agg aZ.toArray) rfl rfl rfl h7 (by decide +kernel) rfl (by decide +kernel) ?_
   intro w8 p8
   have x8 : Ext w w8 := hx7.move p8.mv (by rintro k ⟨⟩; exact z1)
   refine_lift aP ?_
   refine bodyPost_ret (aJ (cs := aZ) rfl rfl p8.this (by decide +kernel)) rfl ⟨_, rfl, x8, ?_⟩
   exact RenU.bad (by rw [hren]; rfl) (by decide)
  | true =>
   rw [hok] at hren
   have hren : xR o l n = 0 := hren
   rw [← hrd]
   generalize hgd : MV o l n = d at *
   clear hsoa hp6s hb6 hrd
   obtain ⟨css0, hv0, hvs⟩ := hv.rows
   have hp7 := aE hz7
   have hvs7 := hvs.ext hx7
   refine_lift bS fun _ _ => ?_
   refine aI (enters_of Tryz.func87 rfl rfl) rfl rfl (DE v css0 _ (hv0.ext hx7) hvs7.cell (by rw [hvs.len]; omega)) ?_
   intro y w8 x8 ho8
   have hx8 := hx7.trans x8
   have h8 := x8.at h7
   have hz8 := x8.at hz7
   have hp8 := aE hz8
   refine aA ?_
   refine_lift aP ?_
   refine cT (n := 1) hz8 rfl rfl rfl (by simp) (by decide +kernel) ho8.one ?_
   intro w9 p9
   have hx9 : Ext w w9 := hx8.move p9.mv (by rintro k ⟨⟩; exact Nat.le_refl _)
   have hz9 : w9.heap[w.heap.size]? = some (.cells [aH o, y].toArray 25 (0, 0)) := p9.this
   have h9 := p9.at h8 (by omega)
   have ho9 := ho8.mv p9.mv (.inr (ho8.neBlock hz8 (by decide)))
   have hzB : w1.heap.size < w7.heap.size := by have a1 := x2.size; have a2 := x3.size; have a3 := x6.size; have a4 := x7.size; have a5 := s2; omega
   have hzW := hx7.size
   have hB9 : w7.heap.size ≤ w9.heap.size := by have a1 := x8.size; have a2 := p9.size; omega
   have hne : w.heap.size ≠ w1.heap.size := by omega
   have hsl9 := ho9.sl
   have hlen0 := hvs.len
   have hpz9 := aE hz9
   clear p9 hz8 hp8 h8 ho8 hz7 hp7 h7 hz6 h6 hz3 h3 hp3 hp2 hz2 hz1 h2
   refine_lift bS fun _ _ => ?_
   generalize hrb : w1.heap.size = rb at *
   generalize w7.heap.size = B at *
   clear hpz9 hsl9 hvs7
   go_loopw [9, 10, 38] (fun _ _ i wr => ∃ (k : Nat) (css : List (List Value)), k ≤ l.length ∧ i = .int .i64 k ∧ Ext w wr ∧ B ≤ wr.heap.size ∧ wr.heap[w.heap.size]? = some (.cells [aH o, y].toArray 25 (0, 0)) ∧ wr.heap[rb]? = some (.cells aZ.toArray 25 (0, 0)) ∧ Own B 4 119 wr y css ∧ SetsM B w wr css0 css l d k) (fun _ _ i _ => l.length - (intOf i).toNat)
   case atStart => exact ⟨0, css0, Nat.zero_le _, rfl, hx9, hB9, hz9, h9, ho9, ⟨hlen0, by omega, fun i _ => rfl⟩⟩
   case round =>
    obtain ⟨k, css, hk, rfl, hx, hBr, hbz, hbr, ho, hs⟩ := hrel
    have hpz := aE hbz
    have hsl := ho.sl
    have hlen := hs.len
    by_cases hlt : k < l.length
    ·obtain ⟨x, hc0, hxd0⟩ := hvs.at' k _ (List.getElem?_eq_getElem hlt)
     have hc : css[k]? = some [aH l[k].name, .int .i64 l[k].kind, .int .i64 l[k].ttl, x] := by rw [hs.old k (Nat.le_refl _)]; exact hc0
     have hxd := hxd0.ext hx
     have hpe := hsl.elem hc
     have hbk := hb _ (List.getElem_mem hlt)
     refine_lift nX ?_; intro _ _ _ _ _ _
     refine aF (z := iS) rfl (by decide +kernel) ?_
     intro w10 x10 s10 h10
     refine aA ?_
     refine_lift aP ?_
     refine aD (v := .agg #[aH l[k].name, .int .i64 l[k].kind, .int .i64 l[k].ttl, x]) rfl rfl rfl h10 (show aO Tryz.prog 119 4 = true by decide +kernel) rfl (fU rfl rfl rfl hxd.one) ?_
     intro w11 p11
     have x11 : Ext wr w11 := x10.move p11.mv (by rintro k ⟨⟩; exact Nat.le_refl _)
     have hbs : w11.heap[wr.heap.size]? = some (.cells [aH l[k].name, .int .i64 l[k].kind, .int .i64 l[k].ttl, x].toArray 119 (0, 0)) := p11.this
     have hx11 := hx.trans x11
     have hbz11 := x11.at hbz
     have hbr11 := x11.at hbr
     have ho11 := ho.ext x11
     have hs11 := hs.ext x11
     have hps := aE hbs
     have hpz11 := aE hbz11
     have hsl11 := ho11.sl
     have hpe11 := hsl11.elem hc
     have hxd11 := hxd.ext x11
     have hB11 : B ≤ w11.heap.size := Nat.le_trans hBr x11.size
     have hnes : y.ownBlock ≠ some wr.heap.size := fun e => by have := (ho.block _ e).2; omega
     clear p11 h10 x10 hpe hpz hsl
     refine_lift bS fun _ _ => ?_
     refine bT 8 (Ext w11) (by decide +kernel) ?_
     intro w12 x12 _
     refine ⟨x12, ?_⟩
     refine dR 0 ?_; refine dR 1 ?_; refine dR 2 ?_; refine dR 3 ?_; refine dR 4 ?_
     refine bL (i := 5) (by decide +kernel) rfl rfl ?_
     refine aI (enters_of Tryz.func88 rfl rfl) rfl rfl (SP x l[k].data _ (hxd11.ext x12) (by omega)) ?_
     intro u w13 x13 ou
     refine aA ?_
     have x1113 := x12.trans x13
     refine aK ⟨cQ x1113, ?_⟩
     refine dR 6 ?_; refine dR 7 ?_
     refine bL (i := 8) (by decide +kernel) rfl rfl ?_
     have ho13 := ho11.ext x1113
     refine kO (i := k) (j := 3) rfl rfl rfl ho13 hc (by decide) (by decide +kernel) ou.one ?_
     intro w14 o14 m14
     refine aK ⟨bV rfl, ?_⟩
     refine cN (by decide +kernel) ?_
     have hx13 := hx11.trans x1113
     have x14 : Ext w w14 := ho13.mvx m14 hx13 hzW
     have hbz14 := m14.at (x1113.at hbz11) (fun e => ho13.neBlock (x1113.at hbz11) (by decide) e.symm)
     have hbr14 := m14.at (x1113.at hbr11) (fun e => ho13.neBlock (x1113.at hbr11) (by decide) e.symm)
     have hbs14 := m14.at (x1113.at hbs) (fun e => hnes e.symm)
     have ou14 := ou.mv m14 (ou.ne ho13 (by decide))
     have hs14 := (hs11.ext x1113).mv m14 (fun x es hx => hx.ne ho13 (by decide))
     have hB14 : B ≤ w14.heap.size := by have a1 := x1113.size; have a2 := m14.size; omega
     have h12B : w11.heap.size ≤ w12.heap.size := x12.size
     clear hps hpz11 hsl11 hpe11 m14 hbs hbz11 hbr11 hs11 ho13 ho11 hxd11
     have hps := aE hbs14
     have hpz := aE hbz14
     have hsl := o14.sl
     refine_lift rP (fun _ => ?_) (fun _ => ?_)
     ·have h6 : l[k].kind = 6 := by assumption
      have hl1 := hone _ (List.getElem_mem hlt) h6
      have hu1 : (aM l[k].data).length = 1 := by rw [aR]; exact hl1
      have hck : (css.set k ([aH l[k].name, .int .i64 l[k].kind, .int .i64 l[k].ttl, x].set 3 u))[k]? = some [aH l[k].name, .int .i64 l[k].kind, .int .i64 l[k].ttl, u] := List.getElem?_set_self (by omega)
      have hlk : k < (css.set k ([aH l[k].name, .int .i64 l[k].kind, .int .i64 l[k].ttl, x].set 3 u)).length := by rw [List.length_set]; omega
      have hpe := hsl.elem hck
      have hus := ou14.sl
      refine_lift aP ?_
      refine gM (c := aH d) (i := 0) rfl rfl rfl ou14 (by omega) (by decide +kernel) rfl ?_
      intro w15 o15 m15
      have hB12 : B ≤ w12.heap.size := by omega
      have hlow : ∀ r, u.ownBlock = some r → w12.heap.size ≤ r := fun r e => (ou14.block r e).1
      have x15 : Ext w w15 := ou14.mvx m15 x14 (Nat.le_trans hzW hB12)
      have hbz15 := m15.at hbz14 (fun e => ou14.neBlock hbz14 (by decide) e.symm)
      have hbr15 := m15.at hbr14 (fun e => ou14.neBlock hbr14 (by decide) e.symm)
      have oy15 := o14.mv m15 (o14.ne ou14 (by decide))
      have hs15 : SetsM B w w15 css0 css l d k := by
       refine ⟨hs14.len, fun i s hi hik => ?_, hs14.old⟩
       obtain ⟨z, a, b⟩ := hs.new i s hi hik
       obtain ⟨z', a', b'⟩ := hs14.new i s hi hik
       rw [a] at a'
       obtain rfl : z = z' := by simpa using a'
       refine ⟨z, a, b'.mv m15 ?_⟩
       cases hzb : z.ownBlock with
       | none => exact .inl rfl
       | some r =>
        refine .inr (fun e => ?_)
        have e1 := hlow r e.symm
        have e2 := (b.block r hzb).2
        have e3 := x11.size
        omega
      have ou15 : Own B 1 9 w15 u (aM (mL d l[k]).data) := by
       rw [vQ h6]
       have e : (aM l[k].data).set 0 [aH d] = aM [d] := by
        match hq : l[k].data, hl1 with
        | [z], _ => rfl
       rw [e] at o15
       exact o15.weaken hB12
      clear hps hpz hsl hpe hus
      refine_lift aP ?_
      exact ⟨⟨k + 1, _, by omega, by go_num, x15, by have := m15.size; omega, hbz15, hbr15, oy15, hs15.step hlt ou15⟩, by simp [intOf]; omega⟩
     ·have h6 : ¬ l[k].kind = 6 := by assumption
      have ouk : Own B 1 9 w14 u (aM (mL d l[k]).data) := by
       rw [AY h6]
       exact ou14.weaken (by omega)
      exact ⟨⟨k + 1, _, by omega, by go_num, x14, hB14, hbz14, hbr14, o14, hs14.step hlt ouk⟩, by simp [intOf]; omega⟩
    ·have : k = l.length := by omega
     subst this
     refine_lift kT fun _ _ _ => ?_
     refine aD (v := .agg #[aH o, y]) rfl rfl rfl hbr (show aO Tryz.prog 25 2 = true by decide +kernel) rfl (cX ho.one) ?_
     intro w11 p11
     have x11 : Ext w w11 := hx.move p11.mv (by rintro k ⟨⟩; omega)
     have hfin : SetsO w.heap.size w11 y (l.map (mL d)) := by
      have : SetsV B wr y (l.map (mL d)) := ⟨css, ho, hs.done⟩
      exact (this.put hbr (by decide) (by decide) p11).toO hzW
     refine_lift aP ?_
     refine bodyPost_ret (aJ (cs := [aH o, y]) rfl rfl p11.this (show cY Tryz.prog 25 2 = true by decide +kernel)) rfl ⟨_, rfl, x11, ?_⟩
     exact RenU.good hren (by rw [hgd]; exact hfin)
theorem KO {d : List UInt8} {s : SoaR} (h : cB d = some s) : s.ok = true := by
 unfold cB at h
 simp only at h
 split at h
 ·rename_i hh; cases h; exact hh.2.2.2
 ·cases h
theorem ZoneOk.only {o : List UInt8} {l : List RSet} (h : ZoneOk o l) {s : RSet} (hs : s ∈ l) (h6 : s.kind = 6) : s.data = [gR o l] := by
 obtain ⟨t, ht, _, _, _, hd, _⟩ := h.soaSet
 obtain ⟨i, hi, rfl⟩ := List.mem_iff_getElem.1 hs
 have hf := zE h.chk hi
 rw [h6, (h.one6 hs h6).1, ht] at hf
 rw [← Option.some.inj hf]
 exact hd
theorem ZoneOk.back {o d : List UInt8} {l : List RSet} (h : ZoneOk o l) : (l.map (mL d)).map (mL (gR o l)) = l := by
 rw [List.map_map]
 conv => rhs; rw [← List.map_id l]
 apply List.map_congr_left
 intro s hs
 simp only [Function.comp, id]
 by_cases h6 : s.kind = 6
 ·rw [vQ (d := d) h6, vQ (by exact h6)]
  have := h.only hs h6
  cases s
  simp only at this
  rw [this]
 ·rw [AY (d := d) h6, AY h6]
end Go.Proofs.X
