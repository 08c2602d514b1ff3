/- Laws and walks that the proof of the statement is made of (part 12). -/
import Derived.Test.YteofaejlmdplhaaGreatRows
import Derived.Test.YteofaejlmdplhaaGreatP11
set_option linter.unusedSimpArgs false
set_option linter.unusedVariables false
namespace Go.Proofs.X
open Go.RowKit
set_option maxRecDepth 100000
def jK (ds : List DeltaR) (s : Int) : Nat → Option Nat
 | 0 => none
 | k + 1 => if (ds[k]?.map DeltaR.fr) = some s then some k else jK ds s k
def cU (o : List UInt8) (l : List RSet) (ds : List DeltaR) (s : Int) : List DeltaR × Bool :=
 if s = (aP o l).serial then ([], true) else match jK ds s ds.length with | some i => (ds.drop i, true) | none => ([], false)
section
variable {P : Program} {w w' : World} {ts : List Value} {df : List Deferred} {d : Option Nat} {ty : TypeId} {ps : String} {af : Array Edge} {g : Option (Nat × Bool)}
theorem Runs.idxW {t : TypeId} {m : Nat} {i : Operand} {k n : Nat} {es : List (List Value)} (hi : (Act.mk ts.toArray df).eval i = .int .i64 (n : Nat)) (h : Sl k w' (ts.getD m undef) es) (hn : n < es.length) (ht : dO P t k = true) :
 Runs P (Oper.mk d (.indexAddr t (.tmp m) i) ty ps af g) (Act.mk ts.toArray df) w (bX (ts.getD m undef) (n * k)) := by
 have hx : (Act.mk ts.toArray df).eval (.tmp m) = ts.getD m undef := eW m
 obtain ⟨ad, cap, h1, h2, h3, h4, h5, h6⟩ := h
 obtain ⟨b, o, rfl, hc⟩ := h6 (by rintro rfl; simp at hn)
 obtain ⟨e, ie, ht, hie, hz⟩ := cS ht
 rw [h1] at hx ⊢
 constructor
 simp [execOp, hx, hi, Instr.indexAt, asIntOf, run_underlying ht, sizeOf, typeInfo, hie, hz, bX, hn]
theorem Runs.fieldW {s : TypeId} {m : Nat} {n off : Nat} {vs : List Value} (h : Pts w' (ts.getD m undef) vs) (hf : jO P s n off = true) :
 Runs P (Oper.mk d (.fieldAddr s (.tmp m) n) ty ps af g) (Act.mk ts.toArray df) w (bL (ts.getD m undef) off) := by
 obtain ⟨b, o, h1, hc⟩ := h
 rw [h1]
 exact Runs.fieldJ h1 hf
end
theorem DelsV.below {B b : Nat} {w w' : World} {v : Value} {ds : List DeltaR} {o : Obj} (h : DelsV B w v ds) (hp : Put w w' b o) (hb : b < B) : DelsV B w' v ds := by
 obtain ⟨css, a, c, e⟩ := h
 refine ⟨css, a.mv hp.mv ?_, c, fun i d hi => let ⟨g, n, x, y, z⟩ := e i d hi; ⟨g, n, x, y.put hp hb, z.put hp hb⟩⟩
 cases hv : v.ownBlock with
 | none => exact .inl rfl
 | some r => have := (a.type hv).1; exact .inr (fun e => by have := Option.some.inj e; omega)
theorem DelsV.weaken {B C : Nat} {w : World} {v : Value} {ds : List DeltaR} (h : DelsV B w v ds) (hc : C ≤ B) : DelsV C w v ds := by
 obtain ⟨css, a, c, e⟩ := h
 exact ⟨css, a.weaken hc, c, fun i d hi => let ⟨g, n, x, y, z⟩ := e i d hi; ⟨g, n, x, y.weaken hc, z.weaken hc⟩⟩
structure DelN (B : Nat) (w : World) (css0 css : List (List Value)) (ds : List DeltaR) (k : Nat) : Prop where
 len : css.length = ds.length
 new : ∀ (i : Nat) (d : DeltaR), ds[i]? = some d → i < k → ∃ g n, css[i]? = some [.int .i64 d.fr, .int .i64 d.to, g, n] ∧ Own B 4 47 w g (aD d.gone) ∧ Own B 4 47 w n (aD d.new)
 old : ∀ i, k ≤ i → css[i]? = css0[i]?
theorem DelN.ext {B : Nat} {w w' : World} {css0 css : List (List Value)} {ds : List DeltaR} {k : Nat} (h : DelN B w css0 css ds k) (hx : Ext w w') : DelN B w' css0 css ds k :=
 ⟨h.len, fun i s hi hk => let ⟨x, y, a, b, c⟩ := h.new i s hi hk; ⟨x, y, a, b.ext hx, c.ext hx⟩, h.old⟩
theorem DelN.mv {B : Nat} {w w' : World} {css0 css : List (List Value)} {ds : List DeltaR} {k : Nat} {row : Option Nat} (h : DelN B w css0 css ds k) (hm : Mv row w w') (hne : ∀ x es, Own B 4 47 w x es → x.ownBlock = none ∨ x.ownBlock ≠ row) : DelN B w' css0 css ds k :=
 ⟨h.len, fun i s hi hk => let ⟨x, y, a, b, c⟩ := h.new i s hi hk; ⟨x, y, a, b.mv hm (hne x _ b), c.mv hm (hne y _ c)⟩, h.old⟩
theorem DelN.step {B : Nat} {w : World} {css0 css : List (List Value)} {ds : List DeltaR} {k : Nat} (h : DelN B w css0 css ds k) (hk : k < ds.length) {x y : Value} (hx : Own B 4 47 w x (aD ds[k].gone)) (hy : Own B 4 47 w y (aD ds[k].new)) :
 DelN B w css0 (css.set k [.int .i64 ds[k].fr, .int .i64 ds[k].to, x, y]) ds (k + 1) := by
 refine ⟨by rw [List.length_set, h.len], fun i s hi hik => ?_, fun i hi => ?_⟩
 ·by_cases e : k = i
  ·subst e
   rw [List.getElem?_eq_getElem hk] at hi
   cases hi
   exact ⟨x, y, List.getElem?_set_self (by rw [h.len]; exact hk), hx, hy⟩
  ·obtain ⟨x, y, a, b⟩ := h.new i s hi (by omega)
   exact ⟨x, y, by rw [List.getElem?_set_ne e]; exact a, b⟩
 ·rw [List.getElem?_set_ne (by omega)]; exact h.old i (by omega)
theorem DelN.done {B B' : Nat} {w : World} {v : Value} {css0 css : List (List Value)} {ds : List DeltaR} (h : DelN B w css0 css ds ds.length) (ho : Own B 4 90 w v css) : DelsV B w v ds :=
 ⟨css, ho.off, h.len, fun i s hi => h.new i s hi (List.getElem?_eq_some_iff.1 hi).1⟩
structure SinMid (w4 : World) (ds : List DeltaR) (s : Int) (lp : Loop) (k : Nat) (W : World) : Prop where
 ext : Ext w4 W
 df : W.heap[w4.heap.size]? = some (.deferred (some []))
 lp : W.heap[w4.heap.size + 1]? = some (.loop lp)
 size : w4.heap.size + 2 ≤ W.heap.size
 so : jK ds s ds.length = jK ds s k
structure SinOut (w w4 : World) (ds : List DeltaR) (s : Int) (lp : Loop) (W : World) : Prop where
 ext : Ext w W
 df : W.heap[w4.heap.size]? = some (.deferred (some []))
 lp : W.heap[w4.heap.size + 1]? = some (.loop { lp with state := .done, pending := some .ret })
 out : ∃ i y, jK ds s ds.length = some i ∧ W.heap[w.heap.size + 2]? = some (.cells #[y] 82 (0, 0)) ∧ W.heap[w.heap.size + 3]? = some (.cells #[.bool true] 4 (0, 0)) ∧ DelsV (w4.heap.size + 2) W y (ds.drop i)
set_option maxHeartbeats 4000000 in
theorem OO {w0 w : World} {b : Nat} {o : List UInt8} {l : List RSet} {room : Int} {ds : List DeltaR} (h : JAt w0 w b o l room ds) (hb : ∀ s ∈ l, s.data.length ≤ 1000000) (hd : ∀ s ∈ l, ∀ d ∈ s.data, d.length ≤ 4611686018427387904)
 (hl : ds.length ≤ 1000) (hg : ∀ d ∈ ds, d.gone.length ≤ 1000000 ∧ d.new.length ≤ 1000000) (s : Int) :
 Calls Tryz.prog 51 #[.pointer (some ⟨b, 0, none⟩), .int .i64 s] w (jE w fun r w' => ∃ y, r = .tuple #[y, .bool (cU o l ds s).2] ∧ DelsV w.heap.size w' y (cU o l ds s).1) := by
 refine gZ Tryz.func51 rfl ?_
 simp only [Tryz.ntmps51, List.size_toArray, List.length_cons, List.length_nil, Nat.reduceAdd, Nat.reduceSub, Array.replicate_succ, Array.replicate_zero, List.push_toArray, List.append_toArray, List.nil_append, List.cons_append]
 refine_lift uL ?_; intro _ _ _
 refine eD (vs := [.pointer (some ⟨b, 0, none⟩)]) rfl rfl ?_
 intro w1 x1 s1 h1
 refine aA ?_
 refine eD (vs := [.int .i64 s]) rfl rfl ?_
 intro w2 x2 s2 h2
 refine aA ?_
 refine aG (z := [.slice none 0 0]) rfl (by decide +kernel) ?_
 intro w3 x3 s3 h3
 refine aA ?_
 refine aG (z := [.bool false]) rfl (by decide +kernel) ?_
 intro w4 x4 s4 h4
 refine aA ?_
 have e2 : w2.heap.size = w.heap.size + 2 := by omega
 have e3 : w3.heap.size = w.heap.size + 3 := by omega
 have e4 : w4.heap.size = w.heap.size + 4 := by omega
 rw [s1] at h2 ⊢
 rw [e2] at h3 ⊢
 rw [e3] at h4 ⊢
 have g0 : w4.heap[w.heap.size]? = _ := x4.at (x3.at (x2.at h1))
 have g1 : w4.heap[w.heap.size + 1]? = _ := x4.at (x3.at h2)
 have g2 : w4.heap[w.heap.size + 2]? = _ := x4.at h3
 have g3 : w4.heap[w.heap.size + 3]? = _ := h4
 have gx : Ext w w4 := ((x1.trans x2).trans x3).trans x4
 clear h1 h2 h3 h4 x1 x2 x3 x4 s1 s2 s3 s4 e2 e3
 have hJ4 := h.grow gx
 have hp0 := aE (cs := [.pointer (some ⟨b, 0, none⟩)]) g0
 have hp1 := aE (cs := [.int .i64 s]) g1
 refine_lift gV fun _ _ _ _ => ?_
 refine bM (Runs.isNil rfl rfl (by kernel_rfl)) ?_
 refine aA ?_
 refine_lift kL fun _ _ _ => ?_
 refine bB (by decide +kernel) (by decide +kernel) ?_
 refine_lift dX ?_
 refine cA (enters_of Tryz.func32 rfl rfl) rfl rfl (fun w' x' => nW (hJ4.grow x') hb hd) ?_
 refine aA ?_
 refine_lift dX ?_
 intro w5 x5
 have hx5 := gx.trans x5
 have hJ5 := hJ4.grow x5
 have g0 := x5.at g0
 have g1 := x5.at g1
 have g2 := x5.at g2
 have g3 := x5.at g3
 clear hp0 hp1 hJ4
 have hp0 := aE (cs := [.pointer (some ⟨b, 0, none⟩)]) g0
 have hp1 := aE (cs := [.int .i64 s]) g1
 by_cases q1 : s = (aP o l).serial
 ·rw [decide_eq_true q1]
  refine_lift bY fun _ _ => ?_
  refine cI (v := .slice none 0 0) rfl rfl rfl g2 (by decide +kernel) rfl ?_
  intro w6 p6
  refine cI (v := .bool true) rfl rfl rfl (p6.at g3 (by omega)) (by decide +kernel) rfl ?_
  intro w7 p7
  refine_lift aS ?_
  refine iL (eY rfl rfl rfl (p7.at p6.this (by omega)) p7.this (by decide +kernel) (by decide +kernel)) ⟨_, rfl, (hx5.move p6.mv (by rintro k ⟨⟩; omega)).move p7.mv (by rintro k ⟨⟩; omega), ?_⟩
  rw [cU, if_pos q1]
  exact ⟨_, rfl, DelsV.nil _ _⟩
 ·rw [decide_eq_false q1]
  obtain ⟨v, dv, hbk, hs, hdl⟩ := hJ5.out
  obtain ⟨hp, hq0⟩ := nV hbk
  have hq3 : Pts w5 (bL (.pointer (some ⟨b, 0, none⟩)) 3) [dv] := hp.part 3
  obtain ⟨css, hdo, hdlen, hdat⟩ := hdl.out
  have hsl := hdo.sl
  have hdc : dv.cells = #[dv] := by obtain ⟨_, _, _, rfl⟩ := hsl.slf; rfl
  refine_lift gV fun _ _ _ _ => ?_
  refine bM (Runs.fieldJ (off := 3) rfl (by decide +kernel)) ?_
  refine aA ?_
  refine_lift aS ?_
  refine bH (enters_of Tryz.func101 rfl rfl) rfl rfl (QZ dv hdc _) ?_
  rintro e w6 ⟨rfl, x6, s6, h6⟩
  refine ⟨_, rfl, ?_⟩
  refine aA ?_
  refine_lift PK ?_
  have hx6 := hx5.trans x6
  have g0 := x6.at g0
  have g1 := x6.at g1
  have g2 := x6.at g2
  have g3 := x6.at g3
  have hJ6 := hJ5.grow x6
  have hbk6 := x6.at hbk
  have hdo6 := hdo.ext x6
  have hsl6 := hsl.ext x6
  have hdat6 : ∀ (i : Nat) (d : DeltaR), ds[i]? = some d → ∃ g n, css[i]? = some [.int .i64 d.fr, .int .i64 d.to, g, n] ∧ Own w0.heap.size 4 47 w6 g (aD d.gone) ∧ Own w0.heap.size 4 47 w6 n (aD d.new) :=
   fun i d hi => let ⟨x, y, a, b, c⟩ := hdat i d hi; ⟨x, y, a, b.ext x6, c.ext x6⟩
  have hz6 : w.heap.size + 4 ≤ w6.heap.size := by have := x5.size; omega
  clear hp hq0 hq3 hp0 hp1 hdat hdo hbk hJ5 hsl x6 x5 gx hdl hs
  have hsh : ∀ c ∈ css, ∃ x y g n, c = [x, y, g, n] := by
   intro c hc
   obtain ⟨i, hi, rfl⟩ := List.mem_iff_getElem.1 hc
   obtain ⟨x, y, a, _⟩ := hdat6 i _ (List.getElem?_eq_getElem (by omega))
   rw [List.getElem?_eq_getElem hi] at a
   exact ⟨_, _, _, _, Option.some.inj a⟩
  have hone : ∀ c ∈ css, ∀ u ∈ c, u.oneCell' = true := by
   intro c hc u hu
   obtain ⟨i, hi, rfl⟩ := List.mem_iff_getElem.1 hc
   obtain ⟨x, y, a, b1, b2⟩ := hdat6 i _ (List.getElem?_eq_getElem (by omega))
   rw [List.getElem?_eq_getElem hi] at a
   rw [Option.some.inj a] at hu
   simp at hu
   rcases hu with rfl | rfl | rfl | rfl
   ·rfl
   ·rfl
   ·exact b1.one
   ·exact b2.one
  refine jF (caps := #[.pointer (some ⟨w5.heap.size, 0, none⟩)]) rfl (enters_of Tryz.func159 rfl rfl) rfl ?_
  intro fn W lp hlp xW k4 k5 sW
  have hJ : SinMid w6 ds s lp css.length W := ⟨xW, k4, k5, by omega, by rw [hdlen]⟩
  have hrdy : lp.state = .ready ∧ lp.pending = none := by subst hlp; exact ⟨rfl, rfl⟩
  have hy : ∀ k c W, css[k]? = some c → SinMid w6 ds s lp (k + 1) W → RoundIn Fence.wide 0 Tryz.prog (w6.heap.size + 1) lp.fn ((lp.params.zip #[.int .i64 k, .agg c.toArray]).foldl (fun tmps (t, a) => tmps.setIfInBounds t a) lp.tmps) lp.assign lp.body W
   fun e W' => (e = .returned (.bool true) ∧ SinMid w6 ds s lp k W') ∨ (e = .returned (.bool false) ∧ SinOut w w6 ds s lp W') := by
   clear hJ xW k4 k5 sW W
   intro k c W hck hM
   have hkl : k < ds.length := by rw [← hdlen]; exact (List.getElem?_eq_some_iff.1 hck).1
   obtain ⟨g, n, hc, og, on⟩ := hdat6 k _ (List.getElem?_eq_getElem hkl)
   have hcc := Option.some.inj (hck.symm.trans hc)
   subst hcc
   subst hlp
   simp only [List.zip_toArray, List.zip_cons_cons, List.zip_nil_right, List.foldl_toArray', List.foldl_cons, List.foldl_nil, List.setIfInBounds_toArray, List.set_cons_succ, List.set_cons_zero, List.foldl_toArray, List.size_toArray, List.zip_toArray, List.length_cons, List.length_nil]
   have xM := hM.ext
   have md := hM.df
   have ml := hM.lp
   have ms := hM.size
   have mso := hM.so
   clear hM
   refine qZ ?_
   repeat' (first | refine cF (by rfl) (by intro _ _ h; exact h) ?_ | ((with_reducible refine bR ?_); (first | (refine gW ?_; refine jA ?_) | (refine jG ?_; first | refine kJ ?_ | refine pP ?_ | refine pR ?_ | refine pQ ?_ | ((first | refine pG ?_ ?_ | refine pH ?_ ?_) <;> intro hc)))) | ((fail_if_success (with_reducible refine bR ?_)); first | go_step | gi_step))
   refine aG (z := pL) rfl (by decide +kernel) ?_
   intro wB xB sB hB
   refine aA ?_
   refine aC (v := .agg #[.int .i64 ds[k].fr, .int .i64 ds[k].to, g, n]) rfl rfl rfl hB (show aO Tryz.prog 90 4 = true by decide +kernel) rfl (iM rfl rfl og.sl.one on.sl.one) ?_
   intro wC pC
   have xC : Ext W wC := xB.move pC.mv (by rintro k ⟨⟩; exact Nat.le_refl _)
   have hdc0 := pC.this
   have hne : W.heap.size ≠ w6.heap.size + 1 := by omega
   have md := xC.at md
   have ml := xC.at ml
   have mss : w6.heap.size + 2 ≤ wC.heap.size := Nat.le_trans ms xC.size
   have xM := xM.trans xC
   clear pC hB xB sB xC
   repeat' (first | refine cF (by rfl) (by intro _ _ h; exact h) ?_ | ((with_reducible refine bR ?_); (first | (refine gW ?_; refine jA ?_) | (refine jG ?_; first | refine kJ ?_ | refine pP ?_ | refine pR ?_ | refine pQ ?_ | ((first | refine pG ?_ ?_ | refine pH ?_ ?_) <;> intro hc)))) | ((fail_if_success (with_reducible refine bR ?_)); first | go_step | gi_step))
   refine ⟨_, ml, rfl, ?_⟩
   intro wA pA
   have hdl := aE (cs := [.int .i64 ds[k].fr, .int .i64 ds[k].to, g, n]) (pA.at hdc0 hne)
   have xW : Ext w6 wA := xM.move pA.mv (by rintro k ⟨⟩; omega)
   have nd := pA.at md (by omega)
   have nl := pA.this
   have ns : w6.heap.size + 2 ≤ wA.heap.size := Nat.le_trans mss pA.mv.size
   clear pA md ml ms mss xM hdc0 hne
   have g0 := xW.at g0
   have g1 := xW.at g1
   have g2 := xW.at g2
   have g3 := xW.at g3
   have hp0 := aE (cs := [.pointer (some ⟨b, 0, none⟩)]) g0
   have hp1 := aE (cs := [.int .i64 s]) g1
   obtain ⟨hpA, hqA0⟩ := nV (xW.at hbk6)
   have hqA : Pts wA (bL (.pointer (some ⟨b, 0, none⟩)) 3) [dv] := hpA.part 3
   have hslA := hsl6.ext xW
   repeat' (first | refine cF (by rfl) (by intro _ _ h; exact h) ?_ | ((with_reducible refine bR ?_); (first | (refine gW ?_; refine jA ?_) | (refine jG ?_; first | refine kJ ?_ | refine pP ?_ | refine pR ?_ | refine pQ ?_ | ((first | refine pG ?_ ?_ | refine pH ?_ ?_) <;> intro hc)))) | ((fail_if_success (with_reducible refine bR ?_)); first | go_step | gi_step))
   ·have hf : ds[k].fr ≠ s := by
     have hh := ‹(!decide (ds[k].fr = s)) = true›
     simpa using hh
    exact lV nl fun w' p' => .inl ⟨rfl, ⟨xW.move p'.mv (by rintro k ⟨⟩; omega), p'.at nd (by omega), p'.this, Nat.le_trans ns p'.mv.size, by rw [mso, jK, if_neg (by rw [List.getElem?_eq_getElem hkl]; simpa using hf)]⟩⟩
   ·have hf : ds[k].fr = s := by
     have hh := ‹(!decide (ds[k].fr = s)) = false›
     simpa using hh
    have hso : jK ds s ds.length = some k := by rw [mso, jK, if_pos (by rw [List.getElem?_eq_getElem hkl]; simpa using hf)]
    have hkc : k < css.length := by omega
    clear mso
    refine bM (Runs.fieldJ (off := 3) rfl (by decide +kernel)) ?_
    refine aA ?_
    repeat' (first | refine cF (by rfl) (by intro _ _ h; exact h) ?_ | ((with_reducible refine bR ?_); (first | (refine gW ?_; refine jA ?_) | (refine jG ?_; first | refine kJ ?_ | refine pP ?_ | refine pR ?_ | refine pQ ?_ | ((first | refine pG ?_ ?_ | refine pH ?_ ?_) <;> intro hc)))) | ((fail_if_success (with_reducible refine bR ?_)); first | go_step | gi_step))
    have hcut := ((hdo6.ext xW).drop (m := k) (by omega)).sl
    refine aK (enters_of Tryz.func102 rfl rfl) rfl rfl (MK _ (css.drop k) _ hcut (fun f hf => hone f (List.mem_of_mem_drop hf)) (by simp; omega)) ?_
    intro y wD xD oD
    refine aA ?_
    have xD6 := xW.trans xD
    have hB := xW.size
    have ndA := nd
    have nlA := nl
    have g2A := g2
    have g3A := g3
    have nd := xD.at nd
    have nl := xD.at nl
    have g2 := xD.at g2
    have g3 := xD.at g3
    have hdat : ∀ (i : Nat) (d : DeltaR), (ds.drop k)[i]? = some d → ∃ g n, (css.drop k)[i]? = some [.int .i64 d.fr, .int .i64 d.to, g, n] ∧ Own w0.heap.size 4 47 w6 g (aD d.gone) ∧ Own w0.heap.size 4 47 w6 n (aD d.new) := fun i d hi => by
     rw [List.getElem?_drop] at hi ⊢
     obtain ⟨x, y, a, b, c⟩ := hdat6 _ d hi
     exact ⟨x, y, a, b, c⟩
    have hgE : ∀ d ∈ ds.drop k, d.gone.length ≤ 1000000 ∧ d.new.length ≤ 1000000 := fun d hd => hg d (List.mem_of_mem_drop hd)
    have hlE : (css.drop k).length = (ds.drop k).length := by simp [hdlen]
    have hlm : (ds.drop k).length ≤ 1000 := by simp; omega
    generalize hE : ds.drop k = E at *
    generalize css.drop k = css0 at *
    clear hpA hqA0 hqA hslA hcut hp0 hp1 g0 g1 hdl
    have hsD := oD.sl
    repeat' (first | refine cF (by rfl) (by intro _ _ h; exact h) ?_ | ((with_reducible refine bR ?_); (first | (refine gW ?_; refine jA ?_) | (refine jG ?_; first | refine kJ ?_ | refine pP ?_ | refine pR ?_ | refine pQ ?_ | ((first | refine pG ?_ ?_ | refine pH ?_ ?_) <;> intro hc)))) | ((fail_if_success (with_reducible refine bR ?_)); first | go_step | gi_step))
    have x6D : Ext w6 wD := xD6
    gi_loopw [9, 10, 39] (fun _ _ i wr => ∃ (j : Nat) (cs : List (List Value)), j ≤ E.length ∧ i = .int .i64 j ∧ Ext wA wr ∧ wD.heap.size ≤ wr.heap.size ∧ Own wA.heap.size 4 90 wr y cs ∧ DelN wA.heap.size wr css0 cs E j) (fun _ _ i _ => E.length - (intOf i).toNat)
    case atStart => exact ⟨0, css0, Nat.zero_le _, rfl, xD, Nat.le_refl _, oD, ⟨hlE, by omega, fun i _ => rfl⟩⟩
    case round =>
     obtain ⟨j, cs, hj, rfl, hx, hBr, ho, hN⟩ := hrel
     have hsl := ho.sl
     have hlen := hN.len
     by_cases hlt : j < E.length
     ·obtain ⟨gg, nn, hc0, og0, on0⟩ := hdat j _ (List.getElem?_eq_getElem hlt)
      have hc : cs[j]? = some [.int .i64 E[j].fr, .int .i64 E[j].to, gg, nn] := by rw [hN.old j (Nat.le_refl _)]; exact hc0
      have xDr : Ext w6 wr := xW.trans hx
      have hgb := hgE _ (List.getElem_mem hlt)
      have hpe := hsl.elem hc
      repeat' (first | refine cF (by rfl) (by intro _ _ h; exact h) ?_ | ((with_reducible refine bR ?_); (first | (refine gW ?_; refine jA ?_) | (refine jG ?_; first | refine kJ ?_ | refine pP ?_ | refine pR ?_ | refine pQ ?_ | ((first | refine pG ?_ ?_ | refine pH ?_ ?_) <;> intro hc)))) | ((fail_if_success (with_reducible refine bR ?_)); first | go_step | gi_step))
      have og1 := (og0.ext xDr).sl
      have on1 := (on0.ext xDr).sl
      refine aG (z := pL) rfl (by decide +kernel) ?_
      intro wE xE sE hE1
      refine aA ?_
      repeat' (first | refine cF (by rfl) (by intro _ _ h; exact h) ?_ | ((with_reducible refine bR ?_); (first | (refine gW ?_; refine jA ?_) | (refine jG ?_; first | refine kJ ?_ | refine pP ?_ | refine pR ?_ | refine pQ ?_ | ((first | refine pG ?_ ?_ | refine pH ?_ ?_) <;> intro hc)))) | ((fail_if_success (with_reducible refine bR ?_)); first | go_step | gi_step))
      refine aC (v := .agg #[.int .i64 E[j].fr, .int .i64 E[j].to, gg, nn]) rfl rfl rfl hE1 (show aO Tryz.prog 90 4 = true by decide +kernel) rfl (iM rfl rfl og1.one on1.one) ?_
      intro wF pF
      have xF : Ext wr wF := xE.move pF.mv (by rintro k ⟨⟩; exact Nat.le_refl _)
      have hps := aE (cs := [.int .i64 E[j].fr, .int .i64 E[j].to, gg, nn]) pF.this
      have hxF := hx.trans xF
      have hoF := ho.ext xF
      have hNF := hN.ext xF
      have hslF := hoF.sl
      have hpeF := hslF.elem hc
      have og2 := og1.ext xF
      have on2 := on1.ext xF
      clear pF hE1 xE hpe hsl
      repeat' (first | refine cF (by rfl) (by intro _ _ h; exact h) ?_ | ((with_reducible refine bR ?_); (first | (refine gW ?_; refine jA ?_) | (refine jG ?_; first | refine kJ ?_ | refine pP ?_ | refine pR ?_ | refine pQ ?_ | ((first | refine pG ?_ ?_ | refine pH ?_ ?_) <;> intro hc)))) | ((fail_if_success (with_reducible refine bR ?_)); first | go_step | gi_step))
      refine tY 12 (Ext wF) (by decide +kernel) (by intro _ _ h; exact h) (by decide +kernel) ?_
      intro wG xG _
      refine ⟨xG, ?_⟩
      refine eL 0 ?_; refine eL 1 ?_
      refine iN 2 ?_; refine iN 3 ?_
      refine eL 4 ?_; refine eL 5 ?_; refine eL 7 ?_; refine eL 8 ?_
      refine bV (i := 6) (by decide +kernel) rfl rfl ?_
      refine aK (enters_of Tryz.func52 rfl rfl) rfl rfl (nU gg E[j].gone _ (og2.ext xG) (by omega)) ?_
      intro u wH xH ou
      refine aA ?_
      have xFH := xG.trans xH
      refine aJ ⟨dF xFH, ?_⟩
      refine bV (i := 9) (by decide +kernel) rfl rfl ?_
      refine aK (enters_of Tryz.func52 rfl rfl) rfl rfl (nU nn E[j].new _ (on2.ext xFH) (by omega)) ?_
      intro u2 wI xI ou2
      refine aA ?_
      have xFI := xFH.trans xI
      refine aJ ⟨dF xFI, ?_⟩
      refine eL 10 ?_; refine eL 11 ?_
      refine bV (i := 12) (by decide +kernel) rfl rfl ?_
      have hoI := hoF.ext xFI
      have ouI := ou.ext xI
      refine kR (i := j) (j := 2) rfl rfl rfl hoI hc (by decide) (by decide +kernel) ou.one ?_
      intro wJ oJ mJ
      refine aJ ⟨cJ rfl, ?_⟩
      have oIJ := ouI.mv mJ (ouI.ne hoI (by decide))
      have o2J := ou2.mv mJ (ou2.ne hoI (by decide))
      have hNJ := (hNF.ext xFI).mv mJ (fun x es hx => hx.ne hoI (by decide))
      have xJ : Ext wA wJ := hoI.mvx mJ (hxF.trans xFI) (Nat.le_refl _)
      refine dU (i := 13) rfl rfl rfl (by decide +kernel) (by decide +kernel) (by decide +kernel) rfl (fun _ => Runs.idxW (k := 4) (n := j) rfl hslF (by omega) (by decide +kernel)) (fun _ _ _ h => h) ?_
      refine aA ?_
      refine dU (i := 14) rfl rfl rfl (by decide +kernel) (by decide +kernel) (by decide +kernel) rfl (fun _ => Runs.fieldW (off := 3) hpeF (by decide +kernel)) (fun _ _ _ h => h) ?_
      refine aA ?_
      refine bV (i := 15) (by decide +kernel) rfl rfl ?_
      have hc2 := List.getElem?_set_self (a := [Value.int .i64 E[j].fr, .int .i64 E[j].to, gg, nn].set 2 u) (show j < cs.length by omega)
      refine kR (i := j) (j := 3) rfl rfl rfl oJ hc2 (by decide) (by decide +kernel) ou2.one ?_
      intro wK oK mK
      refine aJ ⟨cJ rfl, ?_⟩
      refine cZ (by decide +kernel) ?_
      have oIK := oIJ.mv mK (oIJ.ne oJ (by decide))
      have o2K := o2J.mv mK (o2J.ne oJ (by decide))
      have hNK := hNJ.mv mK (fun x es hx => hx.ne oJ (by decide))
      have xK : Ext wA wK := oJ.mvx mK xJ (Nat.le_refl _)
      have hAr := hx.size
      have hFG := xG.size
      have hrF := xF.size
      have hGH := xH.size
      have hHI := xI.size
      have hIJ := mJ.size
      have hJK := mK.size
      have hok : Own wA.heap.size 4 90 wK y (cs.set j [.int .i64 E[j].fr, .int .i64 E[j].to, u, u2]) := by
       have := oK
       rw [List.set_set] at this
       exact this
      have hstep := hNK.step hlt (oIK.weaken (by omega)) (o2K.weaken (by omega))
      clear hps hpeF og2 on2 hslF oK hc2
      repeat' (first | refine cF (by rfl) (by intro _ _ h; exact h) ?_ | ((with_reducible refine bR ?_); (first | (refine gW ?_; refine jA ?_) | (refine jG ?_; first | refine kJ ?_ | refine pP ?_ | refine pR ?_ | refine pQ ?_ | ((first | refine pG ?_ ?_ | refine pH ?_ ?_) <;> intro hc)))) | ((fail_if_success (with_reducible refine bR ?_)); first | go_step | gi_step))
      exact ⟨⟨j + 1, _, by omega, by go_num, xK, by omega, hok, hstep⟩, by simp [intOf]; omega⟩
     ·have : j = E.length := by omega
      subst this
      repeat' (first | refine cF (by rfl) (by intro _ _ h; exact h) ?_ | ((with_reducible refine bR ?_); (first | (refine gW ?_; refine jA ?_) | (refine jG ?_; first | refine kJ ?_ | refine pP ?_ | refine pR ?_ | refine pQ ?_ | ((first | refine pG ?_ ?_ | refine pH ?_ ?_) <;> intro hc)))) | ((fail_if_success (with_reducible refine bR ?_)); first | go_step | gi_step))
      refine cI (v := y) rfl rfl rfl (hx.at g2A) (by decide +kernel) ho.one ?_
      intro wE pE
      refine cI (v := .bool true) rfl rfl rfl (pE.at (hx.at g3A) (by omega)) (by decide +kernel) rfl ?_
      intro wF pF
      have q2 := pF.at pE.this (by omega)
      have q3 := pF.this
      have qd := pF.at (pE.at (hx.at ndA) (by omega)) (by omega)
      have ql := pF.at (pE.at (hx.at nlA) (by omega)) (by omega)
      have qx : Ext w wF := ((hx6.trans (xW.trans hx)).move pE.mv (by rintro k ⟨⟩; omega)).move pF.mv (by rintro k ⟨⟩; omega)
      have hD := ((hN.done (B' := 0) ho).below pE (by omega)).below pF (by omega)
      clear pE pF
      repeat' (first | refine cF (by rfl) (by intro _ _ h; exact h) ?_ | ((with_reducible refine bR ?_); (first | (refine gW ?_; refine jA ?_) | (refine jG ?_; first | refine kJ ?_ | refine pP ?_ | refine pR ?_ | refine pQ ?_ | ((first | refine pG ?_ ?_ | refine pH ?_ ?_) <;> intro hc)))) | ((fail_if_success (with_reducible refine bR ?_)); first | go_step | gi_step))
      exact zE ql fun w' p' => .inr ⟨rfl, ⟨qx.move p'.mv (by rintro k ⟨⟩; omega), p'.at qd (by omega), p'.this, k, y, hso, p'.at q2 (by omega), p'.at q3 (by omega), by rw [hE]; exact (hD.below p' (by omega)).weaken ns⟩⟩
  refine (TF (w6.heap.size + 1) w5.heap.size lp (SinMid w6 ds s lp) (SinOut w w6 ds s lp) (by subst hlp; rfl) w6 (fun _ _ h => h.ext) (fun _ _ h => h.lp) dv css h6 hsl6 (by omega) hsh hy W hJ).mono ?_
  rintro e W' ⟨rfl, hR⟩
  refine ⟨⟨_, rfl⟩, ?_⟩
  clear hJ xW k4 k5 sW hy
  rcases hR with hR | hR
  ·refine ⟨lp, hR.lp, by rw [hrdy.1]; simp, ?_⟩
   intro W2 hput
   rw [hrdy.2]
   clear hlp hrdy
   simp only
   have f2 := hput.at (hR.ext.at g2) (by omega)
   have f3 := hput.at (hR.ext.at g3) (by omega)
   have fd := hput.at hR.df (by omega)
   have fx : Ext w W2 := (hx6.trans hR.ext).move hput.mv (by rintro k ⟨⟩; omega)
   have hso := hR.so
   clear hput hR
   refine_lift bY fun _ _ => ?_
   refine cI (v := .slice none 0 0) rfl rfl rfl f2 (by decide +kernel) rfl ?_
   intro W3 p3
   refine cI (v := .bool false) rfl rfl rfl (p3.at f3 (by omega)) (by decide +kernel) rfl ?_
   intro W4 p4
   have q2 := p4.at p3.this (by omega)
   have qd := p4.at (p3.at fd (by omega)) (by omega)
   have qx : Ext w W4 := (fx.move p3.mv (by rintro k ⟨⟩; omega)).move p4.mv (by rintro k ⟨⟩; omega)
   have q3 := p4.this
   clear p3 p4
   refine_lift aS ?_
   refine iZ qd fun W5 p5 => ⟨_, eY rfl rfl rfl (p5.at q2 (by omega)) (p5.at q3 (by omega)) (by decide +kernel) (by decide +kernel), _, rfl, qx.move p5.mv (by rintro k ⟨⟩; omega), ?_⟩
   rw [cU, if_neg q1, hso]
   exact ⟨_, rfl, DelsV.nil _ _⟩
  ·refine ⟨_, hR.lp, by simp, ?_⟩
   intro W2 hput
   simp only
   clear hlp hrdy
   obtain ⟨i, y, hso, r2, r3, hD⟩ := hR.out
   have f2 := hput.at r2 (by omega)
   have f3 := hput.at r3 (by omega)
   have fd := hput.at hR.df (by omega)
   have fx : Ext w W2 := hR.ext.move hput.mv (by rintro k ⟨⟩; omega)
   have hD2 := hD.below hput (by omega)
   have hsz := hx6.size
   clear hput hR hD r2 r3
   refine_lift PK ?_
   refine iZ fd fun W5 p5 => ⟨_, eY rfl rfl rfl (p5.at f2 (by omega)) (p5.at f3 (by omega)) (by decide +kernel) (by decide +kernel), _, rfl, fx.move p5.mv (by rintro k ⟨⟩; omega), ?_⟩
   rw [cU, if_neg q1, hso]
   exact ⟨_, rfl, (hD2.below p5 (by omega)).weaken (by omega)⟩
def Keep (T : List TypeId) (w w' : World) : Prop := ∀ (c : Nat) (cs : Array Value) (t : TypeId) (fz : Nat × Nat), w.heap[c]? = some (.cells cs t fz) → t ∉ T → w'.heap[c]? = some (.cells cs t fz)
theorem Ext.keep {w w' : World} (h : Ext w w') (T : List TypeId) : Keep T w w' := fun c cs t fz hc _ => h.at hc
theorem Keep.trans {T : List TypeId} {a b c : World} (h : Keep T a b) (k : Keep T b c) : Keep T a c := fun i cs t fz hc ht => k i cs t fz (h i cs t fz hc ht) ht
theorem KeptJ.keep {b t0 : Nat} {w w' : World} {cs : Array Value} {fz : Nat × Nat} (h : KeptJ b w w') (hb : w.heap[b]? = some (.cells cs t0 fz)) : Keep [t0, 90] w w' := fun c ds t f hc ht => by
 refine h c _ hc ?_ ?_
 ·rintro rfl
  rw [hb] at hc
  simp only [Option.some.injEq, Obj.cells.injEq] at hc
  exact ht (by simp [hc.2.1])
 ·intro cs' fz' e
  simp only [Obj.cells.injEq] at e
  exact ht (by simp [e.2.1])
theorem Own.keep {T : List TypeId} {B k e : Nat} {w w' : World} {v : Value} {es : List (List Value)} (h : Own B k e w v es) (hk : Keep T w w') (he : e ∉ T) : Own B k e w' v es := by
 refine ⟨⟨h.row.1, ?_⟩, h.2⟩
 rcases h.row.2 with h1 | ⟨gg, cap, cur, fz, rfl, hb, hg, r⟩
 ·exact .inl h1
 ·exact .inr ⟨gg, cap, cur, fz, rfl, hb, hk _ _ _ _ hg he, r⟩
theorem OwnOff.keep {T : List TypeId} {B k e : Nat} {w w' : World} {v : Value} {es : List (List Value)} (h : OwnOff B k e w v es) (hk : Keep T w w') (he : e ∉ T) : OwnOff B k e w' v es := by
 refine ⟨h.row.imp id ?_, h.each⟩
 rintro ⟨g, o, cap, cur, fz, rfl, hb, hg, r⟩
 exact ⟨g, o, cap, cur, fz, rfl, hb, hk _ _ _ _ hg he, r⟩
theorem SetsV.keep {T : List TypeId} {B : Nat} {w w' : World} {v : Value} {l : List RSet} (h : SetsV B w v l) (hk : Keep T w w') (h1 : 119 ∉ T) (h2 : 9 ∉ T) : SetsV B w' v l := by
 obtain ⟨css, a, b⟩ := h
 exact ⟨css, a.keep hk h1, b.len, fun i s hi => let ⟨x, c, d⟩ := b.at' i s hi; ⟨x, c, d.keep hk h2⟩⟩
structure DelsK (B : Nat) (w : World) (v : Value) (ds : List DeltaR) : Prop where
 out : ∃ css, OwnOff B 4 93 w v css ∧ css.length = ds.length ∧ ∀ (i : Nat) (d : DeltaR), ds[i]? = some d → ∃ g n, css[i]? = some [.int .i64 d.fr, .int .i64 d.to, g, n] ∧ Own B 4 47 w g (aD d.gone) ∧ Own B 4 47 w n (aD d.new)
theorem DelsK.nil (B : Nat) (w : World) : DelsK B w (.slice none 0 0) [] := ⟨[], OwnOff.nil _ _ _ _, rfl, by simp⟩
theorem DelsK.ext {B : Nat} {w w' : World} {v : Value} {ds : List DeltaR} (h : DelsK B w v ds) (hx : Ext w w') : DelsK B w' v ds := by
 obtain ⟨css, h1, h2, h3⟩ := h
 exact ⟨css, h1.ext hx, h2, fun i d hi => let ⟨g, n, a, b, c⟩ := h3 i d hi; ⟨g, n, a, b.ext hx, c.ext hx⟩⟩
theorem DelsK.put {B b t : Nat} {w w' : World} {v : Value} {ds : List DeltaR} {cs : Array Value} {fz : Nat × Nat} {o : Obj} (h : DelsK B w v ds) (hb : w.heap[b]? = some (.cells cs t fz)) (h1 : t ≠ 93) (h2 : t ≠ 47) (hp : Put w w' b o) : DelsK B w' v ds := by
 obtain ⟨css, a, c, e⟩ := h
 exact ⟨css, a.mv hp.mv (.inr (a.neBlock hb h1)), c, fun i d hi => let ⟨g, n, x, y, z⟩ := e i d hi; ⟨g, n, x, y.mv hp.mv (.inr (y.neBlock hb h2)), z.mv hp.mv (.inr (z.neBlock hb h2))⟩⟩
theorem DelsK.len {B : Nat} {w : World} {v : Value} {ds : List DeltaR} (h : DelsK B w v ds) : ∃ css, Sl 4 w v css ∧ css.length = ds.length := let ⟨css, a, c, _⟩ := h; ⟨css, a.sl, c⟩
structure KAt (w0 w : World) (b : Nat) (o : List UInt8) (l : List RSet) (room : Int) (ds : List DeltaR) : Prop where
 ge : w0.heap.size ≤ b
 ext : Ext w0 w
 out : ∃ v dv, w.heap[b]? = some (.cells (jC o v room dv).toArray 87 (0, 0)) ∧ SetsV w0.heap.size w v l ∧ DelsK w0.heap.size w dv ds
theorem KAt.grow {w0 w w' : World} {b : Nat} {o : List UInt8} {l : List RSet} {room : Int} {ds : List DeltaR} (h : KAt w0 w b o l room ds) (hx : Ext w w') : KAt w0 w' b o l room ds := by
 obtain ⟨h1, h2, v, dv, h3, h4, h5⟩ := h
 exact ⟨h1, h2.trans hx, v, dv, hx.at h3, h4.ext hx, h5.ext hx⟩
def KeptK (b : Nat) (w w' : World) : Prop := ∀ c o, w.heap[c]? = some o → c ≠ b → (∀ cs fz, o ≠ .cells cs 93 fz) → w'.heap[c]? = some o
theorem KeptK.of {b : Nat} {w w' : World} (h : Ext w w') : KeptK b w w' := fun c o hc _ _ => h.at hc
theorem KeptK.trans {b : Nat} {w w' w'' : World} (h : KeptK b w w') (k : KeptK b w' w'') : KeptK b w w'' := fun c o hc hn ht => k c o (h c o hc hn ht) hn ht
theorem KeptK.mv {b B : Nat} {w w' : World} {v : Value} {es : List (List Value)} (ho : OwnOff B 4 93 w v es) (hm : Mv v.ownBlock w w') : KeptK b w w' := fun c o hc _ ht => by
 refine hm.at hc fun e => ?_
 obtain ⟨_, _, cur, fz, h⟩ := ho.type e.symm
 rw [hc] at h
 exact ht _ _ (Option.some.inj h)
theorem KeptK.put {b : Nat} {w w' : World} {o : Obj} (hp : Put w w' b o) : KeptK b w w' := fun c o hc hn _ => hp.mv.at hc (fun e => hn (Option.some.inj e))
theorem DelsK.add {B : Nat} {w w' : World} {v v' g n : Value} {ds : List DeltaR} {D : DeltaR} {css : List (List Value)} (h1 : OwnOff B 4 93 w v css) (h2 : css.length = ds.length)
 (h3 : ∀ (i : Nat) (d : DeltaR), ds[i]? = some d → ∃ g n, css[i]? = some [.int .i64 d.fr, .int .i64 d.to, g, n] ∧ Own B 4 47 w g (aD d.gone) ∧ Own B 4 47 w n (aD d.new)) (hm : Mv v.ownBlock w w')
 (o : OwnOff B 4 93 w' v' (css ++ [[.int .i64 D.fr, .int .i64 D.to, g, n]])) (hg : Own B 4 47 w g (aD D.gone)) (hn : Own B 4 47 w n (aD D.new)) : DelsK B w' v' (ds ++ [D]) := by
 refine ⟨_, o, by simp [h2], fun i d hi => ?_⟩
 rw [List.getElem?_append] at hi ⊢
 rw [h2]
 split at hi
 ·rw [if_pos ‹_›]
  obtain ⟨x, y, a, b, c⟩ := h3 i d hi
  exact ⟨x, y, a, b.mv hm (h1.neOwn b (by decide)), c.mv hm (h1.neOwn c (by decide))⟩
 ·rw [if_neg ‹_›]
  have hi0 : i - ds.length = 0 := by
   have := (List.getElem?_eq_some_iff.1 hi).1
   simpa using this
  rw [hi0] at hi ⊢
  cases hi
  exact ⟨g, n, rfl, hg.mv hm (h1.neOwn hg (by decide)), hn.mv hm (h1.neOwn hn (by decide))⟩
theorem DelsK.drop {B : Nat} {w : World} {v : Value} {ds : List DeltaR} (h : DelsK B w v ds) {m : Nat} (hm : m ≤ ds.length) : DelsK B w (cK v 4 m ds.length) (ds.drop m) := by
 obtain ⟨css, h1, h2, h3⟩ := h
 rw [← h2] at hm ⊢
 refine ⟨_, h1.drop hm, by simp [h2], fun i d hi => ?_⟩
 rw [List.getElem?_drop] at hi ⊢
 exact h3 _ d hi
theorem DelsK.below {B b : Nat} {w w' : World} {v : Value} {ds : List DeltaR} {o : Obj} (h : DelsK B w v ds) (hp : Put w w' b o) (hb : b < B) : DelsK B w' v ds := by
 obtain ⟨css, a, c, e⟩ := h
 refine ⟨css, a.mv hp.mv ?_, c, fun i d hi => let ⟨g, n, x, y, z⟩ := e i d hi; ⟨g, n, x, y.put hp hb, z.put hp hb⟩⟩
 cases hv : v.ownBlock with
 | none => exact .inl rfl
 | some r => have := (a.type hv).1; exact .inr (fun e => by have := Option.some.inj e; omega)
theorem DelsK.weaken {B C : Nat} {w : World} {v : Value} {ds : List DeltaR} (h : DelsK B w v ds) (hc : C ≤ B) : DelsK C w v ds := by
 obtain ⟨css, a, c, e⟩ := h
 exact ⟨css, a.weaken hc, c, fun i d hi => let ⟨g, n, x, y, z⟩ := e i d hi; ⟨g, n, x, y.weaken hc, z.weaken hc⟩⟩
theorem KeptK.keep {b t0 : Nat} {w w' : World} {cs : Array Value} {fz : Nat × Nat} (h : KeptK b w w') (hb : w.heap[b]? = some (.cells cs t0 fz)) : Keep [t0, 93] w w' := fun c ds t f hc ht => by
 refine h c _ hc ?_ ?_
 ·rintro rfl
  rw [hb] at hc
  simp only [Option.some.injEq, Obj.cells.injEq] at hc
  exact ht (by simp [hc.2.1])
 ·intro cs' fz' e
  simp only [Obj.cells.injEq] at e
  exact ht (by simp [e.2.1])
theorem DelsV.keep {T : List TypeId} {B : Nat} {w w' : World} {v : Value} {ds : List DeltaR} (h : DelsV B w v ds) (hk : Keep T w w') (h1 : 90 ∉ T) (h2 : 47 ∉ T) : DelsV B w' v ds := by
 obtain ⟨css, a, b, c⟩ := h
 exact ⟨css, a.keep hk h1, b, fun i d hi => let ⟨g, n, e, p, q⟩ := c i d hi; ⟨g, n, e, p.keep hk h2, q.keep hk h2⟩⟩
theorem DelsK.keep {T : List TypeId} {B : Nat} {w w' : World} {v : Value} {ds : List DeltaR} (h : DelsK B w v ds) (hk : Keep T w w') (h1 : 93 ∉ T) (h2 : 47 ∉ T) : DelsK B w' v ds := by
 obtain ⟨css, a, b, c⟩ := h
 exact ⟨css, a.keep hk h1, b, fun i d hi => let ⟨g, n, e, p, q⟩ := c i d hi; ⟨g, n, e, p.keep hk h2, q.keep hk h2⟩⟩
theorem JAt.keep {T : List TypeId} {w0 w w' : World} {b : Nat} {o : List UInt8} {l : List RSet} {room : Int} {ds : List DeltaR} (h : JAt w0 w b o l room ds) (hk : Keep T w w') (hx : Ext w0 w') (h1 : 84 ∉ T) (h2 : 90 ∉ T) (h3 : 47 ∉ T) (h4 : 119 ∉ T) (h5 : 9 ∉ T) : JAt w0 w' b o l room ds := by
 obtain ⟨g, _, v, dv, a, b, c⟩ := h
 exact ⟨g, hx, v, dv, hk _ _ _ _ a h1, b.keep hk h4 h5, c.keep hk h2 h3⟩
theorem KAt.keep {T : List TypeId} {w0 w w' : World} {b : Nat} {o : List UInt8} {l : List RSet} {room : Int} {ds : List DeltaR} (h : KAt w0 w b o l room ds) (hk : Keep T w w') (hx : Ext w0 w') (h1 : 87 ∉ T) (h2 : 93 ∉ T) (h3 : 47 ∉ T) (h4 : 119 ∉ T) (h5 : 9 ∉ T) : KAt w0 w' b o l room ds := by
 obtain ⟨g, _, v, dv, a, b, c⟩ := h
 exact ⟨g, hx, v, dv, hk _ _ _ _ a h1, b.keep hk h4 h5, c.keep hk h2 h3⟩
theorem mL : ∀ (g h l : List Rec), fO l (g ++ h) = (fO l g).bind fun m => fO m h
 | [], h, l => by simp [fO]
 | r :: g, h, l => by
   rw [List.cons_append, fO, fO]
   split
   ·exact mL g h _
   ·rfl
theorem nY : ∀ (g h l : List Rec), kG l (g ++ h) = (kG l g).bind fun m => kG m h
 | [], h, l => by simp [kG]
 | r :: g, h, l => by
   rw [List.cons_append, kG, kG]
   split
   ·rfl
   ·exact nY g h _
theorem AT {l m g : List Rec} {k : Nat} (hk : k < g.length) (h : fO l (g.take k) = some m) : fO l (g.take (k + 1)) = if g[k] ∈ m then some (m.erase g[k]) else none := by
 rw [List.take_succ_eq_append_getElem hk, mL, h]
 simp [fO]
theorem ER {l m g : List Rec} {k : Nat} (hk : k < g.length) (h : kG l (g.take k) = some m) : kG l (g.take (k + 1)) = if g[k] ∈ m then none else some (m ++ [g[k]]) := by
 rw [List.take_succ_eq_append_getElem hk, nY, h]
 simp [kG]
theorem ES {l m g : List Rec} {k : Nat} (hk : k < g.length) (h : fO l (g.take k) = some m) (hn : g[k] ∉ m) : fO l g = none := by
 rw [← List.take_append_drop k g, mL, h, List.drop_eq_getElem_cons hk]
 simp [fO, hn]
theorem ID {l m g : List Rec} {k : Nat} (hk : k < g.length) (h : kG l (g.take k) = some m) (hn : g[k] ∈ m) : kG l g = none := by
 rw [← List.take_append_drop k g, nY, h, List.drop_eq_getElem_cons hk]
 simp [kG, hn]
theorem wZ : ∀ {g l m : List Rec}, fO l g = some m → m.length ≤ l.length ∧ ∀ r ∈ m, r ∈ l
 | [], l, m, h => by rw [fO] at h; cases h; exact ⟨Nat.le_refl _, fun _ h => h⟩
 | r :: g, l, m, h => by
   rw [fO] at h
   split at h
   ·obtain ⟨h1, h2⟩ := wZ h
    exact ⟨Nat.le_trans h1 (List.length_erase_le), fun q hq => List.mem_of_mem_erase (h2 q hq)⟩
   ·cases h
theorem CE : ∀ {g l m : List Rec}, kG l g = some m → m.length = l.length + g.length ∧ ∀ r ∈ m, r ∈ l ∨ r ∈ g
 | [], l, m, h => by rw [kG] at h; cases h; exact ⟨by simp, fun _ h => .inl h⟩
 | r :: g, l, m, h => by
   rw [kG] at h
   split at h
   ·cases h
   ·obtain ⟨h1, h2⟩ := CE h
    refine ⟨by rw [h1]; simp; omega, fun q hq => ?_⟩
    rcases h2 q hq with h3 | h3
    ·rcases List.mem_append.1 h3 with h4 | h4
     ·exact .inl h4
     ·exact .inr (by rw [List.mem_singleton.1 h4]; simp)
    ·exact .inr (List.mem_cons_of_mem _ h3)
theorem OP {m : List Rec} {r : Rec} (h : r ∈ m) : ∃ i, i < m.length ∧ mF (fun q => decide (r = q)) m = (i : Nat) ∧ m.eraseIdx i = m.erase r := by
 have hlt := List.idxOf_lt_length_of_mem h
 refine ⟨m.idxOf r, hlt, sU hlt ?_ ?_, (List.erase_eq_eraseIdx_of_idxOf rfl).symm⟩
 ·rw [rV, decide_eq_false_iff_not]
  intro hm
  obtain ⟨j, hj, he⟩ := List.getElem_of_mem hm
  rw [List.length_take] at hj
  rw [List.getElem_take] at he
  have := List.not_of_lt_findIdx (p := (· == r)) (xs := m) (i := j) (by unfold List.idxOf at hj; omega)
  simp [he] at this
 ·have := List.getElem_idxOf hlt
  rw [this]; simp
theorem ML {m : List Rec} {r : Rec} (h : r ∉ m) : mF (fun q => decide (r = q)) m = -1 := sV (by rw [rV, decide_eq_false h])
theorem ET {s : RSet} : (dZ s).length = s.data.length := by simp [dZ]
theorem AU (r : Rec) : ∀ gs : List RSet, (aF (fD r gs)).length ≤ (aF gs).length + 1
 | [] => by simp [fD, aF, dZ, bN]
 | g :: gs => by
   have ih := AU r gs
   unfold aF at ih ⊢
   rw [fD]
   split
   ·simp only [List.map_cons, List.flatten_cons, List.length_append] at ih ⊢; omega
   ·split
    ·simp only [List.map_cons, List.flatten_cons, List.length_append]
     have : (dZ (bN r)).length = 1 := rfl
     omega
    ·simp only [List.map_cons, List.flatten_cons, List.length_append]
     have h1 : (dZ ⟨fold r.name, r.kind, min r.ttl g.ttl, eB r.data g.data⟩).length ≤ (dZ g).length + 1 := by
      rw [ET, ET]
      exact sY _ _
     omega
theorem tZ (l : List Rec) : ∀ k, k ≤ l.length → (aF (bC (l.take k))).length ≤ k
 | 0, _ => by simp [bC, aF]
 | k + 1, h => by
   rw [jD h]
   have := AU l[k] (bC (l.take k))
   have ih := tZ l k (by omega)
   omega
theorem rW {o : List UInt8} {m : List Rec} {n : Nat} (hm : ∀ r ∈ m, r.data.length ≤ n) : (∀ s ∈ bT o m, s.data.length ≤ m.length) ∧ (∀ s ∈ bT o m, ∀ d ∈ s.data, d.length ≤ n) ∧ (aF (bT o m)).length ≤ m.length := by
 unfold bT
 split
 ·refine ⟨qS m, fun s hs d hd => ?_, ?_⟩
  ·obtain ⟨r, hr, rfl⟩ := nR hs hd
   exact hm r hr
  ·have := tZ m m.length (Nat.le_refl _)
   rwa [List.take_length] at this
 ·simp [aF]
theorem tB {l : List RSet} {n : Nat} (h : ∀ s ∈ l, ∀ d ∈ s.data, d.length ≤ n) : ∀ r ∈ aF l, r.data.length ≤ n := by
 intro r hr
 unfold aF at hr
 obtain ⟨x, hx, hr⟩ := List.mem_flatten.1 hr
 obtain ⟨s, hs, rfl⟩ := List.mem_map.1 hx
 unfold dZ at hr
 obtain ⟨d, hd, rfl⟩ := List.mem_map.1 hr
 exact h s hs d hd
def AppU (B : Nat) (o : List UInt8) (l : List RSet) (d : DeltaR) (q : Value) (w : World) : Prop := ∃ y, q = .tuple #[.agg #[aI (lM o l d), y], .int .i64 (gL o l d)] ∧ SetsO B w y (pK o l d)
theorem AppU.bad {B : Nat} {o : List UInt8} {l : List RSet} {d : DeltaR} {e : Int} {w : World} (h : gL o l d = e) (he : e ≠ 0) : AppU B o l d (.tuple #[.agg aM.toArray, .int .i64 e]) w := by
 refine ⟨.slice none 0 0, ?_, ?_⟩
 ·rw [lM, if_neg (by rw [h]; exact he), h]; rfl
 ·rw [pK, if_neg (by rw [h]; exact he)]; exact SetsO.nil _ _
theorem oS {o : List UInt8} {l : List RSet} {d : DeltaR} (q0 : aX o l = 0) (q1 : (aP o l).serial = d.fr) (h : mX (aF l) d = none) : gL o l d = 5 := by rw [gL, if_pos q0, if_pos q1, h]
theorem AV {o : List UInt8} {l : List RSet} {d : DeltaR} {x : List Rec} (q0 : aX o l = 0) (q1 : (aP o l).serial = d.fr) (h : mX (aF l) d = some x) : gL o l d = qU o x d.to := by rw [gL, if_pos q0, if_pos q1, h]
theorem xL {l : List Rec} {d : DeltaR} (h : fO l d.gone = none) : mX l d = none := by rw [mX, h]; rfl
theorem IE {l m : List Rec} {d : DeltaR} (h : fO l d.gone = some m) : mX l d = kG m d.new := by rw [mX, h]; rfl
def aU (r : Rec) : Bool := decide (r.kind = 6)
def lO (d : List UInt8) : SoaR := match cD d with | some s => s | none => zR
def dW (r : Rec) : Int := (lO r.data).serial
def nextSoa : List Rec → Nat
 | [] => 0
 | r :: t => if aU r then 0 else nextSoa t + 1
theorem xN : ∀ l : List Rec, nextSoa l ≤ l.length
 | [] => Nat.le_refl _
 | r :: t => by
   rw [nextSoa]
   split
   ·omega
   ·have := xN t
    rw [List.length_cons]; omega
def partN (l : List Rec) : Nat := 1 + nextSoa (l.drop 1)
theorem eN {l : List Rec} (h : l ≠ []) : 1 ≤ partN l ∧ partN l ≤ l.length := by
 have := xN (l.drop 1)
 cases l with
 | nil => exact absurd rfl h
 | cons r t =>
  unfold partN
  simp only [List.drop_succ_cons, List.drop_zero, List.length_cons] at *
  omega
def bA : Rec := ⟨[], 0, 0, []⟩
def bD (l : List Rec) : Rec := l.headD bA
def dR (gone come : List Rec) : DeltaR := ⟨dW (bD gone), dW (bD come), gone, come⟩
structure ZE where
 e : Int
 o : List UInt8
 l : List RSet
def ZE.bad (e : Int) : ZE := ⟨e, [], []⟩
def OQ : Nat → List UInt8 → List RSet → List Rec → ZE
 | 0, o, l, _ => ⟨0, o, l⟩
 | f + 1, o, l, rs =>
  if rs = [] then ⟨0, o, l⟩ else
  let gone := rs.take (partN rs)
  let rest := rs.drop (partN rs)
  if rest = [] then ZE.bad 2 else
  let come := rest.take (partN rest)
  if gL o l (dR gone come) = 0 then OQ f (lM o l (dR gone come)) (pK o l (dR gone come)) (rest.drop (partN rest))
  else ZE.bad (if gL o l (dR gone come) = 5 then 2 else gL o l (dR gone come))
def kW (o : List UInt8) (l : List RSet) (rs : List Rec) : ZE := OQ rs.length o l rs
theorem xO (f : Nat) (o : List UInt8) (l : List RSet) {rs : List Rec} (h : rs ≠ []) : OQ (f + 1) o l rs =
 if rs.drop (partN rs) = [] then ZE.bad 2 else
 if gL o l (dR (rs.take (partN rs)) ((rs.drop (partN rs)).take (partN (rs.drop (partN rs))))) = 0 then
  OQ f (lM o l (dR (rs.take (partN rs)) ((rs.drop (partN rs)).take (partN (rs.drop (partN rs)))))) (pK o l (dR (rs.take (partN rs)) ((rs.drop (partN rs)).take (partN (rs.drop (partN rs)))))) ((rs.drop (partN rs)).drop (partN (rs.drop (partN rs))))
 else ZE.bad (if gL o l (dR (rs.take (partN rs)) ((rs.drop (partN rs)).take (partN (rs.drop (partN rs))))) = 5 then 2 else gL o l (dR (rs.take (partN rs)) ((rs.drop (partN rs)).take (partN (rs.drop (partN rs)))))) := by
 rw [OQ, if_neg h]
theorem IF : ∀ (f : Nat) (o : List UInt8) (l : List RSet), OQ f o l [] = ⟨0, o, l⟩
 | 0, o, l => rfl
 | f + 1, o, l => by rw [OQ, if_pos rfl]
theorem EU : ∀ (n f g : Nat) (o : List UInt8) (l : List RSet) (rs : List Rec), rs.length ≤ n → rs.length ≤ f → rs.length ≤ g → OQ f o l rs = OQ g o l rs
 | n, f, g, o, l, [], _, _, _ => by rw [IF, IF]
 | 0, f, g, o, l, r :: t, h, _, _ => by simp at h
 | n + 1, 0, g, o, l, r :: t, _, h, _ => by simp at h
 | n + 1, f + 1, 0, o, l, r :: t, _, _, h => by simp at h
 | n + 1, f + 1, g + 1, o, l, r :: t, hn, hf, hg => by
   have h1 := eN (l := r :: t) (by simp)
   rw [xO f o l (by simp), xO g o l (by simp)]
   by_cases hr : (r :: t).drop (partN (r :: t)) = []
   ·rw [if_pos hr, if_pos hr]
   ·rw [if_neg hr, if_neg hr]
    have h2 := eN hr
    have h3 : (((r :: t).drop (partN (r :: t))).drop (partN ((r :: t).drop (partN (r :: t))))).length ≤ t.length := by
     have e1 : ((r :: t).drop (partN (r :: t))).length = (r :: t).length - partN (r :: t) := List.length_drop ..
     rw [List.length_drop, e1]
     simp only [List.length_cons] at h1 ⊢
     omega
    simp only [List.length_cons] at hn hf hg
    rw [EU n f g _ _ _ (by omega) (by omega) (by omega)]
theorem xP (o : List UInt8) (l : List RSet) : kW o l [] = ⟨0, o, l⟩ := rfl
theorem lP (o : List UInt8) (l : List RSet) {rs : List Rec} (h : rs ≠ []) : kW o l rs =
 if rs.drop (partN rs) = [] then ZE.bad 2 else
 if gL o l (dR (rs.take (partN rs)) ((rs.drop (partN rs)).take (partN (rs.drop (partN rs))))) = 0 then
  kW (lM o l (dR (rs.take (partN rs)) ((rs.drop (partN rs)).take (partN (rs.drop (partN rs)))))) (pK o l (dR (rs.take (partN rs)) ((rs.drop (partN rs)).take (partN (rs.drop (partN rs)))))) ((rs.drop (partN rs)).drop (partN (rs.drop (partN rs))))
 else ZE.bad (if gL o l (dR (rs.take (partN rs)) ((rs.drop (partN rs)).take (partN (rs.drop (partN rs))))) = 5 then 2 else gL o l (dR (rs.take (partN rs)) ((rs.drop (partN rs)).take (partN (rs.drop (partN rs)))))) := by
 cases rs with
 | nil => exact absurd rfl h
 | cons r t =>
  have h1 := eN (l := r :: t) (by simp)
  conv => lhs; unfold kW
  rw [List.length_cons, xO _ _ _ h]
  by_cases hr : (r :: t).drop (partN (r :: t)) = []
  ·rw [if_pos hr, if_pos hr]
  ·rw [if_neg hr, if_neg hr]
   have h2 := eN hr
   have h3 : (((r :: t).drop (partN (r :: t))).drop (partN ((r :: t).drop (partN (r :: t))))).length ≤ t.length := by
    have e1 : ((r :: t).drop (partN (r :: t))).length = (r :: t).length - partN (r :: t) := List.length_drop ..
    rw [List.length_drop, e1]
    simp only [List.length_cons] at h1 ⊢
    omega
   unfold kW
   rw [EU _ _ _ _ _ _ (Nat.le_refl _) h3 (Nat.le_refl _)]
def eF (oo : List UInt8) (lo : List RSet) (og : List UInt8) (l : List Rec) : ZE :=
 if aU (l.getD 1 bA) = false then ⟨dE og l.dropLast, cH og l.dropLast, bT og l.dropLast⟩ else
 if lo = [] then ZE.bad 5 else kW oo lo (l.dropLast.drop 1)
def bW (oo : List UInt8) (lo : List RSet) (og : List UInt8) (l : List Rec) : ZE :=
 if dT og ≠ 0 ∨ l.any (fun r => !decide (aW r = 0)) = true then ZE.bad 1 else
 if l = [] then ZE.bad 2 else
 if aU (bD l) = false ∨ fold (bD l).name ≠ fold og then ZE.bad 2 else
 if l.length = 1 then ZE.bad 5 else
 if l.length = 2 ∨ l.getD (l.length - 1) bA ≠ bD l then ZE.bad 3 else
 let q := eF oo lo og l
 if q.e ≠ 0 then ZE.bad q.e else
 if (aP q.o q.l).serial ≠ dW (bD l) then ZE.bad 2 else
 if lo ≠ [] ∧ dB (aP q.o q.l).serial (aP oo lo).serial = false then ZE.bad 7 else q
theorem tC {o : List UInt8} {l : List Rec} (h : dE o l = 0) : ZoneOk (cH o l) (bT o l) := by
 have h0 := h
 unfold dE at h
 split at h
 ·rw [cH, if_pos h0, bT, if_pos h0]; exact gF h
 ·rename_i q; exact absurd h q
theorem xQ {o : List UInt8} {l : List Rec} (h : dE o l = 0) : cH o l = fold o := by rw [cH, if_pos h]
theorem xR {o : List UInt8} {l : List RSet} {d : DeltaR} (h : gL o l d = 0) : ZoneOk (lM o l d) (pK o l d) ∧ lM o l d = o := by
 have h0 := h
 unfold gL at h
 split at h
 ·rename_i q0
  split at h
  ·cases hx : mX (aF l) d with
   | none => rw [hx] at h; cases h
   | some m =>
    rw [hx] at h
    simp only at h
    unfold qU at h
    split at h
    ·rename_i q1
     have hz := tC q1
     rw [lM, if_pos h0, pK, if_pos h0, hx]
     simp only [Option.getD_some]
     refine ⟨hz, ?_⟩
     rw [xQ q1]
     exact (gF q0).fold
    ·rename_i q1; exact absurd h q1
  ·cases h
 ·rename_i q; exact absurd h q
theorem xS : ∀ (n : Nat) (rs : List Rec), rs.length ≤ n → ∀ (o : List UInt8) (l : List RSet), (kW o l rs).e = 0 → rs ≠ [] → ZoneOk (kW o l rs).o (kW o l rs).l ∧ (kW o l rs).o = o
 | 0, rs, hn, o, l, h, hne => by
   have : rs = [] := List.eq_nil_of_length_eq_zero (by omega)
   exact absurd this hne
 | n + 1, rs, hn, o, l, h, hne => by
   have h1 := eN hne
   rw [lP o l hne] at h ⊢
   split at h
   ·cases h
   ·rename_i hr
    have h2 := eN hr
    rw [if_neg hr]
    split at h
    ·rename_i ha
     rw [if_pos ha]
     obtain ⟨z1, z2⟩ := xR ha
     by_cases hq : (rs.drop (partN rs)).drop (partN (rs.drop (partN rs))) = []
     ·rw [hq, xP]
      exact ⟨z1, z2⟩
     ·obtain ⟨a, b⟩ := xS n _ (by simp only [List.length_drop] at *; omega) _ _ h hq
      exact ⟨a, b.trans z2⟩
    ·rename_i ha
     split at h
     ·cases h
     ·exact absurd h ha
theorem OR {oo : List UInt8} {lo : List RSet} {og : List UInt8} {l : List Rec} (h : (bW oo lo og l).e = 0) :
 ZoneOk (bW oo lo og l).o (bW oo lo og l).l ∧ ((lo = [] ∨ oo = fold og) → (bW oo lo og l).o = fold og) ∧ (lo ≠ [] → dB (aP (bW oo lo og l).o (bW oo lo og l).l).serial (aP oo lo).serial = true) := by
 unfold bW at h ⊢
 split at h
 ·cases h
 ·rename_i c1
  rw [if_neg c1]
  split at h
  ·cases h
  ·rename_i c2
   rw [if_neg c2]
   split at h
   ·cases h
   ·rename_i c3
    rw [if_neg c3]
    split at h
    ·cases h
    ·rename_i c4
     rw [if_neg c4]
     split at h
     ·cases h
     ·rename_i c5
      rw [if_neg c5]
      simp only at h ⊢
      split at h
      ·rename_i c6; exact absurd h c6
      ·rename_i c6
       rw [if_neg c6]
       split at h
       ·cases h
       ·rename_i c7
        rw [if_neg c7]
        split at h
        ·cases h
        ·rename_i c8
         rw [if_neg c8]
         have hz : ZoneOk (eF oo lo og l).o (eF oo lo og l).l ∧ ((lo = [] ∨ oo = fold og) → (eF oo lo og l).o = fold og) := by
          have h6 : (eF oo lo og l).e = 0 := by simpa using c6
          unfold eF at h6 ⊢
          split at h6
          ·rename_i d1
           rw [if_pos d1]
           exact ⟨tC h6, fun _ => xQ h6⟩
          ·rename_i d1
           rw [if_neg d1]
           split at h6
           ·cases h6
           ·rename_i d2
            rw [if_neg d2]
            have hl : 2 < l.length := by
             have n0 : l.length ≠ 0 := fun e => c2 (List.eq_nil_of_length_eq_zero e)
             have n2 : l.length ≠ 2 := fun e => c5 (.inl e)
             omega
            obtain ⟨a, b⟩ := xS _ _ (Nat.le_refl _) oo lo h6 (by
             intro e
             have := congrArg List.length e
             simp at this
             omega)
            exact ⟨a, fun hh => by rcases hh with hh | hh; exact absurd hh d2; exact b.trans hh⟩
         refine ⟨hz.1, hz.2, fun hne => ?_⟩
         cases hb : dB (aP (eF oo lo og l).o (eF oo lo og l).l).serial (aP oo lo).serial with
         | true => rfl
         | false => exact absurd ⟨hne, hb⟩ c8
structure SecR where
 og : List UInt8
 retry : Int
 z : Option (List UInt8 × List RSet)
 next : Int
 til : Int
 take : Bool
def SecR.soa (s : SecR) : SoaR := match s.z with | none => ⟨[], [], 0, s.retry, s.retry, 0, 0⟩ | some z => aP z.1 z.2
def SecR.o (s : SecR) : List UInt8 := match s.z with | none => [] | some z => z.1
def SecR.l (s : SecR) : List RSet := match s.z with | none => [] | some z => z.2
def xT (n : Int) : Bool := decide (0 ≤ n) && decide (n ≤ 1099511627776)
def SecR.news (s : SecR) (n : Int) : Bool := s.z.isNone || dB n s.soa.serial
def SecR.notify (s : SecR) (n now : Int) : SecR := if (xT now && eX n && s.news n) = true then { s with next := min s.next now } else s
def SecR.failed (s : SecR) (now : Int) : SecR := if xT now = true then { s with take := false, next := now + s.soa.retry } else s
def SecR.fresh (s : SecR) (now : Int) : SecR := { s with take := false, next := now + s.soa.refresh, til := now + s.soa.expire }
def SecR.heard (s : SecR) (n now : Int) : SecR :=
 if xT now = false then s else if eX n = false then s.failed now else if s.news n = true then { s with take := true, next := now + s.soa.retry } else s.fresh now
def SecR.inst (s : SecR) (l : List Rec) : ZE := bW s.o s.l s.og l
def SecR.withZ (s : SecR) (q : ZE) : SecR := { s with z := some (q.o, q.l) }
def SecR.got (s : SecR) (l : List Rec) (now : Int) : SecR :=
 if xT now = false then s else
 if (s.inst l).e = 5 ∧ s.z.isSome = true then s.fresh now else
 if (s.inst l).e ≠ 0 then s.failed now else (s.withZ (s.inst l)).fresh now
def SecR.up (s : SecR) (now : Int) : Bool := xT now && (s.z.isSome && decide (now < s.til))
def TG (og : List UInt8) (retry : Int) : Int := if dT og ≠ 0 ∨ retry < 1 ∨ 2147483647 < retry then 1 else 0
def CF (og : List UInt8) (retry : Int) : SecR := ⟨og, retry, none, 0, 0, false⟩
structure SecOk (s : SecR) : Prop where
 og : dT s.og = 0
 retry : 1 ≤ s.retry ∧ s.retry ≤ 2147483647
 zone : ∀ o l, s.z = some (o, l) → ZoneOk o l ∧ o = fold s.og
theorem OT {o : List UInt8} {l : List RSet} (h : ZoneOk o l) : (aP o l).ok = true := by
 obtain ⟨s, _, _, _, _, _, hp, _⟩ := h.soaSet
 rw [aP, if_pos (fW h)]
 exact LY hp
theorem JV {o : List UInt8} {l : List RSet} (h : ZoneOk o l) : 0 ≤ (aP o l).serial ∧ (aP o l).serial ≤ 4294967295 ∧ 0 ≤ (aP o l).refresh ∧ (aP o l).refresh ≤ 2147483647 ∧ 0 ≤ (aP o l).retry ∧ (aP o l).retry ≤ 2147483647 ∧ 0 ≤ (aP o l).expire ∧ (aP o l).expire ≤ 2147483647 := by
 have := OT h
 simp only [SoaR.ok, fV, Bool.and_eq_true, decide_eq_true_eq] at this
 omega
theorem ZoneOk.ne {o : List UInt8} {l : List RSet} (h : ZoneOk o l) : l ≠ [] := by
 rintro rfl
 have := h.soa
 simp [fK] at this
theorem SecOk.soa {s : SecR} (h : SecOk s) : 0 ≤ s.soa.refresh ∧ s.soa.refresh ≤ 2147483647 ∧ 0 ≤ s.soa.retry ∧ s.soa.retry ≤ 2147483647 ∧ 0 ≤ s.soa.expire ∧ s.soa.expire ≤ 2147483647 := by
 have hr := h.retry
 unfold SecR.soa
 split
 ·simp only; omega
 ·rename_i z hz
  have := JV (h.zone z.1 z.2 hz).1
  omega
theorem SecOk.old {s : SecR} (h : SecOk s) : (s.l = [] ↔ s.z = none) ∧ (s.l = [] ∨ s.o = fold s.og) := by
 unfold SecR.l SecR.o
 split
 ·rename_i hz; simp [hz]
 ·rename_i z hz
  have := h.zone z.1 z.2 hz
  refine ⟨⟨fun e => absurd e this.1.ne, fun e => by rw [hz] at e; cases e⟩, .inr this.2⟩
theorem SecOk.of {s t : SecR} (h : SecOk s) (h1 : t.og = s.og) (h2 : t.retry = s.retry) (h3 : t.z = s.z) : SecOk t := ⟨by rw [h1]; exact h.og, by rw [h2]; exact h.retry, by rw [h1, h3]; exact h.zone⟩
theorem SecOk.new {og : List UInt8} {retry : Int} (h : TG og retry = 0) : SecOk (CF og retry) := by
 unfold TG at h
 split at h
 ·cases h
 ·rename_i c
  refine ⟨?_, ?_, ?_⟩
  ·unfold CF; simp only
   exact Decidable.byContradiction fun e => c (.inl e)
  ·unfold CF; simp only
   omega
  ·intro o l e; cases e
theorem SecOk.notify {s : SecR} (h : SecOk s) (n now : Int) : SecOk (s.notify n now) := by
 unfold SecR.notify; split <;> first | exact h | exact h.of rfl rfl rfl
theorem SecOk.failed {s : SecR} (h : SecOk s) (now : Int) : SecOk (s.failed now) := by
 unfold SecR.failed; split <;> first | exact h | exact h.of rfl rfl rfl
theorem SecOk.fresh {s : SecR} (h : SecOk s) (now : Int) : SecOk (s.fresh now) := h.of rfl rfl rfl
theorem SecOk.heard {s : SecR} (h : SecOk s) (n now : Int) : SecOk (s.heard n now) := by
 unfold SecR.heard
 split
 ·exact h
 ·split
  ·exact h.failed now
  ·split
   ·exact h.of rfl rfl rfl
   ·exact h.fresh now
theorem SecOk.inst {s : SecR} (h : SecOk s) {l : List Rec} (he : (s.inst l).e = 0) : ZoneOk (s.inst l).o (s.inst l).l ∧ (s.inst l).o = fold s.og ∧ (∀ o l', s.z = some (o, l') → dB (aP (s.inst l).o (s.inst l).l).serial (aP o l').serial = true) := by
 obtain ⟨a, b, c⟩ := OR (oo := s.o) (lo := s.l) (og := s.og) he
 obtain ⟨h1, h2⟩ := h.old
 refine ⟨a, b h2, fun o l' hz => ?_⟩
 have := c (fun e => by rw [h1.1 e] at hz; cases hz)
 unfold SecR.o SecR.l at this
 rw [hz] at this
 unfold SecR.inst SecR.o SecR.l
 rw [hz]
 exact this
theorem SecOk.got {s : SecR} (h : SecOk s) (l : List Rec) (now : Int) : SecOk (s.got l now) := by
 unfold SecR.got
 split
 ·exact h
 ·split
  ·exact h.fresh now
  ·split
   ·exact h.failed now
   ·rename_i c
    obtain ⟨a, b, _⟩ := h.inst (l := l) (by simpa using c)
    refine SecOk.fresh (s := s.withZ (s.inst l)) ⟨h.og, h.retry, ?_⟩ now
    intro o l' e
    simp only [SecR.withZ, Option.some.injEq, Prod.mk.injEq] at e
    obtain ⟨rfl, rfl⟩ := e
    exact ⟨a, b⟩
open Go.ChangeShapes Go.WideShapes Go.ChangeAt Go.RowKit
theorem GT {H : Type} {enc : TypeId × Value → H} {w : World} {base : Nat} {spare : Nat → Bool} {held : Bool} {fuel : Nat} {v : Value} {x : DataW H × List MemPlace} (h : DataW.trod enc Tryz.prog w base spare held fuel 117 [v] = some x) : ∃ l : List (List UInt8), Sl 1 w v (aN l) := by
 obtain ⟨es, hs, he⟩ := oL Tryz.underlying117 (show Tryz.prog.cellsOf 9 = 1 by kernel_rfl) (by omega) h
 obtain ⟨l, rfl⟩ : ∃ l : List (List UInt8), es = l.map fun s => [aI s] := by
  refine rC fun c hc => ?_
  obtain ⟨n, y, hy⟩ := he c hc
  have hl : c.length = 1 := by
   obtain ⟨_, _, _, _, _, h4, _, _⟩ := hs
   exact h4 c hc
  match c, hl with
  | [a], _ =>
   obtain ⟨s, rfl, _⟩ := nG Tryz.underlying9 hy
   exact ⟨s, rfl⟩
 exact ⟨l, hs⟩
theorem JW {H : Type} {enc : TypeId × Value → H} {w : World} {base : Nat} {spare : Nat → Bool} {held : Bool} {fuel : Nat} {v : Value} {x : DataW H × List MemPlace} (h : DataW.trod enc Tryz.prog w base spare held fuel 23 [v] = some x) : ∃ l : List RSet, SetsAt w v l := by
 obtain ⟨es, hs, he⟩ := oL Tryz.underlying23 (show Tryz.prog.cellsOf 119 = 4 by kernel_rfl) (by omega) h
 obtain ⟨l, rfl⟩ : ∃ l : List {p : RSet × Value // Sl 1 w p.2 (aN p.1.data)}, es = l.map fun p => [aI p.1.1.name, .int .i64 p.1.1.kind, .int .i64 p.1.1.ttl, p.1.2] := by
  refine rC fun c hc => ?_
  obtain ⟨n, y, hy⟩ := he c hc
  obtain ⟨xs, n', _, _, hl, hxl, hf⟩ := DataW.trod_struct Tryz.underlying119 hy
  have c30 : Tryz.prog.cellsOf 22 = 1 := by kernel_rfl
  have c3 : Tryz.prog.cellsOf 3 = 1 := by kernel_rfl
  have c35 : Tryz.prog.cellsOf 117 = 1 := by kernel_rfl
  have c37 : Tryz.prog.cellsOf 119 = 4 := by kernel_rfl
  rw [c37] at hl
  match c, hl, xs, hxl with
  | [a, b, d, e], _, [y0, y1, y2, y3], _ =>
   have g0 := hf 0 _ rfl
   have g1 := hf 1 _ rfl
   have g2 := hf 2 _ rfl
   have g3 := hf 3 _ rfl
   simp [c30, c3, c35] at g0 g1 g2 g3
   obtain ⟨s0, rfl, _⟩ := nG Tryz.underlying22 g0
   obtain ⟨n1, rfl, _⟩ := lG Tryz.underlying3 g1
   obtain ⟨n2, rfl, _⟩ := lG Tryz.underlying3 g2
   obtain ⟨ts, hts⟩ := GT g3
   exact ⟨⟨(⟨s0, n1, n2, ts⟩, e), hts⟩, rfl⟩
 refine ⟨l.map fun p => p.1.1, _, hs, by simp, ?_⟩
 intro i s hi
 rw [List.getElem?_map] at hi
 obtain ⟨p, hp, rfl⟩ := Option.map_eq_some_iff.1 hi
 exact ⟨p.1.2, by rw [List.getElem?_map, hp]; rfl, p.2⟩
open Go.ChangeShapes Go.WideShapes Go.ChangeAt Go.RowKit
theorem AW {H : Type} {enc : TypeId × Value → H} {w : World} {base : Nat} {spare : Nat → Bool} {held : Bool} {fuel : Nat} {c : Array Value} {x : DataW H × List MemPlace} (h : DataW.trod enc Tryz.prog w base spare held fuel 25 (Value.agg c).cells.toList = some x) : ∃ (o : List UInt8) (l : List RSet) (u : Value), c = #[aI o, u] ∧ SetsAt w u l := by
 have e : (Value.agg c).cells.toList = c.toList := rfl
 rw [e] at h
 obtain ⟨xs, n', _, _, hl, hxl, hf⟩ := DataW.trod_struct Tryz.underlying25 h
 have c30 : Tryz.prog.cellsOf 22 = 1 := by kernel_rfl
 have c25 : Tryz.prog.cellsOf 23 = 1 := by kernel_rfl
 have c43 : Tryz.prog.cellsOf 25 = 2 := by kernel_rfl
 rw [c43] at hl
 obtain ⟨cl⟩ := c
 match cl, hl, xs, hxl with
 | [a, b], _, [y0, y1], _ =>
  have g0 := hf 0 _ rfl
  have g1 := hf 1 _ rfl
  simp [c30, c25] at g0 g1
  obtain ⟨s0, rfl, _⟩ := nG Tryz.underlying22 g0
  obtain ⟨l, hls⟩ := JW g1
  exact ⟨s0, l, b, rfl, hls⟩
open Go.ChangeShapes Go.WideShapes Go.ChangeAt Go.RowKit
theorem own : ownKnob Tryz.prog.godebug = none := by kernel_rfl
theorem TX : laidOutB Tryz.prog = true := by kernel_rfl
theorem RY {H : Type} {enc : TypeId × Value → H} {w : World} {base : Nat} {spare : Nat → Bool} {held : Bool} {fuel : Nat} {v : Value} {x : DataW H × List MemPlace} (h : DataW.trod enc Tryz.prog w base spare held fuel 31 [v] = some x) : ∃ l : List Rec, Sl 4 w v (aD l) := by
 obtain ⟨es, hs, he⟩ := oL Tryz.underlying31 (show Tryz.prog.cellsOf 47 = 4 by kernel_rfl) (by omega) h
 obtain ⟨l, rfl⟩ : ∃ l : List Rec, es = l.map Rec.cells := by
  refine rC fun c hc => ?_
  obtain ⟨n, y, hy⟩ := he c hc
  obtain ⟨xs, n', _, _, hl, hxl, hf⟩ := DataW.trod_struct Tryz.underlying47 hy
  have c30 : Tryz.prog.cellsOf 22 = 1 := by kernel_rfl
  have c3 : Tryz.prog.cellsOf 3 = 1 := by kernel_rfl
  have c9 : Tryz.prog.cellsOf 9 = 1 := by kernel_rfl
  have c32 : Tryz.prog.cellsOf 47 = 4 := by kernel_rfl
  rw [c32] at hl
  match c, hl, xs, hxl with
  | [a, b, d, e], _, [y0, y1, y2, y3], _ =>
   have g0 := hf 0 _ rfl
   have g1 := hf 1 _ rfl
   have g2 := hf 2 _ rfl
   have g3 := hf 3 _ rfl
   simp [c30, c3, c9] at g0 g1 g2 g3
   obtain ⟨s0, rfl, _⟩ := nG Tryz.underlying22 g0
   obtain ⟨n1, rfl, _⟩ := lG Tryz.underlying3 g1
   obtain ⟨n2, rfl, _⟩ := lG Tryz.underlying3 g2
   obtain ⟨s3, rfl, _⟩ := nG Tryz.underlying9 g3
   exact ⟨⟨s0, n1, n2, s3⟩, rfl⟩
 exact ⟨l, hs⟩
theorem mM {l : List Rec} : ∀ f ∈ aD l, ∀ u ∈ f, u.oneCell' = true := by
 intro f hf u hu
 obtain ⟨r, _, rfl⟩ := List.mem_map.1 hf
 simp only [Rec.cells, List.mem_cons, List.not_mem_nil, or_false] at hu
 rcases hu with rfl | rfl | rfl | rfl <;> rfl
set_option maxHeartbeats 4000000 in
theorem MM {B : Nat} {v : Value} {l : List Rec} {w : World} {i : Nat} (h : Own B 4 47 w v (aD l)) (hi : i < l.length) (hl : l.length ≤ 1000000) : Calls Tryz.prog 198 #[v, .int .i64 i, .int .i64 (i + 1 : Nat)] w fun e w' => ∃ v', e = .returned v' ∧ Own B 4 47 w' v' (aD (l.eraseIdx i)) ∧ Mv v.ownBlock w w' ∧ v'.ownBlock = v.ownBlock := by
 have hlen := aL l
 have h1c := mM (l := l)
 rcases h.form with ⟨rfl, hn⟩ | ⟨g, cap, rfl, hg, hb, hc, _⟩
 ·exfalso
  rw [hn] at hlen
  simp at hlen; omega
 ·have hs := h.sl
  rw [hlen] at hc
  have hs' := hs
  rw [hlen] at hs'
  go_enter Tryz.func198, Tryz.ntmps198
  refine_lift kL ?_; intro _ _ _
  refine bM (Runs.cut3 (k := 4) (m := i) (n := i + 1) (p := l.length) (l := (aD l).length) (c := cap) (ad := some ⟨g, 0, none⟩) rfl rfl rfl (by rw [← hlen]; rfl) (by omega) (by omega) hc (by decide +kernel)) ?_
  refine aA ?_
  refine_lift kL fun _ _ _ => ?_
  refine cG 6 (fun w' => Sl 4 w' (Value.slice (some ⟨g, 0, none⟩) (aD l).length cap) (aD l)) (by decide +kernel) ?_
  intro w1 x1 _
  refine ⟨hs.ext x1, ?_⟩
  refine eL 0 ?_; refine eL 1 ?_; refine eL 2 ?_; refine eL 3 ?_; refine eL 4 ?_; refine eL 5 ?_
  have e22 : cK (Value.slice (some ⟨g, 0, none⟩) (aD l).length cap) 4 0 i = .slice (some ⟨g, 0, none⟩) i cap := by simp [cK, cR]
  obtain ⟨ad, e25⟩ : ∃ ad, cK (Value.slice (some ⟨g, 0, none⟩) (aD l).length cap) 4 (i + 1) (aD l).length = .slice (some ad) ((aD l).length - (i + 1)) (cap - (i + 1)) := by
   by_cases hq : cap = i + 1
   ·exact ⟨⟨g, 0, none⟩, by simp [cK, hq]⟩
   ·exact ⟨_, by simp only [cK, if_neg hq]; rfl⟩
  have hcut := (hs.ext x1).cut (m := i + 1) (n := (aD l).length) (by omega) (Nat.le_refl _)
  rw [e25, List.take_length] at hcut
  refine bV (i := 6) (by decide +kernel) rfl rfl ?_
  refine DJ (i := i) (j := i + 1) (h.ext x1) e22 e25 hcut (by omega) (by omega) h1c ?_
  intro w2 o2 m2
  refine aA ?_
  refine aJ ⟨cJ rfl, ?_⟩
  refine iN 7 ?_
  refine cZ (by decide +kernel) ?_
  obtain ⟨m, hm⟩ : ∃ m, i + ((aD l).length - (i + 1)) = m := ⟨_, rfl⟩
  rw [hm] at o2 ⊢
  have ee : (aD l).take i ++ (aD l).drop (i + 1) = aD (l.eraseIdx i) := by
   rw [List.eraseIdx_eq_take_drop_succ]; simp [aD, List.map_take, List.map_drop]
  rw [ee] at o2
  have hml : (aD (l.eraseIdx i)).length = m := by rw [aL, List.length_eraseIdx_of_lt hi]; omega
  have h2l : (aD (l.eraseIdx i) ++ (aD l).drop m).length = (aD l).length := by rw [List.length_append, hml, List.length_drop]; omega
  have hsh := o2
  rw [← h2l] at hsh
  have hsh := hsh.short (m := m) (by omega)
  rw [List.take_left' hml] at hsh
  have hs2 := hsh.sl
  refine_lift bY fun _ _ => ?_
  refine bM (Runs.cutC (k := 4) (m := m) (n := l.length) (l := m) (c := cap) (ad := some ⟨g, 0, none⟩) rfl (by rw [← hml]; rfl) (by rw [← hlen]; rfl) (by omega) hc (by decide +kernel)) ?_
  refine aA ?_
  have e31 : (if cap = m then some (⟨g, 0, none⟩ : Addr) else Option.map (fun x : Addr => x.add (m * 4)) (some (⟨g, 0, none⟩ : Addr))) = some (⟨g, m * 4, none⟩ : Addr) := by
   rw [if_neg (by omega)]; simp [cR]
  rw [e31]
  rw [← h2l] at o2
  have h2l' : (aD (l.eraseIdx i) ++ (aD l).drop m).length = l.length := by omega
  refine FT (m := m) (z := JT) o2 (by rw [h2l']; rfl) (by omega) ?_
  intro w3 o3 m3
  rw [List.take_left' hml] at o3
  refine_lift aS ?_
  go_ret
  exact ⟨_, rfl, o3, (x1.mv (some g)).trans (m2.trans m3), rfl⟩
set_option maxHeartbeats 500000 in
theorem xU (o : List UInt8) (v : Value) (l : List RSet) (w : World) (hv : SetsAt w v l) : Calls Tryz.prog 9 #[.agg #[aI o, v]] w (bG w (.bool (decide ((o.length : Int) ≤ 300) && pI l))) := by
 go_enter Tryz.func9, Tryz.ntmps9
 refine_lift hY fun _ _ => ?_
 refine aZ (vs := [aI o, v]) rfl rfl ?_
 intro p w1 x1 hp
 refine aA ?_
 have hv1 := hv.ext x1
 refine_lift NR (fun hc => ?_) (fun _ _ hc => ?_)
 ·refine aB (enters_of Tryz.func35 rfl rfl) rfl rfl (WU v l _ hv1) ?_; intro w2 x2; refine aA ?_
  refine_lift aS ?_
  go_ret
  exact ⟨by rw [decide_eq_true hc]; rfl, x1.trans x2⟩
 ·go_ret
  exact ⟨by rw [decide_eq_false hc]; rfl, x1⟩
set_option maxHeartbeats 500000 in
theorem OU (o o' : List UInt8) (u v : Value) (a b : List RSet) (w : World) (hu : SetsAt w u a) (hv : SetsAt w v b) : Calls Tryz.prog 23 #[.agg #[aI o, u], .agg #[aI o', v]] w (bG w (.bool (decide (o = o') && decide (a = b)))) := by
 go_enter Tryz.func23, Tryz.ntmps23
 refine_lift hY fun _ _ => ?_
 refine aZ (vs := [aI o, u]) rfl rfl ?_
 intro p w1 x1 hp
 refine aA ?_
 refine_lift PK ?_
 refine aZ (vs := [aI o', v]) rfl rfl ?_
 intro q w2 x2 hq
 refine aA ?_
 have hx2 := x1.trans x2
 have hp2 := hp.ext x2
 refine_lift NR (fun hc => ?_) (fun _ _ hc => ?_)
 ·refine aB (enters_of Tryz.func71 rfl rfl) rfl rfl (WT u v a b _ (hu.ext hx2) (hv.ext hx2)) ?_; intro w3 x3; refine aA ?_
  refine_lift aS ?_
  go_ret
  exact ⟨by rw [decide_eq_true hc]; rfl, hx2.trans x3⟩
 ·go_ret
  exact ⟨by rw [decide_eq_false hc]; rfl, hx2⟩
theorem DelA.ext {d : DeltaR} {r : Value} {w w' : World} (h : DelA d r w) (hx : Ext w w') : DelA d r w' := by
 obtain ⟨g, n, e, a, b⟩ := h
 exact ⟨g, n, e, a.ext hx, b.ext hx⟩
abbrev FJ := List UInt8 × Int
structure MsgR where
 id : Int
 resp : Bool
 op : Int
 auth : Bool
 trunc : Bool
 want : Bool
 avail : Bool
 rcode : Int
 qs : List FJ
 an : List Rec
 au : List Rec
 ex : List Rec
 size : Int
 deriving DecidableEq, Inhabited
def dL (l : List FJ) : List (List Value) := l.map fun q => [aI q.1, .int .i64 q.2]
theorem eG (l : List FJ) : (dL l).length = l.length := by simp [dL]
def fX (m : MsgR) (q a u e : Value) : List Value := [.int .i64 m.id, .bool m.resp, .int .i64 m.op, .bool m.auth, .bool m.trunc, .bool m.want, .bool m.avail, .int .i64 m.rcode, q, a, u, e, .int .i64 m.size]
structure MsgV (w : World) (m : MsgR) (q a u e : Value) : Prop where
 qs : Sl 2 w q (dL m.qs)
 an : Sl 4 w a (aD m.an)
 au : Sl 4 w u (aD m.au)
 ex : Sl 4 w e (aD m.ex)
theorem MsgV.ext {w w' : World} {m : MsgR} {q a u e : Value} (h : MsgV w m q a u e) (hx : Ext w w') : MsgV w' m q a u e := ⟨h.qs.ext hx, h.an.ext hx, h.au.ext hx, h.ex.ext hx⟩
theorem MsgV.one {w : World} {m : MsgR} {q a u e : Value} (h : MsgV w m q a u e) : ∀ x ∈ fX m q a u e, x.oneCell' = true := by
 intro x hx
 simp only [fX, List.mem_cons, List.not_mem_nil, or_false] at hx
 rcases hx with rfl | rfl | rfl | rfl | rfl | rfl | rfl | rfl | rfl | rfl | rfl | rfl | rfl
 all_goals first | rfl | exact h.qs.one | exact h.an.one | exact h.au.one | exact h.ex.one
def TH : MsgR := ⟨0, false, 0, false, false, false, false, 0, [], [], [], [], 0⟩
theorem MsgV.zero (w : World) : MsgV w TH (.slice none 0 0) (.slice none 0 0) (.slice none 0 0) (.slice none 0 0) := ⟨Sl.nil _ _, Sl.nil _ _, Sl.nil _ _, Sl.nil _ _⟩
def KL (q : FJ) : Bool := decide (dT q.1 = 0) && (decide (1 ≤ q.2) && decide (q.2 ≤ 65535)) && !decide (q.2 = 41)
def jL (l : List Rec) : Bool := decide (l.length ≤ 200) && !(l.any fun r => !decide (aW r = 0))
def iQ (n least most : Int) : Bool := decide (least ≤ n) && decide (n ≤ most)
def fA (m : MsgR) : Int :=
 if iQ m.id 0 65535 && iQ m.op 0 15 && iQ m.rcode 0 15 && (decide (m.size = 0) || iQ m.size 512 65535) && (decide (m.qs.length ≤ 10) && m.qs.all KL) && (jL m.an && jL m.au && jL m.ex) then 0 else 1
end Go.Proofs.X
