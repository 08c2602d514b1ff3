/- Laws and walks that the proof of the statement is made of (part 11). -/
import Derived.Test.YteofaejlmdplhaaGreatP10
set_option linter.unusedSimpArgs false
set_option linter.unusedVariables false
namespace Go.Proofs.X
open Go.RowKit
set_option maxRecDepth 100000
theorem xU {P : Program} {w : World} {t ty : TypeId} {b n : Nat} {cs vs : List Value} {v : Value} (hb : w.heap[b]? = some (.cells cs.toArray t (0, 0))) (hv : v.cells = vs.toArray) (hn : n + vs.length ≤ cs.length) (hs : aO P ty vs.length = true) (h1 : ∀ u ∈ vs, u.oneCell' = true) :
 ∃ w', (storeVar ty ⟨b, n, none⟩ v).run P w = .ok () w' ∧ Put w w' b (.cells (cs.take n ++ vs ++ cs.drop (n + vs.length)).toArray t (0, 0)) := by
 obtain ⟨i, hq, hsz⟩ := lR (fL hs)
 have hr := cS P b n t (0, 0) vs 0 cs.toArray w hb (.inl (Nat.le_refl _)) (by simpa using hn) h1
 simp only [Nat.add_zero] at hr
 refine ⟨w.setRow b (cs.take n ++ vs ++ cs.drop (n + vs.length)).toArray, ?_, rfl, rfl, rfl, by simp, setRow_heap w b _ _ t _ hb, fun k hk => setRow_other w b k _ hk, rfl⟩
 simp [storeVar, sizeOf, typeInfo, hq, hsz, hv, hr]
section
variable {P : Program} {ops : Array Oper} {Q : Exit → Act → World → Prop} {w : World} {rest : List Oper} {ts : List Value} {df : List Deferred} {d : Option Nat} {ty : TypeId} {ps : String} {af : Array Edge} {g : Option (Nat × Bool)}
theorem qB {t ty : TypeId} {x y : Operand} {b n : Nat} {cs vs : List Value} {v : Value} {ty2 : TypeId} (hb : w.heap[b]? = some (.cells cs.toArray t (0, 0))) (hw : Region.wanted (Oper.mk none (.store ty x y) ty2 ps af g) (yielded ops ts.toArray) = true)
 (hx : (Act.mk ts.toArray df).eval x = bG (.pointer (some ⟨b, 0, none⟩)) n) (hy : (Act.mk ts.toArray df).eval y = v) (hv : v.cells = vs.toArray) (hn : n + vs.length ≤ cs.length) (hs : aO P ty vs.length = true) (h1 : ∀ u ∈ vs, u.oneCell' = true)
 (h : ∀ w', Put w w' b (.cells (cs.take n ++ vs ++ cs.drop (n + vs.length)).toArray t (0, 0)) → wpList P ops Q rest (Act.mk ts.toArray df) w') : wpList P ops Q (Oper.mk none (.store ty x y) ty2 ps af g :: rest) (Act.mk ts.toArray df) w := by
 obtain ⟨w', hr, hp⟩ := xU (P := P) hb hv hn hs h1
 refine fM hw (w' := w') ?_ (h w' hp)
 have e : bG (.pointer (some ⟨b, 0, none⟩)) n = .pointer (some ⟨b, n, none⟩) := by simp [bG, cJ]
 simp [execOp, hx, hy, e, Instr.storeAt, Instr.sureAddr, hr]
theorem Runs.maxI {t u : TypeId} {x y : Operand} {m n : Int} (hx : (Act.mk ts.toArray df).eval x = .int .i64 m) (hy : (Act.mk ts.toArray df).eval y = .int .i64 n) :
 Runs P (Oper.mk d (.call ⟨.builtin .max, #[x, y], #[t, u]⟩) ty ps af g) (Act.mk ts.toArray df) w (.int .i64 (max m n)) := by
 constructor
 have e : (if n > m then n else m) = max m n := by rw [Int.max_def]; split <;> split <;> omega
 simp [execOp, resolve, invoke, builtin, hx, hy, run_max_int2, e]
end
theorem nO {o : List UInt8} {l : List RSet} (h : ZoneOk o l) : l.length ≤ 200 ∧ (∀ s ∈ l, s.data.length ≤ 20) ∧ (∀ s ∈ l, ∀ d ∈ s.data, d.length ≤ 4000) ∧ (aL l).length ≤ 4000 := by
 have h1 : l.length ≤ 200 := by
  have := h.chk
  unfold dJ at this
  split at this
  ·cases this
  ·omega
 have h2 : ∀ s ∈ l, s.data.length ≤ 20 := fun s hs => by
  have hm := h.may hs
  simp only [fH, Bool.and_eq_true, decide_eq_true_eq] at hm
  exact hm.1.2
 refine ⟨h1, h2, fun s hs d hd => ?_, ?_⟩
 ·obtain ⟨i, hi, rfl⟩ := List.mem_iff_getElem.1 hd
  exact (sZ (KK (h.may hs) hi)).1
 ·have : ∀ {L : List RSet}, (∀ s ∈ L, s.data.length ≤ 20) → (aL L).length ≤ 20 * L.length := by
   intro L
   induction L with
   | nil => intro _; simp [aL]
   | cons s L ih =>
    intro hL
    have e : aL (s :: L) = dY s ++ aL L := by simp [aL]
    have i1 := ih fun t ht => hL t (by simp [ht])
    have i2 := hL s (by simp)
    rw [e, List.length_append, dY, List.length_map, List.length_cons]
    omega
  have := this h2
  omega
def gS (o : List UInt8) (l : List RSet) (o' : List UInt8) (l' : List RSet) : Int :=
 if aQ o' l' ≠ 0 then aQ o' l' else if o' ≠ o then 1 else if dQ (bD o' l').serial (bD o l).serial = false then 7 else 0
def mX (room : Int) (ds : List DeltaR) : List DeltaR := ds.drop (ds.length - room.toNat)
def KeptJ (b : Nat) (w w' : World) : Prop := ∀ c o, w.heap[c]? = some o → c ≠ b → (∀ cs fz, o ≠ .cells cs 90 fz) → w'.heap[c]? = some o
theorem OG {α β γ : Type} {F : α → β → γ → World → Prop} {G : α → β → γ → World → Prop} {goal : Prop} (h1 : (∀ x y z w', F x y z w' → G x y z w') → goal) (h2 : ∀ x y z w', F x y z w' → G x y z w') : goal := h1 h2
theorem KeptJ.of {b : Nat} {w w' : World} (h : Ext w w') : KeptJ b w w' := fun c o hc _ _ => h.at hc
theorem KeptJ.trans {b : Nat} {w w' w'' : World} (h : KeptJ b w w') (k : KeptJ b w' w'') : KeptJ b w w'' := fun c o hc hn ht => k c o (h c o hc hn ht) hn ht
theorem KeptJ.mv {b B : Nat} {w w' : World} {v : Value} {es : List (List Value)} (ho : OwnOff B 4 90 w v es) (hm : Mv v.ownBlock w w') : KeptJ b w w' := fun c o hc _ ht => by
 refine hm.at hc fun e => ?_
 obtain ⟨_, _, cur, fz, h⟩ := ho.type e.symm
 rw [hc] at h
 exact ht _ _ (Option.some.inj h)
theorem KeptJ.put {b : Nat} {w w' : World} {o : Obj} (hp : Put w w' b o) : KeptJ b w w' := fun c o hc hn _ => hp.mv.at hc (fun e => hn (Option.some.inj e))
theorem SetsV.mvO {B B' k' e' : Nat} {w w' : World} {v x : Value} {l : List RSet} {es : List (List Value)} (h : SetsV B w v l) (ho : OwnOff B' k' e' w x es) (h1 : e' ≠ 9) (h2 : e' ≠ 119) (hm : Mv x.ownBlock w w') : SetsV B w' v l := by
 obtain ⟨css, a, b⟩ := h
 exact ⟨css, a.mv hm (ho.neOwn a h2), b.len, fun i s hi => let ⟨y, c, d⟩ := b.at' i s hi; ⟨y, c, d.mv hm (ho.neOwn d h1)⟩⟩
theorem DelsV.add {B : Nat} {w w' : World} {v v' g n : Value} {ds : List DeltaR} {D : DeltaR} {css : List (List Value)} (h1 : OwnOff B 4 90 w v css) (h2 : css.length = ds.length)
 (h3 : ∀ (i : Nat) (d : DeltaR), ds[i]? = some d → ∃ g n, css[i]? = some [.int .i64 d.fr, .int .i64 d.to, g, n] ∧ Own B 4 47 w g (aC d.gone) ∧ Own B 4 47 w n (aC d.new)) (hm : Mv v.ownBlock w w')
 (o : OwnOff B 4 90 w' v' (css ++ [[.int .i64 D.fr, .int .i64 D.to, g, n]])) (hg : Own B 4 47 w g (aC D.gone)) (hn : Own B 4 47 w n (aC D.new)) : DelsV B w' v' (ds ++ [D]) := by
 refine ⟨_, o, by simp [h2], fun i d hi => ?_⟩
 rw [List.getElem?_append] at hi ⊢
 rw [h2]
 split at hi
 ·rw [if_pos ‹_›]
  obtain ⟨x, y, a, b, c⟩ := h3 i d hi
  exact ⟨x, y, a, b.mv hm (h1.neOwn b (by decide)), c.mv hm (h1.neOwn c (by decide))⟩
 ·rw [if_neg ‹_›]
  have hi0 : i - ds.length = 0 := by
   have := (List.getElem?_eq_some_iff.1 hi).1
   simpa using this
  rw [hi0] at hi ⊢
  cases hi
  exact ⟨g, n, rfl, hg.mv hm (h1.neOwn hg (by decide)), hn.mv hm (h1.neOwn hn (by decide))⟩
theorem DelsV.drop {B : Nat} {w : World} {v : Value} {ds : List DeltaR} (h : DelsV B w v ds) {m : Nat} (hm : m ≤ ds.length) : DelsV B w (cW v 4 m ds.length) (ds.drop m) := by
 obtain ⟨css, h1, h2, h3⟩ := h
 rw [← h2] at hm ⊢
 refine ⟨_, h1.drop hm, by simp [h2], fun i d hi => ?_⟩
 rw [List.getElem?_drop] at hi ⊢
 exact h3 _ d hi
set_option maxHeartbeats 8000000 in
theorem KV {w0 w : World} {b : Nat} {o : List UInt8} {l : List RSet} {room : Int} {ds : List DeltaR} (h : JAt w0 w b o l room ds) (hz : ZoneOk o l) (hr : 0 ≤ room ∧ room ≤ 20) (hds : ds.length ≤ 20)
 (o' : List UInt8) (v' : Value) (l' : List RSet) (hv0 : SetsAt w0 v' l') (hb' : ∀ s ∈ l', s.data.length ≤ 1000000) (hd' : ∀ s ∈ l', ∀ d ∈ s.data, d.length ≤ 4611686018427387904) :
 Calls Tryz.prog 16 #[.pointer (some ⟨b, 0, none⟩), .agg #[aH o', v']] w fun e w' => e = .returned (.int .i64 (gS o l o' l')) ∧ KeptJ b w w' ∧
  (gS o l o' l' ≠ 0 → JAt w0 w' b o l room ds) ∧ (gS o l o' l' = 0 → JAt w0 w' b o l' room (mX room (ds ++ [qZ o l o l']))) := by
 obtain ⟨zl, zb, zd, zr⟩ := nO hz
 have hE0 := h.ext
 have hv' := hv0.ext hE0
 obtain ⟨v, dv, hbk, hs, hdl⟩ := h.out
 go_enter Tryz.func16, Tryz.ntmps16
 refine_lift rF ?_; intro _ _ _
 refine dL (vs := [aH o', v']) rfl rfl ?_
 intro w1 x1 sz1 hcz
 have hpz := aE (cs := [aH o', v']) hcz
 refine aA ?_
 have hbk1 := x1.at hbk
 obtain ⟨hp, hp0⟩ := nN hbk1
 have hv1 := hv'.ext x1
 refine_lift gO fun _ _ _ _ => ?_
 refine aN (Runs.isNil rfl rfl (by kernel_rfl)) ?_
 refine aA ?_
 refine_lift kT fun _ _ _ => ?_
 refine aB (enters_of Tryz.func31 rfl rfl) rfl rfl (qV o' v' l' _ hv1 hb' hd') ?_; intro w2 x2; refine aA ?_
 have hx2 := x1.trans x2
 refine_lift aP ?_
 refine aF (z := aX) rfl (by decide +kernel) ?_
 intro w3 x3 s3 h3
 refine aA ?_
 refine aD (v := .agg (bD o' l').cells.toArray) rfl rfl rfl h3 (show aO Tryz.prog 67 7 = true by decide +kernel) rfl (dS _) ?_
 intro w4 p4
 have x4 : Ext w2 w4 := x3.move p4.mv (by rintro k ⟨⟩; exact Nat.le_refl _)
 have hs4 := aE (cs := (bD o' l').cells) p4.this
 have hx4 := hx2.trans x4
 have hpz4 := hpz.ext (x2.trans x4)
 have hbk4 := (x2.trans x4).at hbk1
 have hJ4 := h.grow hx4
 have hv4 := hv1.ext (x2.trans x4)
 clear p4 h3 x3 hp hp0
 obtain ⟨hp, hp0⟩ := nN hbk4
 by_cases q1 : aQ o' l' = 0
 ·have q1' : ¬ aQ o' l' ≠ 0 := by simp [q1]
  have hz' := eW q1
  rw [q1]
  refine_lift gO fun _ _ _ _ => ?_
  refine bE (by decide +kernel) (by decide +kernel) ?_
  refine_lift dN ?_
  intro w5 x5
  have hx5 := hx4.trans x5
  have hJ5 := hJ4.grow x5
  have hs5 := hs4.ext x5
  have hpz5 := hpz4.ext x5
  have hbk5 := x5.at hbk4
  have hv5 := hv4.ext x5
  clear hp hp0 hs4 hpz4
  obtain ⟨hp, hp0⟩ := nN hbk5
  by_cases q2 : o' = o
  ·subst q2
   rw [decide_eq_true rfl]
   simp only [Bool.not_true]
   refine_lift bS fun _ _ => ?_
   refine bE (by decide +kernel) (by decide +kernel) ?_
   refine_lift dN ?_
   refine bY (enters_of Tryz.func32 rfl rfl) rfl rfl (fun w' x' => DK (hJ5.grow x') (fun s hs => by have := zb s hs; omega) (fun s hs d hd => by have := zd s hs d hd; omega)) ?_
   refine aA ?_
   refine_lift dN ?_
   refine bY (enters_of Tryz.func45 rfl rfl) rfl rfl (fun w' _ => GL _ _ w') ?_
   refine aA ?_
   refine_lift dN ?_
   intro w6 x6
   have hx6 := hx5.trans x6
   have hJ6 := hJ5.grow x6
   cases hlt : dQ (bD o' l').serial (bD o' l).serial with
   | false =>
    have hE : gS o' l o' l' = 7 := by rw [gS, if_neg q1', if_neg (by simp), if_pos hlt]
    simp only [Bool.not_false]
    refine_lift aP ?_
    go_ret
    exact ⟨by rw [hE]; rfl, KeptJ.of hx6, fun _ => hJ6, fun h0 => by rw [hE] at h0; cases h0⟩
   | true =>
    have hE : gS o' l o' l' = 0 := by rw [gS, if_neg q1', if_neg (by simp), if_neg (by simp [hlt])]
    simp only [Bool.not_true]
    have hpz6 := hpz5.ext x6
    have hv6 := hv5.ext x6
    have hdl6 := (hdl.ext hx5).ext x6
    have hs6 := (hs.ext hx5).ext x6
    have hbk6 := x6.at hbk5
    clear hp hp0 hs5 hpz5 hJ5 hJ4 hv5 hv4
    obtain ⟨hp, hp0⟩ := nN hbk6
    obtain ⟨zl', zb', zd', zr'⟩ := nO hz'
    have cM : ∀ w', Ext w6 w' → Calls Tryz.prog 46 #[.agg #[aH o', v], .agg #[aH o', v']] w' (jK w' fun r w'' => ∃ g n, r = .tuple #[.agg #[.int .i64 (qZ o' l o' l').fr, .int .i64 (qZ o' l o' l').to, g, n], .int .i64 (rG o' l o' l')] ∧ Own 0 4 47 w'' g (aC (qZ o' l o' l').gone) ∧ Own 0 4 47 w'' n (aC (qZ o' l o' l').new) ∧ Own w'.heap.size 4 47 w'' g (aC (qZ o' l o' l').gone) ∧ Own w'.heap.size 4 47 w'' n (aC (qZ o' l o' l').new)) := fun w' hx' => by
     refine (PJ o' v l o' v' l' w' (hs6.ext hx').sets (hv6.ext hx') (fun s hs => by have := zb s hs; omega) (fun s hs d hd => by have := zd s hs d hd; omega) hb' hd' (by omega) (by omega)).mono ?_
     rintro e w'' ⟨r, rfl, hxx, y, rfl, g, n, rfl, og, on⟩
     exact ⟨_, rfl, hxx, g, n, rfl, og.weaken (Nat.zero_le _), on.weaken (Nat.zero_le _), og, on⟩
    generalize hDq : qZ o' l o' l' = D at *
    generalize rG o' l o' l' = E at *
    refine_lift bS fun _ _ => ?_
    refine cE (S := fun w' => Ext w6 w') (by decide +kernel) ?_
    intro w21 x21 hh21
    refine tk 0 ?_; refine aA ?_; refine tk 1 ?_; refine aA ?_; refine tk 2 ?_; refine aA ?_; refine tk 3 ?_; refine aA ?_; refine tk 4 ?_; refine aA ?_
    have hsz6 := hx6.size
    have hsz0 := hE0.size
    apply OG (F := fun (g n : Value) (k : Nat) w' => Ext w6 w' ∧ w6.heap.size ≤ k ∧ w'.heap[k]? = some (.cells [.int .i64 D.fr, .int .i64 D.to, g, n].toArray 90 (0, 0)) ∧ Own w0.heap.size 4 47 w' g (aC D.gone) ∧ Own w0.heap.size 4 47 w' n (aC D.new))
    ·intro hG
     refine kK (i := 5) (j := 9) (by decide +kernel) rfl rfl rfl ?_ ?_
     ·refine aI (enters_of Tryz.func46 rfl rfl) rfl rfl (cM _ x21) ?_
      rintro _ wC xC ⟨g, n, rfl, -, -, og, on⟩
      refine aA ?_
      have x1 := x21.trans xC
      have hsC := x21.size
      refine aK ⟨x1, ?_⟩
      refine tk 6 ?_; refine aA ?_; refine tk 7 ?_; refine aA ?_; refine tk 8 ?_; refine aA ?_
      refine aY (i := 9) (by decide +kernel) rfl rfl ?_
      refine aF (z := hY) rfl (by decide +kernel) ?_
      intro wE xE sE hE
      have hsE := x1.size
      refine aA ?_
      have x3 := x1.trans xE
      refine aK ⟨x3, ?_⟩
      refine aY (i := 10) (by decide +kernel) rfl rfl ?_
      refine aD (v := .agg #[.int .i64 D.fr, .int .i64 D.to, g, n]) rfl rfl rfl hE (show aO Tryz.prog 90 4 = true by decide +kernel) rfl (fU rfl rfl og.sl.one on.sl.one) ?_
      intro wF pF
      have xF : Ext wC wF := xE.move pF.mv (by rintro k ⟨⟩; exact Nat.le_refl _)
      have hF := pF.this
      refine aK ⟨x1.trans xF, ?_⟩
      refine tk 11 ?_; refine aA ?_
      have x4 := x1.trans xF
      clear pF hE xE sE
      generalize wC.heap.size = k at *
      exact hG g n k _ ⟨x4, hsE, hF, (og.ext xF).weaken (by omega), (on.ext xF).weaken (by omega)⟩
     ·refine aF (z := hY) rfl (by decide +kernel) ?_
      intro wD xD sD hD
      have hsD := x21.size
      refine aA ?_
      have x2 := x21.trans xD
      refine aK ⟨x2, ?_⟩
      refine aY (i := 5) (by decide +kernel) rfl rfl ?_
      refine aI (enters_of Tryz.func46 rfl rfl) rfl rfl (cM _ x2) ?_
      rintro _ wE xE ⟨g, n, rfl, -, -, og, on⟩
      refine aA ?_
      have hsE := x2.size
      have x3 := x2.trans xE
      refine aK ⟨x3, ?_⟩
      refine tk 6 ?_; refine aA ?_; refine tk 7 ?_; refine aA ?_; refine tk 8 ?_; refine aA ?_
      have hE := xE.at hD
      refine aY (i := 10) (by decide +kernel) rfl rfl ?_
      refine aD (v := .agg #[.int .i64 D.fr, .int .i64 D.to, g, n]) rfl rfl rfl hE (show aO Tryz.prog 90 4 = true by decide +kernel) rfl (fU rfl rfl og.sl.one on.sl.one) ?_
      intro wF pF
      have xF : Ext w6 wF := x3.move pF.mv (by rintro k ⟨⟩; exact hsD)
      have hF := pF.this
      refine aK ⟨xF, ?_⟩
      refine tk 11 ?_; refine aA ?_
      have hfin1 := (og.mv pF.mv (.inr (og.neBlock hE (by decide)))).weaken (show w0.heap.size ≤ _ by omega)
      have hfin2 := (on.mv pF.mv (.inr (on.neBlock hE (by decide)))).weaken (show w0.heap.size ≤ _ by omega)
      clear pF hE hD sD
      generalize w21.heap.size = k at *
      exact hG g n k _ ⟨xF, hsD, hF, hfin1, hfin2⟩
    ·clear hh21
     rintro g n k w7 ⟨x7, hk7, hk, og, on⟩
     refine cL (by decide +kernel) ?_
     refine_lift bS fun _ _ => ?_
     have hx7 := hx6.trans x7
     have hcz7 := ((((x2.trans x4).trans x5).trans x6).trans x7).at hcz
     have hbk7 := x7.at hbk6
     have hs7 := hs6.ext x7
     have hE7 : Ext w0 w7 := hE0.trans hx7
     obtain ⟨css, hdo, hdlen, hdat⟩ := (hdl6.ext x7).out
     have hnb : dv.ownBlock ≠ some b := hdo.neBlock hbk7 (by decide)
     have hnz : dv.ownBlock ≠ some w.heap.size := hdo.neBlock hcz7 (by decide)
     have hnk : ∀ r, dv.ownBlock = some r → w0.heap.size ≤ r := fun r hr => (hdo.type hr).1
     have hkb : k ≠ b := by rintro rfl; rw [hk] at hbk7; simp at hbk7
     have hkz : k ≠ w.heap.size := by rintro rfl; rw [hk] at hcz7; simp at hcz7
     obtain ⟨hq, hq0⟩ := nN hbk7
     have hq3 : Pts w7 (bG (.pointer (some ⟨b, 0, none⟩)) 3) [dv] := hq.part 3
     have hkp := aE hk
     have hg1 := og.sl.one
     have hn1 := on.sl.one
     have h41 : ∀ f ∈ [[Value.int .i64 D.fr, .int .i64 D.to, g, n]], ∀ u ∈ f, u.oneCell' = true := by
      intro f hf u hu
      simp only [List.mem_singleton] at hf
      subst hf
      simp at hu
      rcases hu with rfl | rfl | rfl | rfl
      ·rfl
      ·rfl
      ·exact hg1
      ·exact hn1
     refine bT 7 (Ext w7) (by decide +kernel) ?_
     intro w8 x8 _
     refine ⟨x8, ?_⟩
     refine iB 0 ?_
     refine dR 1 ?_; refine dR 2 ?_
     refine dA (i := 3) rfl rfl rfl (by decide +kernel) (by decide +kernel) (by decide +kernel) rfl (fun _ => Runs.fieldJ (off := 3) rfl (by decide +kernel)) (fun _ _ _ h => h) ?_; refine aA ?_
     refine dR 4 ?_; refine dR 5 ?_
     refine bL (i := 6) (by decide +kernel) rfl rfl ?_
     refine bR (e := 90) (k := 4) (bytes := 64) (xs := [.agg #[.int .i64 D.fr, .int .i64 D.to, g, n]]) rfl rfl rfl (by simp [Value.cells]) (by decide +kernel) (by simp) ?_
     intro vB wB xB szB slB owB
     refine aA ?_
     have x7B := x8.trans xB
     refine aK ⟨cQ x7B, ?_⟩
     refine bL (i := 7) (by decide +kernel) rfl rfl ?_
     refine kV (e := 90) (k := 4) rfl (hdo.ext x7B) rfl slB (by simp) h41 (hE7.trans x7B).size (by rw [hdlen]; simp; omega) ?_
     intro a9 w9 o9 m9 _
     refine aA ?_
     have hs9 : SetsV w0.heap.size w9 v l := (hs7.ext x7B).mvO (hdo.ext x7B) (by decide) (by decide) m9
     have hE9 : Ext w0 w9 := (hE7.trans x7B).move m9 hnk
     have hbk9 := m9.at (x7B.at hbk7) (fun e => hnb e.symm)
     have hcz9 := m9.at (x7B.at hcz7) (fun e => hnz e.symm)
     have hK9 : KeptJ b w w9 := (KeptJ.of (hx7.trans x7B)).trans (KeptJ.mv (hdo.ext x7B) m9)
     have hD9 : DelsV w0.heap.size w9 a9 (ds ++ [D]) := DelsV.add (hdo.ext x7B) hdlen (fun i d hi => let ⟨x, y, a, b, c⟩ := hdat i d hi; ⟨x, y, a, b.ext x7B, c.ext x7B⟩) m9 o9 (og.ext x7B) (on.ext x7B)
     refine aK ⟨bV rfl, ?_⟩
     refine iB 8 ?_
     refine dA (i := 9) rfl rfl rfl (by decide +kernel) (by decide +kernel) (by decide +kernel) rfl (fun _ => Runs.fieldJ (off := 3) rfl (by decide +kernel)) (fun _ _ _ h => h) ?_; refine aA ?_
     refine bL (i := 10) (by decide +kernel) rfl rfl ?_
     refine cT (n := 3) hbk9 rfl rfl rfl (by simp [jC]) (by decide +kernel) o9.sl.one ?_
     intro w10 p10
     refine aK ⟨bV rfl, ?_⟩
     refine cN (by decide +kernel) ?_
     have hbk10 : w10.heap[b]? = some (.cells (jC o' v room a9).toArray 84 (0, 0)) := p10.this
     have hK10 := hK9.trans (KeptJ.put p10)
     have hE10 : Ext w0 w10 := hE9.move p10.mv (by rintro k ⟨⟩; exact h.ge)
     have hD10 := hD9.put hbk9 (by decide) (by decide) p10
     have hs10 := hs9.put hbk9 (by decide) (by decide) p10
     have hcz10 := p10.mv.at hcz9 (by intro e; have := Option.some.inj e; subst this; rw [hcz9] at hbk9; simp at hbk9)
     clear p10 m9 o9 hq hq0 hq3 hkp hdo hdat hp hp0
     have hlen : (ds ++ [D]).length ≤ 21 := by simp; omega
     generalize hes : ds ++ [D] = es at *
     obtain ⟨hp, hp0⟩ := nN hbk10
     obtain ⟨ces, hsl, hcl⟩ := hD10.len
     have hp3 : Pts w10 (bG (.pointer (some ⟨b, 0, none⟩)) 3) [a9] := hp.part 3
     have hp2 : Pts w10 (bG (.pointer (some ⟨b, 0, none⟩)) 2) [.int .i64 room] := (hp.part 2).front 1
     refine_lift bS fun _ _ => ?_
     refine bT 19 (Ext w10) (by decide +kernel) ?_
     intro w11 x11 _
     refine ⟨x11, ?_⟩
     refine dR 0 ?_; refine dR 1 ?_; refine dR 2 ?_
     refine dA (i := 3) rfl rfl rfl (by decide +kernel) (by decide +kernel) (by decide +kernel) rfl (fun _ => Runs.fieldJ (off := 3) rfl (by decide +kernel)) (fun _ _ _ h => h) ?_; refine aA ?_
     refine dR 4 ?_; refine dR 5 ?_; refine dR 6 ?_
     refine dA (i := 7) rfl rfl rfl (by decide +kernel) (by decide +kernel) (by decide +kernel) rfl (fun _ => Runs.fieldJ (off := 3) rfl (by decide +kernel)) (fun _ _ _ h => h) ?_; refine aA ?_
     refine dR 8 ?_
     refine dR 9 ?_; refine dR 10 ?_; refine dR 11 ?_
     refine dA (i := 12) rfl rfl rfl (by decide +kernel) (by decide +kernel) (by decide +kernel) rfl (fun _ => Runs.fieldJ (off := 2) rfl (by decide +kernel)) (fun _ _ _ h => h) ?_; refine aA ?_
     refine dR 13 ?_; refine dR 14 ?_
     refine dA (i := 15) (v := .int .i64 (max ((es.length : Int) - room) 0)) rfl rfl rfl (by decide +kernel) (by decide +kernel) (by decide +kernel) rfl (fun _ => by rw [← hcl]; exact Runs.maxI rfl rfl) (fun _ _ _ h => h) ?_; refine aA ?_
     refine bK (i := 16) (v := cW a9 4 (es.length - room.toNat) es.length) rfl rfl (by decide +kernel) (by decide +kernel) (by decide +kernel) (by decide +kernel) (by decide +kernel) rfl (fun w' hF => by
      have e : es.length - room.toNat = (max ((es.length : Int) - room) 0).toNat := by omega
      rw [e, ← hcl]
      exact Runs.dropTI rfl (hsl.ext hF) (by omega) (by omega) (by decide +kernel)) (fun _ _ _ h => h) ?_
     refine aA ?_
     refine dR 17 ?_
     refine dA (i := 18) rfl rfl rfl (by decide +kernel) (by decide +kernel) (by decide +kernel) rfl (fun _ => Runs.fieldJ (off := 3) rfl (by decide +kernel)) (fun _ _ _ h => h) ?_; refine aA ?_
     refine bL (i := 19) (by decide +kernel) rfl rfl ?_
     have hD11 := (hD10.ext x11).drop (m := es.length - room.toNat) (by omega)
     have hbk11 := x11.at hbk10
     obtain ⟨_, h1s, _⟩ := hD11.len
     refine cT (n := 3) hbk11 rfl rfl rfl (by simp [jC]) (by decide +kernel) h1s.one ?_
     intro w12 p12
     refine aK ⟨bV rfl, ?_⟩
     refine cN (by decide +kernel) ?_
     have hbk12 : w12.heap[b]? = some (.cells (jC o' v room (cW a9 4 (es.length - room.toNat) es.length)).toArray 84 (0, 0)) := p12.this
     have hK12 := (hK10.trans (KeptJ.of x11)).trans (KeptJ.put p12)
     have hE12 : Ext w0 w12 := (hE10.trans x11).move p12.mv (by rintro k ⟨⟩; exact h.ge)
     have hD12 := hD11.put hbk11 (by decide) (by decide) p12
     have hcz11 := x11.at hcz10
     have hcz12 := p12.mv.at hcz11 (by intro e; have := Option.some.inj e; subst this; rw [hcz11] at hbk11; simp at hbk11)
     clear p12 hp hp0 hp2 hp3 hD11 h1s hsl
     have hpz12 := aE (cs := [aH o', v']) hcz12
     have hv12 := hv0.ext hE12
     obtain ⟨hp, hp0⟩ := nN hbk12
     refine_lift bS fun _ _ => ?_
     refine aI (enters_of Tryz.func44 rfl rfl) rfl rfl (vT o' v' l' _ hv12 (by omega) hb') ?_
     rintro r w13 x13 ⟨y, rfl, hy⟩
     have hbk13 := x13.at hbk12
     have hy1 : y.oneCell' = true := by obtain ⟨_, _, _, rfl⟩ := hy.slf; rfl
     have hD13 := hD12.ext x13
     have hyw := hy.weaken hE12.size
     refine aA ?_
     refine_lift aP ?_
     refine qB (n := 0) (vs := [aH o', y]) hbk13 rfl rfl rfl rfl (by simp [jC]) (show aO Tryz.prog 25 2 = true by decide +kernel) (by intro u hu; simp at hu; rcases hu with rfl | rfl <;> first | rfl | assumption) ?_
     intro w14 p14
     refine_lift aP ?_
     go_ret
     refine ⟨by rw [hE]; rfl, ((hK12.trans (KeptJ.of x13)).trans (KeptJ.put p14)), fun h0 => absurd hE h0, fun _ => ⟨h.ge, (hE12.trans x13).move p14.mv (by rintro k ⟨⟩; exact h.ge), y, _, p14.this, hyw.put hbk13 (by decide) (by decide) p14, by rw [hDq, hes]; exact hD13.put hbk13 (by decide) (by decide) p14⟩⟩
  ·rw [decide_eq_false q2]
   have hE : gS o l o' l' = 1 := by rw [gS, if_neg q1', if_pos q2]
   refine_lift fG fun _ => ?_
   go_ret
   exact ⟨by rw [hE]; rfl, KeptJ.of hx5, fun _ => hJ5, fun h0 => by rw [hE] at h0; cases h0⟩
 ·have hE : gS o l o' l' = aQ o' l' := by rw [gS, if_pos q1]
  refine_lift QO (fun _ _ _ _ _ => ?_) (fun _ => ?_)
  all_goals first
   | (exfalso
      have hh := ‹(!decide (aQ o' l' = 0)) = false›
      simp [q1] at hh
      done)
   | (go_ret
      exact ⟨by rw [hE]; rfl, KeptJ.of hx4, fun _ => hJ4, fun h0 => by rw [hE] at h0; exact absurd h0 q1⟩)
theorem PL (v : Value) (hv : v.cells = #[v]) (w : World) : Calls Tryz.prog 101 #[v] w fun e w' => e = .returned (.func (.func 159) #[] #[.pointer (some ⟨w.heap.size, 0, none⟩)]) ∧ Ext w w' ∧ w'.heap.size = w.heap.size + 1 ∧ w'.heap[w.heap.size]? = some (.cells #[v] 82 (0, 0)) := by
 go_enter Tryz.func101, Tryz.ntmps101
 refine_lift rF ?_; intro _ _ _
 refine dL (vs := [v]) rfl hv ?_
 intro w1 x1 s1 h1
 refine aA ?_
 refine_lift aP ?_
 go_ret
 exact ⟨rfl, x1, s1, h1⟩
def GM (n : Nat) (i : Value) : Nat := (intOf i + 1).toNat
theorem RJ (l b : Nat) (lp : Loop) (J : Nat → World → Prop) (Jx : World → Prop) (hp : lp.params.size = 2) (w : World) (hE : ∀ k W, J k W → Ext w W) (hL : ∀ k W, J k W → W.heap[l]? = some (.loop lp))
 (v : Value) (css : List (List Value)) (hb : w.heap[b]? = some (.cells #[v] 82 (0, 0))) (hv : Sl 4 w v css) (hl : css.length ≤ 1000000) (hsh : ∀ c ∈ css, ∃ x y g n, c = [x, y, g, n])
 (hy : ∀ k c W, css[k]? = some c → J (k + 1) W → RoundIn Fence.wide 0 Tryz.prog l lp.fn ((lp.params.zip #[.int .i64 k, .agg c.toArray]).foldl (fun tmps (t, a) => tmps.setIfInBounds t a) lp.tmps) lp.assign lp.body W
  fun e W' => (e = .returned (.bool true) ∧ J k W') ∨ (e = .returned (.bool false) ∧ Jx W')) (W : World) (h0 : J css.length W) :
 Calls Tryz.prog 159 #[.func (.yield l) #[] #[], .pointer (some ⟨b, 0, none⟩)] W fun e w' => e = .returned (.tuple #[]) ∧ (J 0 w' ∨ Jx w') := by
 have hb0 := hb
 have x0 := hE _ _ h0
 have hbW := aE (cs := [v]) (x0.at hb)
 have hvW := hv.ext x0
 go_enter Tryz.func159, Tryz.ntmps159
 refine_lift fG ?_; intro _
 go_loopw [3] (fun i wr => ∃ k : Nat, k ≤ css.length ∧ i = .int .i64 ((k : Int) - 1) ∧ J k wr) (fun i _ => GM 0 i)
 case atStart => exact ⟨css.length, Nat.le_refl _, rfl, h0⟩
 case round =>
  obtain ⟨k, hk, rfl, hJ⟩ := hrel
  have xr := hE _ _ hJ
  have hbr := aE (cs := [v]) (xr.at hb)
  have hvr := hv.ext xr
  clear hbW hvW x0 h0
  cases k with
  | zero =>
   refine_lift fG fun _ => ?_
   exact bodyPost_end (results_none rfl _ _ _) rfl ⟨rfl, .inl hJ⟩
  | succ k =>
   have hk1 : ((k + 1 : Nat) : Int) - 1 = (k : Int) := by omega
   simp only [hk1]
   have hc := List.getElem?_eq_getElem (l := css) (i := k) (by omega)
   have hpe := hvr.elem hc
   obtain ⟨x, y, g, n, hcs⟩ := hsh _ (List.getElem_mem (show k < css.length by omega))
   rw [hcs] at hc hpe
   repeat' (first | (refine bX (id := 3) ?_) | (refine bX (id := 4) ?_) | ((with_reducible apply gU); (rfl); exact rn; refine aA ?_) | (with_reducible (apply iQ)) | ((with_reducible refine bJ ?_); (first | (refine fY ?_; refine iI ?_) | (refine iH ?_; first | refine jG ?_ | refine oV ?_ | refine oX ?_ | refine oW ?_ | ((first | refine oP ?_ ?_ | refine oQ ?_ ?_) <;> intro hc)))) | ((fail_if_success (with_reducible refine bJ ?_)); go_step))
   refine lS (lp := lp) (vs := [.int .i64 k, .agg #[x, y, g, n]]) rfl rfl rfl (hL _ _ hJ) (by simp [hp]) (hy k _ _ hc hJ) ?_
   rintro e W' (⟨rfl, hJ'⟩ | ⟨rfl, hx⟩)
   ·refine ⟨_, rfl, ?_⟩
    simp only [List.set_cons_succ, List.set_cons_zero]
    repeat' (first | (refine bX (id := 3) ?_) | (refine bX (id := 4) ?_) | ((with_reducible apply gU); (rfl); exact rn; refine aA ?_) | (with_reducible (apply iQ)) | ((with_reducible refine bJ ?_); (first | (refine fY ?_; refine iI ?_) | (refine iH ?_; first | refine jG ?_ | refine oV ?_ | refine oX ?_ | refine oW ?_ | ((first | refine oP ?_ ?_ | refine oQ ?_ ?_) <;> intro hc)))) | ((fail_if_success (with_reducible refine bJ ?_)); go_step))
    go_roundw
    case rel => exact ⟨k, by omega, by go_num, hJ'⟩
    case measure => simp [GM, intOf]
   ·refine ⟨_, rfl, ?_⟩
    simp only [List.set_cons_succ, List.set_cons_zero]
    repeat' (first | (refine bX (id := 3) ?_) | (refine bX (id := 4) ?_) | ((with_reducible apply gU); (rfl); exact rn; refine aA ?_) | (with_reducible (apply iQ)) | ((with_reducible refine bJ ?_); (first | (refine fY ?_; refine iI ?_) | (refine iH ?_; first | refine jG ?_ | refine oV ?_ | refine oX ?_ | refine oW ?_ | ((first | refine oP ?_ ?_ | refine oQ ?_ ?_) <;> intro hc)))) | ((fail_if_success (with_reducible refine bJ ?_)); go_step))
    refine bodyPost_ret (results_none rfl _ _ _) rfl ⟨rfl, .inr hx⟩
section
variable {P : Program} {n : Nat} {r : Option Nat} {ops : Array Oper} {Q : Exit → Act → World → Prop} {md : Region.Mode}
theorem IB {i : Nat} {a : Act} {w : World} {K K' : Act → World → Prop} (hd : ∀ o, ops[i]? = some o → ∀ c, o.op ≠ .defer c) (hQ : ∀ a w, ¬ Q .outgrown a w) (hK : ∀ a w, K a w → K' a w) (h : wpOp P ops Q i K a w) : wpOpIn (FR r) n P ops Q i K' a w := by
 unfold wpOp at h
 unfold wpOpIn
 cases ho : ops[i]? with
 | none => rw [ho] at h; exact hK _ _ h
 | some o =>
  rw [ho] at h
  simp only at h ⊢
  split
  ·rename_i hw
   rw [if_pos hw] at h
   rcases h with h | ⟨_, a0, w0, h0⟩
   ·refine ⟨fun _ _ => trivial, ?_⟩
    rw [Oper.semAt_eq _ _ _ (hd o ho)]
    exact FY hQ (fun _ _ _ h => h) hK h
   ·exact absurd h0 (hQ _ _)
  ·rename_i hw
   rw [if_neg hw] at h
   exact ⟨fun _ _ => trivial, hK _ _ h⟩
theorem FH (hd : ∀ o ∈ ops.toList, ∀ c, o.op ≠ .defer c) (hQ : ∀ a w, ¬ Q .outgrown a w) : ∀ (fuel : Nat) (listed : Array Bool) (a : Act) (w : World), wpAny P md ops Q fuel listed a w → wpAnyIn (FR r) n P md ops Q fuel listed a w := by
 intro fuel
 induction fuel with
 | zero => intro listed a w h; exact h
 | succ fuel ih =>
  intro listed a w h
  exact ⟨h.1, fun i hi => IB (fun o ho => hd o (by rw [← Array.getElem?_toList] at ho; exact List.mem_of_getElem? ho)) hQ (fun a w => ih _ a w) (h.2 i hi)⟩
end
theorem tC {P : Program} {n : Nat} {r : Option Nat} {Q : Exit → Act → World → Prop} {id : Nat} {l : List Oper} {w : World} {a : Act} (k : Nat) (F : World → Prop) (hd : BS l = true) (hQ : ∀ a w, ¬ Q .outgrown a w) (hm : P.follows .mixedOrders = true)
 (h : ∀ w1, Ext w w1 → w1.heap = w.heap → F w1 ∧ AJ P Q k F l l.length (List.replicate l.length false) a w1) : (Code.region id l.toArray true).wpIn (FR r) n P Q a w := by
 refine wpIn_region_any hm (FH (fun o ho c hc => by have := List.all_eq_true.1 hd o (by simpa using ho); rw [hc] at this; cases this) hQ _ _ _ _ (pS (S := Till k F) _ _ _ _ ?_))
 obtain ⟨h1, h2⟩ := h { w with drawn := w.drawn + 1 } (Ext.drew w) rfl
 have := h2 ⟨by simpa using Closed.start _, fun _ => h1⟩
 simpa using this
theorem KW (v : Value) (css : List (List Value)) (w : World) (hv : Sl 4 w v css) (h1 : ∀ f ∈ css, ∀ u ∈ f, u.oneCell' = true) (hl : css.length ≤ 1000000) : Calls Tryz.prog 102 #[v] w (jK w fun v' w' => Own w.heap.size 4 90 w' v' css) := by
 go_enter Tryz.func102, Tryz.ntmps102
 (repeat' first | ((with_reducible refine cI ?_); go_step) | ((with_reducible refine bJ ?_); first | refine fD ?_ | (refine cZ ?_ ?_ <;> intro hc)) | fail)
 ·have hn := ‹uB v = true›
  go_ret
  have : css = [] := hv.isNil hn
  refine ⟨_, rfl, Ext.refl _, ?_⟩
  rw [this]
  exact Own.nil _ _ _ _
 ·refine jV (t := 82) (e := 90) (k := 4) (bytes := 64) (by decide +kernel) rfl ?_
  intro v2 w2 x2 s2 o2
  refine aA ?_
  refine_lift aP ?_
  refine bW (B := w.heap.size) (e := 90) rfl o2 rfl (hv.ext x2) h1 x2.size (by simp; omega) ?_
  intro v3 w3 o3 m3 _
  have x3 := o2.mvx m3 x2 (Nat.le_refl _)
  refine aA ?_
  refine_lift aP ?_
  go_ret
  exact ⟨_, rfl, x3, by simpa using o3⟩
def iK (ds : List DeltaR) (s : Int) : Nat → Option Nat
 | 0 => none
 | k + 1 => if (ds[k]?.map DeltaR.fr) = some s then some k else iK ds s k
def cU (o : List UInt8) (l : List RSet) (ds : List DeltaR) (s : Int) : List DeltaR × Bool :=
 if s = (bD o l).serial then ([], true) else match iK ds s ds.length with | some i => (ds.drop i, true) | none => ([], false)
section
variable {P : Program} {w w' : World} {ts : List Value} {df : List Deferred} {d : Option Nat} {ty : TypeId} {ps : String} {af : Array Edge} {g : Option (Nat × Bool)}
theorem Runs.idxW {t : TypeId} {m : Nat} {i : Operand} {k n : Nat} {es : List (List Value)} (hi : (Act.mk ts.toArray df).eval i = .int .i64 (n : Nat)) (h : Sl k w' (ts.getD m undef) es) (hn : n < es.length) (ht : dH P t k = true) :
 Runs P (Oper.mk d (.indexAddr t (.tmp m) i) ty ps af g) (Act.mk ts.toArray df) w (bU (ts.getD m undef) (n * k)) := by
 have hx : (Act.mk ts.toArray df).eval (.tmp m) = ts.getD m undef := eM m
 obtain ⟨ad, cap, h1, h2, h3, h4, h5, h6⟩ := h
 obtain ⟨b, o, rfl, hc⟩ := h6 (by rintro rfl; simp at hn)
 obtain ⟨e, ie, ht, hie, hz⟩ := cK ht
 rw [h1] at hx ⊢
 constructor
 simp [execOp, hx, hi, Instr.indexAt, asIntOf, run_underlying ht, sizeOf, typeInfo, hie, hz, bU, hn]
theorem Runs.fieldW {s : TypeId} {m : Nat} {n off : Nat} {vs : List Value} (h : Pts w' (ts.getD m undef) vs) (hf : jH P s n off = true) :
 Runs P (Oper.mk d (.fieldAddr s (.tmp m) n) ty ps af g) (Act.mk ts.toArray df) w (bG (ts.getD m undef) off) := by
 obtain ⟨b, o, h1, hc⟩ := h
 rw [h1]
 exact Runs.fieldJ h1 hf
end
theorem DelsV.below {B b : Nat} {w w' : World} {v : Value} {ds : List DeltaR} {o : Obj} (h : DelsV B w v ds) (hp : Put w w' b o) (hb : b < B) : DelsV B w' v ds := by
 obtain ⟨css, a, c, e⟩ := h
 refine ⟨css, a.mv hp.mv ?_, c, fun i d hi => let ⟨g, n, x, y, z⟩ := e i d hi; ⟨g, n, x, y.put hp hb, z.put hp hb⟩⟩
 cases hv : v.ownBlock with
 | none => exact .inl rfl
 | some r => have := (a.type hv).1; exact .inr (fun e => by have := Option.some.inj e; omega)
theorem DelsV.weaken {B C : Nat} {w : World} {v : Value} {ds : List DeltaR} (h : DelsV B w v ds) (hc : C ≤ B) : DelsV C w v ds := by
 obtain ⟨css, a, c, e⟩ := h
 exact ⟨css, a.weaken hc, c, fun i d hi => let ⟨g, n, x, y, z⟩ := e i d hi; ⟨g, n, x, y.weaken hc, z.weaken hc⟩⟩
structure DelN (B : Nat) (w : World) (css0 css : List (List Value)) (ds : List DeltaR) (k : Nat) : Prop where
 len : css.length = ds.length
 new : ∀ (i : Nat) (d : DeltaR), ds[i]? = some d → i < k → ∃ g n, css[i]? = some [.int .i64 d.fr, .int .i64 d.to, g, n] ∧ Own B 4 47 w g (aC d.gone) ∧ Own B 4 47 w n (aC d.new)
 old : ∀ i, k ≤ i → css[i]? = css0[i]?
theorem DelN.ext {B : Nat} {w w' : World} {css0 css : List (List Value)} {ds : List DeltaR} {k : Nat} (h : DelN B w css0 css ds k) (hx : Ext w w') : DelN B w' css0 css ds k :=
 ⟨h.len, fun i s hi hk => let ⟨x, y, a, b, c⟩ := h.new i s hi hk; ⟨x, y, a, b.ext hx, c.ext hx⟩, h.old⟩
theorem DelN.mv {B : Nat} {w w' : World} {css0 css : List (List Value)} {ds : List DeltaR} {k : Nat} {row : Option Nat} (h : DelN B w css0 css ds k) (hm : Mv row w w') (hne : ∀ x es, Own B 4 47 w x es → x.ownBlock = none ∨ x.ownBlock ≠ row) : DelN B w' css0 css ds k :=
 ⟨h.len, fun i s hi hk => let ⟨x, y, a, b, c⟩ := h.new i s hi hk; ⟨x, y, a, b.mv hm (hne x _ b), c.mv hm (hne y _ c)⟩, h.old⟩
theorem DelN.step {B : Nat} {w : World} {css0 css : List (List Value)} {ds : List DeltaR} {k : Nat} (h : DelN B w css0 css ds k) (hk : k < ds.length) {x y : Value} (hx : Own B 4 47 w x (aC ds[k].gone)) (hy : Own B 4 47 w y (aC ds[k].new)) :
 DelN B w css0 (css.set k [.int .i64 ds[k].fr, .int .i64 ds[k].to, x, y]) ds (k + 1) := by
 refine ⟨by rw [List.length_set, h.len], fun i s hi hik => ?_, fun i hi => ?_⟩
 ·by_cases e : k = i
  ·subst e
   rw [List.getElem?_eq_getElem hk] at hi
   cases hi
   exact ⟨x, y, List.getElem?_set_self (by rw [h.len]; exact hk), hx, hy⟩
  ·obtain ⟨x, y, a, b⟩ := h.new i s hi (by omega)
   exact ⟨x, y, by rw [List.getElem?_set_ne e]; exact a, b⟩
 ·rw [List.getElem?_set_ne (by omega)]; exact h.old i (by omega)
theorem DelN.done {B B' : Nat} {w : World} {v : Value} {css0 css : List (List Value)} {ds : List DeltaR} (h : DelN B w css0 css ds ds.length) (ho : Own B 4 90 w v css) : DelsV B w v ds :=
 ⟨css, ho.off, h.len, fun i s hi => h.new i s hi (List.getElem?_eq_some_iff.1 hi).1⟩
structure SinMid (w4 : World) (ds : List DeltaR) (s : Int) (lp : Loop) (k : Nat) (W : World) : Prop where
 ext : Ext w4 W
 df : W.heap[w4.heap.size]? = some (.deferred (some []))
 lp : W.heap[w4.heap.size + 1]? = some (.loop lp)
 size : w4.heap.size + 2 ≤ W.heap.size
 so : iK ds s ds.length = iK ds s k
structure SinOut (w w4 : World) (ds : List DeltaR) (s : Int) (lp : Loop) (W : World) : Prop where
 ext : Ext w W
 df : W.heap[w4.heap.size]? = some (.deferred (some []))
 lp : W.heap[w4.heap.size + 1]? = some (.loop { lp with state := .done, pending := some .ret })
 out : ∃ i y, iK ds s ds.length = some i ∧ W.heap[w.heap.size + 2]? = some (.cells #[y] 82 (0, 0)) ∧ W.heap[w.heap.size + 3]? = some (.cells #[.bool true] 4 (0, 0)) ∧ DelsV (w4.heap.size + 2) W y (ds.drop i)
set_option maxHeartbeats 4000000 in
theorem NB {w0 w : World} {b : Nat} {o : List UInt8} {l : List RSet} {room : Int} {ds : List DeltaR} (h : JAt w0 w b o l room ds) (hb : ∀ s ∈ l, s.data.length ≤ 1000000) (hd : ∀ s ∈ l, ∀ d ∈ s.data, d.length ≤ 4611686018427387904)
 (hl : ds.length ≤ 1000) (hg : ∀ d ∈ ds, d.gone.length ≤ 1000000 ∧ d.new.length ≤ 1000000) (s : Int) :
 Calls Tryz.prog 51 #[.pointer (some ⟨b, 0, none⟩), .int .i64 s] w (jK w fun r w' => ∃ y, r = .tuple #[y, .bool (cU o l ds s).2] ∧ DelsV w.heap.size w' y (cU o l ds s).1) := by
 refine gV Tryz.func51 rfl ?_
 simp only [Tryz.ntmps51, List.size_toArray, List.length_cons, List.length_nil, Nat.reduceAdd, Nat.reduceSub, Array.replicate_succ, Array.replicate_zero, List.push_toArray, List.append_toArray, List.nil_append, List.cons_append]
 refine_lift rF ?_; intro _ _ _
 refine dL (vs := [.pointer (some ⟨b, 0, none⟩)]) rfl rfl ?_
 intro w1 x1 s1 h1
 refine aA ?_
 refine dL (vs := [.int .i64 s]) rfl rfl ?_
 intro w2 x2 s2 h2
 refine aA ?_
 refine aF (z := [.slice none 0 0]) rfl (by decide +kernel) ?_
 intro w3 x3 s3 h3
 refine aA ?_
 refine aF (z := [.bool false]) rfl (by decide +kernel) ?_
 intro w4 x4 s4 h4
 refine aA ?_
 have e2 : w2.heap.size = w.heap.size + 2 := by omega
 have e3 : w3.heap.size = w.heap.size + 3 := by omega
 have e4 : w4.heap.size = w.heap.size + 4 := by omega
 rw [s1] at h2 ⊢
 rw [e2] at h3 ⊢
 rw [e3] at h4 ⊢
 have g0 : w4.heap[w.heap.size]? = _ := x4.at (x3.at (x2.at h1))
 have g1 : w4.heap[w.heap.size + 1]? = _ := x4.at (x3.at h2)
 have g2 : w4.heap[w.heap.size + 2]? = _ := x4.at h3
 have g3 : w4.heap[w.heap.size + 3]? = _ := h4
 have gx : Ext w w4 := ((x1.trans x2).trans x3).trans x4
 clear h1 h2 h3 h4 x1 x2 x3 x4 s1 s2 s3 s4 e2 e3
 have hJ4 := h.grow gx
 have hp0 := aE (cs := [.pointer (some ⟨b, 0, none⟩)]) g0
 have hp1 := aE (cs := [.int .i64 s]) g1
 refine_lift gO fun _ _ _ _ => ?_
 refine aN (Runs.isNil rfl rfl (by kernel_rfl)) ?_
 refine aA ?_
 refine_lift kT fun _ _ _ => ?_
 refine bE (by decide +kernel) (by decide +kernel) ?_
 refine_lift dN ?_
 refine bY (enters_of Tryz.func32 rfl rfl) rfl rfl (fun w' x' => DK (hJ4.grow x') hb hd) ?_
 refine aA ?_
 refine_lift dN ?_
 intro w5 x5
 have hx5 := gx.trans x5
 have hJ5 := hJ4.grow x5
 have g0 := x5.at g0
 have g1 := x5.at g1
 have g2 := x5.at g2
 have g3 := x5.at g3
 clear hp0 hp1 hJ4
 have hp0 := aE (cs := [.pointer (some ⟨b, 0, none⟩)]) g0
 have hp1 := aE (cs := [.int .i64 s]) g1
 by_cases q1 : s = (bD o l).serial
 ·rw [decide_eq_true q1]
  refine_lift bS fun _ _ => ?_
  refine cD (v := .slice none 0 0) rfl rfl rfl g2 (by decide +kernel) rfl ?_
  intro w6 p6
  refine cD (v := .bool true) rfl rfl rfl (p6.at g3 (by omega)) (by decide +kernel) rfl ?_
  intro w7 p7
  refine_lift aP ?_
  refine iG (eO rfl rfl rfl (p7.at p6.this (by omega)) p7.this (by decide +kernel) (by decide +kernel)) ⟨_, rfl, (hx5.move p6.mv (by rintro k ⟨⟩; omega)).move p7.mv (by rintro k ⟨⟩; omega), ?_⟩
  rw [cU, if_pos q1]
  exact ⟨_, rfl, DelsV.nil _ _⟩
 ·rw [decide_eq_false q1]
  obtain ⟨v, dv, hbk, hs, hdl⟩ := hJ5.out
  obtain ⟨hp, hq0⟩ := nN hbk
  have hq3 : Pts w5 (bG (.pointer (some ⟨b, 0, none⟩)) 3) [dv] := hp.part 3
  obtain ⟨css, hdo, hdlen, hdat⟩ := hdl.out
  have hsl := hdo.sl
  have hdc : dv.cells = #[dv] := by obtain ⟨_, _, _, rfl⟩ := hsl.slf; rfl
  refine_lift gO fun _ _ _ _ => ?_
  refine aN (Runs.fieldJ (off := 3) rfl (by decide +kernel)) ?_
  refine aA ?_
  refine_lift aP ?_
  refine bB (enters_of Tryz.func101 rfl rfl) rfl rfl (PL dv hdc _) ?_
  rintro e w6 ⟨rfl, x6, s6, h6⟩
  refine ⟨_, rfl, ?_⟩
  refine aA ?_
  refine_lift NW ?_
  have hx6 := hx5.trans x6
  have g0 := x6.at g0
  have g1 := x6.at g1
  have g2 := x6.at g2
  have g3 := x6.at g3
  have hJ6 := hJ5.grow x6
  have hbk6 := x6.at hbk
  have hdo6 := hdo.ext x6
  have hsl6 := hsl.ext x6
  have hdat6 : ∀ (i : Nat) (d : DeltaR), ds[i]? = some d → ∃ g n, css[i]? = some [.int .i64 d.fr, .int .i64 d.to, g, n] ∧ Own w0.heap.size 4 47 w6 g (aC d.gone) ∧ Own w0.heap.size 4 47 w6 n (aC d.new) :=
   fun i d hi => let ⟨x, y, a, b, c⟩ := hdat i d hi; ⟨x, y, a, b.ext x6, c.ext x6⟩
  have hz6 : w.heap.size + 4 ≤ w6.heap.size := by have := x5.size; omega
  clear hp hq0 hq3 hp0 hp1 hdat hdo hbk hJ5 hsl x6 x5 gx hdl hs
  have hsh : ∀ c ∈ css, ∃ x y g n, c = [x, y, g, n] := by
   intro c hc
   obtain ⟨i, hi, rfl⟩ := List.mem_iff_getElem.1 hc
   obtain ⟨x, y, a, _⟩ := hdat6 i _ (List.getElem?_eq_getElem (by omega))
   rw [List.getElem?_eq_getElem hi] at a
   exact ⟨_, _, _, _, Option.some.inj a⟩
  have hone : ∀ c ∈ css, ∀ u ∈ c, u.oneCell' = true := by
   intro c hc u hu
   obtain ⟨i, hi, rfl⟩ := List.mem_iff_getElem.1 hc
   obtain ⟨x, y, a, b1, b2⟩ := hdat6 i _ (List.getElem?_eq_getElem (by omega))
   rw [List.getElem?_eq_getElem hi] at a
   rw [Option.some.inj a] at hu
   simp at hu
   rcases hu with rfl | rfl | rfl | rfl
   ·rfl
   ·rfl
   ·exact b1.one
   ·exact b2.one
  refine iY (caps := #[.pointer (some ⟨w5.heap.size, 0, none⟩)]) rfl (enters_of Tryz.func159 rfl rfl) rfl ?_
  intro fn W lp hlp xW k4 k5 sW
  have hJ : SinMid w6 ds s lp css.length W := ⟨xW, k4, k5, by omega, by rw [hdlen]⟩
  have hrdy : lp.state = .ready ∧ lp.pending = none := by subst hlp; exact ⟨rfl, rfl⟩
  have hy : ∀ k c W, css[k]? = some c → SinMid w6 ds s lp (k + 1) W → RoundIn Fence.wide 0 Tryz.prog (w6.heap.size + 1) lp.fn ((lp.params.zip #[.int .i64 k, .agg c.toArray]).foldl (fun tmps (t, a) => tmps.setIfInBounds t a) lp.tmps) lp.assign lp.body W
   fun e W' => (e = .returned (.bool true) ∧ SinMid w6 ds s lp k W') ∨ (e = .returned (.bool false) ∧ SinOut w w6 ds s lp W') := by
   clear hJ xW k4 k5 sW W
   intro k c W hck hM
   have hkl : k < ds.length := by rw [← hdlen]; exact (List.getElem?_eq_some_iff.1 hck).1
   obtain ⟨g, n, hc, og, on⟩ := hdat6 k _ (List.getElem?_eq_getElem hkl)
   have hcc := Option.some.inj (hck.symm.trans hc)
   subst hcc
   subst hlp
   simp only [List.zip_toArray, List.zip_cons_cons, List.zip_nil_right, List.foldl_toArray', List.foldl_cons, List.foldl_nil, List.setIfInBounds_toArray, List.set_cons_succ, List.set_cons_zero, List.foldl_toArray, List.size_toArray, List.zip_toArray, List.length_cons, List.length_nil]
   have xM := hM.ext
   have md := hM.df
   have ml := hM.lp
   have ms := hM.size
   have mso := hM.so
   clear hM
   refine qI ?_
   repeat' (first | refine bZ (by rfl) (by intro _ _ h; exact h) ?_ | ((with_reducible refine bJ ?_); (first | (refine fY ?_; refine iI ?_) | (refine iH ?_; first | refine jG ?_ | refine oV ?_ | refine oX ?_ | refine oW ?_ | ((first | refine oP ?_ ?_ | refine oQ ?_ ?_) <;> intro hc)))) | ((fail_if_success (with_reducible refine bJ ?_)); first | go_step | gi_step))
   refine aF (z := hY) rfl (by decide +kernel) ?_
   intro wB xB sB hB
   refine aA ?_
   refine aD (v := .agg #[.int .i64 ds[k].fr, .int .i64 ds[k].to, g, n]) rfl rfl rfl hB (show aO Tryz.prog 90 4 = true by decide +kernel) rfl (fU rfl rfl og.sl.one on.sl.one) ?_
   intro wC pC
   have xC : Ext W wC := xB.move pC.mv (by rintro k ⟨⟩; exact Nat.le_refl _)
   have hdc0 := pC.this
   have hne : W.heap.size ≠ w6.heap.size + 1 := by omega
   have md := xC.at md
   have ml := xC.at ml
   have mss : w6.heap.size + 2 ≤ wC.heap.size := Nat.le_trans ms xC.size
   have xM := xM.trans xC
   clear pC hB xB sB xC
   repeat' (first | refine bZ (by rfl) (by intro _ _ h; exact h) ?_ | ((with_reducible refine bJ ?_); (first | (refine fY ?_; refine iI ?_) | (refine iH ?_; first | refine jG ?_ | refine oV ?_ | refine oX ?_ | refine oW ?_ | ((first | refine oP ?_ ?_ | refine oQ ?_ ?_) <;> intro hc)))) | ((fail_if_success (with_reducible refine bJ ?_)); first | go_step | gi_step))
   refine ⟨_, ml, rfl, ?_⟩
   intro wA pA
   have hdl := aE (cs := [.int .i64 ds[k].fr, .int .i64 ds[k].to, g, n]) (pA.at hdc0 hne)
   have xW : Ext w6 wA := xM.move pA.mv (by rintro k ⟨⟩; omega)
   have nd := pA.at md (by omega)
   have nl := pA.this
   have ns : w6.heap.size + 2 ≤ wA.heap.size := Nat.le_trans mss pA.mv.size
   clear pA md ml ms mss xM hdc0 hne
   have g0 := xW.at g0
   have g1 := xW.at g1
   have g2 := xW.at g2
   have g3 := xW.at g3
   have hp0 := aE (cs := [.pointer (some ⟨b, 0, none⟩)]) g0
   have hp1 := aE (cs := [.int .i64 s]) g1
   obtain ⟨hpA, hqA0⟩ := nN (xW.at hbk6)
   have hqA : Pts wA (bG (.pointer (some ⟨b, 0, none⟩)) 3) [dv] := hpA.part 3
   have hslA := hsl6.ext xW
   repeat' (first | refine bZ (by rfl) (by intro _ _ h; exact h) ?_ | ((with_reducible refine bJ ?_); (first | (refine fY ?_; refine iI ?_) | (refine iH ?_; first | refine jG ?_ | refine oV ?_ | refine oX ?_ | refine oW ?_ | ((first | refine oP ?_ ?_ | refine oQ ?_ ?_) <;> intro hc)))) | ((fail_if_success (with_reducible refine bJ ?_)); first | go_step | gi_step))
   ·have hf : ds[k].fr ≠ s := by
     have hh := ‹(!decide (ds[k].fr = s)) = true›
     simpa using hh
    exact lT nl fun w' p' => .inl ⟨rfl, ⟨xW.move p'.mv (by rintro k ⟨⟩; omega), p'.at nd (by omega), p'.this, Nat.le_trans ns p'.mv.size, by rw [mso, iK, if_neg (by rw [List.getElem?_eq_getElem hkl]; simpa using hf)]⟩⟩
   ·have hf : ds[k].fr = s := by
     have hh := ‹(!decide (ds[k].fr = s)) = false›
     simpa using hh
    have hso : iK ds s ds.length = some k := by rw [mso, iK, if_pos (by rw [List.getElem?_eq_getElem hkl]; simpa using hf)]
    have hkc : k < css.length := by omega
    clear mso
    refine aN (Runs.fieldJ (off := 3) rfl (by decide +kernel)) ?_
    refine aA ?_
    repeat' (first | refine bZ (by rfl) (by intro _ _ h; exact h) ?_ | ((with_reducible refine bJ ?_); (first | (refine fY ?_; refine iI ?_) | (refine iH ?_; first | refine jG ?_ | refine oV ?_ | refine oX ?_ | refine oW ?_ | ((first | refine oP ?_ ?_ | refine oQ ?_ ?_) <;> intro hc)))) | ((fail_if_success (with_reducible refine bJ ?_)); first | go_step | gi_step))
    have hcut := ((hdo6.ext xW).drop (m := k) (by omega)).sl
    refine aI (enters_of Tryz.func102 rfl rfl) rfl rfl (KW _ (css.drop k) _ hcut (fun f hf => hone f (List.mem_of_mem_drop hf)) (by simp; omega)) ?_
    intro y wD xD oD
    refine aA ?_
    have xD6 := xW.trans xD
    have hB := xW.size
    have ndA := nd
    have nlA := nl
    have g2A := g2
    have g3A := g3
    have nd := xD.at nd
    have nl := xD.at nl
    have g2 := xD.at g2
    have g3 := xD.at g3
    have hdat : ∀ (i : Nat) (d : DeltaR), (ds.drop k)[i]? = some d → ∃ g n, (css.drop k)[i]? = some [.int .i64 d.fr, .int .i64 d.to, g, n] ∧ Own w0.heap.size 4 47 w6 g (aC d.gone) ∧ Own w0.heap.size 4 47 w6 n (aC d.new) := fun i d hi => by
     rw [List.getElem?_drop] at hi ⊢
     obtain ⟨x, y, a, b, c⟩ := hdat6 _ d hi
     exact ⟨x, y, a, b, c⟩
    have hgE : ∀ d ∈ ds.drop k, d.gone.length ≤ 1000000 ∧ d.new.length ≤ 1000000 := fun d hd => hg d (List.mem_of_mem_drop hd)
    have hlE : (css.drop k).length = (ds.drop k).length := by simp [hdlen]
    have hlm : (ds.drop k).length ≤ 1000 := by simp; omega
    generalize hE : ds.drop k = E at *
    generalize css.drop k = css0 at *
    clear hpA hqA0 hqA hslA hcut hp0 hp1 g0 g1 hdl
    have hsD := oD.sl
    repeat' (first | refine bZ (by rfl) (by intro _ _ h; exact h) ?_ | ((with_reducible refine bJ ?_); (first | (refine fY ?_; refine iI ?_) | (refine iH ?_; first | refine jG ?_ | refine oV ?_ | refine oX ?_ | refine oW ?_ | ((first | refine oP ?_ ?_ | refine oQ ?_ ?_) <;> intro hc)))) | ((fail_if_success (with_reducible refine bJ ?_)); first | go_step | gi_step))
    have x6D : Ext w6 wD := xD6
    gi_loopw [9, 10, 39] (fun _ _ i wr => ∃ (j : Nat) (cs : List (List Value)), j ≤ E.length ∧ i = .int .i64 j ∧ Ext wA wr ∧ wD.heap.size ≤ wr.heap.size ∧ Own wA.heap.size 4 90 wr y cs ∧ DelN wA.heap.size wr css0 cs E j) (fun _ _ i _ => E.length - (intOf i).toNat)
    case atStart => exact ⟨0, css0, Nat.zero_le _, rfl, xD, Nat.le_refl _, oD, ⟨hlE, by omega, fun i _ => rfl⟩⟩
    case round =>
     obtain ⟨j, cs, hj, rfl, hx, hBr, ho, hN⟩ := hrel
     have hsl := ho.sl
     have hlen := hN.len
     by_cases hlt : j < E.length
     ·obtain ⟨gg, nn, hc0, og0, on0⟩ := hdat j _ (List.getElem?_eq_getElem hlt)
      have hc : cs[j]? = some [.int .i64 E[j].fr, .int .i64 E[j].to, gg, nn] := by rw [hN.old j (Nat.le_refl _)]; exact hc0
      have xDr : Ext w6 wr := xW.trans hx
      have hgb := hgE _ (List.getElem_mem hlt)
      have hpe := hsl.elem hc
      repeat' (first | refine bZ (by rfl) (by intro _ _ h; exact h) ?_ | ((with_reducible refine bJ ?_); (first | (refine fY ?_; refine iI ?_) | (refine iH ?_; first | refine jG ?_ | refine oV ?_ | refine oX ?_ | refine oW ?_ | ((first | refine oP ?_ ?_ | refine oQ ?_ ?_) <;> intro hc)))) | ((fail_if_success (with_reducible refine bJ ?_)); first | go_step | gi_step))
      have og1 := (og0.ext xDr).sl
      have on1 := (on0.ext xDr).sl
      refine aF (z := hY) rfl (by decide +kernel) ?_
      intro wE xE sE hE1
      refine aA ?_
      repeat' (first | refine bZ (by rfl) (by intro _ _ h; exact h) ?_ | ((with_reducible refine bJ ?_); (first | (refine fY ?_; refine iI ?_) | (refine iH ?_; first | refine jG ?_ | refine oV ?_ | refine oX ?_ | refine oW ?_ | ((first | refine oP ?_ ?_ | refine oQ ?_ ?_) <;> intro hc)))) | ((fail_if_success (with_reducible refine bJ ?_)); first | go_step | gi_step))
      refine aD (v := .agg #[.int .i64 E[j].fr, .int .i64 E[j].to, gg, nn]) rfl rfl rfl hE1 (show aO Tryz.prog 90 4 = true by decide +kernel) rfl (fU rfl rfl og1.one on1.one) ?_
      intro wF pF
      have xF : Ext wr wF := xE.move pF.mv (by rintro k ⟨⟩; exact Nat.le_refl _)
      have hps := aE (cs := [.int .i64 E[j].fr, .int .i64 E[j].to, gg, nn]) pF.this
      have hxF := hx.trans xF
      have hoF := ho.ext xF
      have hNF := hN.ext xF
      have hslF := hoF.sl
      have hpeF := hslF.elem hc
      have og2 := og1.ext xF
      have on2 := on1.ext xF
      clear pF hE1 xE hpe hsl
      repeat' (first | refine bZ (by rfl) (by intro _ _ h; exact h) ?_ | ((with_reducible refine bJ ?_); (first | (refine fY ?_; refine iI ?_) | (refine iH ?_; first | refine jG ?_ | refine oV ?_ | refine oX ?_ | refine oW ?_ | ((first | refine oP ?_ ?_ | refine oQ ?_ ?_) <;> intro hc)))) | ((fail_if_success (with_reducible refine bJ ?_)); first | go_step | gi_step))
      refine tC 12 (Ext wF) (by decide +kernel) (by intro _ _ h; exact h) (by decide +kernel) ?_
      intro wG xG _
      refine ⟨xG, ?_⟩
      refine dR 0 ?_; refine dR 1 ?_
      refine iB 2 ?_; refine iB 3 ?_
      refine dR 4 ?_; refine dR 5 ?_; refine dR 7 ?_; refine dR 8 ?_
      refine bL (i := 6) (by decide +kernel) rfl rfl ?_
      refine aI (enters_of Tryz.func52 rfl rfl) rfl rfl (nM gg E[j].gone _ (og2.ext xG) (by omega)) ?_
      intro u wH xH ou
      refine aA ?_
      have xFH := xG.trans xH
      refine aK ⟨cQ xFH, ?_⟩
      refine bL (i := 9) (by decide +kernel) rfl rfl ?_
      refine aI (enters_of Tryz.func52 rfl rfl) rfl rfl (nM nn E[j].new _ (on2.ext xFH) (by omega)) ?_
      intro u2 wI xI ou2
      refine aA ?_
      have xFI := xFH.trans xI
      refine aK ⟨cQ xFI, ?_⟩
      refine dR 10 ?_; refine dR 11 ?_
      refine bL (i := 12) (by decide +kernel) rfl rfl ?_
      have hoI := hoF.ext xFI
      have ouI := ou.ext xI
      refine kO (i := j) (j := 2) rfl rfl rfl hoI hc (by decide) (by decide +kernel) ou.one ?_
      intro wJ oJ mJ
      refine aK ⟨bV rfl, ?_⟩
      have oIJ := ouI.mv mJ (ouI.ne hoI (by decide))
      have o2J := ou2.mv mJ (ou2.ne hoI (by decide))
      have hNJ := (hNF.ext xFI).mv mJ (fun x es hx => hx.ne hoI (by decide))
      have xJ : Ext wA wJ := hoI.mvx mJ (hxF.trans xFI) (Nat.le_refl _)
      refine dA (i := 13) rfl rfl rfl (by decide +kernel) (by decide +kernel) (by decide +kernel) rfl (fun _ => Runs.idxW (k := 4) (n := j) rfl hslF (by omega) (by decide +kernel)) (fun _ _ _ h => h) ?_
      refine aA ?_
      refine dA (i := 14) rfl rfl rfl (by decide +kernel) (by decide +kernel) (by decide +kernel) rfl (fun _ => Runs.fieldW (off := 3) hpeF (by decide +kernel)) (fun _ _ _ h => h) ?_
      refine aA ?_
      refine bL (i := 15) (by decide +kernel) rfl rfl ?_
      have hc2 := List.getElem?_set_self (a := [Value.int .i64 E[j].fr, .int .i64 E[j].to, gg, nn].set 2 u) (show j < cs.length by omega)
      refine kO (i := j) (j := 3) rfl rfl rfl oJ hc2 (by decide) (by decide +kernel) ou2.one ?_
      intro wK oK mK
      refine aK ⟨bV rfl, ?_⟩
      refine cN (by decide +kernel) ?_
      have oIK := oIJ.mv mK (oIJ.ne oJ (by decide))
      have o2K := o2J.mv mK (o2J.ne oJ (by decide))
      have hNK := hNJ.mv mK (fun x es hx => hx.ne oJ (by decide))
      have xK : Ext wA wK := oJ.mvx mK xJ (Nat.le_refl _)
      have hAr := hx.size
      have hFG := xG.size
      have hrF := xF.size
      have hGH := xH.size
      have hHI := xI.size
      have hIJ := mJ.size
      have hJK := mK.size
      have hok : Own wA.heap.size 4 90 wK y (cs.set j [.int .i64 E[j].fr, .int .i64 E[j].to, u, u2]) := by
       have := oK
       rw [List.set_set] at this
       exact this
      have hstep := hNK.step hlt (oIK.weaken (by omega)) (o2K.weaken (by omega))
      clear hps hpeF og2 on2 hslF oK hc2
      repeat' (first | refine bZ (by rfl) (by intro _ _ h; exact h) ?_ | ((with_reducible refine bJ ?_); (first | (refine fY ?_; refine iI ?_) | (refine iH ?_; first | refine jG ?_ | refine oV ?_ | refine oX ?_ | refine oW ?_ | ((first | refine oP ?_ ?_ | refine oQ ?_ ?_) <;> intro hc)))) | ((fail_if_success (with_reducible refine bJ ?_)); first | go_step | gi_step))
      exact ⟨⟨j + 1, _, by omega, by go_num, xK, by omega, hok, hstep⟩, by simp [intOf]; omega⟩
     ·have : j = E.length := by omega
      subst this
      repeat' (first | refine bZ (by rfl) (by intro _ _ h; exact h) ?_ | ((with_reducible refine bJ ?_); (first | (refine fY ?_; refine iI ?_) | (refine iH ?_; first | refine jG ?_ | refine oV ?_ | refine oX ?_ | refine oW ?_ | ((first | refine oP ?_ ?_ | refine oQ ?_ ?_) <;> intro hc)))) | ((fail_if_success (with_reducible refine bJ ?_)); first | go_step | gi_step))
      refine cD (v := y) rfl rfl rfl (hx.at g2A) (by decide +kernel) ho.one ?_
      intro wE pE
      refine cD (v := .bool true) rfl rfl rfl (pE.at (hx.at g3A) (by omega)) (by decide +kernel) rfl ?_
      intro wF pF
      have q2 := pF.at pE.this (by omega)
      have q3 := pF.this
      have qd := pF.at (pE.at (hx.at ndA) (by omega)) (by omega)
      have ql := pF.at (pE.at (hx.at nlA) (by omega)) (by omega)
      have qx : Ext w wF := ((hx6.trans (xW.trans hx)).move pE.mv (by rintro k ⟨⟩; omega)).move pF.mv (by rintro k ⟨⟩; omega)
      have hD := ((hN.done (B' := 0) ho).below pE (by omega)).below pF (by omega)
      clear pE pF
      repeat' (first | refine bZ (by rfl) (by intro _ _ h; exact h) ?_ | ((with_reducible refine bJ ?_); (first | (refine fY ?_; refine iI ?_) | (refine iH ?_; first | refine jG ?_ | refine oV ?_ | refine oX ?_ | refine oW ?_ | ((first | refine oP ?_ ?_ | refine oQ ?_ ?_) <;> intro hc)))) | ((fail_if_success (with_reducible refine bJ ?_)); first | go_step | gi_step))
      exact yB ql fun w' p' => .inr ⟨rfl, ⟨qx.move p'.mv (by rintro k ⟨⟩; omega), p'.at qd (by omega), p'.this, k, y, hso, p'.at q2 (by omega), p'.at q3 (by omega), by rw [hE]; exact (hD.below p' (by omega)).weaken ns⟩⟩
  refine (RJ (w6.heap.size + 1) w5.heap.size lp (SinMid w6 ds s lp) (SinOut w w6 ds s lp) (by subst hlp; rfl) w6 (fun _ _ h => h.ext) (fun _ _ h => h.lp) dv css h6 hsl6 (by omega) hsh hy W hJ).mono ?_
  rintro e W' ⟨rfl, hR⟩
  refine ⟨⟨_, rfl⟩, ?_⟩
  clear hJ xW k4 k5 sW hy
  rcases hR with hR | hR
  ·refine ⟨lp, hR.lp, by rw [hrdy.1]; simp, ?_⟩
   intro W2 hput
   rw [hrdy.2]
   clear hlp hrdy
   simp only
   have f2 := hput.at (hR.ext.at g2) (by omega)
   have f3 := hput.at (hR.ext.at g3) (by omega)
   have fd := hput.at hR.df (by omega)
   have fx : Ext w W2 := (hx6.trans hR.ext).move hput.mv (by rintro k ⟨⟩; omega)
   have hso := hR.so
   clear hput hR
   refine_lift bS fun _ _ => ?_
   refine cD (v := .slice none 0 0) rfl rfl rfl f2 (by decide +kernel) rfl ?_
   intro W3 p3
   refine cD (v := .bool false) rfl rfl rfl (p3.at f3 (by omega)) (by decide +kernel) rfl ?_
   intro W4 p4
   have q2 := p4.at p3.this (by omega)
   have qd := p4.at (p3.at fd (by omega)) (by omega)
   have qx : Ext w W4 := (fx.move p3.mv (by rintro k ⟨⟩; omega)).move p4.mv (by rintro k ⟨⟩; omega)
   have q3 := p4.this
   clear p3 p4
   refine_lift aP ?_
   refine iR qd fun W5 p5 => ⟨_, eO rfl rfl rfl (p5.at q2 (by omega)) (p5.at q3 (by omega)) (by decide +kernel) (by decide +kernel), _, rfl, qx.move p5.mv (by rintro k ⟨⟩; omega), ?_⟩
   rw [cU, if_neg q1, hso]
   exact ⟨_, rfl, DelsV.nil _ _⟩
  ·refine ⟨_, hR.lp, by simp, ?_⟩
   intro W2 hput
   simp only
   clear hlp hrdy
   obtain ⟨i, y, hso, r2, r3, hD⟩ := hR.out
   have f2 := hput.at r2 (by omega)
   have f3 := hput.at r3 (by omega)
   have fd := hput.at hR.df (by omega)
   have fx : Ext w W2 := hR.ext.move hput.mv (by rintro k ⟨⟩; omega)
   have hD2 := hD.below hput (by omega)
   have hsz := hx6.size
   clear hput hR hD r2 r3
   refine_lift NW ?_
   refine iR fd fun W5 p5 => ⟨_, eO rfl rfl rfl (p5.at f2 (by omega)) (p5.at f3 (by omega)) (by decide +kernel) (by decide +kernel), _, rfl, fx.move p5.mv (by rintro k ⟨⟩; omega), ?_⟩
   rw [cU, if_neg q1, hso]
   exact ⟨_, rfl, (hD2.below p5 (by omega)).weaken (by omega)⟩
def Keep (T : List TypeId) (w w' : World) : Prop := ∀ (c : Nat) (cs : Array Value) (t : TypeId) (fz : Nat × Nat), w.heap[c]? = some (.cells cs t fz) → t ∉ T → w'.heap[c]? = some (.cells cs t fz)
theorem Ext.keep {w w' : World} (h : Ext w w') (T : List TypeId) : Keep T w w' := fun c cs t fz hc _ => h.at hc
theorem Keep.trans {T : List TypeId} {a b c : World} (h : Keep T a b) (k : Keep T b c) : Keep T a c := fun i cs t fz hc ht => k i cs t fz (h i cs t fz hc ht) ht
theorem KeptJ.keep {b t0 : Nat} {w w' : World} {cs : Array Value} {fz : Nat × Nat} (h : KeptJ b w w') (hb : w.heap[b]? = some (.cells cs t0 fz)) : Keep [t0, 90] w w' := fun c ds t f hc ht => by
 refine h c _ hc ?_ ?_
 ·rintro rfl
  rw [hb] at hc
  simp only [Option.some.injEq, Obj.cells.injEq] at hc
  exact ht (by simp [hc.2.1])
 ·intro cs' fz' e
  simp only [Obj.cells.injEq] at e
  exact ht (by simp [e.2.1])
theorem Own.keep {T : List TypeId} {B k e : Nat} {w w' : World} {v : Value} {es : List (List Value)} (h : Own B k e w v es) (hk : Keep T w w') (he : e ∉ T) : Own B k e w' v es := by
 refine ⟨⟨h.row.1, ?_⟩, h.2⟩
 rcases h.row.2 with h1 | ⟨gg, cap, cur, fz, rfl, hb, hg, r⟩
 ·exact .inl h1
 ·exact .inr ⟨gg, cap, cur, fz, rfl, hb, hk _ _ _ _ hg he, r⟩
theorem OwnOff.keep {T : List TypeId} {B k e : Nat} {w w' : World} {v : Value} {es : List (List Value)} (h : OwnOff B k e w v es) (hk : Keep T w w') (he : e ∉ T) : OwnOff B k e w' v es := by
 refine ⟨h.row.imp id ?_, h.each⟩
 rintro ⟨g, o, cap, cur, fz, rfl, hb, hg, r⟩
 exact ⟨g, o, cap, cur, fz, rfl, hb, hk _ _ _ _ hg he, r⟩
theorem SetsV.keep {T : List TypeId} {B : Nat} {w w' : World} {v : Value} {l : List RSet} (h : SetsV B w v l) (hk : Keep T w w') (h1 : 119 ∉ T) (h2 : 9 ∉ T) : SetsV B w' v l := by
 obtain ⟨css, a, b⟩ := h
 exact ⟨css, a.keep hk h1, b.len, fun i s hi => let ⟨x, c, d⟩ := b.at' i s hi; ⟨x, c, d.keep hk h2⟩⟩
structure DelsK (B : Nat) (w : World) (v : Value) (ds : List DeltaR) : Prop where
 out : ∃ css, OwnOff B 4 93 w v css ∧ css.length = ds.length ∧ ∀ (i : Nat) (d : DeltaR), ds[i]? = some d → ∃ g n, css[i]? = some [.int .i64 d.fr, .int .i64 d.to, g, n] ∧ Own B 4 47 w g (aC d.gone) ∧ Own B 4 47 w n (aC d.new)
theorem DelsK.nil (B : Nat) (w : World) : DelsK B w (.slice none 0 0) [] := ⟨[], OwnOff.nil _ _ _ _, rfl, by simp⟩
theorem DelsK.ext {B : Nat} {w w' : World} {v : Value} {ds : List DeltaR} (h : DelsK B w v ds) (hx : Ext w w') : DelsK B w' v ds := by
 obtain ⟨css, h1, h2, h3⟩ := h
 exact ⟨css, h1.ext hx, h2, fun i d hi => let ⟨g, n, a, b, c⟩ := h3 i d hi; ⟨g, n, a, b.ext hx, c.ext hx⟩⟩
theorem DelsK.put {B b t : Nat} {w w' : World} {v : Value} {ds : List DeltaR} {cs : Array Value} {fz : Nat × Nat} {o : Obj} (h : DelsK B w v ds) (hb : w.heap[b]? = some (.cells cs t fz)) (h1 : t ≠ 93) (h2 : t ≠ 47) (hp : Put w w' b o) : DelsK B w' v ds := by
 obtain ⟨css, a, c, e⟩ := h
 exact ⟨css, a.mv hp.mv (.inr (a.neBlock hb h1)), c, fun i d hi => let ⟨g, n, x, y, z⟩ := e i d hi; ⟨g, n, x, y.mv hp.mv (.inr (y.neBlock hb h2)), z.mv hp.mv (.inr (z.neBlock hb h2))⟩⟩
theorem DelsK.len {B : Nat} {w : World} {v : Value} {ds : List DeltaR} (h : DelsK B w v ds) : ∃ css, Sl 4 w v css ∧ css.length = ds.length := let ⟨css, a, c, _⟩ := h; ⟨css, a.sl, c⟩
structure KAt (w0 w : World) (b : Nat) (o : List UInt8) (l : List RSet) (room : Int) (ds : List DeltaR) : Prop where
 ge : w0.heap.size ≤ b
 ext : Ext w0 w
 out : ∃ v dv, w.heap[b]? = some (.cells (jC o v room dv).toArray 87 (0, 0)) ∧ SetsV w0.heap.size w v l ∧ DelsK w0.heap.size w dv ds
theorem KAt.grow {w0 w w' : World} {b : Nat} {o : List UInt8} {l : List RSet} {room : Int} {ds : List DeltaR} (h : KAt w0 w b o l room ds) (hx : Ext w w') : KAt w0 w' b o l room ds := by
 obtain ⟨h1, h2, v, dv, h3, h4, h5⟩ := h
 exact ⟨h1, h2.trans hx, v, dv, hx.at h3, h4.ext hx, h5.ext hx⟩
theorem lJ {w : World} {b : Nat} {o : List UInt8} {v dv : Value} {room : Int} (h : w.heap[b]? = some (.cells (jC o v room dv).toArray 87 (0, 0))) :
 Pts w (.pointer (some ⟨b, 0, none⟩)) (jC o v room dv) ∧ Pts w (bG (.pointer (some ⟨b, 0, none⟩)) 0) [aH o, v] := by
 have hp := aE h
 exact ⟨hp, (hp.part 0).front 2⟩
def KeptK (b : Nat) (w w' : World) : Prop := ∀ c o, w.heap[c]? = some o → c ≠ b → (∀ cs fz, o ≠ .cells cs 93 fz) → w'.heap[c]? = some o
theorem KeptK.of {b : Nat} {w w' : World} (h : Ext w w') : KeptK b w w' := fun c o hc _ _ => h.at hc
theorem KeptK.trans {b : Nat} {w w' w'' : World} (h : KeptK b w w') (k : KeptK b w' w'') : KeptK b w w'' := fun c o hc hn ht => k c o (h c o hc hn ht) hn ht
theorem KeptK.mv {b B : Nat} {w w' : World} {v : Value} {es : List (List Value)} (ho : OwnOff B 4 93 w v es) (hm : Mv v.ownBlock w w') : KeptK b w w' := fun c o hc _ ht => by
 refine hm.at hc fun e => ?_
 obtain ⟨_, _, cur, fz, h⟩ := ho.type e.symm
 rw [hc] at h
 exact ht _ _ (Option.some.inj h)
theorem KeptK.put {b : Nat} {w w' : World} {o : Obj} (hp : Put w w' b o) : KeptK b w w' := fun c o hc hn _ => hp.mv.at hc (fun e => hn (Option.some.inj e))
theorem DelsK.add {B : Nat} {w w' : World} {v v' g n : Value} {ds : List DeltaR} {D : DeltaR} {css : List (List Value)} (h1 : OwnOff B 4 93 w v css) (h2 : css.length = ds.length)
 (h3 : ∀ (i : Nat) (d : DeltaR), ds[i]? = some d → ∃ g n, css[i]? = some [.int .i64 d.fr, .int .i64 d.to, g, n] ∧ Own B 4 47 w g (aC d.gone) ∧ Own B 4 47 w n (aC d.new)) (hm : Mv v.ownBlock w w')
 (o : OwnOff B 4 93 w' v' (css ++ [[.int .i64 D.fr, .int .i64 D.to, g, n]])) (hg : Own B 4 47 w g (aC D.gone)) (hn : Own B 4 47 w n (aC D.new)) : DelsK B w' v' (ds ++ [D]) := by
 refine ⟨_, o, by simp [h2], fun i d hi => ?_⟩
 rw [List.getElem?_append] at hi ⊢
 rw [h2]
 split at hi
 ·rw [if_pos ‹_›]
  obtain ⟨x, y, a, b, c⟩ := h3 i d hi
  exact ⟨x, y, a, b.mv hm (h1.neOwn b (by decide)), c.mv hm (h1.neOwn c (by decide))⟩
 ·rw [if_neg ‹_›]
  have hi0 : i - ds.length = 0 := by
   have := (List.getElem?_eq_some_iff.1 hi).1
   simpa using this
  rw [hi0] at hi ⊢
  cases hi
  exact ⟨g, n, rfl, hg.mv hm (h1.neOwn hg (by decide)), hn.mv hm (h1.neOwn hn (by decide))⟩
theorem DelsK.drop {B : Nat} {w : World} {v : Value} {ds : List DeltaR} (h : DelsK B w v ds) {m : Nat} (hm : m ≤ ds.length) : DelsK B w (cW v 4 m ds.length) (ds.drop m) := by
 obtain ⟨css, h1, h2, h3⟩ := h
 rw [← h2] at hm ⊢
 refine ⟨_, h1.drop hm, by simp [h2], fun i d hi => ?_⟩
 rw [List.getElem?_drop] at hi ⊢
 exact h3 _ d hi
theorem DelsK.below {B b : Nat} {w w' : World} {v : Value} {ds : List DeltaR} {o : Obj} (h : DelsK B w v ds) (hp : Put w w' b o) (hb : b < B) : DelsK B w' v ds := by
 obtain ⟨css, a, c, e⟩ := h
 refine ⟨css, a.mv hp.mv ?_, c, fun i d hi => let ⟨g, n, x, y, z⟩ := e i d hi; ⟨g, n, x, y.put hp hb, z.put hp hb⟩⟩
 cases hv : v.ownBlock with
 | none => exact .inl rfl
 | some r => have := (a.type hv).1; exact .inr (fun e => by have := Option.some.inj e; omega)
theorem DelsK.weaken {B C : Nat} {w : World} {v : Value} {ds : List DeltaR} (h : DelsK B w v ds) (hc : C ≤ B) : DelsK C w v ds := by
 obtain ⟨css, a, c, e⟩ := h
 exact ⟨css, a.weaken hc, c, fun i d hi => let ⟨g, n, x, y, z⟩ := e i d hi; ⟨g, n, x, y.weaken hc, z.weaken hc⟩⟩
theorem KeptK.keep {b t0 : Nat} {w w' : World} {cs : Array Value} {fz : Nat × Nat} (h : KeptK b w w') (hb : w.heap[b]? = some (.cells cs t0 fz)) : Keep [t0, 93] w w' := fun c ds t f hc ht => by
 refine h c _ hc ?_ ?_
 ·rintro rfl
  rw [hb] at hc
  simp only [Option.some.injEq, Obj.cells.injEq] at hc
  exact ht (by simp [hc.2.1])
 ·intro cs' fz' e
  simp only [Obj.cells.injEq] at e
  exact ht (by simp [e.2.1])
theorem DelsV.keep {T : List TypeId} {B : Nat} {w w' : World} {v : Value} {ds : List DeltaR} (h : DelsV B w v ds) (hk : Keep T w w') (h1 : 90 ∉ T) (h2 : 47 ∉ T) : DelsV B w' v ds := by
 obtain ⟨css, a, b, c⟩ := h
 exact ⟨css, a.keep hk h1, b, fun i d hi => let ⟨g, n, e, p, q⟩ := c i d hi; ⟨g, n, e, p.keep hk h2, q.keep hk h2⟩⟩
theorem DelsK.keep {T : List TypeId} {B : Nat} {w w' : World} {v : Value} {ds : List DeltaR} (h : DelsK B w v ds) (hk : Keep T w w') (h1 : 93 ∉ T) (h2 : 47 ∉ T) : DelsK B w' v ds := by
 obtain ⟨css, a, b, c⟩ := h
 exact ⟨css, a.keep hk h1, b, fun i d hi => let ⟨g, n, e, p, q⟩ := c i d hi; ⟨g, n, e, p.keep hk h2, q.keep hk h2⟩⟩
theorem JAt.keep {T : List TypeId} {w0 w w' : World} {b : Nat} {o : List UInt8} {l : List RSet} {room : Int} {ds : List DeltaR} (h : JAt w0 w b o l room ds) (hk : Keep T w w') (hx : Ext w0 w') (h1 : 84 ∉ T) (h2 : 90 ∉ T) (h3 : 47 ∉ T) (h4 : 119 ∉ T) (h5 : 9 ∉ T) : JAt w0 w' b o l room ds := by
 obtain ⟨g, _, v, dv, a, b, c⟩ := h
 exact ⟨g, hx, v, dv, hk _ _ _ _ a h1, b.keep hk h4 h5, c.keep hk h2 h3⟩
theorem KAt.keep {T : List TypeId} {w0 w w' : World} {b : Nat} {o : List UInt8} {l : List RSet} {room : Int} {ds : List DeltaR} (h : KAt w0 w b o l room ds) (hk : Keep T w w') (hx : Ext w0 w') (h1 : 87 ∉ T) (h2 : 93 ∉ T) (h3 : 47 ∉ T) (h4 : 119 ∉ T) (h5 : 9 ∉ T) : KAt w0 w' b o l room ds := by
 obtain ⟨g, _, v, dv, a, b, c⟩ := h
 exact ⟨g, hx, v, dv, hk _ _ _ _ a h1, b.keep hk h4 h5, c.keep hk h2 h3⟩
theorem vU {w0 w : World} {b : Nat} {o : List UInt8} {l : List RSet} {room : Int} {ds : List DeltaR} (h : KAt w0 w b o l room ds) (hb : ∀ s ∈ l, s.data.length ≤ 1000000) (hd : ∀ s ∈ l, ∀ d ∈ s.data, d.length ≤ 4611686018427387904) :
 Calls Tryz.prog 49 #[.pointer (some ⟨b, 0, none⟩)] w (bC w (.int .i64 (bD o l).serial)) := by
 obtain ⟨v, dv, hbk, hs, hds⟩ := h.out
 obtain ⟨hp, hp0⟩ := lJ hbk
 go_enter Tryz.func49, Tryz.ntmps49
 refine_lift bS fun _ _ => ?_
 refine aB (enters_of Tryz.func47 rfl rfl) rfl rfl (AW o v l _ hs.sets hb hd) ?_; intro w1 x1; refine aA ?_
 refine_lift aP ?_
 refine aF (z := aX) rfl (by decide +kernel) ?_
 intro w2 x2 s2 h2
 refine aA ?_
 refine aD (v := .agg (bD o l).cells.toArray) rfl rfl rfl h2 (show aO Tryz.prog 67 7 = true by decide +kernel) rfl (dS _) ?_
 intro w3 p3
 have x3 : Ext w1 w3 := x2.move p3.mv (by rintro k ⟨⟩; exact Nat.le_refl _)
 have hs3 := aE (cs := (bD o l).cells) p3.this
 refine_lift aP ?_
 go_ret
 exact ⟨rfl, x1.trans x3⟩
theorem GN {w0 : World} (o : List UInt8) (v : Value) (l : List RSet) (room : Int) (w : World) (h0 : Ext w0 w) (hv : SetsAt w v l) (hl : l.length ≤ 100000) (hb : ∀ s ∈ l, s.data.length ≤ 1000000) (hd : ∀ s ∈ l, ∀ d ∈ s.data, d.length ≤ 4611686018427387904) :
 Calls Tryz.prog 15 #[.agg #[aH o, v], .int .i64 room] w fun e w' => (iW o l room ≠ 0 ∧ e = .returned (.tuple #[.pointer none, .int .i64 (iW o l room)]) ∧ Ext w w') ∨
  (iW o l room = 0 ∧ ∃ b, e = .returned (.tuple #[.pointer (some ⟨b, 0, none⟩), .int .i64 0]) ∧ Ext w w' ∧ KAt w0 w' b o l room []) := by
 go_enter Tryz.func15, Tryz.ntmps15
 refine_lift rF ?_; intro _ _ _
 refine aT (vs := [aH o, v]) rfl rfl ?_
 intro p w1 x1 hp
 refine aA ?_
 have hv1 := hv.ext x1
 refine_lift bS fun _ _ => ?_
 refine aB (enters_of Tryz.func41 rfl rfl) rfl rfl (vG o v l _ hv1 hb hd) ?_; intro w2 x2; refine aA ?_
 have hx2 := x1.trans x2
 have hp2 := hp.ext x2
 have hv2 := hv1.ext x2
 refine_lift JH (fun _ _ _ hc _ => ?_) (fun _ hc _ _ _ => ?_) (fun _ _ _ hc => ?_) (fun _ => ?_)
 ·have q : ¬ aQ o l = 0 := by simpa using (by assumption : (!decide (aQ o l = 0)) = true)
  have hE : iW o l room = aQ o l := by rw [iW, if_pos q]
  go_ret2
  exact .inl ⟨by rw [hE]; exact q, by rw [hE]; rfl, hx2⟩
 ·have hE : iW o l room = 1 := by
   have q : aQ o l = 0 := by simpa using (by assumption : (!decide (aQ o l = 0)) = false)
   rw [iW, if_neg (by simp [q]), if_pos (by omega)]
  go_ret2
  exact .inl ⟨by rw [hE]; decide, by rw [hE]; rfl, hx2⟩
 ·have q : aQ o l = 0 := by simpa using (by assumption : (!decide (aQ o l = 0)) = false)
  have hE : iW o l room = 0 := by
   have h1 := ‹¬ room < 0›
   have h2 := ‹room ≤ 20›
   rw [iW, if_neg (by simp [q]), if_neg (by omega)]
  refine aI (enters_of Tryz.func20 rfl rfl) rfl rfl (AX o v l _ hv2 hl hb) ?_
  rintro r w3 x3 ⟨y, rfl, hy⟩
  obtain ⟨ya, yn, yc, hys⟩ := hy.slf
  refine aA ?_
  refine_lift aP ?_
  refine aU (v := .agg (jC o y room (.slice none 0 0)).toArray) rfl (Runs.build (vals := [(0, .agg #[aH o, y]), (1, .int .i64 room)]) rfl (by rw [hys]; kernel_rfl)) ?_
  refine aA ?_
  refine dL (vs := jC o y room (.slice none 0 0)) rfl rfl ?_
  intro w4 x4 s4 b4
  refine aA ?_
  refine_lift aP ?_
  go_ret2
  have hx3 := hx2.trans x3
  have hz := h0.size
  have hz3 := hx3.size
  have hz2 := hx2.size
  exact .inr ⟨hE, w3.heap.size, rfl, hx3.trans x4, by omega, h0.trans (hx3.trans x4), y, _, b4, (hy.ext x4).weaken (by omega), DelsK.nil _ _⟩
 ·have hE : iW o l room = 1 := by
   have q : aQ o l = 0 := by simpa using (by assumption : (!decide (aQ o l = 0)) = false)
   rw [iW, if_neg (by simp [q]), if_pos (by omega)]
  go_ret2
  exact .inl ⟨by rw [hE]; decide, by rw [hE]; rfl, hx2⟩
theorem DelsV.each {B : Nat} {w : World} {v : Value} {ds : List DeltaR} (h : DelsV B w v ds) : ∃ css, Sl 4 w v css ∧ css.length = ds.length ∧ ∀ (i : Nat) (d : DeltaR), ds[i]? = some d → ∃ g n, css[i]? = some [.int .i64 d.fr, .int .i64 d.to, g, n] ∧ Sl 4 w g (aC d.gone) ∧ Sl 4 w n (aC d.new) := by
 obtain ⟨css, a, b, c⟩ := h
 exact ⟨css, a.sl, b, fun i d hi => let ⟨g, n, e, p, q⟩ := c i d hi; ⟨g, n, e, p.sl, q.sl⟩⟩
theorem DelsK.each {B : Nat} {w : World} {v : Value} {ds : List DeltaR} (h : DelsK B w v ds) : ∃ css, Sl 4 w v css ∧ css.length = ds.length ∧ ∀ (i : Nat) (d : DeltaR), ds[i]? = some d → ∃ g n, css[i]? = some [.int .i64 d.fr, .int .i64 d.to, g, n] ∧ Sl 4 w g (aC d.gone) ∧ Sl 4 w n (aC d.new) := by
 obtain ⟨css, a, b, c⟩ := h
 exact ⟨css, a.sl, b, fun i d hi => let ⟨g, n, e, p, q⟩ := c i d hi; ⟨g, n, e, p.sl, q.sl⟩⟩
end Go.Proofs.X
