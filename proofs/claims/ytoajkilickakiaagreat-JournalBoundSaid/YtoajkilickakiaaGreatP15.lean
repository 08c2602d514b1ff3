/- Laws and walks that the proof of the statement is made of (part 15). -/
import Derived.Test.YtoajkilickakiaaGreatProg
import Derived.Test.YtoajkilickakiaaGreatShelf
import Derived.Shelf.SlSortCmp.NoneTotal
import Derived.Shelf.RegionOpenPlain
import Derived.Lib.Strings
import Derived.Lib.Slices
import Derived.Lib.Walk
import Derived.Lib.Builder
import Derived.Lib.AppendStr
import Derived.Lib.UnsafeStr
import Derived.Lib.MakeNoZero
import Derived.WalkKit
import Derived.Laws.Externs
import Derived.Laws.IdiomCopy
import Derived.Laws.BitsLemmas
import GoSem.Claims
import Derived.Lib.Hide
import Derived.OwnWalk
import Derived.OrdersIn
import Derived.LoopIn
import Derived.Laws.Pointers
import Derived.Test.YtoajkilickakiaaGreatP1
import Derived.Test.YtoajkilickakiaaGreatP2
import Derived.Test.YtoajkilickakiaaGreatP3
import Derived.Test.YtoajkilickakiaaGreatP4
import Derived.Test.YtoajkilickakiaaGreatP5
import Derived.Test.YtoajkilickakiaaGreatP6
import Derived.Test.YtoajkilickakiaaGreatP9
import Derived.Test.YtoajkilickakiaaGreatP10
import Derived.Test.YtoajkilickakiaaGreatP11
import Derived.Test.YtoajkilickakiaaGreatP12
import Derived.Test.YtoajkilickakiaaGreatP13
import Derived.Test.YtoajkilickakiaaGreatP14
set_option linter.unusedSimpArgs false
set_option linter.unusedVariables false
namespace Go.Proofs.X
open Go.RowKit
set_option maxRecDepth 100000
structure DelsK (B : Nat) (w : World) (v : Value) (ds : List DeltaR) : Prop where
  out : ∃ css, OwnOff B 4 34 w v css ∧ css.length = ds.length ∧ ∀ (i : Nat) (d : DeltaR), ds[i]? = some d → ∃ g n, css[i]? = some [.int .i64 d.fr, .int .i64 d.to, g, n] ∧ Own B 4 75 w g (rcells d.gone) ∧ Own B 4 75 w n (rcells d.new)
theorem DelsK.nil (B : Nat) (w : World) : DelsK B w (.slice none 0 0) [] := ⟨[], OwnOff.nil _ _ _ _, rfl, by simp⟩
theorem DelsK.ext {B : Nat} {w w' : World} {v : Value} {ds : List DeltaR} (h : DelsK B w v ds) (hx : Ext w w') : DelsK B w' v ds := by
  obtain ⟨css, h1, h2, h3⟩ := h
  exact ⟨css, h1.ext hx, h2, fun i d hi => let ⟨g, n, a, b, c⟩ := h3 i d hi; ⟨g, n, a, b.ext hx, c.ext hx⟩⟩
theorem DelsK.put {B b t : Nat} {w w' : World} {v : Value} {ds : List DeltaR} {cs : Array Value} {fz : Nat × Nat} {o : Obj} (h : DelsK B w v ds) (hb : w.heap[b]? = some (.cells cs t fz)) (h1 : t ≠ 34) (h2 : t ≠ 75) (hp : Put w w' b o) : DelsK B w' v ds := by
  obtain ⟨css, a, c, e⟩ := h
  exact ⟨css, a.mv hp.mv (.inr (a.neBlock hb h1)), c, fun i d hi => let ⟨g, n, x, y, z⟩ := e i d hi; ⟨g, n, x, y.mv hp.mv (.inr (y.neBlock hb h2)), z.mv hp.mv (.inr (z.neBlock hb h2))⟩⟩
theorem DelsK.len {B : Nat} {w : World} {v : Value} {ds : List DeltaR} (h : DelsK B w v ds) : ∃ css, Sl 4 w v css ∧ css.length = ds.length := let ⟨css, a, c, _⟩ := h; ⟨css, a.sl, c⟩
structure KAt (w0 w : World) (b : Nat) (o : List UInt8) (l : List RSet) (room : Int) (ds : List DeltaR) : Prop where
  ge : w0.heap.size ≤ b
  ext : Ext w0 w
  out : ∃ v dv, w.heap[b]? = some (.cells (jC o v room dv).toArray 92 (0, 0)) ∧ SetsV w0.heap.size w v l ∧ DelsK w0.heap.size w dv ds
theorem KAt.grow {w0 w w' : World} {b : Nat} {o : List UInt8} {l : List RSet} {room : Int} {ds : List DeltaR} (h : KAt w0 w b o l room ds) (hx : Ext w w') : KAt w0 w' b o l room ds := by
  obtain ⟨h1, h2, v, dv, h3, h4, h5⟩ := h
  exact ⟨h1, h2.trans hx, v, dv, hx.at h3, h4.ext hx, h5.ext hx⟩
theorem k_pts {w : World} {b : Nat} {o : List UInt8} {v dv : Value} {room : Int} (h : w.heap[b]? = some (.cells (jC o v room dv).toArray 92 (0, 0))) :
    Pts w (.pointer (some ⟨b, 0, none⟩)) (jC o v room dv) ∧ Pts w (partPtr (.pointer (some ⟨b, 0, none⟩)) 0) [str o, v] := by
  have hp := pts_block h
  exact ⟨hp, (hp.part 0).front 2⟩
def KeptK (b : Nat) (w w' : World) : Prop := ∀ c o, w.heap[c]? = some o → c ≠ b → (∀ cs fz, o ≠ .cells cs 34 fz) → w'.heap[c]? = some o
theorem KeptK.of {b : Nat} {w w' : World} (h : Ext w w') : KeptK b w w' := fun c o hc _ _ => h.at hc
theorem KeptK.trans {b : Nat} {w w' w'' : World} (h : KeptK b w w') (k : KeptK b w' w'') : KeptK b w w'' := fun c o hc hn ht => k c o (h c o hc hn ht) hn ht
theorem KeptK.mv {b B : Nat} {w w' : World} {v : Value} {es : List (List Value)} (ho : OwnOff B 4 34 w v es) (hm : Mv v.ownBlock w w') : KeptK b w w' := fun c o hc _ ht => by
  refine hm.at hc fun e => ?_
  obtain ⟨_, _, cur, fz, h⟩ := ho.type e.symm
  rw [hc] at h
  exact ht _ _ (Option.some.inj h)
theorem KeptK.put {b : Nat} {w w' : World} {o : Obj} (hp : Put w w' b o) : KeptK b w w' := fun c o hc hn _ => hp.mv.at hc (fun e => hn (Option.some.inj e))
theorem DelsK.add {B : Nat} {w w' : World} {v v' g n : Value} {ds : List DeltaR} {D : DeltaR} {css : List (List Value)} (h1 : OwnOff B 4 34 w v css) (h2 : css.length = ds.length)
    (h3 : ∀ (i : Nat) (d : DeltaR), ds[i]? = some d → ∃ g n, css[i]? = some [.int .i64 d.fr, .int .i64 d.to, g, n] ∧ Own B 4 75 w g (rcells d.gone) ∧ Own B 4 75 w n (rcells d.new)) (hm : Mv v.ownBlock w w')
    (o : OwnOff B 4 34 w' v' (css ++ [[.int .i64 D.fr, .int .i64 D.to, g, n]])) (hg : Own B 4 75 w g (rcells D.gone)) (hn : Own B 4 75 w n (rcells D.new)) : DelsK B w' v' (ds ++ [D]) := by
  refine ⟨_, o, by simp [h2], fun i d hi => ?_⟩
  rw [List.getElem?_append] at hi ⊢
  rw [h2]
  split at hi
  · rw [if_pos ‹_›]
    obtain ⟨x, y, a, b, c⟩ := h3 i d hi
    exact ⟨x, y, a, b.mv hm (h1.neOwn b (by decide)), c.mv hm (h1.neOwn c (by decide))⟩
  · rw [if_neg ‹_›]
    have hi0 : i - ds.length = 0 := by
      have := (List.getElem?_eq_some_iff.1 hi).1
      simpa using this
    rw [hi0] at hi ⊢
    cases hi
    exact ⟨g, n, rfl, hg.mv hm (h1.neOwn hg (by decide)), hn.mv hm (h1.neOwn hn (by decide))⟩
theorem DelsK.drop {B : Nat} {w : World} {v : Value} {ds : List DeltaR} (h : DelsK B w v ds) {m : Nat} (hm : m ≤ ds.length) : DelsK B w (cutSl v 4 m ds.length) (ds.drop m) := by
  obtain ⟨css, h1, h2, h3⟩ := h
  rw [← h2] at hm ⊢
  refine ⟨_, h1.drop hm, by simp [h2], fun i d hi => ?_⟩
  rw [List.getElem?_drop] at hi ⊢
  exact h3 _ d hi
theorem DelsK.below {B b : Nat} {w w' : World} {v : Value} {ds : List DeltaR} {o : Obj} (h : DelsK B w v ds) (hp : Put w w' b o) (hb : b < B) : DelsK B w' v ds := by
  obtain ⟨css, a, c, e⟩ := h
  refine ⟨css, a.mv hp.mv ?_, c, fun i d hi => let ⟨g, n, x, y, z⟩ := e i d hi; ⟨g, n, x, y.put hp hb, z.put hp hb⟩⟩
  cases hv : v.ownBlock with
  | none => exact .inl rfl
  | some r => have := (a.type hv).1; exact .inr (fun e => by have := Option.some.inj e; omega)
theorem DelsK.weaken {B C : Nat} {w : World} {v : Value} {ds : List DeltaR} (h : DelsK B w v ds) (hc : C ≤ B) : DelsK C w v ds := by
  obtain ⟨css, a, c, e⟩ := h
  exact ⟨css, a.weaken hc, c, fun i d hi => let ⟨g, n, x, y, z⟩ := e i d hi; ⟨g, n, x, y.weaken hc, z.weaken hc⟩⟩

theorem KeptK.keep {b t0 : Nat} {w w' : World} {cs : Array Value} {fz : Nat × Nat} (h : KeptK b w w') (hb : w.heap[b]? = some (.cells cs t0 fz)) : Keep [t0, 34] w w' := fun c ds t f hc ht => by
  refine h c _ hc ?_ ?_
  · rintro rfl
    rw [hb] at hc
    simp only [Option.some.injEq, Obj.cells.injEq] at hc
    exact ht (by simp [hc.2.1])
  · intro cs' fz' e
    simp only [Obj.cells.injEq] at e
    exact ht (by simp [e.2.1])
theorem DelsV.keep {T : List TypeId} {B : Nat} {w w' : World} {v : Value} {ds : List DeltaR} (h : DelsV B w v ds) (hk : Keep T w w') (h1 : 30 ∉ T) (h2 : 75 ∉ T) : DelsV B w' v ds := by
  obtain ⟨css, a, b, c⟩ := h
  exact ⟨css, a.keep hk h1, b, fun i d hi => let ⟨g, n, e, p, q⟩ := c i d hi; ⟨g, n, e, p.keep hk h2, q.keep hk h2⟩⟩
theorem DelsK.keep {T : List TypeId} {B : Nat} {w w' : World} {v : Value} {ds : List DeltaR} (h : DelsK B w v ds) (hk : Keep T w w') (h1 : 34 ∉ T) (h2 : 75 ∉ T) : DelsK B w' v ds := by
  obtain ⟨css, a, b, c⟩ := h
  exact ⟨css, a.keep hk h1, b, fun i d hi => let ⟨g, n, e, p, q⟩ := c i d hi; ⟨g, n, e, p.keep hk h2, q.keep hk h2⟩⟩
theorem JAt.keep {T : List TypeId} {w0 w w' : World} {b : Nat} {o : List UInt8} {l : List RSet} {room : Int} {ds : List DeltaR} (h : JAt w0 w b o l room ds) (hk : Keep T w w') (hx : Ext w0 w') (h1 : 139 ∉ T) (h2 : 30 ∉ T) (h3 : 75 ∉ T) (h4 : 55 ∉ T) (h5 : 9 ∉ T) : JAt w0 w' b o l room ds := by
  obtain ⟨g, _, v, dv, a, b, c⟩ := h
  exact ⟨g, hx, v, dv, hk _ _ _ _ a h1, b.keep hk h4 h5, c.keep hk h2 h3⟩
theorem KAt.keep {T : List TypeId} {w0 w w' : World} {b : Nat} {o : List UInt8} {l : List RSet} {room : Int} {ds : List DeltaR} (h : KAt w0 w b o l room ds) (hk : Keep T w w') (hx : Ext w0 w') (h1 : 92 ∉ T) (h2 : 34 ∉ T) (h3 : 75 ∉ T) (h4 : 55 ∉ T) (h5 : 9 ∉ T) : KAt w0 w' b o l room ds := by
  obtain ⟨g, _, v, dv, a, b, c⟩ := h
  exact ⟨g, hx, v, dv, hk _ _ _ _ a h1, b.keep hk h4 h5, c.keep hk h2 h3⟩
theorem r11_Serial {w0 w : World} {b : Nat} {o : List UInt8} {l : List RSet} {room : Int} {ds : List DeltaR} (h : KAt w0 w b o l room ds) (hb : ∀ s ∈ l, s.data.length ≤ 1000000) (hd : ∀ s ∈ l, ∀ d ∈ s.data, d.length ≤ 4611686018427387904) :
    Calls Tryz.prog 57 #[.pointer (some ⟨b, 0, none⟩)] w (RetV w (.int .i64 (soaZ o l).serial)) := by
  obtain ⟨v, dv, hbk, hs, hds⟩ := h.out
  obtain ⟨hp, hp0⟩ := k_pts hbk
  go_enter Tryz.func57, Tryz.ntmps57
  repeat' (first | ((with_reducible refine o_s ?_); (first | (refine o_1 ?_; refine o_2 ?_) | (refine o_g ?_; first | refine o_u ?_ | refine o_k ?_ | refine o_n ?_ | refine o_v ?_ | ((first | refine o_G ?_ ?_ | refine o_N ?_ ?_) <;> intro hc)))) | ((fail_if_success (with_reducible refine o_s ?_)); go_step))
  refine wpl_callV (enters_of Tryz.func68 rfl rfl) rfl rfl (r8_Soa o v l _ hs.sets hb hd) ?_; intro w1 x1; refine gset ?_
  repeat' (first | ((with_reducible refine o_s ?_); (first | (refine o_1 ?_; refine o_2 ?_) | (refine o_g ?_; first | refine o_u ?_ | refine o_k ?_ | refine o_n ?_ | refine o_v ?_ | ((first | refine o_G ?_ ?_ | refine o_N ?_ ?_) <;> intro hc)))) | ((fail_if_success (with_reducible refine o_s ?_)); go_step))
  refine wpl_allocB (z := zeroSoa) rfl (by decide +kernel) ?_
  intro w2 x2 s2 h2
  refine gset ?_
  refine wpl_storeB (v := .agg (soaZ o l).cells.toArray) rfl rfl rfl h2 (show sizeTy Tryz.prog 103 7 = true by decide +kernel) rfl (soaR_one _) ?_
  intro w3 p3
  have x3 : Ext w1 w3 := x2.move p3.mv (by rintro k ⟨⟩; exact Nat.le_refl _)
  have hs3 := pts_block (cs := (soaZ o l).cells) p3.this
  repeat' (first | ((with_reducible refine o_s ?_); (first | (refine o_1 ?_; refine o_2 ?_) | (refine o_g ?_; first | refine o_u ?_ | refine o_k ?_ | refine o_n ?_ | refine o_v ?_ | ((first | refine o_G ?_ ?_ | refine o_N ?_ ?_) <;> intro hc)))) | ((fail_if_success (with_reducible refine o_s ?_)); go_step))
  go_ret
  exact ⟨rfl, x1.trans x3⟩
theorem r11_New {w0 : World} (o : List UInt8) (v : Value) (l : List RSet) (room : Int) (w : World) (h0 : Ext w0 w) (hv : SetsAt w v l) (hl : l.length ≤ 100000) (hb : ∀ s ∈ l, s.data.length ≤ 1000000) (hd : ∀ s ∈ l, ∀ d ∈ s.data, d.length ≤ 4611686018427387904) :
    Calls Tryz.prog 53 #[.agg #[str o, v], .int .i64 room] w fun e w' => (newE o l room ≠ 0 ∧ e = .returned (.tuple #[.pointer none, .int .i64 (newE o l room)]) ∧ Ext w w') ∨
      (newE o l room = 0 ∧ ∃ b, e = .returned (.tuple #[.pointer (some ⟨b, 0, none⟩), .int .i64 0]) ∧ Ext w w' ∧ KAt w0 w' b o l room []) := by
  go_enter Tryz.func53, Tryz.ntmps53
  repeat' ((fail_if_success (with_reducible refine o_s ?_)); go_step)
  refine wpl_box (vs := [str o, v]) rfl rfl ?_
  intro p w1 x1 hp
  refine gset ?_
  have hv1 := hv.ext x1
  repeat' (first | ((with_reducible refine o_s ?_); (first | (refine o_1 ?_; refine o_2 ?_) | (refine o_g ?_; first | refine o_u ?_ | refine o_k ?_ | refine o_n ?_ | refine o_v ?_ | ((first | refine o_G ?_ ?_ | refine o_N ?_ ?_) <;> intro hc)))) | ((fail_if_success (with_reducible refine o_s ?_)); go_step))
  refine wpl_callV (enters_of Tryz.func101 rfl rfl) rfl rfl (r8_Check o v l _ hv1 hb hd) ?_; intro w2 x2; refine gset ?_
  have hx2 := x1.trans x2
  have hp2 := hp.ext x2
  have hv2 := hv1.ext x2
  repeat' (first | ((with_reducible refine o_s ?_); (first | (refine o_1 ?_; refine o_2 ?_) | (refine o_g ?_; first | refine o_u ?_ | refine o_k ?_ | refine o_n ?_ | refine o_v ?_ | ((first | refine o_G ?_ ?_ | refine o_N ?_ ?_) <;> intro hc)))) | ((fail_if_success (with_reducible refine o_s ?_)); go_step))
  · have q : ¬ zoneR o l = 0 := by simpa using (by assumption : (!decide (zoneR o l = 0)) = true)
    have hE : newE o l room = zoneR o l := by rw [newE, if_pos q]
    go_ret2
    exact .inl ⟨by rw [hE]; exact q, by rw [hE]; rfl, hx2⟩
  · have hE : newE o l room = 1 := by
      have q : zoneR o l = 0 := by simpa using (by assumption : (!decide (zoneR o l = 0)) = false)
      rw [newE, if_neg (by simp [q]), if_pos (by omega)]
    go_ret2
    exact .inl ⟨by rw [hE]; decide, by rw [hE]; rfl, hx2⟩
  · have q : zoneR o l = 0 := by simpa using (by assumption : (!decide (zoneR o l = 0)) = false)
    have hE : newE o l room = 0 := by
      have h1 := ‹¬ room < 0›
      have h2 := ‹room ≤ 20›
      rw [newE, if_neg (by simp [q]), if_neg (by omega)]
    refine wpl_callR (enters_of Tryz.func27 rfl rfl) rfl rfl (r8_Copy o v l _ hv2 hl hb) ?_
    rintro r w3 x3 ⟨y, rfl, hy⟩
    obtain ⟨ya, yn, yc, hys⟩ := hy.slf
    refine gset ?_
    repeat' (first | ((with_reducible refine o_s ?_); (first | (refine o_1 ?_; refine o_2 ?_) | (refine o_g ?_; first | refine o_u ?_ | refine o_k ?_ | refine o_n ?_ | refine o_v ?_ | ((first | refine o_G ?_ ?_ | refine o_N ?_ ?_) <;> intro hc)))) | ((fail_if_success (with_reducible refine o_s ?_)); go_step))
    refine wpl_run (v := .agg (jC o y room (.slice none 0 0)).toArray) rfl (Runs.build (vals := [(0, .agg #[str o, y]), (1, .int .i64 room)]) rfl (by rw [hys]; kernel_rfl)) ?_
    refine gset ?_
    refine wpl_boxB (vs := jC o y room (.slice none 0 0)) rfl rfl ?_
    intro w4 x4 s4 b4
    refine gset ?_
    repeat' (first | ((with_reducible refine o_s ?_); (first | (refine o_1 ?_; refine o_2 ?_) | (refine o_g ?_; first | refine o_u ?_ | refine o_k ?_ | refine o_n ?_ | refine o_v ?_ | ((first | refine o_G ?_ ?_ | refine o_N ?_ ?_) <;> intro hc)))) | ((fail_if_success (with_reducible refine o_s ?_)); go_step))
    go_ret2
    have hx3 := hx2.trans x3
    have hz := h0.size
    have hz3 := hx3.size
    have hz2 := hx2.size
    exact .inr ⟨hE, w3.heap.size, rfl, hx3.trans x4, by omega, h0.trans (hx3.trans x4), y, _, b4, (hy.ext x4).weaken (by omega), DelsK.nil _ _⟩
  · have hE : newE o l room = 1 := by
      have q : zoneR o l = 0 := by simpa using (by assumption : (!decide (zoneR o l = 0)) = false)
      rw [newE, if_neg (by simp [q]), if_pos (by omega)]
    go_ret2
    exact .inl ⟨by rw [hE]; decide, by rw [hE]; rfl, hx2⟩
theorem DelsV.each {B : Nat} {w : World} {v : Value} {ds : List DeltaR} (h : DelsV B w v ds) : ∃ css, Sl 4 w v css ∧ css.length = ds.length ∧ ∀ (i : Nat) (d : DeltaR), ds[i]? = some d → ∃ g n, css[i]? = some [.int .i64 d.fr, .int .i64 d.to, g, n] ∧ Sl 4 w g (rcells d.gone) ∧ Sl 4 w n (rcells d.new) := by
  obtain ⟨css, a, b, c⟩ := h
  exact ⟨css, a.sl, b, fun i d hi => let ⟨g, n, e, p, q⟩ := c i d hi; ⟨g, n, e, p.sl, q.sl⟩⟩
theorem DelsK.each {B : Nat} {w : World} {v : Value} {ds : List DeltaR} (h : DelsK B w v ds) : ∃ css, Sl 4 w v css ∧ css.length = ds.length ∧ ∀ (i : Nat) (d : DeltaR), ds[i]? = some d → ∃ g n, css[i]? = some [.int .i64 d.fr, .int .i64 d.to, g, n] ∧ Sl 4 w g (rcells d.gone) ∧ Sl 4 w n (rcells d.new) := by
  obtain ⟨css, a, b, c⟩ := h
  exact ⟨css, a.sl, b, fun i d hi => let ⟨g, n, e, p, q⟩ := c i d hi; ⟨g, n, e, p.sl, q.sl⟩⟩
set_option maxHeartbeats 2000000 in
theorem l11_same {B C : Nat} {w : World} {u v : Value} {ds : List DeltaR} (hu : DelsV B w u ds) (hv : DelsK C w v ds) : Calls Tryz.prog 61 #[u, v] w (RetV w (.bool true)) := by
  obtain ⟨c1, s1, l1, e1⟩ := hu.each
  obtain ⟨c2, s2, l2, e2⟩ := hv.each
  have hl1 := s1.le
  go_enter Tryz.func61, Tryz.ntmps61
  repeat' (first | ((with_reducible refine o_s ?_); (first | (refine o_1 ?_; refine o_2 ?_) | (refine o_g ?_; first | refine o_u ?_ | refine o_k ?_ | refine o_n ?_ | refine o_v ?_ | ((first | refine o_G ?_ ?_ | refine o_N ?_ ?_) <;> intro hc)))) | ((fail_if_success (with_reducible refine o_s ?_)); go_step))
  · exfalso
    have h1 := ‹(!decide ((c1.length : Int) = (c2.length : Int))) = true›
    simp [l1, l2] at h1
  go_loopw [5] (fun i wr => ∃ k : Nat, k ≤ ds.length ∧ i = .int .i64 k ∧ Ext w wr) (fun i _ => ds.length - (intOf i).toNat)
  case atStart => exact ⟨0, Nat.zero_le _, rfl, Ext.refl _⟩
  case round =>
    obtain ⟨k, hk, rfl, hx⟩ := hrel
    by_cases hlt : k < ds.length
    · obtain ⟨g, n, hc, sg, sn⟩ := e1 k _ (List.getElem?_eq_getElem hlt)
      obtain ⟨g', n', hc', sg', sn'⟩ := e2 k _ (List.getElem?_eq_getElem hlt)
      have t1 := s1.ext hx
      have t2 := s2.ext hx
      have p1 := t1.elem hc
      have p2 := t2.elem hc'
      have k1 : k < c1.length := by omega
      have k2 : k < c2.length := by omega
      repeat' (first | ((with_reducible refine o_s ?_); (first | (refine o_1 ?_; refine o_2 ?_) | (refine o_g ?_; first | refine o_u ?_ | refine o_k ?_ | refine o_n ?_ | refine o_v ?_ | ((first | refine o_G ?_ ?_ | refine o_N ?_ ?_) <;> intro hc)))) | ((fail_if_success (with_reducible refine o_s ?_)); go_step))
      refine wpq_region (by decide +kernel) (by decide +kernel) ?_
      repeat' (first | ((with_reducible refine q_s ?_); (first | (refine q_1 ?_; refine q_2 ?_) | (refine q_g ?_; first | refine q_u ?_ | refine q_k ?_ | refine q_v ?_))) | (with_reducible refine q_n ?_))
      have d1 : ∀ w', Ext wr w' → DelA ds[k] (.agg #[.int .i64 ds[k].fr, .int .i64 ds[k].to, g, n]) w' := fun w' x' => ⟨g, n, rfl, sg.ext (hx.trans x'), sn.ext (hx.trans x')⟩
      have d2 : ∀ w', Ext wr w' → DelA ds[k] (.agg #[.int .i64 ds[k].fr, .int .i64 ds[k].to, g', n']) w' := fun w' x' => ⟨g', n', rfl, sg'.ext (hx.trans x'), sn'.ext (hx.trans x')⟩
      refine wpq_call (enters_of Tryz.func24 rfl rfl) rfl rfl (fun w' x' => l10_Told w' (d1 w' x')) ?_
      refine gset ?_
      repeat' (first | ((with_reducible refine q_s ?_); (first | (refine q_1 ?_; refine q_2 ?_) | (refine q_g ?_; first | refine q_u ?_ | refine q_k ?_ | refine q_v ?_))) | (with_reducible refine q_n ?_))
      refine wpq_call (enters_of Tryz.func23 rfl rfl) rfl rfl (fun w' x' => r10_Same w' (d1 w' x') (d2 w' x')) ?_
      refine gset ?_
      repeat' (first | ((with_reducible refine q_s ?_); (first | (refine q_1 ?_; refine q_2 ?_) | (refine q_g ?_; first | refine q_u ?_ | refine q_k ?_ | refine q_v ?_))) | (with_reducible refine q_n ?_))
      intro w2 x2
      repeat' (first | ((with_reducible refine o_s ?_); (first | (refine o_1 ?_; refine o_2 ?_) | (refine o_g ?_; first | refine o_u ?_ | refine o_k ?_ | refine o_n ?_ | refine o_v ?_ | ((first | refine o_G ?_ ?_ | refine o_N ?_ ?_) <;> intro hc)))) | ((fail_if_success (with_reducible refine o_s ?_)); go_step))
      exact ⟨⟨k + 1, by omega, by go_num, hx.trans x2⟩, by simp [intOf]; omega⟩
    · have k1 : k = c1.length := by omega
      repeat' (first | ((with_reducible refine o_s ?_); (first | (refine o_1 ?_; refine o_2 ?_) | (refine o_g ?_; first | refine o_u ?_ | refine o_k ?_ | refine o_n ?_ | refine o_v ?_ | ((first | refine o_G ?_ ?_ | refine o_N ?_ ?_) <;> intro hc)))) | ((fail_if_success (with_reducible refine o_s ?_)); go_step))
      go_ret
      exact ⟨rfl, hx⟩
set_option maxHeartbeats 12000000 in
theorem r7_Records (v : Value) (l : List RSet) (w : World) (hv : SetsAt w v l) (hb : (recordsS l).length ≤ 100000) : Calls Tryz.prog 69 #[v] w (Ret w fun r w' => Own w.heap.size 4 75 w' r (rcells (recordsS l))) := by
  obtain ⟨cv, hv1, hvl⟩ := hv.sl
  have hle := hv1.le
  go_enter Tryz.func69, Tryz.ntmps69
  repeat' (first | ((with_reducible refine o_s ?_); (first | (refine o_1 ?_; refine o_2 ?_) | (refine o_g ?_; first | refine o_u ?_ | refine o_k ?_ | refine o_n ?_ | refine o_v ?_ | ((first | refine o_G ?_ ?_ | refine o_N ?_ ?_) <;> intro hc)))) | ((fail_if_success (with_reducible refine o_s ?_)); go_step))
  go_loopw [3, 4, 5] (fun o i _ wr => ∃ k : Nat, k ≤ l.length ∧ i = .int .i64 k ∧ Ext w wr ∧ Own w.heap.size 4 75 wr o (rcells (recsP l k))) (fun _ i _ _ => l.length - (intOf i).toNat)
  case atStart => exact ⟨0, Nat.zero_le _, rfl, Ext.refl _, Own.nil _ _ _ _⟩
  case round =>
    obtain ⟨k, hk, rfl, hx, ho⟩ := hrel
    have hv2 := hv1.ext hx
    by_cases hlt : k < l.length
    · obtain ⟨x, h4, h4d⟩ := hv.elem (List.getElem?_eq_getElem hlt)
      have hdl := tcells_length l[k].data
      have hdle := h4d.le
      repeat' (first | ((with_reducible refine o_s ?_); (first | (refine o_1 ?_; refine o_2 ?_) | (refine o_g ?_; first | refine o_u ?_ | refine o_k ?_ | refine o_n ?_ | refine o_v ?_ | ((first | refine o_G ?_ ?_ | refine o_N ?_ ?_) <;> intro hc)))) | ((fail_if_success (with_reducible refine o_s ?_)); go_step))
      go_loopw [3, 5] (fun o i wq => ∃ j : Nat, j ≤ l[k].data.length ∧ i = .int .i64 j ∧ Ext w wq ∧ Own w.heap.size 4 75 wq o (rcells (recsP l k ++ (l[k].data.take j).map (recOf l[k])))) (fun _ i _ => l[k].data.length - (intOf i).toNat)
      case atStart => exact ⟨0, Nat.zero_le _, rfl, hx, by simpa using ho⟩
      case round =>
        obtain ⟨j, hj, rfl, hxq, hoq⟩ := hrel
        have hv3 := hv1.ext hxq
        have h4q := h4.ext hxq
        have h4dq := h4d.ext hxq
        by_cases hlt2 : j < l[k].data.length
        · have h3 := h4d.elem (tcells_at hlt2)
          have hle1 := recsP_le l (k + 1)
          rw [recsP_succ hlt, List.length_append] at hle1
          have hle2 : (recsOf l[k]).length = l[k].data.length := by simp [recsOf]
          have hcl : (rcells (recsP l k ++ (l[k].data.take j).map (recOf l[k]))).length = (recsP l k).length + j := by simp [rcells]; omega
          repeat' (first | ((with_reducible refine o_s ?_); (first | (refine o_1 ?_; refine o_2 ?_) | (refine o_g ?_; first | refine o_u ?_ | refine o_k ?_ | refine o_n ?_ | refine o_v ?_ | ((first | refine o_G ?_ ?_ | refine o_N ?_ ?_) <;> intro hc)))) | ((fail_if_success (with_reducible refine o_s ?_)); go_step))
          clear hv2 hv3 h4q h4dq
          refine wph_region (S := fun w' => Ext w w') (by decide +kernel) ?_
          intro w5 x5 hh5
          refine tk 0 ?_; refine gset ?_; refine tk 1 ?_; refine gset ?_; refine tk 2 ?_; refine gset ?_; refine tk 3 ?_; refine gset ?_; refine tk 4 ?_; refine gset ?_; refine tk 5 ?_; refine gset ?_; refine tk 6 ?_; refine gset ?_; refine tk 7 ?_; refine gset ?_; refine tk 8 ?_; refine gset ?_; refine tk 9 ?_; refine gset ?_; refine tk 10 ?_; refine gset ?_; refine tk 11 ?_; refine gset ?_; refine tk 12 ?_; refine gset ?_; refine tk 13 ?_; refine gset ?_; refine tk 14 ?_; refine gset ?_; refine tk 15 ?_; refine gset ?_; refine tk 16 ?_; refine gset ?_; refine tk 17 ?_; refine gset ?_; refine tk 18 ?_; refine gset ?_; refine tk 19 ?_; refine gset ?_; refine tk 20 ?_; refine gset ?_; refine tk 21 ?_; refine gset ?_; refine tk 22 ?_; refine gset ?_; refine tk 23 ?_; refine gset ?_
          refine wph_take (i := 24) (v := .agg #[str l[k].name, .int .i64 l[k].kind, .int .i64 l[k].ttl, str l[k].data[j]]) rfl rfl (by decide +kernel) (by decide +kernel) (by decide +kernel) rfl (hxq.trans x5) (fun w' _ => Runs.build rfl (by kernel_rfl)) (fun _ _ _ h => h) ?_
          refine gset ?_
          refine wph_one (i := 25) (by decide +kernel) rfl rfl ?_
          refine wpl_slice (e := 75) (k := 4) (bytes := 48) (xs := [.agg #[str l[k].name, .int .i64 l[k].kind, .int .i64 l[k].ttl, str l[k].data[j]]]) rfl rfl rfl (by simp [Value.cells]) (by decide +kernel) (by simp) ?_
          intro v8 w8 x8 s8 sl8 _
          refine gset ?_
          have hx8 := (hxq.trans x5).trans x8
          refine wph_nil ⟨hx8, ?_⟩
          refine wph_one (i := 26) (by decide +kernel) rfl rfl ?_
          have ho8 := (hoq.ext x5).ext x8
          refine wpl_appendO (B := w.heap.size) (e := 75) (k := 4) rfl ho8 rfl sl8 (by simp [Value.cells, str, Value.oneCell']) hx8.size (by rw [hcl]; simp; omega) ?_
          intro v9 w9 o9 m9 k9
          refine gset ?_
          have x9 : Ext w w9 := ho8.mvx m9 hx8 (Nat.le_refl _)
          have o9 : Own w.heap.size 4 75 w9 v9 (rcells (recsP l k ++ (l[k].data.take (j + 1)).map (recOf l[k]))) := by
            rw [map_take_succ hlt2, ← List.append_assoc]
            simpa [rcells, Rec.cells, recOf, Value.cells] using o9
          refine wph_nil ⟨x9, ?_⟩
          refine wph_one (i := 27) (by decide +kernel) rfl rfl ?_
          repeat' (first | ((with_reducible refine o_s ?_); (first | (refine o_1 ?_; refine o_2 ?_) | (refine o_g ?_; first | refine o_u ?_ | refine o_k ?_ | refine o_n ?_ | refine o_v ?_ | ((first | refine o_G ?_ ?_ | refine o_N ?_ ?_) <;> intro hc)))) | ((fail_if_success (with_reducible refine o_s ?_)); go_step))
          refine ⟨x9, ?_⟩
          refine wph_done (by decide +kernel) ?_
          repeat' (first | ((with_reducible refine o_s ?_); (first | (refine o_1 ?_; refine o_2 ?_) | (refine o_g ?_; first | refine o_u ?_ | refine o_k ?_ | refine o_n ?_ | refine o_v ?_ | ((first | refine o_G ?_ ?_ | refine o_N ?_ ?_) <;> intro hc)))) | ((fail_if_success (with_reducible refine o_s ?_)); go_step))
          exact ⟨⟨j + 1, by omega, by go_num, x9, o9⟩, by simp [intOf]; omega⟩
        · have : j = l[k].data.length := by omega
          subst this
          repeat' (first | ((with_reducible refine o_s ?_); (first | (refine o_1 ?_; refine o_2 ?_) | (refine o_g ?_; first | refine o_u ?_ | refine o_k ?_ | refine o_n ?_ | refine o_v ?_ | ((first | refine o_G ?_ ?_ | refine o_N ?_ ?_) <;> intro hc)))) | ((fail_if_success (with_reducible refine o_s ?_)); go_step))
          refine ⟨⟨k + 1, by omega, by go_num, hxq, ?_⟩, by simp [intOf]; omega⟩
          rw [recsP_succ hlt]
          rw [List.take_length] at hoq
          exact hoq
    · have : k = l.length := by omega
      subst this
      rw [recsP_all] at ho
      repeat' (first | ((with_reducible refine o_s ?_); (first | (refine o_1 ?_; refine o_2 ?_) | (refine o_g ?_; first | refine o_u ?_ | refine o_k ?_ | refine o_n ?_ | refine o_v ?_ | ((first | refine o_G ?_ ?_ | refine o_N ?_ ?_) <;> intro hc)))) | ((fail_if_success (with_reducible refine o_s ?_)); go_step))
      go_ret
      exact ⟨_, rfl, hx, ho⟩
set_option maxHeartbeats 6000000 in
theorem r10_Make (oa : List UInt8) (u : Value) (la : List RSet) (ob : List UInt8) (v : Value) (lb : List RSet) (w : World) (hu : SetsAt w u la) (hv : SetsAt w v lb)
    (ba : ∀ s ∈ la, s.data.length ≤ 1000000) (da : ∀ s ∈ la, ∀ d ∈ s.data, d.length ≤ 4611686018427387904) (bb : ∀ s ∈ lb, s.data.length ≤ 1000000) (db : ∀ s ∈ lb, ∀ d ∈ s.data, d.length ≤ 4611686018427387904)
    (h1 : (recordsS la).length ≤ 100000) (h2 : (recordsS lb).length ≤ 100000) : Calls Tryz.prog 22 #[.agg #[str oa, u], .agg #[str ob, v]] w (Ret w (DelU w.heap.size (mkD oa la ob lb) (mkE oa la ob lb))) := by
  go_enter Tryz.func22, Tryz.ntmps22
  repeat' ((fail_if_success (with_reducible refine o_s ?_)); go_step)
  refine wpl_box (vs := [str oa, u]) rfl rfl ?_
  intro p w1 x1 hp
  refine gset ?_
  refine wpl_box (vs := [str ob, v]) rfl rfl ?_
  intro q w2 x2 hq
  refine gset ?_
  refine wpl_allocB (z := zdel) rfl (by decide +kernel) ?_
  intro w3 x3 s3 h3
  refine gset ?_
  have hx3 := (x1.trans x2).trans x3
  have zz := (x1.trans x2).size
  have hp3 := (hp.ext x2).ext x3
  have hq3 := hq.ext x3
  repeat' (first | ((with_reducible refine o_s ?_); (first | (refine o_1 ?_; refine o_2 ?_) | (refine o_g ?_; first | refine o_u ?_ | refine o_k ?_ | refine o_n ?_ | refine o_v ?_ | ((first | refine o_G ?_ ?_ | refine o_N ?_ ?_) <;> intro hc)))) | ((fail_if_success (with_reducible refine o_s ?_)); go_step))
  refine wpl_callV (enters_of Tryz.func68 rfl rfl) rfl rfl (r8_Soa oa u la _ (hu.ext hx3) ba da) ?_; intro w4 x4; refine gset ?_
  have hx4 := hx3.trans x4
  repeat' (first | ((with_reducible refine o_s ?_); (first | (refine o_1 ?_; refine o_2 ?_) | (refine o_g ?_; first | refine o_u ?_ | refine o_k ?_ | refine o_n ?_ | refine o_v ?_ | ((first | refine o_G ?_ ?_ | refine o_N ?_ ?_) <;> intro hc)))) | ((fail_if_success (with_reducible refine o_s ?_)); go_step))
  refine wpl_allocB (z := zeroSoa) rfl (by decide +kernel) ?_
  intro w5 x5 s5 h5
  refine gset ?_
  refine wpl_storeB (v := .agg (soaZ oa la).cells.toArray) rfl rfl rfl h5 (show sizeTy Tryz.prog 103 7 = true by decide +kernel) rfl (soaR_one _) ?_
  intro w6 p6
  have x46 : Ext w4 w6 := x5.move p6.mv (by rintro k ⟨⟩; exact Nat.le_refl _)
  have b6 : w6.heap[w4.heap.size]? = some (.cells (soaZ oa la).cells.toArray 103 (0, 0)) := p6.this
  have x36 := x4.trans x46
  have hx6 := hx3.trans x36
  clear p6 h5 x5
  have h6 := x36.at h3
  have hp6 := hp3.ext x36
  have hq6 := hq3.ext x36
  repeat' (first | ((with_reducible refine o_s ?_); (first | (refine o_1 ?_; refine o_2 ?_) | (refine o_g ?_; first | refine o_u ?_ | refine o_k ?_ | refine o_n ?_ | refine o_v ?_ | ((first | refine o_G ?_ ?_ | refine o_N ?_ ?_) <;> intro hc)))) | ((fail_if_success (with_reducible refine o_s ?_)); go_step))
  · have q0 : ¬ zoneR oa la = 0 := by simpa using (by assumption : (!decide (zoneR oa la = 0)) = true)
    refine wpl_run (v := .agg zdel.toArray) rfl (Runs.build0 (by kernel_rfl)) ?_
    refine gset ?_
    repeat' (first | ((with_reducible refine o_s ?_); (first | (refine o_1 ?_; refine o_2 ?_) | (refine o_g ?_; first | refine o_u ?_ | refine o_k ?_ | refine o_n ?_ | refine o_v ?_ | ((first | refine o_G ?_ ?_ | refine o_N ?_ ?_) <;> intro hc)))) | ((fail_if_success (with_reducible refine o_s ?_)); go_step))
    refine wpl_storeB (v := .agg zdel.toArray) rfl rfl rfl h6 (by decide +kernel) rfl (by decide +kernel) ?_
    intro w7 p7
    have x7 : Ext w w7 := hx6.move p7.mv (by rintro k ⟨⟩; exact zz)
    repeat' (first | ((with_reducible refine o_s ?_); (first | (refine o_1 ?_; refine o_2 ?_) | (refine o_g ?_; first | refine o_u ?_ | refine o_k ?_ | refine o_n ?_ | refine o_v ?_ | ((first | refine o_G ?_ ?_ | refine o_N ?_ ?_) <;> intro hc)))) | ((fail_if_success (with_reducible refine o_s ?_)); go_step))
    refine bodyPost_ret (results_cellT (cs := zdel) rfl rfl p7.this (by decide +kernel)) rfl ⟨_, rfl, x7, ?_⟩
    have he : mkE oa la ob lb = zoneR oa la := by rw [mkE, if_neg q0]
    rw [mkD_bad (by rw [he]; exact q0), he]
    exact DelU.bad rfl
  · have q0 : zoneR oa la = 0 := by simpa using (by assumption : (!decide (zoneR oa la = 0)) = false)
    refine wpl_callV (enters_of Tryz.func68 rfl rfl) rfl rfl (r8_Soa ob v lb _ (hv.ext hx6) bb db) ?_; intro w7 x7; refine gset ?_
    have hx7 := hx6.trans x7
    repeat' (first | ((with_reducible refine o_s ?_); (first | (refine o_1 ?_; refine o_2 ?_) | (refine o_g ?_; first | refine o_u ?_ | refine o_k ?_ | refine o_n ?_ | refine o_v ?_ | ((first | refine o_G ?_ ?_ | refine o_N ?_ ?_) <;> intro hc)))) | ((fail_if_success (with_reducible refine o_s ?_)); go_step))
    refine wpl_allocB (z := zeroSoa) rfl (by decide +kernel) ?_
    intro w8 x8 s8 h8
    refine gset ?_
    refine wpl_storeB (v := .agg (soaZ ob lb).cells.toArray) rfl rfl rfl h8 (show sizeTy Tryz.prog 103 7 = true by decide +kernel) rfl (soaR_one _) ?_
    intro w9 p9
    have x79 : Ext w7 w9 := x8.move p9.mv (by rintro k ⟨⟩; exact Nat.le_refl _)
    have c9 : w9.heap[w7.heap.size]? = some (.cells (soaZ ob lb).cells.toArray 103 (0, 0)) := p9.this
    have x69 := x7.trans x79
    have hx9 := hx6.trans x69
    clear p9 h8 x8
    have h9 := x69.at h6
    have b9 := x69.at b6
    have hp9 := hp6.ext x69
    have hq9 := hq6.ext x69
    repeat' (first | ((with_reducible refine o_s ?_); (first | (refine o_1 ?_; refine o_2 ?_) | (refine o_g ?_; first | refine o_u ?_ | refine o_k ?_ | refine o_n ?_ | refine o_v ?_ | ((first | refine o_G ?_ ?_ | refine o_N ?_ ?_) <;> intro hc)))) | ((fail_if_success (with_reducible refine o_s ?_)); go_step))
    · have q1 : ¬ zoneR ob lb = 0 := by simpa using (by assumption : (!decide (zoneR ob lb = 0)) = true)
      refine wpl_run (v := .agg zdel.toArray) rfl (Runs.build0 (by kernel_rfl)) ?_
      refine gset ?_
      repeat' (first | ((with_reducible refine o_s ?_); (first | (refine o_1 ?_; refine o_2 ?_) | (refine o_g ?_; first | refine o_u ?_ | refine o_k ?_ | refine o_n ?_ | refine o_v ?_ | ((first | refine o_G ?_ ?_ | refine o_N ?_ ?_) <;> intro hc)))) | ((fail_if_success (with_reducible refine o_s ?_)); go_step))
      refine wpl_storeB (v := .agg zdel.toArray) rfl rfl rfl h9 (by decide +kernel) rfl (by decide +kernel) ?_
      intro wz pz
      have xz : Ext w wz := hx9.move pz.mv (by rintro k ⟨⟩; exact zz)
      repeat' (first | ((with_reducible refine o_s ?_); (first | (refine o_1 ?_; refine o_2 ?_) | (refine o_g ?_; first | refine o_u ?_ | refine o_k ?_ | refine o_n ?_ | refine o_v ?_ | ((first | refine o_G ?_ ?_ | refine o_N ?_ ?_) <;> intro hc)))) | ((fail_if_success (with_reducible refine o_s ?_)); go_step))
      refine bodyPost_ret (results_cellT (cs := zdel) rfl rfl pz.this (by decide +kernel)) rfl ⟨_, rfl, xz, ?_⟩
      have he : mkE oa la ob lb = zoneR ob lb := by rw [mkE, if_pos q0, if_neg q1]
      rw [mkD_bad (by rw [he]; exact q1), he]
      exact DelU.bad rfl
    · have q1 : zoneR ob lb = 0 := by simpa using (by assumption : (!decide (zoneR ob lb = 0)) = false)
      · have q2 : ¬ oa = ob := by simpa using (by assumption : (!decide (oa = ob)) = true)
        refine wpl_run (v := .agg zdel.toArray) rfl (Runs.build0 (by kernel_rfl)) ?_
        refine gset ?_
        repeat' (first | ((with_reducible refine o_s ?_); (first | (refine o_1 ?_; refine o_2 ?_) | (refine o_g ?_; first | refine o_u ?_ | refine o_k ?_ | refine o_n ?_ | refine o_v ?_ | ((first | refine o_G ?_ ?_ | refine o_N ?_ ?_) <;> intro hc)))) | ((fail_if_success (with_reducible refine o_s ?_)); go_step))
        refine wpl_storeB (v := .agg zdel.toArray) rfl rfl rfl h9 (by decide +kernel) rfl (by decide +kernel) ?_
        intro wz pz
        have xz : Ext w wz := hx9.move pz.mv (by rintro k ⟨⟩; exact zz)
        repeat' (first | ((with_reducible refine o_s ?_); (first | (refine o_1 ?_; refine o_2 ?_) | (refine o_g ?_; first | refine o_u ?_ | refine o_k ?_ | refine o_n ?_ | refine o_v ?_ | ((first | refine o_G ?_ ?_ | refine o_N ?_ ?_) <;> intro hc)))) | ((fail_if_success (with_reducible refine o_s ?_)); go_step))
        refine bodyPost_ret (results_cellT (cs := zdel) rfl rfl pz.this (by decide +kernel)) rfl ⟨_, rfl, xz, ?_⟩
        have he : mkE oa la ob lb = 1 := by rw [mkE, if_pos q0, if_pos q1, if_neg q2]
        rw [mkD_bad (by rw [he]; decide), he]
        exact DelU.bad rfl
    · have q1 : zoneR ob lb = 0 := by simpa using (by assumption : (!decide (zoneR ob lb = 0)) = false)
      have q2 : oa = ob := by simpa using (by assumption : (!decide (oa = ob)) = false)
      have he : mkE oa la ob lb = 0 := by rw [mkE, if_pos q0, if_pos q1, if_pos q2]
      repeat' (first | ((with_reducible refine o_s ?_); (first | (refine o_1 ?_; refine o_2 ?_) | (refine o_g ?_; first | refine o_u ?_ | refine o_k ?_ | refine o_n ?_ | refine o_v ?_ | ((first | refine o_G ?_ ?_ | refine o_N ?_ ?_) <;> intro hc)))) | ((fail_if_success (with_reducible refine o_s ?_)); go_step))
      refine wpl_callR (enters_of Tryz.func69 rfl rfl) rfl rfl (r7_Records u la _ (hu.ext hx9) (by omega)) ?_
      intro r1 w11 x911 o11
      refine gset ?_
      have hq11 := hq9.ext x911
      repeat' (first | ((with_reducible refine o_s ?_); (first | (refine o_1 ?_; refine o_2 ?_) | (refine o_g ?_; first | refine o_u ?_ | refine o_k ?_ | refine o_n ?_ | refine o_v ?_ | ((first | refine o_G ?_ ?_ | refine o_N ?_ ?_) <;> intro hc)))) | ((fail_if_success (with_reducible refine o_s ?_)); go_step))
      refine wpl_callR (enters_of Tryz.func69 rfl rfl) rfl rfl (r7_Records v lb _ (hv.ext (hx9.trans x911)) (by omega)) ?_
      intro r2 w12 x12 o12
      refine gset ?_
      have x912 := x911.trans x12
      have hx12 := hx9.trans x912
      have h12 := x912.at h9
      have sr1 := (o11.ext x12).sl
      have sr2 := o12.sl
      have pb12 := pts_block (x912.at b9)
      have pc12 := pts_block (x912.at c9)
      repeat' (first | ((with_reducible refine o_s ?_); (first | (refine o_1 ?_; refine o_2 ?_) | (refine o_g ?_; first | refine o_u ?_ | refine o_k ?_ | refine o_n ?_ | refine o_v ?_ | ((first | refine o_G ?_ ?_ | refine o_N ?_ ?_) <;> intro hc)))) | ((fail_if_success (with_reducible refine o_s ?_)); go_step))
      refine wpi_region 11 (Ext w12) (by decide +kernel) ?_
      intro w13 x13 _
      refine ⟨x13, ?_⟩
      ((with_reducible apply wpi_take (i := 0)); (rfl); (rfl); (rfl); (decide +kernel); (decide +kernel); (decide +kernel); (decide +kernel); (rfl); (intro _ _; exact rn); (exact fun _ _ _ h => h); (refine gset ?_)); ((with_reducible apply wpi_take (i := 1)); (rfl); (rfl); (rfl); (decide +kernel); (decide +kernel); (decide +kernel); (decide +kernel); (rfl); (intro _ _; exact rn); (exact fun _ _ _ h => h); (refine gset ?_)); ((with_reducible apply wpi_take (i := 2)); (rfl); (rfl); (rfl); (decide +kernel); (decide +kernel); (decide +kernel); (decide +kernel); (rfl); (intro _ _; exact rn); (exact fun _ _ _ h => h); (refine gset ?_)); ((with_reducible apply wpi_take (i := 3)); (rfl); (rfl); (rfl); (decide +kernel); (decide +kernel); (decide +kernel); (decide +kernel); (rfl); (intro _ _; exact rn); (exact fun _ _ _ h => h); (refine gset ?_)); ((with_reducible apply wpi_take (i := 4)); (rfl); (rfl); (rfl); (decide +kernel); (decide +kernel); (decide +kernel); (decide +kernel); (rfl); (intro _ _; exact rn); (exact fun _ _ _ h => h); (refine gset ?_)); ((with_reducible apply wpi_take (i := 5)); (rfl); (rfl); (rfl); (decide +kernel); (decide +kernel); (decide +kernel); (decide +kernel); (rfl); (intro _ _; exact rn); (exact fun _ _ _ h => h); (refine gset ?_)); ((with_reducible apply wpi_take (i := 7)); (rfl); (rfl); (rfl); (decide +kernel); (decide +kernel); (decide +kernel); (decide +kernel); (rfl); (intro _ _; exact rn); (exact fun _ _ _ h => h); (refine gset ?_)); ((with_reducible apply wpi_take (i := 8)); (rfl); (rfl); (rfl); (decide +kernel); (decide +kernel); (decide +kernel); (decide +kernel); (rfl); (intro _ _; exact rn); (exact fun _ _ _ h => h); (refine gset ?_))
      refine wpi_op (i := 6) (by decide +kernel) rfl rfl ?_
      refine wpl_callR (enters_of Tryz.func70 rfl rfl) rfl rfl (r10_less r1 r2 _ _ _ (sr1.ext x13) (sr2.ext x13) (by omega)) ?_
      intro g w14 x14 og
      refine gset ?_
      have x1214 := x13.trans x14
      refine wph_nil ⟨till_yes x1214, ?_⟩
      refine wpi_op (i := 9) (by decide +kernel) rfl rfl ?_
      refine wpl_callR (enters_of Tryz.func70 rfl rfl) rfl rfl (r10_less r2 r1 _ _ _ (sr2.ext x1214) (sr1.ext x1214) (by omega)) ?_
      intro n w15 x15 on
      refine gset ?_
      have x1215 := x1214.trans x15
      refine wph_nil ⟨till_yes x1215, ?_⟩
      have sg := (og.ext x15).sl
      have sn := on.sl
      refine wpi_take (i := 10) (v := .agg #[.int .i64 (soaZ oa la).serial, .int .i64 (soaZ ob lb).serial, g, n]) rfl rfl rfl (by decide +kernel) (by decide +kernel) (by decide +kernel) (by decide +kernel) rfl (fun w' _ => Runs.build rfl (by obtain ⟨_, _, _, rfl⟩ := sg.slf; obtain ⟨_, _, _, rfl⟩ := sn.slf; kernel_rfl)) (fun _ _ _ h => h) ?_
      refine gset ?_
      refine wpi_op (i := 11) (by decide +kernel) rfl rfl ?_
      have h15 := x1215.at h12
      refine wpl_storeB (v := .agg #[.int .i64 (soaZ oa la).serial, .int .i64 (soaZ ob lb).serial, g, n]) rfl rfl rfl h15 (show sizeTy Tryz.prog 34 4 = true by decide +kernel) rfl (all4 rfl rfl sg.one sn.one) ?_
      intro w16 p16
      refine wph_nil ⟨till_no rfl, ?_⟩
      ((with_reducible apply wpi_pure (i := 12)); (rfl); (rfl); (rfl); (decide +kernel); (decide +kernel); (decide +kernel); (rfl); (intro _; exact rn); (exact fun _ _ _ h => h); (refine gset ?_))
      refine wpi_done (by decide +kernel) ?_
      have x16 : Ext w w16 := (hx12.trans x1215).move p16.mv (by rintro k ⟨⟩; exact zz)
      repeat' (first | ((with_reducible refine o_s ?_); (first | (refine o_1 ?_; refine o_2 ?_) | (refine o_g ?_; first | refine o_u ?_ | refine o_k ?_ | refine o_n ?_ | refine o_v ?_ | ((first | refine o_G ?_ ?_ | refine o_N ?_ ?_) <;> intro hc)))) | ((fail_if_success (with_reducible refine o_s ?_)); go_step))
      refine bodyPost_ret (results_cellT (cs := [.int .i64 (soaZ oa la).serial, .int .i64 (soaZ ob lb).serial, g, n]) rfl rfl p16.this (show aggTy Tryz.prog 34 4 = true by decide +kernel)) rfl ⟨_, rfl, x16, ?_⟩
      have hd : mkD oa la ob lb = ⟨(soaZ oa la).serial, (soaZ ob lb).serial, lessR (recordsS la) (recordsS lb), lessR (recordsS lb) (recordsS la)⟩ := by rw [mkD, if_pos he]
      rw [hd, he]
      exact ⟨_, rfl, g, n, rfl, (og.ext x15).mv p16.mv (.inr ((og.ext x15).neBlock h15 (by decide))) |>.weaken (hx12.trans x13).size, on.mv p16.mv (.inr (on.neBlock h15 (by decide))) |>.weaken (hx12.trans x1214).size⟩
theorem r2_May (n : Int) (w : World) : Calls Tryz.prog 177 #[.int .i64 n] w (RetV w (.bool (okSer n))) := by
  go_enter Tryz.func177, Tryz.ntmps177
  repeat' (first | ((with_reducible refine o_s ?_); (first | (refine o_1 ?_; refine o_2 ?_) | (refine o_g ?_; first | refine o_u ?_ | refine o_k ?_ | refine o_n ?_ | refine o_v ?_ | ((first | refine o_G ?_ ?_ | refine o_N ?_ ?_) <;> intro hc)))) | ((fail_if_success (with_reducible refine o_s ?_)); go_step))
  all_goals
    go_ret
    refine ⟨?_, Ext.refl _⟩
    unfold okSer
    first
      | (rw [decide_eq_false (show ¬ (0 ≤ n) by omega)]; rfl)
      | (rw [decide_eq_true (show 0 ≤ n by omega)]
         by_cases h : n ≤ 4294967295
         · rw [decide_eq_true h, decide_eq_true (show n < 4294967296 by omega)]; rfl
         · rw [decide_eq_false h, decide_eq_false (show ¬ n < 4294967296 by omega)]; rfl)
theorem r2_Compare (a b : Int) (w : World) : Calls Tryz.prog 141 #[.int .i64 a, .int .i64 b] w (RetV w (.tuple #[.int .i64 (serCmp a b).1, .int .i64 (serCmp a b).2])) := by
  go_enter Tryz.func141, Tryz.ntmps141
  repeat' (first | ((with_reducible refine o_s ?_); (first | (refine o_1 ?_; refine o_2 ?_) | (refine o_g ?_; first | refine o_u ?_ | refine o_k ?_ | refine o_n ?_ | refine o_v ?_ | ((first | refine o_G ?_ ?_ | refine o_N ?_ ?_) <;> intro hc)))) | ((fail_if_success (with_reducible refine o_s ?_)); go_step))
  refine wpl_callV (enters_of Tryz.func177 rfl rfl) rfl rfl (r2_May a _) ?_; intro w1 x1; refine gset ?_
  cases ha : okSer a with
  | false =>
    repeat' (first | ((with_reducible refine o_s ?_); (first | (refine o_1 ?_; refine o_2 ?_) | (refine o_g ?_; first | refine o_u ?_ | refine o_k ?_ | refine o_n ?_ | refine o_v ?_ | ((first | refine o_G ?_ ?_ | refine o_N ?_ ?_) <;> intro hc)))) | ((fail_if_success (with_reducible refine o_s ?_)); go_step))
    go_ret2
    exact ⟨by rw [serCmp, if_pos (by simp [ha])]; rfl, x1⟩
  | true =>
    repeat' (first | ((with_reducible refine o_s ?_); (first | (refine o_1 ?_; refine o_2 ?_) | (refine o_g ?_; first | refine o_u ?_ | refine o_k ?_ | refine o_n ?_ | refine o_v ?_ | ((first | refine o_G ?_ ?_ | refine o_N ?_ ?_) <;> intro hc)))) | ((fail_if_success (with_reducible refine o_s ?_)); go_step))
    refine wpl_callV (enters_of Tryz.func177 rfl rfl) rfl rfl (r2_May b _) ?_; intro w2 x2; refine gset ?_
    have hx2 := x1.trans x2
    cases hb : okSer b with
    | false =>
      repeat' (first | ((with_reducible refine o_s ?_); (first | (refine o_1 ?_; refine o_2 ?_) | (refine o_g ?_; first | refine o_u ?_ | refine o_k ?_ | refine o_n ?_ | refine o_v ?_ | ((first | refine o_G ?_ ?_ | refine o_N ?_ ?_) <;> intro hc)))) | ((fail_if_success (with_reducible refine o_s ?_)); go_step))
      go_ret2
      exact ⟨by rw [serCmp, if_pos (by simp [hb])]; rfl, hx2⟩
    | true =>
      have hk : 0 ≤ a ∧ a ≤ 4294967295 ∧ 0 ≤ b ∧ b ≤ 4294967295 := by
        simp only [okSer, Bool.and_eq_true, decide_eq_true_eq] at ha hb
        omega
      obtain ⟨m, hm⟩ : ∃ m : Nat, b - a + 4294967296 = (m : Int) := ⟨(b - a + 4294967296).toNat, by omega⟩
      have hmod : ((m % 4294967296 : Nat) : Int) = (b - a) % 4294967296 := by
        rw [Int.natCast_emod, ← hm]
        omega
      repeat' (first | ((with_reducible refine o_s ?_); (first | (refine o_1 ?_; refine o_2 ?_) | (refine o_g ?_; first | refine o_u ?_ | refine o_k ?_ | refine o_n ?_ | refine o_v ?_ | ((first | refine o_G ?_ ?_ | refine o_N ?_ ?_) <;> intro hc)))) | ((fail_if_success (with_reducible refine o_s ?_)); go_step))
      refine wpl_run0 (Runs.remN (m := m) (n := 4294967296) (by rw [← hm]; rfl) rfl (by decide) (by omega)) ?_
      refine gset ?_
      rw [hmod]
      repeat' (first | ((with_reducible refine o_s ?_); (first | (refine o_1 ?_; refine o_2 ?_) | (refine o_g ?_; first | refine o_u ?_ | refine o_k ?_ | refine o_n ?_ | refine o_v ?_ | ((first | refine o_G ?_ ?_ | refine o_N ?_ ?_) <;> intro hc)))) | ((fail_if_success (with_reducible refine o_s ?_)); go_step))
      all_goals
        go_ret2
        refine ⟨?_, hx2⟩
        rw [serCmp, if_neg (by simp [ha, hb])]
        first
          | (rw [if_pos (by omega)]; rfl)
          | (rw [if_neg (by omega), if_pos (by omega)]; rfl)
          | (rw [if_neg (by omega), if_neg (by omega), if_pos (by omega)]; rfl)
          | (rw [if_neg (by omega), if_neg (by omega), if_neg (by omega)]; rfl)
theorem later_cmp (a b : Int) : serCmp a b = (0, 1) ∧ laterB a b = false ∨ serCmp a b = (0, 0) ∧ laterB a b = false ∨ serCmp a b = (-1, 0) ∧ laterB a b = false ∨ serCmp a b = (1, 0) ∧ laterB a b = true ∨ serCmp a b = (0, 5) ∧ laterB a b = false := by
  unfold serCmp laterB
  cases hok : (okSer a && okSer b) with
  | false => simp
  | true =>
    simp only [Bool.true_eq_false, if_false, Bool.true_and]
    generalize (b - a) % 4294967296 = d
    by_cases h1 : d = 0
    · simp [h1]
    · by_cases h2 : d < 2147483648
      · have : ¬ 2147483648 < d := by omega
        simp [h1, h2, this]
      · by_cases h3 : 2147483648 < d
        · simp [h1, h2, h3]
        · simp [h1, h2, h3]
theorem r2_Later (a b : Int) (w : World) : Calls Tryz.prog 103 #[.int .i64 a, .int .i64 b] w (RetV w (.bool (laterB a b))) := by
  go_enter Tryz.func103, Tryz.ntmps103
  repeat' (first | ((with_reducible refine o_s ?_); (first | (refine o_1 ?_; refine o_2 ?_) | (refine o_g ?_; first | refine o_u ?_ | refine o_k ?_ | refine o_n ?_ | refine o_v ?_ | ((first | refine o_G ?_ ?_ | refine o_N ?_ ?_) <;> intro hc)))) | ((fail_if_success (with_reducible refine o_s ?_)); go_step))
  refine wpl_callV (enters_of Tryz.func141 rfl rfl) rfl rfl (r2_Compare a b _) ?_; intro w1 x1; refine gset ?_
  rcases later_cmp a b with ⟨h1, h2⟩ | ⟨h1, h2⟩ | ⟨h1, h2⟩ | ⟨h1, h2⟩ | ⟨h1, h2⟩
  all_goals
    rw [h1]
    repeat' (first | ((with_reducible refine o_s ?_); (first | (refine o_1 ?_; refine o_2 ?_) | (refine o_g ?_; first | refine o_u ?_ | refine o_k ?_ | refine o_n ?_ | refine o_v ?_ | ((first | refine o_G ?_ ?_ | refine o_N ?_ ?_) <;> intro hc)))) | ((fail_if_success (with_reducible refine o_s ?_)); go_step))
    go_ret
    exact ⟨by rw [h2]; rfl, x1⟩
def histD (o : List UInt8) : List (List RSet) → List DeltaR
  | a :: b :: t => mkD o a o b :: histD o (b :: t)
  | _ => []
theorem histD_len (o : List UInt8) : ∀ zs : List (List RSet), (histD o zs).length = zs.length - 1
  | [] => rfl
  | [a] => rfl
  | a :: b :: t => by
    rw [histD, List.length_cons, histD_len o (b :: t)]
    simp
theorem histD_at (o : List UInt8) : ∀ (zs : List (List RSet)) (i : Nat) (a b : List RSet), zs[i]? = some a → zs[i + 1]? = some b → (histD o zs)[i]? = some (mkD o a o b)
  | [], i, a, b, h, _ => by simp at h
  | [x], i, a, b, h, k => by simp at k
  | x :: y :: t, 0, a, b, h, k => by
    simp at h k
    subst h; subst k
    rfl
  | x :: y :: t, i + 1, a, b, h, k => by
    rw [histD, List.getElem?_cons_succ]
    exact histD_at o (y :: t) i a b (by simpa using h) (by simpa using k)
theorem histD_snoc (o : List UInt8) : ∀ (zs : List (List RSet)) (l l' : List RSet), zs.getLast? = some l → histD o (zs ++ [l']) = histD o zs ++ [mkD o l o l']
  | [], l, l', h => by simp at h
  | [a], l, l', h => by
    simp at h
    subst h
    rfl
  | a :: b :: t, l, l', h => by
    have ih := histD_snoc o (b :: t) l l' (by simpa using h)
    rw [List.cons_append] at ih
    rw [List.cons_append, List.cons_append, histD, ih, histD, List.cons_append]
theorem trim_len (room : Int) (ds : List DeltaR) (h : 0 ≤ room) : ((trimD room ds).length : Int) = min (ds.length : Int) room := by
  rw [trimD, List.length_drop]
  omega
theorem trim_id {room : Int} {ds : List DeltaR} (h : (ds.length : Int) ≤ room) : trimD room ds = ds := by
  rw [trimD, show ds.length - room.toNat = 0 by omega, List.drop_zero]
theorem trim_snoc (room : Int) (H : List DeltaR) (D : DeltaR) (h : 0 ≤ room) : trimD room (trimD room H ++ [D]) = trimD room (H ++ [D]) := by
  have hl := trim_len room H h
  by_cases hc : (H.length : Int) ≤ room
  · rw [trim_id hc]
  · have e1 : trimD room H ++ [D] = (H ++ [D]).drop (H.length - room.toNat) := by
      rw [trimD, List.drop_append_of_le_length (by omega)]
    rw [e1]
    unfold trimD
    rw [List.drop_drop, List.length_drop]
    congr 1
    simp only [List.length_append, List.length_cons, List.length_nil]
    omega
theorem trim_tail {room : Int} {ds : List DeltaR} (D : DeltaR) (h : (ds.length : Int) ≤ room) : trimD room (ds ++ [D]) = if room < ((ds ++ [D]).length : Int) then (ds ++ [D]).drop 1 else ds ++ [D] := by
  split
  · rename_i hc
    rw [trimD]
    congr 1
    simp only [List.length_append, List.length_cons, List.length_nil] at hc ⊢
    omega
  · rename_i hc
    exact trim_id (by omega)
theorem sinceI_spec (ds : List DeltaR) (s : Int) : ∀ n, match sinceI ds s n with
    | some j => j < n ∧ ds[j]?.map DeltaR.fr = some s ∧ ∀ j', j < j' → j' < n → ds[j']?.map DeltaR.fr ≠ some s
    | none => ∀ j', j' < n → ds[j']?.map DeltaR.fr ≠ some s
  | 0 => by simp [sinceI]
  | n + 1 => by
    have ih := sinceI_spec ds s n
    rw [sinceI]
    split
    · rename_i h
      split at h
      · rename_i hc
        cases h
        exact ⟨by omega, hc, fun j' h1 h2 => by omega⟩
      · rename_i hc
        rw [h] at ih
        obtain ⟨h1, h2, h3⟩ := ih
        refine ⟨by omega, h2, fun j' h4 h5 => ?_⟩
        by_cases e : j' = n
        · subst e; exact hc
        · exact h3 j' h4 (by omega)
    · rename_i h
      split at h
      · cases h
      · rename_i hc
        rw [h] at ih
        intro j' h5
        by_cases e : j' = n
        · subst e; exact hc
        · exact ih j' (by omega)
theorem mkE_ok {o : List UInt8} {a b : List RSet} (ha : ZoneOk o a) (hb : ZoneOk o b) : mkE o a o b = 0 := by
  rw [mkE, if_pos (zone_ok' ha), if_pos (zone_ok' hb), if_pos rfl]
theorem mkD_fr {o : List UInt8} {a b : List RSet} (ha : ZoneOk o a) (hb : ZoneOk o b) : (mkD o a o b).fr = (soaZ o a).serial := by
  rw [(mk_ok (mkE_ok ha hb)).2.2.2]
theorem since_made {o : List UInt8} {zs : List (List RSet)} {l a : List RSet} {room s : Int} {i : Nat} (hr : 0 ≤ room) (hz : ∀ z ∈ zs, ZoneOk o z) (hlast : zs.getLast? = some l) (hi : zs[i]? = some a) (hs : (soaZ o a).serial = s)
    (hna : ∀ k b, i < k → zs[k]? = some b → (soaZ o b).serial ≠ s) (hsr : (sinceR o l (trimD room (histD o zs)) s).2 = true) :
    (sinceR o l (trimD room (histD o zs)) s).1.length + i + 1 = zs.length ∧ ∀ k a b, zs[i + k]? = some a → zs[i + k + 1]? = some b → (sinceR o l (trimD room (histD o zs)) s).1[k]? = some (mkD o a o b) := by
  have hil := (List.getElem?_eq_some_iff.1 hi).1
  have hlast' : zs[zs.length - 1]? = some l := by rw [← List.getLast?_eq_getElem?]; exact hlast
  by_cases q : s = (soaZ o l).serial
  · have e : sinceR o l (trimD room (histD o zs)) s = ([], true) := by rw [sinceR, if_pos q]
    rw [e]
    have : ¬ i < zs.length - 1 := fun hlt => hna _ _ hlt hlast' q.symm
    have hi2 : i + 1 = zs.length := by omega
    refine ⟨by simpa using hi2, fun k a b h1 h2 => ?_⟩
    have := (List.getElem?_eq_some_iff.1 h2).1
    omega
  · have hH := histD_len o zs
    have hT := trim_len room (histD o zs) hr
    have hti : ∀ k, (trimD room (histD o zs))[k]? = (histD o zs)[(histD o zs).length - room.toNat + k]? := fun k => by rw [trimD, List.getElem?_drop]
    have hsp := sinceI_spec (trimD room (histD o zs)) s (trimD room (histD o zs)).length
    have hfr : ∀ k (h : k + 1 < zs.length), (histD o zs)[k]?.map DeltaR.fr = some (soaZ o zs[k]).serial := fun k h => by
      rw [histD_at o zs k zs[k] zs[k + 1] (List.getElem?_eq_getElem _) (List.getElem?_eq_getElem _), Option.map_some, mkD_fr (hz _ (List.getElem_mem _)) (hz _ (List.getElem_mem _))]
    cases hsi : sinceI (trimD room (histD o zs)) s (trimD room (histD o zs)).length with
    | none =>
      rw [sinceR, if_neg q, hsi] at hsr
      cases hsr
    | some j =>
      have e : sinceR o l (trimD room (histD o zs)) s = ((trimD room (histD o zs)).drop j, true) := by rw [sinceR, if_neg q, hsi]
      rw [e]
      rw [hsi] at hsp
      obtain ⟨h1, h2, h3⟩ := hsp
      rw [hti, hfr _ (by omega)] at h2
      have h2 := Option.some.inj h2
      have hle : ¬ i < (histD o zs).length - room.toNat + j := fun hlt => hna _ _ hlt (List.getElem?_eq_getElem (by omega)) h2
      have hlt : i + 1 < zs.length := by
        have : i ≠ zs.length - 1 := by
          rintro rfl
          rw [hlast'] at hi
          cases hi
          exact q hs.symm
        omega
      have hge : ¬ (histD o zs).length - room.toNat + j < i := fun hgt => by
        refine h3 (i - ((histD o zs).length - room.toNat)) (by omega) (by omega) ?_
        rw [hti, show (histD o zs).length - room.toNat + (i - ((histD o zs).length - room.toNat)) = i by omega, hfr i hlt]
        rw [List.getElem?_eq_getElem hil] at hi
        rw [Option.some.inj hi, hs]
      have hij : i = (histD o zs).length - room.toNat + j := by omega
      refine ⟨by simp only [List.length_drop]; omega, fun k a b k1 k2 => ?_⟩
      rw [List.getElem?_drop, hti, show (histD o zs).length - room.toNat + (j + k) = i + k by omega]
      exact histD_at o zs _ a b k1 k2
set_option maxHeartbeats 8000000 in
theorem r11_Update {w0 w : World} {b : Nat} {o : List UInt8} {l : List RSet} {room : Int} {ds : List DeltaR} (h : KAt w0 w b o l room ds) (hz : ZoneOk o l) (hr : 0 ≤ room ∧ room ≤ 20) (hds : ds.length ≤ 20) (hdr : (ds.length : Int) ≤ room)
    (o' : List UInt8) (v' : Value) (l' : List RSet) (hv0 : SetsAt w0 v' l') (hb' : ∀ s ∈ l', s.data.length ≤ 1000000) (hd' : ∀ s ∈ l', ∀ d ∈ s.data, d.length ≤ 4611686018427387904) :
    Calls Tryz.prog 55 #[.pointer (some ⟨b, 0, none⟩), .agg #[str o', v']] w fun e w' => e = .returned (.int .i64 (updE o l o' l')) ∧ KeptK b w w' ∧
      (updE o l o' l' ≠ 0 → KAt w0 w' b o l room ds) ∧ (updE o l o' l' = 0 → KAt w0 w' b o l' room (trimD room (ds ++ [mkD o l o l']))) := by
  obtain ⟨zl, zb, zd, zr⟩ := zoneJ hz
  have hE0 := h.ext
  have hv' := hv0.ext hE0
  obtain ⟨v, dv, hbk, hs, hdl⟩ := h.out
  go_enter Tryz.func55, Tryz.ntmps55
  repeat' ((fail_if_success (with_reducible refine o_s ?_)); go_step)
  refine wpl_boxB (vs := [str o', v']) rfl rfl ?_
  intro w1 x1 sz1 hcz
  have hpz := pts_block (cs := [str o', v']) hcz
  refine gset ?_
  have hbk1 := x1.at hbk
  obtain ⟨hp, hp0⟩ := k_pts hbk1
  have hv1 := hv'.ext x1
  repeat' (first | ((with_reducible refine o_s ?_); (first | (refine o_1 ?_; refine o_2 ?_) | (refine o_g ?_; first | refine o_u ?_ | refine o_k ?_ | refine o_n ?_ | refine o_v ?_ | ((first | refine o_G ?_ ?_ | refine o_N ?_ ?_) <;> intro hc)))) | ((fail_if_success (with_reducible refine o_s ?_)); go_step))
  refine wpl_callV (enters_of Tryz.func68 rfl rfl) rfl rfl (r8_Soa o' v' l' _ hv1 hb' hd') ?_; intro w2 x2; refine gset ?_
  have hx2 := x1.trans x2
  repeat' (first | ((with_reducible refine o_s ?_); (first | (refine o_1 ?_; refine o_2 ?_) | (refine o_g ?_; first | refine o_u ?_ | refine o_k ?_ | refine o_n ?_ | refine o_v ?_ | ((first | refine o_G ?_ ?_ | refine o_N ?_ ?_) <;> intro hc)))) | ((fail_if_success (with_reducible refine o_s ?_)); go_step))
  refine wpl_allocB (z := zeroSoa) rfl (by decide +kernel) ?_
  intro w3 x3 s3 h3
  refine gset ?_
  refine wpl_storeB (v := .agg (soaZ o' l').cells.toArray) rfl rfl rfl h3 (show sizeTy Tryz.prog 103 7 = true by decide +kernel) rfl (soaR_one _) ?_
  intro w4 p4
  have x4 : Ext w2 w4 := x3.move p4.mv (by rintro k ⟨⟩; exact Nat.le_refl _)
  have hs4 := pts_block (cs := (soaZ o' l').cells) p4.this
  have hx4 := hx2.trans x4
  have hpz4 := hpz.ext (x2.trans x4)
  have hbk4 := (x2.trans x4).at hbk1
  have hJ4 := h.grow hx4
  have hv4 := hv1.ext (x2.trans x4)
  clear p4 h3 x3 hp hp0
  obtain ⟨hp, hp0⟩ := k_pts hbk4
  by_cases q1 : zoneR o' l' = 0
  · have q1' : ¬ zoneR o' l' ≠ 0 := by simp [q1]
    have hz' := zone_ok q1
    rw [q1]
    repeat' (first | ((with_reducible refine o_s ?_); (first | (refine o_1 ?_; refine o_2 ?_) | (refine o_g ?_; first | refine o_u ?_ | refine o_k ?_ | refine o_n ?_ | refine o_v ?_ | ((first | refine o_G ?_ ?_ | refine o_N ?_ ?_) <;> intro hc)))) | ((fail_if_success (with_reducible refine o_s ?_)); go_step))
    refine wpq_region (by decide +kernel) (by decide +kernel) ?_
    repeat' (first | ((with_reducible refine q_s ?_); (first | (refine q_1 ?_; refine q_2 ?_) | (refine q_g ?_; first | refine q_u ?_ | refine q_k ?_ | refine q_v ?_))) | (with_reducible refine q_n ?_))
    intro w5 x5
    have hx5 := hx4.trans x5
    have hJ5 := hJ4.grow x5
    have hs5 := hs4.ext x5
    have hpz5 := hpz4.ext x5
    have hbk5 := x5.at hbk4
    have hv5 := hv4.ext x5
    clear hp hp0 hs4 hpz4
    obtain ⟨hp, hp0⟩ := k_pts hbk5
    by_cases q2 : o' = o
    · subst q2
      rw [decide_eq_true rfl]
      simp only [Bool.not_true]
      repeat' (first | ((with_reducible refine o_s ?_); (first | (refine o_1 ?_; refine o_2 ?_) | (refine o_g ?_; first | refine o_u ?_ | refine o_k ?_ | refine o_n ?_ | refine o_v ?_ | ((first | refine o_G ?_ ?_ | refine o_N ?_ ?_) <;> intro hc)))) | ((fail_if_success (with_reducible refine o_s ?_)); go_step))
      refine wpq_region (by decide +kernel) (by decide +kernel) ?_
      repeat' (first | ((with_reducible refine q_s ?_); (first | (refine q_1 ?_; refine q_2 ?_) | (refine q_g ?_; first | refine q_u ?_ | refine q_k ?_ | refine q_v ?_))) | (with_reducible refine q_n ?_))
      refine wpq_call (enters_of Tryz.func57 rfl rfl) rfl rfl (fun w' x' => r11_Serial (hJ5.grow x') (fun s hs => by have := zb s hs; omega) (fun s hs d hd => by have := zd s hs d hd; omega)) ?_
      refine gset ?_
      repeat' (first | ((with_reducible refine q_s ?_); (first | (refine q_1 ?_; refine q_2 ?_) | (refine q_g ?_; first | refine q_u ?_ | refine q_k ?_ | refine q_v ?_))) | (with_reducible refine q_n ?_))
      refine wpq_call (enters_of Tryz.func103 rfl rfl) rfl rfl (fun w' _ => r2_Later _ _ w') ?_
      refine gset ?_
      repeat' (first | ((with_reducible refine q_s ?_); (first | (refine q_1 ?_; refine q_2 ?_) | (refine q_g ?_; first | refine q_u ?_ | refine q_k ?_ | refine q_v ?_))) | (with_reducible refine q_n ?_))
      intro w6 x6
      have hx6 := hx5.trans x6
      have hJ6 := hJ5.grow x6
      cases hlt : laterB (soaZ o' l').serial (soaZ o' l).serial with
      | false =>
        have hE : updE o' l o' l' = 7 := by rw [updE, if_neg q1', if_neg (by simp), if_pos hlt]
        simp only [Bool.not_false]
        repeat' (first | ((with_reducible refine o_s ?_); (first | (refine o_1 ?_; refine o_2 ?_) | (refine o_g ?_; first | refine o_u ?_ | refine o_k ?_ | refine o_n ?_ | refine o_v ?_ | ((first | refine o_G ?_ ?_ | refine o_N ?_ ?_) <;> intro hc)))) | ((fail_if_success (with_reducible refine o_s ?_)); go_step))
        go_ret
        exact ⟨by rw [hE]; rfl, KeptK.of hx6, fun _ => hJ6, fun h0 => by rw [hE] at h0; cases h0⟩
      | true =>
        have hE : updE o' l o' l' = 0 := by rw [updE, if_neg q1', if_neg (by simp), if_neg (by simp [hlt])]
        simp only [Bool.not_true]
        have hpz6 := hpz5.ext x6
        have hv6 := hv5.ext x6
        have hdl6 := (hdl.ext hx5).ext x6
        have hs6 := (hs.ext hx5).ext x6
        have hbk6 := x6.at hbk5
        clear hp hp0 hs5 hpz5 hJ5 hJ4 hv5 hv4
        obtain ⟨hp, hp0⟩ := k_pts hbk6
        obtain ⟨zl', zb', zd', zr'⟩ := zoneJ hz'
        have cM : ∀ w', Ext w6 w' → Calls Tryz.prog 22 #[.agg #[str o', v], .agg #[str o', v']] w' (Ret w' fun r w'' => ∃ g n, r = .tuple #[.agg #[.int .i64 (mkD o' l o' l').fr, .int .i64 (mkD o' l o' l').to, g, n], .int .i64 (mkE o' l o' l')] ∧ Own 0 4 75 w'' g (rcells (mkD o' l o' l').gone) ∧ Own 0 4 75 w'' n (rcells (mkD o' l o' l').new) ∧ Own w'.heap.size 4 75 w'' g (rcells (mkD o' l o' l').gone) ∧ Own w'.heap.size 4 75 w'' n (rcells (mkD o' l o' l').new)) := fun w' hx' => by
          refine (r10_Make o' v l o' v' l' w' (hs6.ext hx').sets (hv6.ext hx') (fun s hs => by have := zb s hs; omega) (fun s hs d hd => by have := zd s hs d hd; omega) hb' hd' (by omega) (by omega)).mono ?_
          rintro e w'' ⟨r, rfl, hxx, y, rfl, g, n, rfl, og, on⟩
          exact ⟨_, rfl, hxx, g, n, rfl, og.weaken (Nat.zero_le _), on.weaken (Nat.zero_le _), og, on⟩
        generalize hDq : mkD o' l o' l' = D at *
        generalize mkE o' l o' l' = E at *
        repeat' (first | ((with_reducible refine o_s ?_); (first | (refine o_1 ?_; refine o_2 ?_) | (refine o_g ?_; first | refine o_u ?_ | refine o_k ?_ | refine o_n ?_ | refine o_v ?_ | ((first | refine o_G ?_ ?_ | refine o_N ?_ ?_) <;> intro hc)))) | ((fail_if_success (with_reducible refine o_s ?_)); go_step))
        refine wph_region (S := fun w' => Ext w6 w') (by decide +kernel) ?_
        intro w21 x21 hh21
        refine tk 0 ?_; refine gset ?_; refine tk 1 ?_; refine gset ?_; refine tk 2 ?_; refine gset ?_; refine tk 3 ?_; refine gset ?_; refine tk 4 ?_; refine gset ?_
        have hsz6 := hx6.size
        have hsz0 := hE0.size
        apply meetJ (F := fun (g n : Value) (k : Nat) w' => Ext w6 w' ∧ w6.heap.size ≤ k ∧ w'.heap[k]? = some (.cells [.int .i64 D.fr, .int .i64 D.to, g, n].toArray 34 (0, 0)) ∧ Own w0.heap.size 4 75 w' g (rcells D.gone) ∧ Own w0.heap.size 4 75 w' n (rcells D.new))
        · intro hG
          refine wph_two (i := 5) (j := 9) (by decide +kernel) rfl rfl rfl ?_ ?_
          · refine wpl_callR (enters_of Tryz.func22 rfl rfl) rfl rfl (cM _ x21) ?_
            rintro _ wC xC ⟨g, n, rfl, -, -, og, on⟩
            refine gset ?_
            have x1 := x21.trans xC
            have hsC := x21.size
            refine wph_nil ⟨x1, ?_⟩
            refine tk 6 ?_; refine gset ?_; refine tk 7 ?_; refine gset ?_; refine tk 8 ?_; refine gset ?_
            refine wph_one (i := 9) (by decide +kernel) rfl rfl ?_
            refine wpl_allocB (z := zdel) rfl (by decide +kernel) ?_
            intro wE xE sE hE
            have hsE := x1.size
            refine gset ?_
            have x3 := x1.trans xE
            refine wph_nil ⟨x3, ?_⟩
            refine wph_one (i := 10) (by decide +kernel) rfl rfl ?_
            refine wpl_storeB (v := .agg #[.int .i64 D.fr, .int .i64 D.to, g, n]) rfl rfl rfl hE (show sizeTy Tryz.prog 34 4 = true by decide +kernel) rfl (all4 rfl rfl og.sl.one on.sl.one) ?_
            intro wF pF
            have xF : Ext wC wF := xE.move pF.mv (by rintro k ⟨⟩; exact Nat.le_refl _)
            have hF := pF.this
            refine wph_nil ⟨x1.trans xF, ?_⟩
            refine tk 11 ?_; refine gset ?_
            have x4 := x1.trans xF
            clear pF hE xE sE
            generalize wC.heap.size = k at *
            exact hG g n k _ ⟨x4, hsE, hF, (og.ext xF).weaken (by omega), (on.ext xF).weaken (by omega)⟩
          · refine wpl_allocB (z := zdel) rfl (by decide +kernel) ?_
            intro wD xD sD hD
            have hsD := x21.size
            refine gset ?_
            have x2 := x21.trans xD
            refine wph_nil ⟨x2, ?_⟩
            refine wph_one (i := 5) (by decide +kernel) rfl rfl ?_
            refine wpl_callR (enters_of Tryz.func22 rfl rfl) rfl rfl (cM _ x2) ?_
            rintro _ wE xE ⟨g, n, rfl, -, -, og, on⟩
            refine gset ?_
            have hsE := x2.size
            have x3 := x2.trans xE
            refine wph_nil ⟨x3, ?_⟩
            refine tk 6 ?_; refine gset ?_; refine tk 7 ?_; refine gset ?_; refine tk 8 ?_; refine gset ?_
            have hE := xE.at hD
            refine wph_one (i := 10) (by decide +kernel) rfl rfl ?_
            refine wpl_storeB (v := .agg #[.int .i64 D.fr, .int .i64 D.to, g, n]) rfl rfl rfl hE (show sizeTy Tryz.prog 34 4 = true by decide +kernel) rfl (all4 rfl rfl og.sl.one on.sl.one) ?_
            intro wF pF
            have xF : Ext w6 wF := x3.move pF.mv (by rintro k ⟨⟩; exact hsD)
            have hF := pF.this
            refine wph_nil ⟨xF, ?_⟩
            refine tk 11 ?_; refine gset ?_
            have hfin1 := (og.mv pF.mv (.inr (og.neBlock hE (by decide)))).weaken (show w0.heap.size ≤ _ by omega)
            have hfin2 := (on.mv pF.mv (.inr (on.neBlock hE (by decide)))).weaken (show w0.heap.size ≤ _ by omega)
            clear pF hE hD sD
            generalize w21.heap.size = k at *
            exact hG g n k _ ⟨xF, hsD, hF, hfin1, hfin2⟩
        · clear hh21
          rintro g n k w7 ⟨x7, hk7, hk, og, on⟩
          refine wph_done (by decide +kernel) ?_
          repeat' (first | ((with_reducible refine o_s ?_); (first | (refine o_1 ?_; refine o_2 ?_) | (refine o_g ?_; first | refine o_u ?_ | refine o_k ?_ | refine o_n ?_ | refine o_v ?_ | ((first | refine o_G ?_ ?_ | refine o_N ?_ ?_) <;> intro hc)))) | ((fail_if_success (with_reducible refine o_s ?_)); go_step))
          have hx7 := hx6.trans x7
          have hcz7 := ((((x2.trans x4).trans x5).trans x6).trans x7).at hcz
          have hbk7 := x7.at hbk6
          have hs7 := hs6.ext x7
          have hE7 : Ext w0 w7 := hE0.trans hx7
          obtain ⟨css, hdo, hdlen, hdat⟩ := (hdl6.ext x7).out
          have hnb : dv.ownBlock ≠ some b := hdo.neBlock hbk7 (by decide)
          have hnz : dv.ownBlock ≠ some w.heap.size := hdo.neBlock hcz7 (by decide)
          have hnk : ∀ r, dv.ownBlock = some r → w0.heap.size ≤ r := fun r hr => (hdo.type hr).1
          have hkb : k ≠ b := by rintro rfl; rw [hk] at hbk7; simp at hbk7
          have hkz : k ≠ w.heap.size := by rintro rfl; rw [hk] at hcz7; simp at hcz7
          obtain ⟨hq, hq0⟩ := k_pts hbk7
          have hq3 : Pts w7 (partPtr (.pointer (some ⟨b, 0, none⟩)) 3) [dv] := hq.part 3
          have hkp := pts_block hk
          have hg1 := og.sl.one
          have hn1 := on.sl.one
          have h41 : ∀ f ∈ [[Value.int .i64 D.fr, .int .i64 D.to, g, n]], ∀ u ∈ f, u.oneCell' = true := by
            intro f hf u hu
            simp only [List.mem_singleton] at hf
            subst hf
            simp at hu
            rcases hu with rfl | rfl | rfl | rfl
            · rfl
            · rfl
            · exact hg1
            · exact hn1
          refine wpi_region 7 (Ext w7) (by decide +kernel) ?_
          intro w8 x8 _
          refine ⟨x8, ?_⟩
          ((with_reducible apply wpi_pure (i := 0)); (rfl); (rfl); (rfl); (decide +kernel); (decide +kernel); (decide +kernel); (rfl); (intro _; exact rn); (exact fun _ _ _ h => h); (refine gset ?_))
          ((with_reducible apply wpi_take (i := 1)); (rfl); (rfl); (rfl); (decide +kernel); (decide +kernel); (decide +kernel); (decide +kernel); (rfl); (intro _ _; exact rn); (exact fun _ _ _ h => h); (refine gset ?_)); ((with_reducible apply wpi_take (i := 2)); (rfl); (rfl); (rfl); (decide +kernel); (decide +kernel); (decide +kernel); (decide +kernel); (rfl); (intro _ _; exact rn); (exact fun _ _ _ h => h); (refine gset ?_))
          refine wpi_pure (i := 3) rfl rfl rfl (by decide +kernel) (by decide +kernel) (by decide +kernel) rfl (fun _ => Runs.fieldJ (off := 3) rfl (by decide +kernel)) (fun _ _ _ h => h) ?_; refine gset ?_
          ((with_reducible apply wpi_take (i := 4)); (rfl); (rfl); (rfl); (decide +kernel); (decide +kernel); (decide +kernel); (decide +kernel); (rfl); (intro _ _; exact rn); (exact fun _ _ _ h => h); (refine gset ?_)); ((with_reducible apply wpi_take (i := 5)); (rfl); (rfl); (rfl); (decide +kernel); (decide +kernel); (decide +kernel); (decide +kernel); (rfl); (intro _ _; exact rn); (exact fun _ _ _ h => h); (refine gset ?_))
          refine wpi_op (i := 6) (by decide +kernel) rfl rfl ?_
          refine wpl_slice (e := 34) (k := 4) (bytes := 64) (xs := [.agg #[.int .i64 D.fr, .int .i64 D.to, g, n]]) rfl rfl rfl (by simp [Value.cells]) (by decide +kernel) (by simp) ?_
          intro vB wB xB szB slB owB
          refine gset ?_
          have x7B := x8.trans xB
          refine wph_nil ⟨till_yes x7B, ?_⟩
          refine wpi_op (i := 7) (by decide +kernel) rfl rfl ?_
          refine wpl_appendOff (e := 34) (k := 4) rfl (hdo.ext x7B) rfl slB (by simp) h41 (hE7.trans x7B).size (by rw [hdlen]; simp; omega) ?_
          intro a9 w9 o9 m9 _
          refine gset ?_
          have hs9 : SetsV w0.heap.size w9 v l := (hs7.ext x7B).mvO (hdo.ext x7B) (by decide) (by decide) m9
          have hE9 : Ext w0 w9 := (hE7.trans x7B).move m9 hnk
          have hbk9 := m9.at (x7B.at hbk7) (fun e => hnb e.symm)
          have hcz9 := m9.at (x7B.at hcz7) (fun e => hnz e.symm)
          have hK9 : KeptK b w w9 := (KeptK.of (hx7.trans x7B)).trans (KeptK.mv (hdo.ext x7B) m9)
          have hD9 : DelsK w0.heap.size w9 a9 (ds ++ [D]) := DelsK.add (hdo.ext x7B) hdlen (fun i d hi => let ⟨x, y, a, b, c⟩ := hdat i d hi; ⟨x, y, a, b.ext x7B, c.ext x7B⟩) m9 o9 (og.ext x7B) (on.ext x7B)
          refine wph_nil ⟨till_no rfl, ?_⟩
          ((with_reducible apply wpi_pure (i := 8)); (rfl); (rfl); (rfl); (decide +kernel); (decide +kernel); (decide +kernel); (rfl); (intro _; exact rn); (exact fun _ _ _ h => h); (refine gset ?_))
          refine wpi_pure (i := 9) rfl rfl rfl (by decide +kernel) (by decide +kernel) (by decide +kernel) rfl (fun _ => Runs.fieldJ (off := 3) rfl (by decide +kernel)) (fun _ _ _ h => h) ?_; refine gset ?_
          refine wpi_op (i := 10) (by decide +kernel) rfl rfl ?_
          refine wpl_storeF (n := 3) hbk9 rfl rfl rfl (by simp [jC]) (by decide +kernel) o9.sl.one ?_
          intro w10 p10
          refine wph_nil ⟨till_no rfl, ?_⟩
          refine wpi_done (by decide +kernel) ?_
          have hbk10 : w10.heap[b]? = some (.cells (jC o' v room a9).toArray 92 (0, 0)) := p10.this
          have hK10 := hK9.trans (KeptK.put p10)
          have hE10 : Ext w0 w10 := hE9.move p10.mv (by rintro k ⟨⟩; exact h.ge)
          have hD10 := hD9.put hbk9 (by decide) (by decide) p10
          have hs10 := hs9.put hbk9 (by decide) (by decide) p10
          have hcz10 := p10.mv.at hcz9 (by intro e; have := Option.some.inj e; subst this; rw [hcz9] at hbk9; simp at hbk9)
          clear p10 m9 o9 hq hq0 hq3 hkp hdo hdat hp hp0
          have hlen : (ds ++ [D]).length ≤ 21 := by simp; omega
          have hT := trim_tail D hdr
          generalize hes : ds ++ [D] = es at *
          obtain ⟨hp, hp0⟩ := k_pts hbk10
          obtain ⟨ces, hsl, hcl⟩ := hD10.len
          have hp3 : Pts w10 (partPtr (.pointer (some ⟨b, 0, none⟩)) 3) [a9] := hp.part 3
          have hp2 : Pts w10 (partPtr (.pointer (some ⟨b, 0, none⟩)) 2) [.int .i64 room] := (hp.part 2).front 1
          repeat' (first | ((with_reducible refine o_s ?_); (first | (refine o_1 ?_; refine o_2 ?_) | (refine o_g ?_; first | refine o_u ?_ | refine o_k ?_ | refine o_n ?_ | refine o_v ?_ | ((first | refine o_G ?_ ?_ | refine o_N ?_ ?_) <;> intro hc)))) | ((fail_if_success (with_reducible refine o_s ?_)); go_step))
          refine wpq_region (by decide +kernel) (by decide +kernel) ?_
          repeat' (first | ((with_reducible refine q_s ?_); (first | (refine q_1 ?_; refine q_2 ?_) | (refine q_g ?_; first | refine q_u ?_ | refine q_k ?_ | refine q_v ?_))) | (with_reducible refine q_n ?_))
          refine wpq_run0 (fun _ _ => Runs.fieldJ (off := 3) rfl (by decide +kernel)) ?_
          refine gset ?_
          repeat' (first | ((with_reducible refine q_s ?_); (first | (refine q_1 ?_; refine q_2 ?_) | (refine q_g ?_; first | refine q_u ?_ | refine q_k ?_ | refine q_v ?_))) | (with_reducible refine q_n ?_))
          refine wpq_run0 (fun _ _ => Runs.fieldJ (off := 2) rfl (by decide +kernel)) ?_
          refine gset ?_
          repeat' (first | ((with_reducible refine q_s ?_); (first | (refine q_1 ?_; refine q_2 ?_) | (refine q_g ?_; first | refine q_u ?_ | refine q_k ?_ | refine q_v ?_))) | (with_reducible refine q_n ?_))
          intro w11 x11
          rw [hcl]
          have hbk11 := x11.at hbk10
          have hcz11 := x11.at hcz10
          have hD11 := hD10.ext x11
          have hK11 := hK10.trans (KeptK.of x11)
          have hE11 := hE10.trans x11
          have hsl11 := hsl.ext x11
          clear hp hp0 hp2 hp3 hsl hD10 hE10 hK10 hbk10 hcz10
          by_cases hc : room < (es.length : Int)
          · rw [if_pos hc] at hT
            rw [decide_eq_true hc]
            obtain ⟨hp, hp0⟩ := k_pts hbk11
            have hp3 : Pts w11 (partPtr (.pointer (some ⟨b, 0, none⟩)) 3) [a9] := hp.part 3
            repeat' (first | ((with_reducible refine o_s ?_); (first | (refine o_1 ?_; refine o_2 ?_) | (refine o_g ?_; first | refine o_u ?_ | refine o_k ?_ | refine o_n ?_ | refine o_v ?_ | ((first | refine o_G ?_ ?_ | refine o_N ?_ ?_) <;> intro hc)))) | ((fail_if_success (with_reducible refine o_s ?_)); go_step))
            refine wpl_run0 (Runs.fieldJ (off := 3) rfl (by decide +kernel)) ?_
            refine gset ?_
            repeat' (first | ((with_reducible refine o_s ?_); (first | (refine o_1 ?_; refine o_2 ?_) | (refine o_g ?_; first | refine o_u ?_ | refine o_k ?_ | refine o_n ?_ | refine o_v ?_ | ((first | refine o_G ?_ ?_ | refine o_N ?_ ?_) <;> intro hc)))) | ((fail_if_success (with_reducible refine o_s ?_)); go_step))
            refine wpl_run0 (Runs.fieldJ (off := 3) rfl (by decide +kernel)) ?_
            refine gset ?_
            rw [hcl]
            have hDt := hD11.drop (m := 1) (by omega)
            obtain ⟨_, h1s, _⟩ := hDt.len
            refine wpl_storeF (n := 3) hbk11 rfl rfl rfl (by simp [jC]) (by decide +kernel) h1s.one ?_
            intro w12 p12
            have hbk12 : w12.heap[b]? = some (.cells (jC o' v room (cutSl a9 4 1 es.length)).toArray 92 (0, 0)) := p12.this
            have hK12 := hK11.trans (KeptK.put p12)
            have hE12 : Ext w0 w12 := hE11.move p12.mv (by rintro k ⟨⟩; exact h.ge)
            have hD12 := hDt.put hbk11 (by decide) (by decide) p12
            have hcz12 := p12.mv.at hcz11 (by intro e; have := Option.some.inj e; subst this; rw [hcz11] at hbk11; simp at hbk11)
            have hTes : trimD room es = es.drop 1 := hT
            clear p12 hp hp0 hp3 hD11 hDt h1s hsl11 hK11 hE11
            have hpz12 := pts_block (cs := [str o', v']) hcz12
            have hv12 := hv0.ext hE12
            obtain ⟨hp, hp0⟩ := k_pts hbk12
            repeat' (first | ((with_reducible refine o_s ?_); (first | (refine o_1 ?_; refine o_2 ?_) | (refine o_g ?_; first | refine o_u ?_ | refine o_k ?_ | refine o_n ?_ | refine o_v ?_ | ((first | refine o_G ?_ ?_ | refine o_N ?_ ?_) <;> intro hc)))) | ((fail_if_success (with_reducible refine o_s ?_)); go_step))
            refine wpl_callR (enters_of Tryz.func27 rfl rfl) rfl rfl (r8_Copy o' v' l' _ hv12 (by omega) hb') ?_
            rintro r w13 x13 ⟨y, rfl, hy⟩
            have hbk13 := x13.at hbk12
            have hy1 : y.oneCell' = true := by obtain ⟨_, _, _, rfl⟩ := hy.slf; rfl
            have hD13 := hD12.ext x13
            have hyw := hy.weaken hE12.size
            refine gset ?_
            repeat' (first | ((with_reducible refine o_s ?_); (first | (refine o_1 ?_; refine o_2 ?_) | (refine o_g ?_; first | refine o_u ?_ | refine o_k ?_ | refine o_n ?_ | refine o_v ?_ | ((first | refine o_G ?_ ?_ | refine o_N ?_ ?_) <;> intro hc)))) | ((fail_if_success (with_reducible refine o_s ?_)); go_step))
            refine wpl_storeS (n := 0) (vs := [str o', y]) hbk13 rfl rfl rfl rfl (by simp [jC]) (show sizeTy Tryz.prog 25 2 = true by decide +kernel) (by intro u hu; simp at hu; rcases hu with rfl | rfl <;> first | rfl | assumption) ?_
            intro w14 p14
            repeat' (first | ((with_reducible refine o_s ?_); (first | (refine o_1 ?_; refine o_2 ?_) | (refine o_g ?_; first | refine o_u ?_ | refine o_k ?_ | refine o_n ?_ | refine o_v ?_ | ((first | refine o_G ?_ ?_ | refine o_N ?_ ?_) <;> intro hc)))) | ((fail_if_success (with_reducible refine o_s ?_)); go_step))
            go_ret
            refine ⟨by rw [hE]; rfl, ((hK12.trans (KeptK.of x13)).trans (KeptK.put p14)), fun h0 => absurd hE h0, fun _ => ⟨h.ge, (hE12.trans x13).move p14.mv (by rintro k ⟨⟩; exact h.ge), y, _, p14.this, hyw.put hbk13 (by decide) (by decide) p14, by rw [hDq, hes, hTes]; exact hD13.put hbk13 (by decide) (by decide) p14⟩⟩
          · rw [if_neg hc] at hT
            rw [decide_eq_false hc]
            have hbk12 := hbk11
            have hK12 := hK11
            have hE12 := hE11
            have hD12 := hD11
            have hcz12 := hcz11
            have hTes : trimD room es = es := hT
            clear hD11 hsl11 hK11 hE11
            have hpz12 := pts_block (cs := [str o', v']) hcz12
            have hv12 := hv0.ext hE12
            obtain ⟨hp, hp0⟩ := k_pts hbk12
            repeat' (first | ((with_reducible refine o_s ?_); (first | (refine o_1 ?_; refine o_2 ?_) | (refine o_g ?_; first | refine o_u ?_ | refine o_k ?_ | refine o_n ?_ | refine o_v ?_ | ((first | refine o_G ?_ ?_ | refine o_N ?_ ?_) <;> intro hc)))) | ((fail_if_success (with_reducible refine o_s ?_)); go_step))
            refine wpl_callR (enters_of Tryz.func27 rfl rfl) rfl rfl (r8_Copy o' v' l' _ hv12 (by omega) hb') ?_
            rintro r w13 x13 ⟨y, rfl, hy⟩
            have hbk13 := x13.at hbk12
            have hy1 : y.oneCell' = true := by obtain ⟨_, _, _, rfl⟩ := hy.slf; rfl
            have hD13 := hD12.ext x13
            have hyw := hy.weaken hE12.size
            refine gset ?_
            repeat' (first | ((with_reducible refine o_s ?_); (first | (refine o_1 ?_; refine o_2 ?_) | (refine o_g ?_; first | refine o_u ?_ | refine o_k ?_ | refine o_n ?_ | refine o_v ?_ | ((first | refine o_G ?_ ?_ | refine o_N ?_ ?_) <;> intro hc)))) | ((fail_if_success (with_reducible refine o_s ?_)); go_step))
            refine wpl_storeS (n := 0) (vs := [str o', y]) hbk13 rfl rfl rfl rfl (by simp [jC]) (show sizeTy Tryz.prog 25 2 = true by decide +kernel) (by intro u hu; simp at hu; rcases hu with rfl | rfl <;> first | rfl | assumption) ?_
            intro w14 p14
            repeat' (first | ((with_reducible refine o_s ?_); (first | (refine o_1 ?_; refine o_2 ?_) | (refine o_g ?_; first | refine o_u ?_ | refine o_k ?_ | refine o_n ?_ | refine o_v ?_ | ((first | refine o_G ?_ ?_ | refine o_N ?_ ?_) <;> intro hc)))) | ((fail_if_success (with_reducible refine o_s ?_)); go_step))
            go_ret
            refine ⟨by rw [hE]; rfl, ((hK12.trans (KeptK.of x13)).trans (KeptK.put p14)), fun h0 => absurd hE h0, fun _ => ⟨h.ge, (hE12.trans x13).move p14.mv (by rintro k ⟨⟩; exact h.ge), y, _, p14.this, hyw.put hbk13 (by decide) (by decide) p14, by rw [hDq, hes, hTes]; exact hD13.put hbk13 (by decide) (by decide) p14⟩⟩
    · rw [decide_eq_false q2]
      have hE : updE o l o' l' = 1 := by rw [updE, if_neg q1', if_pos q2]
      repeat' (first | ((with_reducible refine o_s ?_); (first | (refine o_1 ?_; refine o_2 ?_) | (refine o_g ?_; first | refine o_u ?_ | refine o_k ?_ | refine o_n ?_ | refine o_v ?_ | ((first | refine o_G ?_ ?_ | refine o_N ?_ ?_) <;> intro hc)))) | ((fail_if_success (with_reducible refine o_s ?_)); go_step))
      go_ret
      exact ⟨by rw [hE]; rfl, KeptK.of hx5, fun _ => hJ5, fun h0 => by rw [hE] at h0; cases h0⟩
  · have hE : updE o l o' l' = zoneR o' l' := by rw [updE, if_pos q1]
    repeat' (first | ((with_reducible refine o_s ?_); (first | (refine o_1 ?_; refine o_2 ?_) | (refine o_g ?_; first | refine o_u ?_ | refine o_k ?_ | refine o_n ?_ | refine o_v ?_ | ((first | refine o_G ?_ ?_ | refine o_N ?_ ?_) <;> intro hc)))) | ((fail_if_success (with_reducible refine o_s ?_)); go_step))
    all_goals first
      | (exfalso
         have hh := ‹(!decide (zoneR o' l' = 0)) = false›
         simp [q1] at hh
         done)
      | (go_ret
         exact ⟨by rw [hE]; rfl, KeptK.of hx4, fun _ => hJ4, fun h0 => by rw [hE] at h0; exact absurd h0 q1⟩)
end Go.Proofs.X
