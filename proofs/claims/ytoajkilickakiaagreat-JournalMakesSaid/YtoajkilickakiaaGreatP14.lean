/- Laws and walks that the proof of the statement is made of (part 14). -/
import Derived.Test.YtoajkilickakiaaGreatProg
import Derived.Test.YtoajkilickakiaaGreatShelf
import Derived.Shelf.SlSortCmp.NoneTotal
import Derived.Shelf.RegionOpenPlain
import Derived.Lib.Strings
import Derived.Lib.Slices
import Derived.Lib.Walk
import Derived.Lib.Builder
import Derived.Lib.AppendStr
import Derived.Lib.UnsafeStr
import Derived.Lib.MakeNoZero
import Derived.WalkKit
import Derived.Laws.Externs
import Derived.Laws.IdiomCopy
import Derived.Laws.BitsLemmas
import GoSem.Claims
import Derived.Lib.Hide
import Derived.OwnWalk
import Derived.OrdersIn
import Derived.LoopIn
import Derived.Laws.Pointers
import Derived.Test.YtoajkilickakiaaGreatP1
import Derived.Test.YtoajkilickakiaaGreatP2
import Derived.Test.YtoajkilickakiaaGreatP3
import Derived.Test.YtoajkilickakiaaGreatP4
import Derived.Test.YtoajkilickakiaaGreatP5
import Derived.Test.YtoajkilickakiaaGreatP7
import Derived.Test.YtoajkilickakiaaGreatP8
import Derived.Test.YtoajkilickakiaaGreatP9
import Derived.Test.YtoajkilickakiaaGreatP10
import Derived.Test.YtoajkilickakiaaGreatP11
import Derived.Test.YtoajkilickakiaaGreatP12
import Derived.Test.YtoajkilickakiaaGreatP13
set_option linter.unusedSimpArgs false
set_option linter.unusedVariables false
namespace Go.Proofs.X
open Go.RowKit
set_option maxRecDepth 100000
def sinceI (ds : List DeltaR) (s : Int) : Nat → Option Nat
  | 0 => none
  | k + 1 => if (ds[k]?.map DeltaR.fr) = some s then some k else sinceI ds s k
def sinceR (o : List UInt8) (l : List RSet) (ds : List DeltaR) (s : Int) : List DeltaR × Bool :=
  if s = (soaZ o l).serial then ([], true) else match sinceI ds s ds.length with | some i => (ds.drop i, true) | none => ([], false)
section
variable {P : Program} {w w' : World} {ts : List Value} {df : List Deferred} {d : Option Nat} {ty : TypeId} {ps : String} {af : Array Edge} {g : Option (Nat × Bool)}
theorem Runs.idxW {t : TypeId} {m : Nat} {i : Operand} {k n : Nat} {es : List (List Value)} (hi : (Act.mk ts.toArray df).eval i = .int .i64 (n : Nat)) (h : Sl k w' (ts.getD m undef) es) (hn : n < es.length) (ht : sliceOf P t k = true) :
    Runs P (Oper.mk d (.indexAddr t (.tmp m) i) ty ps af g) (Act.mk ts.toArray df) w (elemPtr (ts.getD m undef) (n * k)) := by
  have hx : (Act.mk ts.toArray df).eval (.tmp m) = ts.getD m undef := evalT m
  obtain ⟨ad, cap, h1, h2, h3, h4, h5, h6⟩ := h
  obtain ⟨b, o, rfl, hc⟩ := h6 (by rintro rfl; simp at hn)
  obtain ⟨e, ie, ht, hie, hz⟩ := sliceOf_spec ht
  rw [h1] at hx ⊢
  constructor
  simp [execOp, hx, hi, Instr.indexAt, asIntOf, run_underlying ht, sizeOf, typeInfo, hie, hz, elemPtr, hn]
theorem Runs.fieldW {s : TypeId} {m : Nat} {n off : Nat} {vs : List Value} (h : Pts w' (ts.getD m undef) vs) (hf : fieldIs P s n off = true) :
    Runs P (Oper.mk d (.fieldAddr s (.tmp m) n) ty ps af g) (Act.mk ts.toArray df) w (partPtr (ts.getD m undef) off) := by
  obtain ⟨b, o, h1, hc⟩ := h
  rw [h1]
  exact Runs.fieldJ h1 hf
end
theorem DelsV.below {B b : Nat} {w w' : World} {v : Value} {ds : List DeltaR} {o : Obj} (h : DelsV B w v ds) (hp : Put w w' b o) (hb : b < B) : DelsV B w' v ds := by
  obtain ⟨css, a, c, e⟩ := h
  refine ⟨css, a.mv hp.mv ?_, c, fun i d hi => let ⟨g, n, x, y, z⟩ := e i d hi; ⟨g, n, x, y.put hp hb, z.put hp hb⟩⟩
  cases hv : v.ownBlock with
  | none => exact .inl rfl
  | some r => have := (a.type hv).1; exact .inr (fun e => by have := Option.some.inj e; omega)
theorem DelsV.weaken {B C : Nat} {w : World} {v : Value} {ds : List DeltaR} (h : DelsV B w v ds) (hc : C ≤ B) : DelsV C w v ds := by
  obtain ⟨css, a, c, e⟩ := h
  exact ⟨css, a.weaken hc, c, fun i d hi => let ⟨g, n, x, y, z⟩ := e i d hi; ⟨g, n, x, y.weaken hc, z.weaken hc⟩⟩
structure DelN (B : Nat) (w : World) (css0 css : List (List Value)) (ds : List DeltaR) (k : Nat) : Prop where
  len : css.length = ds.length
  new : ∀ (i : Nat) (d : DeltaR), ds[i]? = some d → i < k → ∃ g n, css[i]? = some [.int .i64 d.fr, .int .i64 d.to, g, n] ∧ Own B 4 75 w g (rcells d.gone) ∧ Own B 4 75 w n (rcells d.new)
  old : ∀ i, k ≤ i → css[i]? = css0[i]?
theorem DelN.ext {B : Nat} {w w' : World} {css0 css : List (List Value)} {ds : List DeltaR} {k : Nat} (h : DelN B w css0 css ds k) (hx : Ext w w') : DelN B w' css0 css ds k :=
  ⟨h.len, fun i s hi hk => let ⟨x, y, a, b, c⟩ := h.new i s hi hk; ⟨x, y, a, b.ext hx, c.ext hx⟩, h.old⟩
theorem DelN.mv {B : Nat} {w w' : World} {css0 css : List (List Value)} {ds : List DeltaR} {k : Nat} {row : Option Nat} (h : DelN B w css0 css ds k) (hm : Mv row w w') (hne : ∀ x es, Own B 4 75 w x es → x.ownBlock = none ∨ x.ownBlock ≠ row) : DelN B w' css0 css ds k :=
  ⟨h.len, fun i s hi hk => let ⟨x, y, a, b, c⟩ := h.new i s hi hk; ⟨x, y, a, b.mv hm (hne x _ b), c.mv hm (hne y _ c)⟩, h.old⟩
theorem DelN.step {B : Nat} {w : World} {css0 css : List (List Value)} {ds : List DeltaR} {k : Nat} (h : DelN B w css0 css ds k) (hk : k < ds.length) {x y : Value} (hx : Own B 4 75 w x (rcells ds[k].gone)) (hy : Own B 4 75 w y (rcells ds[k].new)) :
    DelN B w css0 (css.set k [.int .i64 ds[k].fr, .int .i64 ds[k].to, x, y]) ds (k + 1) := by
  refine ⟨by rw [List.length_set, h.len], fun i s hi hik => ?_, fun i hi => ?_⟩
  · by_cases e : k = i
    · subst e
      rw [List.getElem?_eq_getElem hk] at hi
      cases hi
      exact ⟨x, y, List.getElem?_set_self (by rw [h.len]; exact hk), hx, hy⟩
    · obtain ⟨x, y, a, b⟩ := h.new i s hi (by omega)
      exact ⟨x, y, by rw [List.getElem?_set_ne e]; exact a, b⟩
  · rw [List.getElem?_set_ne (by omega)]; exact h.old i (by omega)
theorem DelN.done {B B' : Nat} {w : World} {v : Value} {css0 css : List (List Value)} {ds : List DeltaR} (h : DelN B w css0 css ds ds.length) (ho : Own B 4 30 w v css) : DelsV B w v ds :=
  ⟨css, ho.off, h.len, fun i s hi => h.new i s hi (List.getElem?_eq_some_iff.1 hi).1⟩
structure SinMid (w4 : World) (ds : List DeltaR) (s : Int) (lp : Loop) (k : Nat) (W : World) : Prop where
  ext : Ext w4 W
  df : W.heap[w4.heap.size]? = some (.deferred (some []))
  lp : W.heap[w4.heap.size + 1]? = some (.loop lp)
  size : w4.heap.size + 2 ≤ W.heap.size
  so : sinceI ds s ds.length = sinceI ds s k
structure SinOut (w w4 : World) (ds : List DeltaR) (s : Int) (lp : Loop) (W : World) : Prop where
  ext : Ext w W
  df : W.heap[w4.heap.size]? = some (.deferred (some []))
  lp : W.heap[w4.heap.size + 1]? = some (.loop { lp with state := .done, pending := some .ret })
  out : ∃ i y, sinceI ds s ds.length = some i ∧ W.heap[w.heap.size + 2]? = some (.cells #[y] 93 (0, 0)) ∧ W.heap[w.heap.size + 3]? = some (.cells #[.bool true] 4 (0, 0)) ∧ DelsV (w4.heap.size + 2) W y (ds.drop i)
set_option maxHeartbeats 4000000 in
theorem p_Since {w0 w : World} {b : Nat} {o : List UInt8} {l : List RSet} {room : Int} {ds : List DeltaR} (h : JAt w0 w b o l room ds) (hb : ∀ s ∈ l, s.data.length ≤ 1000000) (hd : ∀ s ∈ l, ∀ d ∈ s.data, d.length ≤ 4611686018427387904)
    (hl : ds.length ≤ 1000) (hg : ∀ d ∈ ds, d.gone.length ≤ 1000000 ∧ d.new.length ≤ 1000000) (s : Int) :
    Calls Tryz.prog 59 #[.pointer (some ⟨b, 0, none⟩), .int .i64 s] w (Ret w fun r w' => ∃ y, r = .tuple #[y, .bool (sinceR o l ds s).2] ∧ DelsV w.heap.size w' y (sinceR o l ds s).1) := by
  refine calls_of_wp_marks Tryz.func59 rfl ?_
  simp only [Tryz.ntmps59, List.size_toArray, List.length_cons, List.length_nil, Nat.reduceAdd, Nat.reduceSub, Array.replicate_succ, Array.replicate_zero, List.push_toArray, List.append_toArray, List.nil_append, List.cons_append]
  repeat' ((fail_if_success (with_reducible refine o_s ?_)); go_step)
  refine wpl_boxB (vs := [.pointer (some ⟨b, 0, none⟩)]) rfl rfl ?_
  intro w1 x1 s1 h1
  refine gset ?_
  refine wpl_boxB (vs := [.int .i64 s]) rfl rfl ?_
  intro w2 x2 s2 h2
  refine gset ?_
  refine wpl_allocB (z := [.slice none 0 0]) rfl (by decide +kernel) ?_
  intro w3 x3 s3 h3
  refine gset ?_
  refine wpl_allocB (z := [.bool false]) rfl (by decide +kernel) ?_
  intro w4 x4 s4 h4
  refine gset ?_
  have e2 : w2.heap.size = w.heap.size + 2 := by omega
  have e3 : w3.heap.size = w.heap.size + 3 := by omega
  have e4 : w4.heap.size = w.heap.size + 4 := by omega
  rw [s1] at h2 ⊢
  rw [e2] at h3 ⊢
  rw [e3] at h4 ⊢
  have g0 : w4.heap[w.heap.size]? = _ := x4.at (x3.at (x2.at h1))
  have g1 : w4.heap[w.heap.size + 1]? = _ := x4.at (x3.at h2)
  have g2 : w4.heap[w.heap.size + 2]? = _ := x4.at h3
  have g3 : w4.heap[w.heap.size + 3]? = _ := h4
  have gx : Ext w w4 := ((x1.trans x2).trans x3).trans x4
  clear h1 h2 h3 h4 x1 x2 x3 x4 s1 s2 s3 s4 e2 e3
  have hJ4 := h.grow gx
  have hp0 := pts_block (cs := [.pointer (some ⟨b, 0, none⟩)]) g0
  have hp1 := pts_block (cs := [.int .i64 s]) g1
  repeat' (first | ((with_reducible refine o_s ?_); (first | (refine o_1 ?_; refine o_2 ?_) | (refine o_g ?_; first | refine o_u ?_ | refine o_k ?_ | refine o_n ?_ | refine o_v ?_ | ((first | refine o_G ?_ ?_ | refine o_N ?_ ?_) <;> intro hc)))) | ((fail_if_success (with_reducible refine o_s ?_)); go_step))
  refine wpl_run0 (Runs.isNil rfl rfl (by kernel_rfl)) ?_
  refine gset ?_
  repeat' (first | ((with_reducible refine o_s ?_); (first | (refine o_1 ?_; refine o_2 ?_) | (refine o_g ?_; first | refine o_u ?_ | refine o_k ?_ | refine o_n ?_ | refine o_v ?_ | ((first | refine o_G ?_ ?_ | refine o_N ?_ ?_) <;> intro hc)))) | ((fail_if_success (with_reducible refine o_s ?_)); go_step))
  refine wpq_region (by decide +kernel) (by decide +kernel) ?_
  repeat' (first | ((with_reducible refine q_s ?_); (first | (refine q_1 ?_; refine q_2 ?_) | (refine q_g ?_; first | refine q_u ?_ | refine q_k ?_ | refine q_v ?_))) | (with_reducible refine q_n ?_))
  refine wpq_call (enters_of Tryz.func56 rfl rfl) rfl rfl (fun w' x' => p_Serial (hJ4.grow x') hb hd) ?_
  refine gset ?_
  repeat' (first | ((with_reducible refine q_s ?_); (first | (refine q_1 ?_; refine q_2 ?_) | (refine q_g ?_; first | refine q_u ?_ | refine q_k ?_ | refine q_v ?_))) | (with_reducible refine q_n ?_))
  intro w5 x5
  have hx5 := gx.trans x5
  have hJ5 := hJ4.grow x5
  have g0 := x5.at g0
  have g1 := x5.at g1
  have g2 := x5.at g2
  have g3 := x5.at g3
  clear hp0 hp1 hJ4
  have hp0 := pts_block (cs := [.pointer (some ⟨b, 0, none⟩)]) g0
  have hp1 := pts_block (cs := [.int .i64 s]) g1
  by_cases q1 : s = (soaZ o l).serial
  · rw [decide_eq_true q1]
    repeat' (first | ((with_reducible refine o_s ?_); (first | (refine o_1 ?_; refine o_2 ?_) | (refine o_g ?_; first | refine o_u ?_ | refine o_k ?_ | refine o_n ?_ | refine o_v ?_ | ((first | refine o_G ?_ ?_ | refine o_N ?_ ?_) <;> intro hc)))) | ((fail_if_success (with_reducible refine o_s ?_)); go_step))
    refine wpl_store1 (v := .slice none 0 0) rfl rfl rfl g2 (by decide +kernel) rfl ?_
    intro w6 p6
    refine wpl_store1 (v := .bool true) rfl rfl rfl (p6.at g3 (by omega)) (by decide +kernel) rfl ?_
    intro w7 p7
    repeat' (first | ((with_reducible refine o_s ?_); (first | (refine o_1 ?_; refine o_2 ?_) | (refine o_g ?_; first | refine o_u ?_ | refine o_k ?_ | refine o_n ?_ | refine o_v ?_ | ((first | refine o_G ?_ ?_ | refine o_N ?_ ?_) <;> intro hc)))) | ((fail_if_success (with_reducible refine o_s ?_)); go_step))
    refine leaves_nil (results_cells2 rfl rfl rfl (p7.at p6.this (by omega)) p7.this (by decide +kernel) (by decide +kernel)) ⟨_, rfl, (hx5.move p6.mv (by rintro k ⟨⟩; omega)).move p7.mv (by rintro k ⟨⟩; omega), ?_⟩
    rw [sinceR, if_pos q1]
    exact ⟨_, rfl, DelsV.nil _ _⟩
  · rw [decide_eq_false q1]
    obtain ⟨v, dv, hbk, hs, hdl⟩ := hJ5.out
    obtain ⟨hp, hq0⟩ := j_pts hbk
    have hq3 : Pts w5 (partPtr (.pointer (some ⟨b, 0, none⟩)) 3) [dv] := hp.part 3
    obtain ⟨css, hdo, hdlen, hdat⟩ := hdl.out
    have hsl := hdo.sl
    have hdc : dv.cells = #[dv] := by obtain ⟨_, _, _, rfl⟩ := hsl.slf; rfl
    repeat' (first | ((with_reducible refine o_s ?_); (first | (refine o_1 ?_; refine o_2 ?_) | (refine o_g ?_; first | refine o_u ?_ | refine o_k ?_ | refine o_n ?_ | refine o_v ?_ | ((first | refine o_G ?_ ?_ | refine o_N ?_ ?_) <;> intro hc)))) | ((fail_if_success (with_reducible refine o_s ?_)); go_step))
    refine wpl_run0 (Runs.fieldJ (off := 3) rfl (by decide +kernel)) ?_
    refine gset ?_
    repeat' (first | ((with_reducible refine o_s ?_); (first | (refine o_1 ?_; refine o_2 ?_) | (refine o_g ?_; first | refine o_u ?_ | refine o_k ?_ | refine o_n ?_ | refine o_v ?_ | ((first | refine o_G ?_ ?_ | refine o_N ?_ ?_) <;> intro hc)))) | ((fail_if_success (with_reducible refine o_s ?_)); go_step))
    refine wpl_callG (enters_of Tryz.func104 rfl rfl) rfl rfl (p_Back dv hdc _) ?_
    rintro e w6 ⟨rfl, x6, s6, h6⟩
    refine ⟨_, rfl, ?_⟩
    refine gset ?_
    repeat' ((fail_if_success (with_reducible refine o_s ?_)); go_step)
    have hx6 := hx5.trans x6
    have g0 := x6.at g0
    have g1 := x6.at g1
    have g2 := x6.at g2
    have g3 := x6.at g3
    have hJ6 := hJ5.grow x6
    have hbk6 := x6.at hbk
    have hdo6 := hdo.ext x6
    have hsl6 := hsl.ext x6
    have hdat6 : ∀ (i : Nat) (d : DeltaR), ds[i]? = some d → ∃ g n, css[i]? = some [.int .i64 d.fr, .int .i64 d.to, g, n] ∧ Own w0.heap.size 4 75 w6 g (rcells d.gone) ∧ Own w0.heap.size 4 75 w6 n (rcells d.new) :=
      fun i d hi => let ⟨x, y, a, b, c⟩ := hdat i d hi; ⟨x, y, a, b.ext x6, c.ext x6⟩
    have hz6 : w.heap.size + 4 ≤ w6.heap.size := by have := x5.size; omega
    clear hp hq0 hq3 hp0 hp1 hdat hdo hbk hJ5 hsl x6 x5 gx hdl hs
    have hsh : ∀ c ∈ css, ∃ x y g n, c = [x, y, g, n] := by
      intro c hc
      obtain ⟨i, hi, rfl⟩ := List.mem_iff_getElem.1 hc
      obtain ⟨x, y, a, _⟩ := hdat6 i _ (List.getElem?_eq_getElem (by omega))
      rw [List.getElem?_eq_getElem hi] at a
      exact ⟨_, _, _, _, Option.some.inj a⟩
    have hone : ∀ c ∈ css, ∀ u ∈ c, u.oneCell' = true := by
      intro c hc u hu
      obtain ⟨i, hi, rfl⟩ := List.mem_iff_getElem.1 hc
      obtain ⟨x, y, a, b1, b2⟩ := hdat6 i _ (List.getElem?_eq_getElem (by omega))
      rw [List.getElem?_eq_getElem hi] at a
      rw [Option.some.inj a] at hu
      simp at hu
      rcases hu with rfl | rfl | rfl | rfl
      · rfl
      · rfl
      · exact b1.one
      · exact b2.one
    refine wp_rangeFunc_of (caps := #[.pointer (some ⟨w5.heap.size, 0, none⟩)]) rfl (enters_of Tryz.func142 rfl rfl) rfl ?_
    intro fn W lp hlp xW k4 k5 sW
    have hJ : SinMid w6 ds s lp css.length W := ⟨xW, k4, k5, by omega, by rw [hdlen]⟩
    have hrdy : lp.state = .ready ∧ lp.pending = none := by subst hlp; exact ⟨rfl, rfl⟩
    have hy : ∀ k c W, css[k]? = some c → SinMid w6 ds s lp (k + 1) W → RoundIn Fence.wide 0 Tryz.prog (w6.heap.size + 1) lp.fn ((lp.params.zip #[.int .i64 k, .agg c.toArray]).foldl (fun tmps (t, a) => tmps.setIfInBounds t a) lp.tmps) lp.assign lp.body W
        fun e W' => (e = .returned (.bool true) ∧ SinMid w6 ds s lp k W') ∨ (e = .returned (.bool false) ∧ SinOut w w6 ds s lp W') := by
      clear hJ xW k4 k5 sW W
      intro k c W hck hM
      have hkl : k < ds.length := by rw [← hdlen]; exact (List.getElem?_eq_some_iff.1 hck).1
      obtain ⟨g, n, hc, og, on⟩ := hdat6 k _ (List.getElem?_eq_getElem hkl)
      have hcc := Option.some.inj (hck.symm.trans hc)
      subst hcc
      subst hlp
      simp only [List.zip_toArray, List.zip_cons_cons, List.zip_nil_right, List.foldl_toArray', List.foldl_cons, List.foldl_nil, List.setIfInBounds_toArray, List.set_cons_succ, List.set_cons_zero, List.foldl_toArray, List.size_toArray, List.zip_toArray, List.length_cons, List.length_nil]
      have xM := hM.ext
      have md := hM.df
      have ml := hM.lp
      have ms := hM.size
      have mso := hM.so
      clear hM
      refine round_of ?_
      repeat' (first | refine wpR_region (by rfl) (by intro _ _ h; exact h) ?_ | ((with_reducible refine o_s ?_); (first | (refine o_1 ?_; refine o_2 ?_) | (refine o_g ?_; first | refine o_u ?_ | refine o_k ?_ | refine o_n ?_ | refine o_v ?_ | ((first | refine o_G ?_ ?_ | refine o_N ?_ ?_) <;> intro hc)))) | ((fail_if_success (with_reducible refine o_s ?_)); first | go_step | gi_step))
      refine wpl_allocB (z := zdel) rfl (by decide +kernel) ?_
      intro wB xB sB hB
      refine gset ?_
      refine wpl_storeB (v := .agg #[.int .i64 ds[k].fr, .int .i64 ds[k].to, g, n]) rfl rfl rfl hB (show sizeTy Tryz.prog 30 4 = true by decide +kernel) rfl (all4 rfl rfl og.sl.one on.sl.one) ?_
      intro wC pC
      have xC : Ext W wC := xB.move pC.mv (by rintro k ⟨⟩; exact Nat.le_refl _)
      have hdc0 := pC.this
      have hne : W.heap.size ≠ w6.heap.size + 1 := by omega
      have md := xC.at md
      have ml := xC.at ml
      have mss : w6.heap.size + 2 ≤ wC.heap.size := Nat.le_trans ms xC.size
      have xM := xM.trans xC
      clear pC hB xB sB xC
      repeat' (first | refine wpR_region (by rfl) (by intro _ _ h; exact h) ?_ | ((with_reducible refine o_s ?_); (first | (refine o_1 ?_; refine o_2 ?_) | (refine o_g ?_; first | refine o_u ?_ | refine o_k ?_ | refine o_n ?_ | refine o_v ?_ | ((first | refine o_G ?_ ?_ | refine o_N ?_ ?_) <;> intro hc)))) | ((fail_if_success (with_reducible refine o_s ?_)); first | go_step | gi_step))
      refine ⟨_, ml, rfl, ?_⟩
      intro wA pA
      have hdl := pts_block (cs := [.int .i64 ds[k].fr, .int .i64 ds[k].to, g, n]) (pA.at hdc0 hne)
      have xW : Ext w6 wA := xM.move pA.mv (by rintro k ⟨⟩; omega)
      have nd := pA.at md (by omega)
      have nl := pA.this
      have ns : w6.heap.size + 2 ≤ wA.heap.size := Nat.le_trans mss pA.mv.size
      clear pA md ml ms mss xM hdc0 hne
      have g0 := xW.at g0
      have g1 := xW.at g1
      have g2 := xW.at g2
      have g3 := xW.at g3
      have hp0 := pts_block (cs := [.pointer (some ⟨b, 0, none⟩)]) g0
      have hp1 := pts_block (cs := [.int .i64 s]) g1
      obtain ⟨hpA, hqA0⟩ := j_pts (xW.at hbk6)
      have hqA : Pts wA (partPtr (.pointer (some ⟨b, 0, none⟩)) 3) [dv] := hpA.part 3
      have hslA := hsl6.ext xW
      repeat' (first | refine wpR_region (by rfl) (by intro _ _ h; exact h) ?_ | ((with_reducible refine o_s ?_); (first | (refine o_1 ?_; refine o_2 ?_) | (refine o_g ?_; first | refine o_u ?_ | refine o_k ?_ | refine o_n ?_ | refine o_v ?_ | ((first | refine o_G ?_ ?_ | refine o_N ?_ ?_) <;> intro hc)))) | ((fail_if_success (with_reducible refine o_s ?_)); first | go_step | gi_step))
      · have hf : ds[k].fr ≠ s := by
          have hh := ‹(!decide (ds[k].fr = s)) = true›
          simpa using hh
        exact round_normal nl fun w' p' => .inl ⟨rfl, ⟨xW.move p'.mv (by rintro k ⟨⟩; omega), p'.at nd (by omega), p'.this, Nat.le_trans ns p'.mv.size, by rw [mso, sinceI, if_neg (by rw [List.getElem?_eq_getElem hkl]; simpa using hf)]⟩⟩
      · have hf : ds[k].fr = s := by
          have hh := ‹(!decide (ds[k].fr = s)) = false›
          simpa using hh
        have hso : sinceI ds s ds.length = some k := by rw [mso, sinceI, if_pos (by rw [List.getElem?_eq_getElem hkl]; simpa using hf)]
        have hkc : k < css.length := by omega
        clear mso
        refine wpl_run0 (Runs.fieldJ (off := 3) rfl (by decide +kernel)) ?_
        refine gset ?_
        repeat' (first | refine wpR_region (by rfl) (by intro _ _ h; exact h) ?_ | ((with_reducible refine o_s ?_); (first | (refine o_1 ?_; refine o_2 ?_) | (refine o_g ?_; first | refine o_u ?_ | refine o_k ?_ | refine o_n ?_ | refine o_v ?_ | ((first | refine o_G ?_ ?_ | refine o_N ?_ ?_) <;> intro hc)))) | ((fail_if_success (with_reducible refine o_s ?_)); first | go_step | gi_step))
        have hcut := ((hdo6.ext xW).drop (m := k) (by omega)).sl
        refine wpl_callR (enters_of Tryz.func105 rfl rfl) rfl rfl (p_CloneD _ (css.drop k) _ hcut (fun f hf => hone f (List.mem_of_mem_drop hf)) (by simp; omega)) ?_
        intro y wD xD oD
        refine gset ?_
        have xD6 := xW.trans xD
        have hB := xW.size
        have ndA := nd
        have nlA := nl
        have g2A := g2
        have g3A := g3
        have nd := xD.at nd
        have nl := xD.at nl
        have g2 := xD.at g2
        have g3 := xD.at g3
        have hdat : ∀ (i : Nat) (d : DeltaR), (ds.drop k)[i]? = some d → ∃ g n, (css.drop k)[i]? = some [.int .i64 d.fr, .int .i64 d.to, g, n] ∧ Own w0.heap.size 4 75 w6 g (rcells d.gone) ∧ Own w0.heap.size 4 75 w6 n (rcells d.new) := fun i d hi => by
          rw [List.getElem?_drop] at hi ⊢
          obtain ⟨x, y, a, b, c⟩ := hdat6 _ d hi
          exact ⟨x, y, a, b, c⟩
        have hgE : ∀ d ∈ ds.drop k, d.gone.length ≤ 1000000 ∧ d.new.length ≤ 1000000 := fun d hd => hg d (List.mem_of_mem_drop hd)
        have hlE : (css.drop k).length = (ds.drop k).length := by simp [hdlen]
        have hlm : (ds.drop k).length ≤ 1000 := by simp; omega
        generalize hE : ds.drop k = E at *
        generalize css.drop k = css0 at *
        clear hpA hqA0 hqA hslA hcut hp0 hp1 g0 g1 hdl
        have hsD := oD.sl
        repeat' (first | refine wpR_region (by rfl) (by intro _ _ h; exact h) ?_ | ((with_reducible refine o_s ?_); (first | (refine o_1 ?_; refine o_2 ?_) | (refine o_g ?_; first | refine o_u ?_ | refine o_k ?_ | refine o_n ?_ | refine o_v ?_ | ((first | refine o_G ?_ ?_ | refine o_N ?_ ?_) <;> intro hc)))) | ((fail_if_success (with_reducible refine o_s ?_)); first | go_step | gi_step))
        have x6D : Ext w6 wD := xD6
        gi_loopw [9, 10, 39] (fun _ _ i wr => ∃ (j : Nat) (cs : List (List Value)), j ≤ E.length ∧ i = .int .i64 j ∧ Ext wA wr ∧ wD.heap.size ≤ wr.heap.size ∧ Own wA.heap.size 4 30 wr y cs ∧ DelN wA.heap.size wr css0 cs E j) (fun _ _ i _ => E.length - (intOf i).toNat)
        case atStart => exact ⟨0, css0, Nat.zero_le _, rfl, xD, Nat.le_refl _, oD, ⟨hlE, by omega, fun i _ => rfl⟩⟩
        case round =>
          obtain ⟨j, cs, hj, rfl, hx, hBr, ho, hN⟩ := hrel
          have hsl := ho.sl
          have hlen := hN.len
          by_cases hlt : j < E.length
          · obtain ⟨gg, nn, hc0, og0, on0⟩ := hdat j _ (List.getElem?_eq_getElem hlt)
            have hc : cs[j]? = some [.int .i64 E[j].fr, .int .i64 E[j].to, gg, nn] := by rw [hN.old j (Nat.le_refl _)]; exact hc0
            have xDr : Ext w6 wr := xW.trans hx
            have hgb := hgE _ (List.getElem_mem hlt)
            have hpe := hsl.elem hc
            repeat' (first | refine wpR_region (by rfl) (by intro _ _ h; exact h) ?_ | ((with_reducible refine o_s ?_); (first | (refine o_1 ?_; refine o_2 ?_) | (refine o_g ?_; first | refine o_u ?_ | refine o_k ?_ | refine o_n ?_ | refine o_v ?_ | ((first | refine o_G ?_ ?_ | refine o_N ?_ ?_) <;> intro hc)))) | ((fail_if_success (with_reducible refine o_s ?_)); first | go_step | gi_step))
            have og1 := (og0.ext xDr).sl
            have on1 := (on0.ext xDr).sl
            refine wpl_allocB (z := zdel) rfl (by decide +kernel) ?_
            intro wE xE sE hE1
            refine gset ?_
            repeat' (first | refine wpR_region (by rfl) (by intro _ _ h; exact h) ?_ | ((with_reducible refine o_s ?_); (first | (refine o_1 ?_; refine o_2 ?_) | (refine o_g ?_; first | refine o_u ?_ | refine o_k ?_ | refine o_n ?_ | refine o_v ?_ | ((first | refine o_G ?_ ?_ | refine o_N ?_ ?_) <;> intro hc)))) | ((fail_if_success (with_reducible refine o_s ?_)); first | go_step | gi_step))
            refine wpl_storeB (v := .agg #[.int .i64 E[j].fr, .int .i64 E[j].to, gg, nn]) rfl rfl rfl hE1 (show sizeTy Tryz.prog 30 4 = true by decide +kernel) rfl (all4 rfl rfl og1.one on1.one) ?_
            intro wF pF
            have xF : Ext wr wF := xE.move pF.mv (by rintro k ⟨⟩; exact Nat.le_refl _)
            have hps := pts_block (cs := [.int .i64 E[j].fr, .int .i64 E[j].to, gg, nn]) pF.this
            have hxF := hx.trans xF
            have hoF := ho.ext xF
            have hNF := hN.ext xF
            have hslF := hoF.sl
            have hpeF := hslF.elem hc
            have og2 := og1.ext xF
            have on2 := on1.ext xF
            clear pF hE1 xE hpe hsl
            repeat' (first | refine wpR_region (by rfl) (by intro _ _ h; exact h) ?_ | ((with_reducible refine o_s ?_); (first | (refine o_1 ?_; refine o_2 ?_) | (refine o_g ?_; first | refine o_u ?_ | refine o_k ?_ | refine o_n ?_ | refine o_v ?_ | ((first | refine o_G ?_ ?_ | refine o_N ?_ ?_) <;> intro hc)))) | ((fail_if_success (with_reducible refine o_s ?_)); first | go_step | gi_step))
            refine wpiR_region 12 (Ext wF) (by decide +kernel) (by intro _ _ h; exact h) (by decide +kernel) ?_
            intro wG xG _
            refine ⟨xG, ?_⟩
            ((with_reducible apply wpi_take (i := 0)); (rfl); (rfl); (rfl); (decide +kernel); (decide +kernel); (decide +kernel); (decide +kernel); (rfl); (intro _ _; exact rn); (exact fun _ _ _ h => h); (refine gset ?_)); ((with_reducible apply wpi_take (i := 1)); (rfl); (rfl); (rfl); (decide +kernel); (decide +kernel); (decide +kernel); (decide +kernel); (rfl); (intro _ _; exact rn); (exact fun _ _ _ h => h); (refine gset ?_))
            ((with_reducible apply wpi_pure (i := 2)); (rfl); (rfl); (rfl); (decide +kernel); (decide +kernel); (decide +kernel); (rfl); (intro _; exact rn); (exact fun _ _ _ h => h); (refine gset ?_)); ((with_reducible apply wpi_pure (i := 3)); (rfl); (rfl); (rfl); (decide +kernel); (decide +kernel); (decide +kernel); (rfl); (intro _; exact rn); (exact fun _ _ _ h => h); (refine gset ?_))
            ((with_reducible apply wpi_take (i := 4)); (rfl); (rfl); (rfl); (decide +kernel); (decide +kernel); (decide +kernel); (decide +kernel); (rfl); (intro _ _; exact rn); (exact fun _ _ _ h => h); (refine gset ?_)); ((with_reducible apply wpi_take (i := 5)); (rfl); (rfl); (rfl); (decide +kernel); (decide +kernel); (decide +kernel); (decide +kernel); (rfl); (intro _ _; exact rn); (exact fun _ _ _ h => h); (refine gset ?_)); ((with_reducible apply wpi_take (i := 7)); (rfl); (rfl); (rfl); (decide +kernel); (decide +kernel); (decide +kernel); (decide +kernel); (rfl); (intro _ _; exact rn); (exact fun _ _ _ h => h); (refine gset ?_)); ((with_reducible apply wpi_take (i := 8)); (rfl); (rfl); (rfl); (decide +kernel); (decide +kernel); (decide +kernel); (decide +kernel); (rfl); (intro _ _; exact rn); (exact fun _ _ _ h => h); (refine gset ?_))
            refine wpi_op (i := 6) (by decide +kernel) rfl rfl ?_
            refine wpl_callR (enters_of Tryz.func82 rfl rfl) rfl rfl (p_CloneR gg E[j].gone _ (og2.ext xG) (by omega)) ?_
            intro u wH xH ou
            refine gset ?_
            have xFH := xG.trans xH
            refine wph_nil ⟨till_yes xFH, ?_⟩
            refine wpi_op (i := 9) (by decide +kernel) rfl rfl ?_
            refine wpl_callR (enters_of Tryz.func82 rfl rfl) rfl rfl (p_CloneR nn E[j].new _ (on2.ext xFH) (by omega)) ?_
            intro u2 wI xI ou2
            refine gset ?_
            have xFI := xFH.trans xI
            refine wph_nil ⟨till_yes xFI, ?_⟩
            ((with_reducible apply wpi_take (i := 10)); (rfl); (rfl); (rfl); (decide +kernel); (decide +kernel); (decide +kernel); (decide +kernel); (rfl); (intro _ _; exact rn); (exact fun _ _ _ h => h); (refine gset ?_)); ((with_reducible apply wpi_take (i := 11)); (rfl); (rfl); (rfl); (decide +kernel); (decide +kernel); (decide +kernel); (decide +kernel); (rfl); (intro _ _; exact rn); (exact fun _ _ _ h => h); (refine gset ?_))
            refine wpi_op (i := 12) (by decide +kernel) rfl rfl ?_
            have hoI := hoF.ext xFI
            have ouI := ou.ext xI
            refine wpl_storeEF (i := j) (j := 2) rfl rfl rfl hoI hc (by decide) (by decide +kernel) ou.one ?_
            intro wJ oJ mJ
            refine wph_nil ⟨till_no rfl, ?_⟩
            have oIJ := ouI.mv mJ (ouI.ne hoI (by decide))
            have o2J := ou2.mv mJ (ou2.ne hoI (by decide))
            have hNJ := (hNF.ext xFI).mv mJ (fun x es hx => hx.ne hoI (by decide))
            have xJ : Ext wA wJ := hoI.mvx mJ (hxF.trans xFI) (Nat.le_refl _)
            refine wpi_pure (i := 13) rfl rfl rfl (by decide +kernel) (by decide +kernel) (by decide +kernel) rfl (fun _ => Runs.idxW (k := 4) (n := j) rfl hslF (by omega) (by decide +kernel)) (fun _ _ _ h => h) ?_
            refine gset ?_
            refine wpi_pure (i := 14) rfl rfl rfl (by decide +kernel) (by decide +kernel) (by decide +kernel) rfl (fun _ => Runs.fieldW (off := 3) hpeF (by decide +kernel)) (fun _ _ _ h => h) ?_
            refine gset ?_
            refine wpi_op (i := 15) (by decide +kernel) rfl rfl ?_
            have hc2 := List.getElem?_set_self (a := [Value.int .i64 E[j].fr, .int .i64 E[j].to, gg, nn].set 2 u) (show j < cs.length by omega)
            refine wpl_storeEF (i := j) (j := 3) rfl rfl rfl oJ hc2 (by decide) (by decide +kernel) ou2.one ?_
            intro wK oK mK
            refine wph_nil ⟨till_no rfl, ?_⟩
            refine wpi_done (by decide +kernel) ?_
            have oIK := oIJ.mv mK (oIJ.ne oJ (by decide))
            have o2K := o2J.mv mK (o2J.ne oJ (by decide))
            have hNK := hNJ.mv mK (fun x es hx => hx.ne oJ (by decide))
            have xK : Ext wA wK := oJ.mvx mK xJ (Nat.le_refl _)
            have hAr := hx.size
            have hFG := xG.size
            have hrF := xF.size
            have hGH := xH.size
            have hHI := xI.size
            have hIJ := mJ.size
            have hJK := mK.size
            have hok : Own wA.heap.size 4 30 wK y (cs.set j [.int .i64 E[j].fr, .int .i64 E[j].to, u, u2]) := by
              have := oK
              rw [List.set_set] at this
              exact this
            have hstep := hNK.step hlt (oIK.weaken (by omega)) (o2K.weaken (by omega))
            clear hps hpeF og2 on2 hslF oK hc2
            repeat' (first | refine wpR_region (by rfl) (by intro _ _ h; exact h) ?_ | ((with_reducible refine o_s ?_); (first | (refine o_1 ?_; refine o_2 ?_) | (refine o_g ?_; first | refine o_u ?_ | refine o_k ?_ | refine o_n ?_ | refine o_v ?_ | ((first | refine o_G ?_ ?_ | refine o_N ?_ ?_) <;> intro hc)))) | ((fail_if_success (with_reducible refine o_s ?_)); first | go_step | gi_step))
            exact ⟨⟨j + 1, _, by omega, by go_num, xK, by omega, hok, hstep⟩, by simp [intOf]; omega⟩
          · have : j = E.length := by omega
            subst this
            repeat' (first | refine wpR_region (by rfl) (by intro _ _ h; exact h) ?_ | ((with_reducible refine o_s ?_); (first | (refine o_1 ?_; refine o_2 ?_) | (refine o_g ?_; first | refine o_u ?_ | refine o_k ?_ | refine o_n ?_ | refine o_v ?_ | ((first | refine o_G ?_ ?_ | refine o_N ?_ ?_) <;> intro hc)))) | ((fail_if_success (with_reducible refine o_s ?_)); first | go_step | gi_step))
            refine wpl_store1 (v := y) rfl rfl rfl (hx.at g2A) (by decide +kernel) ho.one ?_
            intro wE pE
            refine wpl_store1 (v := .bool true) rfl rfl rfl (pE.at (hx.at g3A) (by omega)) (by decide +kernel) rfl ?_
            intro wF pF
            have q2 := pF.at pE.this (by omega)
            have q3 := pF.this
            have qd := pF.at (pE.at (hx.at ndA) (by omega)) (by omega)
            have ql := pF.at (pE.at (hx.at nlA) (by omega)) (by omega)
            have qx : Ext w wF := ((hx6.trans (xW.trans hx)).move pE.mv (by rintro k ⟨⟩; omega)).move pF.mv (by rintro k ⟨⟩; omega)
            have hD := ((hN.done (B' := 0) ho).below pE (by omega)).below pF (by omega)
            clear pE pF
            repeat' (first | refine wpR_region (by rfl) (by intro _ _ h; exact h) ?_ | ((with_reducible refine o_s ?_); (first | (refine o_1 ?_; refine o_2 ?_) | (refine o_g ?_; first | refine o_u ?_ | refine o_k ?_ | refine o_n ?_ | refine o_v ?_ | ((first | refine o_G ?_ ?_ | refine o_N ?_ ?_) <;> intro hc)))) | ((fail_if_success (with_reducible refine o_s ?_)); first | go_step | gi_step))
            exact round_ret ql fun w' p' => .inr ⟨rfl, ⟨qx.move p'.mv (by rintro k ⟨⟩; omega), p'.at qd (by omega), p'.this, k, y, hso, p'.at q2 (by omega), p'.at q3 (by omega), by rw [hE]; exact (hD.below p' (by omega)).weaken ns⟩⟩
    refine (backC (w6.heap.size + 1) w5.heap.size lp (SinMid w6 ds s lp) (SinOut w w6 ds s lp) (by subst hlp; rfl) w6 (fun _ _ h => h.ext) (fun _ _ h => h.lp) dv css h6 hsl6 (by omega) hsh hy W hJ).mono ?_
    rintro e W' ⟨rfl, hR⟩
    refine ⟨⟨_, rfl⟩, ?_⟩
    clear hJ xW k4 k5 sW hy
    rcases hR with hR | hR
    · refine ⟨lp, hR.lp, by rw [hrdy.1]; simp, ?_⟩
      intro W2 hput
      rw [hrdy.2]
      clear hlp hrdy
      simp only
      have f2 := hput.at (hR.ext.at g2) (by omega)
      have f3 := hput.at (hR.ext.at g3) (by omega)
      have fd := hput.at hR.df (by omega)
      have fx : Ext w W2 := (hx6.trans hR.ext).move hput.mv (by rintro k ⟨⟩; omega)
      have hso := hR.so
      clear hput hR
      repeat' (first | ((with_reducible refine o_s ?_); (first | (refine o_1 ?_; refine o_2 ?_) | (refine o_g ?_; first | refine o_u ?_ | refine o_k ?_ | refine o_n ?_ | refine o_v ?_ | ((first | refine o_G ?_ ?_ | refine o_N ?_ ?_) <;> intro hc)))) | ((fail_if_success (with_reducible refine o_s ?_)); go_step))
      refine wpl_store1 (v := .slice none 0 0) rfl rfl rfl f2 (by decide +kernel) rfl ?_
      intro W3 p3
      refine wpl_store1 (v := .bool false) rfl rfl rfl (p3.at f3 (by omega)) (by decide +kernel) rfl ?_
      intro W4 p4
      have q2 := p4.at p3.this (by omega)
      have qd := p4.at (p3.at fd (by omega)) (by omega)
      have qx : Ext w W4 := (fx.move p3.mv (by rintro k ⟨⟩; omega)).move p4.mv (by rintro k ⟨⟩; omega)
      have q3 := p4.this
      clear p3 p4
      repeat' (first | ((with_reducible refine o_s ?_); (first | (refine o_1 ?_; refine o_2 ?_) | (refine o_g ?_; first | refine o_u ?_ | refine o_k ?_ | refine o_n ?_ | refine o_v ?_ | ((first | refine o_G ?_ ?_ | refine o_N ?_ ?_) <;> intro hc)))) | ((fail_if_success (with_reducible refine o_s ?_)); go_step))
      refine leaves_mark qd fun W5 p5 => ⟨_, results_cells2 rfl rfl rfl (p5.at q2 (by omega)) (p5.at q3 (by omega)) (by decide +kernel) (by decide +kernel), _, rfl, qx.move p5.mv (by rintro k ⟨⟩; omega), ?_⟩
      rw [sinceR, if_neg q1, hso]
      exact ⟨_, rfl, DelsV.nil _ _⟩
    · refine ⟨_, hR.lp, by simp, ?_⟩
      intro W2 hput
      simp only
      clear hlp hrdy
      obtain ⟨i, y, hso, r2, r3, hD⟩ := hR.out
      have f2 := hput.at r2 (by omega)
      have f3 := hput.at r3 (by omega)
      have fd := hput.at hR.df (by omega)
      have fx : Ext w W2 := hR.ext.move hput.mv (by rintro k ⟨⟩; omega)
      have hD2 := hD.below hput (by omega)
      have hsz := hx6.size
      clear hput hR hD r2 r3
      repeat' ((fail_if_success (with_reducible refine o_s ?_)); go_step)
      refine leaves_mark fd fun W5 p5 => ⟨_, results_cells2 rfl rfl rfl (p5.at f2 (by omega)) (p5.at f3 (by omega)) (by decide +kernel) (by decide +kernel), _, rfl, fx.move p5.mv (by rintro k ⟨⟩; omega), ?_⟩
      rw [sinceR, if_neg q1, hso]
      exact ⟨_, rfl, (hD2.below p5 (by omega)).weaken (by omega)⟩
def Keep (T : List TypeId) (w w' : World) : Prop := ∀ (c : Nat) (cs : Array Value) (t : TypeId) (fz : Nat × Nat), w.heap[c]? = some (.cells cs t fz) → t ∉ T → w'.heap[c]? = some (.cells cs t fz)
theorem Ext.keep {w w' : World} (h : Ext w w') (T : List TypeId) : Keep T w w' := fun c cs t fz hc _ => h.at hc
theorem Keep.trans {T : List TypeId} {a b c : World} (h : Keep T a b) (k : Keep T b c) : Keep T a c := fun i cs t fz hc ht => k i cs t fz (h i cs t fz hc ht) ht
theorem KeptJ.keep {b t0 : Nat} {w w' : World} {cs : Array Value} {fz : Nat × Nat} (h : KeptJ b w w') (hb : w.heap[b]? = some (.cells cs t0 fz)) : Keep [t0, 30] w w' := fun c ds t f hc ht => by
  refine h c _ hc ?_ ?_
  · rintro rfl
    rw [hb] at hc
    simp only [Option.some.injEq, Obj.cells.injEq] at hc
    exact ht (by simp [hc.2.1])
  · intro cs' fz' e
    simp only [Obj.cells.injEq] at e
    exact ht (by simp [e.2.1])
theorem Own.keep {T : List TypeId} {B k e : Nat} {w w' : World} {v : Value} {es : List (List Value)} (h : Own B k e w v es) (hk : Keep T w w') (he : e ∉ T) : Own B k e w' v es := by
  refine ⟨⟨h.row.1, ?_⟩, h.2⟩
  rcases h.row.2 with h1 | ⟨gg, cap, cur, fz, rfl, hb, hg, r⟩
  · exact .inl h1
  · exact .inr ⟨gg, cap, cur, fz, rfl, hb, hk _ _ _ _ hg he, r⟩
theorem OwnOff.keep {T : List TypeId} {B k e : Nat} {w w' : World} {v : Value} {es : List (List Value)} (h : OwnOff B k e w v es) (hk : Keep T w w') (he : e ∉ T) : OwnOff B k e w' v es := by
  refine ⟨h.row.imp id ?_, h.each⟩
  rintro ⟨g, o, cap, cur, fz, rfl, hb, hg, r⟩
  exact ⟨g, o, cap, cur, fz, rfl, hb, hk _ _ _ _ hg he, r⟩
theorem SetsV.keep {T : List TypeId} {B : Nat} {w w' : World} {v : Value} {l : List RSet} (h : SetsV B w v l) (hk : Keep T w w') (h1 : 55 ∉ T) (h2 : 9 ∉ T) : SetsV B w' v l := by
  obtain ⟨css, a, b⟩ := h
  exact ⟨css, a.keep hk h1, b.len, fun i s hi => let ⟨x, c, d⟩ := b.at' i s hi; ⟨x, c, d.keep hk h2⟩⟩
structure DelsK (B : Nat) (w : World) (v : Value) (ds : List DeltaR) : Prop where
  out : ∃ css, OwnOff B 4 34 w v css ∧ css.length = ds.length ∧ ∀ (i : Nat) (d : DeltaR), ds[i]? = some d → ∃ g n, css[i]? = some [.int .i64 d.fr, .int .i64 d.to, g, n] ∧ Own B 4 75 w g (rcells d.gone) ∧ Own B 4 75 w n (rcells d.new)
theorem DelsK.nil (B : Nat) (w : World) : DelsK B w (.slice none 0 0) [] := ⟨[], OwnOff.nil _ _ _ _, rfl, by simp⟩
theorem DelsK.ext {B : Nat} {w w' : World} {v : Value} {ds : List DeltaR} (h : DelsK B w v ds) (hx : Ext w w') : DelsK B w' v ds := by
  obtain ⟨css, h1, h2, h3⟩ := h
  exact ⟨css, h1.ext hx, h2, fun i d hi => let ⟨g, n, a, b, c⟩ := h3 i d hi; ⟨g, n, a, b.ext hx, c.ext hx⟩⟩
theorem DelsK.put {B b t : Nat} {w w' : World} {v : Value} {ds : List DeltaR} {cs : Array Value} {fz : Nat × Nat} {o : Obj} (h : DelsK B w v ds) (hb : w.heap[b]? = some (.cells cs t fz)) (h1 : t ≠ 34) (h2 : t ≠ 75) (hp : Put w w' b o) : DelsK B w' v ds := by
  obtain ⟨css, a, c, e⟩ := h
  exact ⟨css, a.mv hp.mv (.inr (a.neBlock hb h1)), c, fun i d hi => let ⟨g, n, x, y, z⟩ := e i d hi; ⟨g, n, x, y.mv hp.mv (.inr (y.neBlock hb h2)), z.mv hp.mv (.inr (z.neBlock hb h2))⟩⟩
theorem DelsK.len {B : Nat} {w : World} {v : Value} {ds : List DeltaR} (h : DelsK B w v ds) : ∃ css, Sl 4 w v css ∧ css.length = ds.length := let ⟨css, a, c, _⟩ := h; ⟨css, a.sl, c⟩
structure KAt (w0 w : World) (b : Nat) (o : List UInt8) (l : List RSet) (room : Int) (ds : List DeltaR) : Prop where
  ge : w0.heap.size ≤ b
  ext : Ext w0 w
  out : ∃ v dv, w.heap[b]? = some (.cells (jC o v room dv).toArray 92 (0, 0)) ∧ SetsV w0.heap.size w v l ∧ DelsK w0.heap.size w dv ds
theorem KAt.grow {w0 w w' : World} {b : Nat} {o : List UInt8} {l : List RSet} {room : Int} {ds : List DeltaR} (h : KAt w0 w b o l room ds) (hx : Ext w w') : KAt w0 w' b o l room ds := by
  obtain ⟨h1, h2, v, dv, h3, h4, h5⟩ := h
  exact ⟨h1, h2.trans hx, v, dv, hx.at h3, h4.ext hx, h5.ext hx⟩
theorem k_pts {w : World} {b : Nat} {o : List UInt8} {v dv : Value} {room : Int} (h : w.heap[b]? = some (.cells (jC o v room dv).toArray 92 (0, 0))) :
    Pts w (.pointer (some ⟨b, 0, none⟩)) (jC o v room dv) ∧ Pts w (partPtr (.pointer (some ⟨b, 0, none⟩)) 0) [str o, v] := by
  have hp := pts_block h
  exact ⟨hp, (hp.part 0).front 2⟩
def KeptK (b : Nat) (w w' : World) : Prop := ∀ c o, w.heap[c]? = some o → c ≠ b → (∀ cs fz, o ≠ .cells cs 34 fz) → w'.heap[c]? = some o
theorem KeptK.of {b : Nat} {w w' : World} (h : Ext w w') : KeptK b w w' := fun c o hc _ _ => h.at hc
theorem KeptK.trans {b : Nat} {w w' w'' : World} (h : KeptK b w w') (k : KeptK b w' w'') : KeptK b w w'' := fun c o hc hn ht => k c o (h c o hc hn ht) hn ht
theorem KeptK.mv {b B : Nat} {w w' : World} {v : Value} {es : List (List Value)} (ho : OwnOff B 4 34 w v es) (hm : Mv v.ownBlock w w') : KeptK b w w' := fun c o hc _ ht => by
  refine hm.at hc fun e => ?_
  obtain ⟨_, _, cur, fz, h⟩ := ho.type e.symm
  rw [hc] at h
  exact ht _ _ (Option.some.inj h)
theorem KeptK.put {b : Nat} {w w' : World} {o : Obj} (hp : Put w w' b o) : KeptK b w w' := fun c o hc hn _ => hp.mv.at hc (fun e => hn (Option.some.inj e))
theorem DelsK.add {B : Nat} {w w' : World} {v v' g n : Value} {ds : List DeltaR} {D : DeltaR} {css : List (List Value)} (h1 : OwnOff B 4 34 w v css) (h2 : css.length = ds.length)
    (h3 : ∀ (i : Nat) (d : DeltaR), ds[i]? = some d → ∃ g n, css[i]? = some [.int .i64 d.fr, .int .i64 d.to, g, n] ∧ Own B 4 75 w g (rcells d.gone) ∧ Own B 4 75 w n (rcells d.new)) (hm : Mv v.ownBlock w w')
    (o : OwnOff B 4 34 w' v' (css ++ [[.int .i64 D.fr, .int .i64 D.to, g, n]])) (hg : Own B 4 75 w g (rcells D.gone)) (hn : Own B 4 75 w n (rcells D.new)) : DelsK B w' v' (ds ++ [D]) := by
  refine ⟨_, o, by simp [h2], fun i d hi => ?_⟩
  rw [List.getElem?_append] at hi ⊢
  rw [h2]
  split at hi
  · rw [if_pos ‹_›]
    obtain ⟨x, y, a, b, c⟩ := h3 i d hi
    exact ⟨x, y, a, b.mv hm (h1.neOwn b (by decide)), c.mv hm (h1.neOwn c (by decide))⟩
  · rw [if_neg ‹_›]
    have hi0 : i - ds.length = 0 := by
      have := (List.getElem?_eq_some_iff.1 hi).1
      simpa using this
    rw [hi0] at hi ⊢
    cases hi
    exact ⟨g, n, rfl, hg.mv hm (h1.neOwn hg (by decide)), hn.mv hm (h1.neOwn hn (by decide))⟩
theorem DelsK.drop {B : Nat} {w : World} {v : Value} {ds : List DeltaR} (h : DelsK B w v ds) {m : Nat} (hm : m ≤ ds.length) : DelsK B w (cutSl v 4 m ds.length) (ds.drop m) := by
  obtain ⟨css, h1, h2, h3⟩ := h
  rw [← h2] at hm ⊢
  refine ⟨_, h1.drop hm, by simp [h2], fun i d hi => ?_⟩
  rw [List.getElem?_drop] at hi ⊢
  exact h3 _ d hi
theorem DelsK.below {B b : Nat} {w w' : World} {v : Value} {ds : List DeltaR} {o : Obj} (h : DelsK B w v ds) (hp : Put w w' b o) (hb : b < B) : DelsK B w' v ds := by
  obtain ⟨css, a, c, e⟩ := h
  refine ⟨css, a.mv hp.mv ?_, c, fun i d hi => let ⟨g, n, x, y, z⟩ := e i d hi; ⟨g, n, x, y.put hp hb, z.put hp hb⟩⟩
  cases hv : v.ownBlock with
  | none => exact .inl rfl
  | some r => have := (a.type hv).1; exact .inr (fun e => by have := Option.some.inj e; omega)
theorem DelsK.weaken {B C : Nat} {w : World} {v : Value} {ds : List DeltaR} (h : DelsK B w v ds) (hc : C ≤ B) : DelsK C w v ds := by
  obtain ⟨css, a, c, e⟩ := h
  exact ⟨css, a.weaken hc, c, fun i d hi => let ⟨g, n, x, y, z⟩ := e i d hi; ⟨g, n, x, y.weaken hc, z.weaken hc⟩⟩

theorem KeptK.keep {b t0 : Nat} {w w' : World} {cs : Array Value} {fz : Nat × Nat} (h : KeptK b w w') (hb : w.heap[b]? = some (.cells cs t0 fz)) : Keep [t0, 34] w w' := fun c ds t f hc ht => by
  refine h c _ hc ?_ ?_
  · rintro rfl
    rw [hb] at hc
    simp only [Option.some.injEq, Obj.cells.injEq] at hc
    exact ht (by simp [hc.2.1])
  · intro cs' fz' e
    simp only [Obj.cells.injEq] at e
    exact ht (by simp [e.2.1])
theorem DelsV.keep {T : List TypeId} {B : Nat} {w w' : World} {v : Value} {ds : List DeltaR} (h : DelsV B w v ds) (hk : Keep T w w') (h1 : 30 ∉ T) (h2 : 75 ∉ T) : DelsV B w' v ds := by
  obtain ⟨css, a, b, c⟩ := h
  exact ⟨css, a.keep hk h1, b, fun i d hi => let ⟨g, n, e, p, q⟩ := c i d hi; ⟨g, n, e, p.keep hk h2, q.keep hk h2⟩⟩
theorem DelsK.keep {T : List TypeId} {B : Nat} {w w' : World} {v : Value} {ds : List DeltaR} (h : DelsK B w v ds) (hk : Keep T w w') (h1 : 34 ∉ T) (h2 : 75 ∉ T) : DelsK B w' v ds := by
  obtain ⟨css, a, b, c⟩ := h
  exact ⟨css, a.keep hk h1, b, fun i d hi => let ⟨g, n, e, p, q⟩ := c i d hi; ⟨g, n, e, p.keep hk h2, q.keep hk h2⟩⟩
theorem JAt.keep {T : List TypeId} {w0 w w' : World} {b : Nat} {o : List UInt8} {l : List RSet} {room : Int} {ds : List DeltaR} (h : JAt w0 w b o l room ds) (hk : Keep T w w') (hx : Ext w0 w') (h1 : 139 ∉ T) (h2 : 30 ∉ T) (h3 : 75 ∉ T) (h4 : 55 ∉ T) (h5 : 9 ∉ T) : JAt w0 w' b o l room ds := by
  obtain ⟨g, _, v, dv, a, b, c⟩ := h
  exact ⟨g, hx, v, dv, hk _ _ _ _ a h1, b.keep hk h4 h5, c.keep hk h2 h3⟩
theorem KAt.keep {T : List TypeId} {w0 w w' : World} {b : Nat} {o : List UInt8} {l : List RSet} {room : Int} {ds : List DeltaR} (h : KAt w0 w b o l room ds) (hk : Keep T w w') (hx : Ext w0 w') (h1 : 92 ∉ T) (h2 : 34 ∉ T) (h3 : 75 ∉ T) (h4 : 55 ∉ T) (h5 : 9 ∉ T) : KAt w0 w' b o l room ds := by
  obtain ⟨g, _, v, dv, a, b, c⟩ := h
  exact ⟨g, hx, v, dv, hk _ _ _ _ a h1, b.keep hk h4 h5, c.keep hk h2 h3⟩
theorem r11_Serial {w0 w : World} {b : Nat} {o : List UInt8} {l : List RSet} {room : Int} {ds : List DeltaR} (h : KAt w0 w b o l room ds) (hb : ∀ s ∈ l, s.data.length ≤ 1000000) (hd : ∀ s ∈ l, ∀ d ∈ s.data, d.length ≤ 4611686018427387904) :
    Calls Tryz.prog 57 #[.pointer (some ⟨b, 0, none⟩)] w (RetV w (.int .i64 (soaZ o l).serial)) := by
  obtain ⟨v, dv, hbk, hs, hds⟩ := h.out
  obtain ⟨hp, hp0⟩ := k_pts hbk
  go_enter Tryz.func57, Tryz.ntmps57
  repeat' (first | ((with_reducible refine o_s ?_); (first | (refine o_1 ?_; refine o_2 ?_) | (refine o_g ?_; first | refine o_u ?_ | refine o_k ?_ | refine o_n ?_ | refine o_v ?_ | ((first | refine o_G ?_ ?_ | refine o_N ?_ ?_) <;> intro hc)))) | ((fail_if_success (with_reducible refine o_s ?_)); go_step))
  refine wpl_callV (enters_of Tryz.func68 rfl rfl) rfl rfl (r8_Soa o v l _ hs.sets hb hd) ?_; intro w1 x1; refine gset ?_
  repeat' (first | ((with_reducible refine o_s ?_); (first | (refine o_1 ?_; refine o_2 ?_) | (refine o_g ?_; first | refine o_u ?_ | refine o_k ?_ | refine o_n ?_ | refine o_v ?_ | ((first | refine o_G ?_ ?_ | refine o_N ?_ ?_) <;> intro hc)))) | ((fail_if_success (with_reducible refine o_s ?_)); go_step))
  refine wpl_allocB (z := zeroSoa) rfl (by decide +kernel) ?_
  intro w2 x2 s2 h2
  refine gset ?_
  refine wpl_storeB (v := .agg (soaZ o l).cells.toArray) rfl rfl rfl h2 (show sizeTy Tryz.prog 103 7 = true by decide +kernel) rfl (soaR_one _) ?_
  intro w3 p3
  have x3 : Ext w1 w3 := x2.move p3.mv (by rintro k ⟨⟩; exact Nat.le_refl _)
  have hs3 := pts_block (cs := (soaZ o l).cells) p3.this
  repeat' (first | ((with_reducible refine o_s ?_); (first | (refine o_1 ?_; refine o_2 ?_) | (refine o_g ?_; first | refine o_u ?_ | refine o_k ?_ | refine o_n ?_ | refine o_v ?_ | ((first | refine o_G ?_ ?_ | refine o_N ?_ ?_) <;> intro hc)))) | ((fail_if_success (with_reducible refine o_s ?_)); go_step))
  go_ret
  exact ⟨rfl, x1.trans x3⟩
theorem r11_New {w0 : World} (o : List UInt8) (v : Value) (l : List RSet) (room : Int) (w : World) (h0 : Ext w0 w) (hv : SetsAt w v l) (hl : l.length ≤ 100000) (hb : ∀ s ∈ l, s.data.length ≤ 1000000) (hd : ∀ s ∈ l, ∀ d ∈ s.data, d.length ≤ 4611686018427387904) :
    Calls Tryz.prog 53 #[.agg #[str o, v], .int .i64 room] w fun e w' => (newE o l room ≠ 0 ∧ e = .returned (.tuple #[.pointer none, .int .i64 (newE o l room)]) ∧ Ext w w') ∨
      (newE o l room = 0 ∧ ∃ b, e = .returned (.tuple #[.pointer (some ⟨b, 0, none⟩), .int .i64 0]) ∧ Ext w w' ∧ KAt w0 w' b o l room []) := by
  go_enter Tryz.func53, Tryz.ntmps53
  repeat' ((fail_if_success (with_reducible refine o_s ?_)); go_step)
  refine wpl_box (vs := [str o, v]) rfl rfl ?_
  intro p w1 x1 hp
  refine gset ?_
  have hv1 := hv.ext x1
  repeat' (first | ((with_reducible refine o_s ?_); (first | (refine o_1 ?_; refine o_2 ?_) | (refine o_g ?_; first | refine o_u ?_ | refine o_k ?_ | refine o_n ?_ | refine o_v ?_ | ((first | refine o_G ?_ ?_ | refine o_N ?_ ?_) <;> intro hc)))) | ((fail_if_success (with_reducible refine o_s ?_)); go_step))
  refine wpl_callV (enters_of Tryz.func101 rfl rfl) rfl rfl (r8_Check o v l _ hv1 hb hd) ?_; intro w2 x2; refine gset ?_
  have hx2 := x1.trans x2
  have hp2 := hp.ext x2
  have hv2 := hv1.ext x2
  repeat' (first | ((with_reducible refine o_s ?_); (first | (refine o_1 ?_; refine o_2 ?_) | (refine o_g ?_; first | refine o_u ?_ | refine o_k ?_ | refine o_n ?_ | refine o_v ?_ | ((first | refine o_G ?_ ?_ | refine o_N ?_ ?_) <;> intro hc)))) | ((fail_if_success (with_reducible refine o_s ?_)); go_step))
  · have q : ¬ zoneR o l = 0 := by simpa using (by assumption : (!decide (zoneR o l = 0)) = true)
    have hE : newE o l room = zoneR o l := by rw [newE, if_pos q]
    go_ret2
    exact .inl ⟨by rw [hE]; exact q, by rw [hE]; rfl, hx2⟩
  · have hE : newE o l room = 1 := by
      have q : zoneR o l = 0 := by simpa using (by assumption : (!decide (zoneR o l = 0)) = false)
      rw [newE, if_neg (by simp [q]), if_pos (by omega)]
    go_ret2
    exact .inl ⟨by rw [hE]; decide, by rw [hE]; rfl, hx2⟩
  · have q : zoneR o l = 0 := by simpa using (by assumption : (!decide (zoneR o l = 0)) = false)
    have hE : newE o l room = 0 := by
      have h1 := ‹¬ room < 0›
      have h2 := ‹room ≤ 20›
      rw [newE, if_neg (by simp [q]), if_neg (by omega)]
    refine wpl_callR (enters_of Tryz.func27 rfl rfl) rfl rfl (r8_Copy o v l _ hv2 hl hb) ?_
    rintro r w3 x3 ⟨y, rfl, hy⟩
    obtain ⟨ya, yn, yc, hys⟩ := hy.slf
    refine gset ?_
    repeat' (first | ((with_reducible refine o_s ?_); (first | (refine o_1 ?_; refine o_2 ?_) | (refine o_g ?_; first | refine o_u ?_ | refine o_k ?_ | refine o_n ?_ | refine o_v ?_ | ((first | refine o_G ?_ ?_ | refine o_N ?_ ?_) <;> intro hc)))) | ((fail_if_success (with_reducible refine o_s ?_)); go_step))
    refine wpl_run (v := .agg (jC o y room (.slice none 0 0)).toArray) rfl (Runs.build (vals := [(0, .agg #[str o, y]), (1, .int .i64 room)]) rfl (by rw [hys]; kernel_rfl)) ?_
    refine gset ?_
    refine wpl_boxB (vs := jC o y room (.slice none 0 0)) rfl rfl ?_
    intro w4 x4 s4 b4
    refine gset ?_
    repeat' (first | ((with_reducible refine o_s ?_); (first | (refine o_1 ?_; refine o_2 ?_) | (refine o_g ?_; first | refine o_u ?_ | refine o_k ?_ | refine o_n ?_ | refine o_v ?_ | ((first | refine o_G ?_ ?_ | refine o_N ?_ ?_) <;> intro hc)))) | ((fail_if_success (with_reducible refine o_s ?_)); go_step))
    go_ret2
    have hx3 := hx2.trans x3
    have hz := h0.size
    have hz3 := hx3.size
    have hz2 := hx2.size
    exact .inr ⟨hE, w3.heap.size, rfl, hx3.trans x4, by omega, h0.trans (hx3.trans x4), y, _, b4, (hy.ext x4).weaken (by omega), DelsK.nil _ _⟩
  · have hE : newE o l room = 1 := by
      have q : zoneR o l = 0 := by simpa using (by assumption : (!decide (zoneR o l = 0)) = false)
      rw [newE, if_neg (by simp [q]), if_pos (by omega)]
    go_ret2
    exact .inl ⟨by rw [hE]; decide, by rw [hE]; rfl, hx2⟩
set_option maxHeartbeats 4000000 in
theorem r11_Since {w0 w : World} {b : Nat} {o : List UInt8} {l : List RSet} {room : Int} {ds : List DeltaR} (h : KAt w0 w b o l room ds) (hb : ∀ s ∈ l, s.data.length ≤ 1000000) (hd : ∀ s ∈ l, ∀ d ∈ s.data, d.length ≤ 4611686018427387904)
    (hl : ds.length ≤ 1000) (hg : ∀ d ∈ ds, d.gone.length ≤ 100000 ∧ d.new.length ≤ 100000) (s : Int) :
    Calls Tryz.prog 60 #[.pointer (some ⟨b, 0, none⟩), .int .i64 s] w (Ret w fun r w' => ∃ y, r = .tuple #[y, .bool (sinceR o l ds s).2] ∧ DelsK w.heap.size w' y (sinceR o l ds s).1) := by
  obtain ⟨v, dv, hbk, hs, hdl⟩ := h.out
  obtain ⟨css, hdo, hdlen, hdat⟩ := hdl.out
  go_enter Tryz.func60, Tryz.ntmps60
  repeat' (first | ((with_reducible refine o_s ?_); (first | (refine o_1 ?_; refine o_2 ?_) | (refine o_g ?_; first | refine o_u ?_ | refine o_k ?_ | refine o_n ?_ | refine o_v ?_ | ((first | refine o_G ?_ ?_ | refine o_N ?_ ?_) <;> intro hc)))) | ((fail_if_success (with_reducible refine o_s ?_)); go_step))
  refine wpl_callV (enters_of Tryz.func57 rfl rfl) rfl rfl (r11_Serial h hb hd) ?_; intro w1 x1; refine gset ?_
  ((with_reducible refine o_s ?_); (first | (refine o_1 ?_; refine o_2 ?_) | (refine o_g ?_; refine o_u ?_; (with_reducible refine o_s ?_); refine o_1 ?_; refine o_2 ?_)))
  by_cases q1 : s = (soaZ o l).serial
  · rw [decide_eq_true q1]
    repeat' (first | ((with_reducible refine o_s ?_); (first | (refine o_1 ?_; refine o_2 ?_) | (refine o_g ?_; first | refine o_u ?_ | refine o_k ?_ | refine o_n ?_ | refine o_v ?_ | ((first | refine o_G ?_ ?_ | refine o_N ?_ ?_) <;> intro hc)))) | ((fail_if_success (with_reducible refine o_s ?_)); go_step))
    go_ret2
    rw [sinceR, if_pos q1]
    exact ⟨_, rfl, x1, _, rfl, DelsK.nil _ _⟩
  · rw [decide_eq_false q1]
    have hbk1 := x1.at hbk
    obtain ⟨hp, hp0⟩ := k_pts hbk1
    have hp3 : Pts w1 (partPtr (.pointer (some ⟨b, 0, none⟩)) 3) [dv] := hp.part 3
    have hsl := hdo.sl.ext x1
    have hcl : css.length ≤ 1000 := by omega
    repeat' (first | ((with_reducible refine o_s ?_); (first | (refine o_1 ?_; refine o_2 ?_) | (refine o_g ?_; first | refine o_u ?_ | refine o_k ?_ | refine o_n ?_ | refine o_v ?_ | ((first | refine o_G ?_ ?_ | refine o_N ?_ ?_) <;> intro hc)))) | ((fail_if_success (with_reducible refine o_s ?_)); go_step))
    refine wpl_run0 (Runs.fieldJ (off := 3) rfl (by decide +kernel)) ?_
    refine gset ?_
    repeat' (first | ((with_reducible refine o_s ?_); (first | (refine o_1 ?_; refine o_2 ?_) | (refine o_g ?_; first | refine o_u ?_ | refine o_k ?_ | refine o_n ?_ | refine o_v ?_ | ((first | refine o_G ?_ ?_ | refine o_N ?_ ?_) <;> intro hc)))) | ((fail_if_success (with_reducible refine o_s ?_)); go_step))
    go_loopw [6] (fun i wr => ∃ k : Nat, k ≤ css.length ∧ i = .int .i64 ((k : Int) - 1) ∧ wr = w1 ∧ sinceI ds s ds.length = sinceI ds s k) (fun i _ => backI 0 i)
    case atStart => exact ⟨css.length, Nat.le_refl _, rfl, rfl, by rw [hdlen]⟩
    case round =>
      obtain ⟨k, hk, rfl, hw, hso⟩ := hrel
      have hw := hw.symm
      subst hw
      cases k with
      | zero =>
        repeat' (first | ((with_reducible refine o_s ?_); (first | (refine o_1 ?_; refine o_2 ?_) | (refine o_g ?_; first | refine o_u ?_ | refine o_k ?_ | refine o_n ?_ | refine o_v ?_ | ((first | refine o_G ?_ ?_ | refine o_N ?_ ?_) <;> intro hc)))) | ((fail_if_success (with_reducible refine o_s ?_)); go_step))
        go_ret2
        rw [sinceR, if_neg q1, hso]
        exact ⟨_, rfl, x1, _, rfl, DelsK.nil _ _⟩
      | succ k =>
        have hk1 : ((k + 1 : Nat) : Int) - 1 = (k : Int) := by omega
        simp only [hk1]
        have hkd : k < ds.length := by omega
        obtain ⟨g, n, hc, og, on⟩ := hdat k _ (List.getElem?_eq_getElem hkd)
        have hpe := hsl.elem hc
        have hkc : k < css.length := by omega
        repeat' (first | ((with_reducible refine o_s ?_); (first | (refine o_1 ?_; refine o_2 ?_) | (refine o_g ?_; first | refine o_u ?_ | refine o_k ?_ | refine o_n ?_ | refine o_v ?_ | ((first | refine o_G ?_ ?_ | refine o_N ?_ ?_) <;> intro hc)))) | ((fail_if_success (with_reducible refine o_s ?_)); go_step))
        refine wpl_run0 (Runs.fieldJ (off := 3) rfl (by decide +kernel)) ?_
        refine gset ?_
        repeat' (first | ((with_reducible refine o_s ?_); (first | (refine o_1 ?_; refine o_2 ?_) | (refine o_g ?_; first | refine o_u ?_ | refine o_k ?_ | refine o_n ?_ | refine o_v ?_ | ((first | refine o_G ?_ ?_ | refine o_N ?_ ?_) <;> intro hc)))) | ((fail_if_success (with_reducible refine o_s ?_)); go_step))
        · have hf : ds[k].fr = s := by assumption
          have hso' : sinceI ds s ds.length = some k := by rw [hso, sinceI, if_pos (by rw [List.getElem?_eq_getElem hkd]; simpa using hf)]
          have hR : sinceR o l ds s = (ds.drop k, true) := by rw [sinceR, if_neg q1, hso']
          clear hpe hp hp0 hp3
          go_loopw [7, 8] (fun out j wr => ∃ m : Nat, k + m ≤ ds.length ∧ j = .int .i64 ((k + m : Nat) : Int) ∧ Ext w1 wr ∧ DelsK w1.heap.size wr out ((ds.drop k).take m)) (fun _ j _ => ds.length - (intOf j).toNat)
          case atStart => exact ⟨0, by omega, rfl, Ext.refl _, by simpa using DelsK.nil _ _⟩
          case round =>
            obtain ⟨m, hm, rfl, hx, hD⟩ := hrel
            have hbk2 := hx.at hbk1
            obtain ⟨hp, hp0⟩ := k_pts hbk2
            have hp3 : Pts wr (partPtr (.pointer (some ⟨b, 0, none⟩)) 3) [dv] := hp.part 3
            have hsl2 := hsl.ext hx
            by_cases hlt : k + m < ds.length
            · obtain ⟨g', n', hc', og', on'⟩ := hdat (k + m) _ (List.getElem?_eq_getElem hlt)
              have hpe := hsl2.elem hc'
              have hkm : k + m < css.length := by omega
              obtain ⟨gb1, gb2⟩ := hg _ (List.getElem_mem hlt)
              repeat' (first | ((with_reducible refine o_s ?_); (first | (refine o_1 ?_; refine o_2 ?_) | (refine o_g ?_; first | refine o_u ?_ | refine o_k ?_ | refine o_n ?_ | refine o_v ?_ | ((first | refine o_G ?_ ?_ | refine o_N ?_ ?_) <;> intro hc)))) | ((fail_if_success (with_reducible refine o_s ?_)); go_step))
              refine wpl_run0 (Runs.fieldJ (off := 3) rfl (by decide +kernel)) ?_
              refine gset ?_
              repeat' (first | ((with_reducible refine o_s ?_); (first | (refine o_1 ?_; refine o_2 ?_) | (refine o_g ?_; first | refine o_u ?_ | refine o_k ?_ | refine o_n ?_ | refine o_v ?_ | ((first | refine o_G ?_ ?_ | refine o_N ?_ ?_) <;> intro hc)))) | ((fail_if_success (with_reducible refine o_s ?_)); go_step))
              refine wpl_run0 (Runs.fieldJ (off := 3) rfl (by decide +kernel)) ?_
              refine gset ?_
              repeat' (first | ((with_reducible refine o_s ?_); (first | (refine o_1 ?_; refine o_2 ?_) | (refine o_g ?_; first | refine o_u ?_ | refine o_k ?_ | refine o_n ?_ | refine o_v ?_ | ((first | refine o_G ?_ ?_ | refine o_N ?_ ?_) <;> intro hc)))) | ((fail_if_success (with_reducible refine o_s ?_)); go_step))
              refine wpl_callR (enters_of Tryz.func32 rfl rfl) rfl rfl (r10_Copy (d := ds[k + m]) _ ⟨g', n', rfl, og'.sl.ext (x1.trans hx), on'.sl.ext (x1.trans hx)⟩ gb1 gb2) ?_
              rintro _ w3 x3 ⟨g3, n3, rfl, og3, on3⟩
              refine gset ?_
              repeat' (first | ((with_reducible refine o_s ?_); (first | (refine o_1 ?_; refine o_2 ?_) | (refine o_g ?_; first | refine o_u ?_ | refine o_k ?_ | refine o_n ?_ | refine o_v ?_ | ((first | refine o_G ?_ ?_ | refine o_N ?_ ?_) <;> intro hc)))) | ((fail_if_success (with_reducible refine o_s ?_)); go_step))
              refine wpl_slice (e := 34) (k := 4) (bytes := 64) (xs := [.agg #[.int .i64 ds[k + m].fr, .int .i64 ds[k + m].to, g3, n3]]) rfl rfl rfl (by simp [Value.cells]) (by decide +kernel) (by simp) ?_
              intro v4 w4 x4 s4 sl4 o4
              refine gset ?_
              have x34 := x3.trans x4
              obtain ⟨cs, ho, hlen, hat⟩ := hD.ext x34
              have hlen2 : cs.length = m := by rw [hlen, List.length_take, List.length_drop]; omega
              have hg1 := og3.sl.one
              have hn1 := on3.sl.one
              have h41 : ∀ f ∈ [[Value.int .i64 ds[k + m].fr, .int .i64 ds[k + m].to, g3, n3]], ∀ u ∈ f, u.oneCell' = true := by
                intro f hf u hu
                simp only [List.mem_singleton] at hf
                subst hf
                simp at hu
                rcases hu with rfl | rfl | rfl | rfl
                · rfl
                · rfl
                · exact hg1
                · exact hn1
              refine wpl_appendOff (e := 34) (k := 4) rfl ho rfl sl4 (by simp) h41 (hx.trans x34).size (by rw [hlen2]; simp; omega) ?_
              intro v5 w5 o5 m5 _
              refine gset ?_
              repeat' (first | ((with_reducible refine o_s ?_); (first | (refine o_1 ?_; refine o_2 ?_) | (refine o_g ?_; first | refine o_u ?_ | refine o_k ?_ | refine o_n ?_ | refine o_v ?_ | ((first | refine o_G ?_ ?_ | refine o_N ?_ ?_) <;> intro hc)))) | ((fail_if_success (with_reducible refine o_s ?_)); go_step))
              have hz := hx.size
              have hD5 := DelsK.add (D := ds[k + m]) ho hlen hat m5 o5 ((og3.ext x4).weaken hz) ((on3.ext x4).weaken hz)
              have hx5 : Ext w1 w5 := (hx.trans x34).move m5 (fun r hr => (ho.type hr).1)
              have e : (ds.drop k).take (m + 1) = (ds.drop k).take m ++ [ds[k + m]] := by
                rw [List.take_add_one, List.getElem?_drop, List.getElem?_eq_getElem hlt]
                rfl
              exact ⟨⟨m + 1, by omega, by go_num, hx5, by rw [e]; exact hD5⟩, by simp [intOf]; omega⟩
            · have hke : k + m = ds.length := by omega
              have hkm : k + m = css.length := by omega
              repeat' (first | ((with_reducible refine o_s ?_); (first | (refine o_1 ?_; refine o_2 ?_) | (refine o_g ?_; first | refine o_u ?_ | refine o_k ?_ | refine o_n ?_ | refine o_v ?_ | ((first | refine o_G ?_ ?_ | refine o_N ?_ ?_) <;> intro hc)))) | ((fail_if_success (with_reducible refine o_s ?_)); go_step))
              refine wpl_run0 (Runs.fieldJ (off := 3) rfl (by decide +kernel)) ?_
              refine gset ?_
              repeat' (first | ((with_reducible refine o_s ?_); (first | (refine o_1 ?_; refine o_2 ?_) | (refine o_g ?_; first | refine o_u ?_ | refine o_k ?_ | refine o_n ?_ | refine o_v ?_ | ((first | refine o_G ?_ ?_ | refine o_N ?_ ?_) <;> intro hc)))) | ((fail_if_success (with_reducible refine o_s ?_)); go_step))
              go_ret2
              have e : (ds.drop k).take m = ds.drop k := List.take_of_length_le (by rw [List.length_drop]; omega)
              rw [e] at hD
              rw [hR]
              exact ⟨_, rfl, x1.trans hx, _, rfl, hD.weaken x1.size⟩
        · have hf : ds[k].fr ≠ s := by assumption
          exact ⟨⟨k, by omega, rfl, trivial, by rw [hso, sinceI, if_neg (by rw [List.getElem?_eq_getElem hkd]; simpa using hf)]⟩, by simp [backI, intOf]⟩
theorem DelsV.each {B : Nat} {w : World} {v : Value} {ds : List DeltaR} (h : DelsV B w v ds) : ∃ css, Sl 4 w v css ∧ css.length = ds.length ∧ ∀ (i : Nat) (d : DeltaR), ds[i]? = some d → ∃ g n, css[i]? = some [.int .i64 d.fr, .int .i64 d.to, g, n] ∧ Sl 4 w g (rcells d.gone) ∧ Sl 4 w n (rcells d.new) := by
  obtain ⟨css, a, b, c⟩ := h
  exact ⟨css, a.sl, b, fun i d hi => let ⟨g, n, e, p, q⟩ := c i d hi; ⟨g, n, e, p.sl, q.sl⟩⟩
theorem DelsK.each {B : Nat} {w : World} {v : Value} {ds : List DeltaR} (h : DelsK B w v ds) : ∃ css, Sl 4 w v css ∧ css.length = ds.length ∧ ∀ (i : Nat) (d : DeltaR), ds[i]? = some d → ∃ g n, css[i]? = some [.int .i64 d.fr, .int .i64 d.to, g, n] ∧ Sl 4 w g (rcells d.gone) ∧ Sl 4 w n (rcells d.new) := by
  obtain ⟨css, a, b, c⟩ := h
  exact ⟨css, a.sl, b, fun i d hi => let ⟨g, n, e, p, q⟩ := c i d hi; ⟨g, n, e, p.sl, q.sl⟩⟩
set_option maxHeartbeats 2000000 in
theorem l11_same {B C : Nat} {w : World} {u v : Value} {ds : List DeltaR} (hu : DelsV B w u ds) (hv : DelsK C w v ds) : Calls Tryz.prog 61 #[u, v] w (RetV w (.bool true)) := by
  obtain ⟨c1, s1, l1, e1⟩ := hu.each
  obtain ⟨c2, s2, l2, e2⟩ := hv.each
  have hl1 := s1.le
  go_enter Tryz.func61, Tryz.ntmps61
  repeat' (first | ((with_reducible refine o_s ?_); (first | (refine o_1 ?_; refine o_2 ?_) | (refine o_g ?_; first | refine o_u ?_ | refine o_k ?_ | refine o_n ?_ | refine o_v ?_ | ((first | refine o_G ?_ ?_ | refine o_N ?_ ?_) <;> intro hc)))) | ((fail_if_success (with_reducible refine o_s ?_)); go_step))
  · exfalso
    have h1 := ‹(!decide ((c1.length : Int) = (c2.length : Int))) = true›
    simp [l1, l2] at h1
  go_loopw [5] (fun i wr => ∃ k : Nat, k ≤ ds.length ∧ i = .int .i64 k ∧ Ext w wr) (fun i _ => ds.length - (intOf i).toNat)
  case atStart => exact ⟨0, Nat.zero_le _, rfl, Ext.refl _⟩
  case round =>
    obtain ⟨k, hk, rfl, hx⟩ := hrel
    by_cases hlt : k < ds.length
    · obtain ⟨g, n, hc, sg, sn⟩ := e1 k _ (List.getElem?_eq_getElem hlt)
      obtain ⟨g', n', hc', sg', sn'⟩ := e2 k _ (List.getElem?_eq_getElem hlt)
      have t1 := s1.ext hx
      have t2 := s2.ext hx
      have p1 := t1.elem hc
      have p2 := t2.elem hc'
      have k1 : k < c1.length := by omega
      have k2 : k < c2.length := by omega
      repeat' (first | ((with_reducible refine o_s ?_); (first | (refine o_1 ?_; refine o_2 ?_) | (refine o_g ?_; first | refine o_u ?_ | refine o_k ?_ | refine o_n ?_ | refine o_v ?_ | ((first | refine o_G ?_ ?_ | refine o_N ?_ ?_) <;> intro hc)))) | ((fail_if_success (with_reducible refine o_s ?_)); go_step))
      refine wpq_region (by decide +kernel) (by decide +kernel) ?_
      repeat' (first | ((with_reducible refine q_s ?_); (first | (refine q_1 ?_; refine q_2 ?_) | (refine q_g ?_; first | refine q_u ?_ | refine q_k ?_ | refine q_v ?_))) | (with_reducible refine q_n ?_))
      have d1 : ∀ w', Ext wr w' → DelA ds[k] (.agg #[.int .i64 ds[k].fr, .int .i64 ds[k].to, g, n]) w' := fun w' x' => ⟨g, n, rfl, sg.ext (hx.trans x'), sn.ext (hx.trans x')⟩
      have d2 : ∀ w', Ext wr w' → DelA ds[k] (.agg #[.int .i64 ds[k].fr, .int .i64 ds[k].to, g', n']) w' := fun w' x' => ⟨g', n', rfl, sg'.ext (hx.trans x'), sn'.ext (hx.trans x')⟩
      refine wpq_call (enters_of Tryz.func24 rfl rfl) rfl rfl (fun w' x' => l10_Told w' (d1 w' x')) ?_
      refine gset ?_
      repeat' (first | ((with_reducible refine q_s ?_); (first | (refine q_1 ?_; refine q_2 ?_) | (refine q_g ?_; first | refine q_u ?_ | refine q_k ?_ | refine q_v ?_))) | (with_reducible refine q_n ?_))
      refine wpq_call (enters_of Tryz.func23 rfl rfl) rfl rfl (fun w' x' => r10_Same w' (d1 w' x') (d2 w' x')) ?_
      refine gset ?_
      repeat' (first | ((with_reducible refine q_s ?_); (first | (refine q_1 ?_; refine q_2 ?_) | (refine q_g ?_; first | refine q_u ?_ | refine q_k ?_ | refine q_v ?_))) | (with_reducible refine q_n ?_))
      intro w2 x2
      repeat' (first | ((with_reducible refine o_s ?_); (first | (refine o_1 ?_; refine o_2 ?_) | (refine o_g ?_; first | refine o_u ?_ | refine o_k ?_ | refine o_n ?_ | refine o_v ?_ | ((first | refine o_G ?_ ?_ | refine o_N ?_ ?_) <;> intro hc)))) | ((fail_if_success (with_reducible refine o_s ?_)); go_step))
      exact ⟨⟨k + 1, by omega, by go_num, hx.trans x2⟩, by simp [intOf]; omega⟩
    · have k1 : k = c1.length := by omega
      repeat' (first | ((with_reducible refine o_s ?_); (first | (refine o_1 ?_; refine o_2 ?_) | (refine o_g ?_; first | refine o_u ?_ | refine o_k ?_ | refine o_n ?_ | refine o_v ?_ | ((first | refine o_G ?_ ?_ | refine o_N ?_ ?_) <;> intro hc)))) | ((fail_if_success (with_reducible refine o_s ?_)); go_step))
      go_ret
      exact ⟨rfl, hx⟩
def simS : List UInt8 := [2, 110, 115, 1, 97, 0, 1, 109, 0, 0, 0, 0, 5, 0, 0, 0, 10, 0, 0, 0, 3, 0, 0, 0, 100, 0, 0, 0, 4]
def simT : List UInt8 := [2, 110, 115, 1, 97, 0, 1, 109, 0, 0, 0, 0, 6, 0, 0, 0, 10, 0, 0, 0, 3, 0, 0, 0, 100, 0, 0, 0, 4]
def simR : List Rec := [⟨[1, 97], 6, 9, simS⟩, ⟨[1, 97], 2, 9, [2, 110, 115, 1, 97, 0]⟩, ⟨[2, 110, 115, 1, 97], 1, 9, [49, 49, 49, 49]⟩]
def simZ : List RSet := [⟨[1, 97], 2, 9, [[2, 110, 115, 1, 97, 0]]⟩, ⟨[1, 97], 6, 9, [simS]⟩, ⟨[2, 110, 115, 1, 97], 1, 9, [[49, 49, 49, 49]]⟩]
def simY : List RSet := [⟨[1, 97], 2, 9, [[2, 110, 115, 1, 97, 0]]⟩, ⟨[1, 97], 6, 9, [simT]⟩, ⟨[2, 110, 115, 1, 97], 1, 9, [[49, 49, 49, 49]]⟩]
theorem sim_Z : zoneR [1, 97] simZ = 0 := by decide +kernel
theorem sim_renE : renE [1, 97] simZ 6 = 0 := by decide +kernel
theorem sim_renL : renL [1, 97] simZ 6 = simY := by decide +kernel
theorem sim_renO : renO [1, 97] simZ 6 = [1, 97] := by decide +kernel
theorem sim_Y : zoneR [1, 97] simY = 0 := by decide +kernel
theorem sim_b : ∀ s ∈ simZ, s.data.length ≤ 1000000 := by decide +kernel
theorem sim_d : ∀ s ∈ simZ, ∀ d ∈ s.data, d.length ≤ 4611686018427387904 := by decide +kernel
theorem sim_b2 : ∀ s ∈ simY, s.data.length ≤ 1000000 := by decide +kernel
theorem sim_d2 : ∀ s ∈ simY, ∀ d ∈ s.data, d.length ≤ 4611686018427387904 := by decide +kernel
theorem sim_r : ∀ r ∈ simR, r.data.length ≤ 4611686018427387904 := by decide +kernel
theorem p_Simple (w : World) : Calls Tryz.prog 65 #[] w (Ret w fun r w' => Sl 4 w' r (rcells simR)) := by
  go_enter Tryz.func65, Tryz.ntmps65
  repeat' ((fail_if_success (with_reducible refine o_s ?_)); go_step)
  repeat' (first | ((with_reducible refine o_s ?_); (first | (refine o_1 ?_; refine o_2 ?_) | (refine o_g ?_; first | refine o_u ?_ | refine o_k ?_ | refine o_n ?_ | refine o_v ?_ | ((first | refine o_G ?_ ?_ | refine o_N ?_ ?_) <;> intro hc)))) | ((fail_if_success (with_reducible refine o_s ?_)); go_step))
  refine wpl_run (v := .agg #[str [1, 97], .int .i64 6, .int .i64 9, str simS]) rfl (Runs.build rfl (by kernel_rfl)) ?_
  refine gset ?_
  refine wpl_run (v := .agg #[str [1, 97], .int .i64 2, .int .i64 9, str [2, 110, 115, 1, 97, 0]]) rfl (Runs.build rfl (by kernel_rfl)) ?_
  refine gset ?_
  refine wpl_run (v := .agg #[str [2, 110, 115, 1, 97], .int .i64 1, .int .i64 9, str [49, 49, 49, 49]]) rfl (Runs.build rfl (by kernel_rfl)) ?_
  refine gset ?_
  refine wpl_slice (e := 75) (k := 4) (bytes := 48) (xs := simR.map fun r => .agg r.cells.toArray) rfl rfl rfl (by intro x hx; obtain ⟨r, _, rfl⟩ := List.mem_map.1 hx; rfl) (by decide +kernel) (by decide +kernel) ?_
  intro v1 w1 x1 s1 sl1 _
  have sl1' : Sl 4 w1 v1 (rcells simR) := by simpa [rcells, Value.cells, List.map_map, Function.comp_def] using sl1
  refine gset ?_
  repeat' (first | ((with_reducible refine o_s ?_); (first | (refine o_1 ?_; refine o_2 ?_) | (refine o_g ?_; first | refine o_u ?_ | refine o_k ?_ | refine o_n ?_ | refine o_v ?_ | ((first | refine o_G ?_ ?_ | refine o_N ?_ ?_) <;> intro hc)))) | ((fail_if_success (with_reducible refine o_s ?_)); go_step))
  go_ret
  exact ⟨_, rfl, x1, sl1'⟩
theorem same_true {o o' : List UInt8} {u v : Value} {a b : List RSet} {w : World} (hu : SetsAt w u a) (hv : SetsAt w v b) (ho : o = o') (hab : a = b) : Calls Tryz.prog 31 #[.agg #[str o, u], .agg #[str o', v]] w (RetV w (.bool true)) := by
  have := r8_Same o o' u v a b w hu hv
  rw [decide_eq_true ho, decide_eq_true hab] at this
  exact this
def Yes (w : World) (e : Ending) (w' : World) : Prop := e = .returned (.bool true) ∧ Ext w w'
end Go.Proofs.X
