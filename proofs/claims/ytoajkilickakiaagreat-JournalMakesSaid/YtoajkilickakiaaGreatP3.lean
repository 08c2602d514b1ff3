/- Laws and walks that the proof of the statement is made of (part 3). -/
import Derived.Test.YtoajkilickakiaaGreatProg
import Derived.Lib.Hide
import Derived.Shelf.RegionOpenPlain
import Derived.Lib.Strings
import Derived.Lib.Slices
import Derived.Lib.Walk
import Derived.Lib.Builder
import Derived.Lib.AppendStr
import Derived.Lib.UnsafeStr
import Derived.Lib.MakeNoZero
import Derived.WalkKit
import Derived.Laws.Externs
import Derived.Laws.IdiomCopy
import Derived.Laws.BitsLemmas
import GoSem.Claims
import Derived.Test.YtoajkilickakiaaGreatShelf
import Derived.Test.YtoajkilickakiaaGreatP1
import Derived.Test.YtoajkilickakiaaGreatP2
set_option linter.unusedSimpArgs false
set_option linter.unusedVariables false
namespace Go.Proofs.X
open Go.RowKit
set_option maxRecDepth 100000
theorem t40 (nm : List UInt8) (w : World) : Calls Tryz.prog 157 #[str nm] w fun e w' => e = .returned (.func (.func 187) #[] #[.pointer (some ⟨w.heap.size, 0, none⟩)]) ∧ Ext w w' ∧ w'.heap.size = w.heap.size + 1 ∧ w'.heap[w.heap.size]? = some (.cells #[str nm] 22 (0, 0)) := by
  go_enter Tryz.func157, Tryz.ntmps157
  repeat' ((fail_if_success (with_reducible refine o_s ?_)); go_step)
  refine wpl_boxB (vs := [str nm]) rfl rfl ?_
  intro w1 x1 s1 h1
  refine gset ?_
  repeat' (first | ((with_reducible refine o_s ?_); (first | (refine o_1 ?_; refine o_2 ?_) | (refine o_g ?_; first | refine o_u ?_ | refine o_k ?_ | refine o_n ?_ | refine o_v ?_ | ((first | refine o_G ?_ ?_ | refine o_N ?_ ?_) <;> intro hc)))) | ((fail_if_success (with_reducible refine o_s ?_)); go_step))
  go_ret
  exact ⟨rfl, x1, s1, h1⟩
def tcells (ls : List (List UInt8)) : List (List Value) := ls.map fun x => [str x]
structure CutMid (w : World) (s : Nat) (lp : Loop) (pre : List (List UInt8)) (W : World) : Prop where
  ext : Ext w W
  hs : w.heap.size = s
  c0 : W.heap[s]? = some (.cells #[.slice none 0 0] 53 (0, 0))
  c1 : W.heap[s + 1]? = some (.cells #[.bool false] 4 (0, 0))
  loc : ∃ v, W.heap[s + 2]? = some (.cells #[v] 53 (0, 0)) ∧ Own (s + 6) 1 9 W v (tcells pre)
  df : W.heap[s + 4]? = some (.deferred (some []))
  lp : W.heap[s + 5]? = some (.loop lp)
  size : s + 6 ≤ W.heap.size
structure CutOut (w : World) (s : Nat) (lp : Loop) (W : World) : Prop where
  ext : Ext w W
  hs : w.heap.size = s
  c0 : W.heap[s]? = some (.cells #[.slice none 0 0] 53 (0, 0))
  c1 : W.heap[s + 1]? = some (.cells #[.bool false] 4 (0, 0))
  df : W.heap[s + 4]? = some (.deferred (some []))
  lp : W.heap[s + 5]? = some (.loop { lp with state := .done, pending := some .ret })
theorem CutMid.put {w : World} {s : Nat} {lp : Loop} {pre : List (List UInt8)} {W W' : World} (h : CutMid w s lp pre W) {o : Obj} (hp : Put W W' (s + 3) o) : CutMid w s lp pre W' := by
  have hm := hp.mv
  have ne : ∀ k, k ≠ s + 3 → some k ≠ some (s + 3) := fun k hk e => hk (Option.some.inj e)
  obtain ⟨v, hv, ho⟩ := h.loc
  refine ⟨h.ext.move hm (by rintro k ⟨⟩; have := h.hs; omega), h.hs, hm.at h.c0 (ne _ (by omega)), hm.at h.c1 (ne _ (by omega)), ⟨v, hm.at hv (ne _ (by omega)), ho.mv hm ?_⟩, hm.at h.df (ne _ (by omega)), hm.at h.lp (ne _ (by omega)), Nat.le_trans h.size hm.size⟩
  cases hb : v.ownBlock with
  | none => exact .inl rfl
  | some r => have := ho.block r hb; exact .inr (ne r (by omega))
set_option maxHeartbeats 1000000 in
theorem t28 (nm : List UInt8) (w : World) : Calls Tryz.prog 114 #[str nm] w (Ret w fun v w' => match labels nm with
    | some ls => ∃ s, v = .tuple #[s, .bool true] ∧ Own w.heap.size 1 9 w' s (tcells ls)
    | none => v = .tuple #[.slice none 0 0, .bool false]) := by
  refine calls_of_wp_marks Tryz.func114 rfl ?_
  simp only [Tryz.ntmps114, List.size_toArray, List.length_cons, List.length_nil, Nat.reduceAdd, Nat.reduceSub, Array.replicate_succ, Array.replicate_zero, List.push_toArray, List.append_toArray, List.nil_append, List.cons_append]
  repeat' ((fail_if_success (with_reducible refine o_s ?_)); go_step)
  refine wpl_allocB (z := [.slice none 0 0]) rfl (by decide +kernel) ?_
  intro w1 x1 s1 h1
  refine gset ?_
  refine wpl_allocB (z := [.bool false]) rfl (by decide +kernel) ?_
  intro w2 x2 s2 h2
  refine gset ?_
  rw [s1] at h2 ⊢
  have h1' := x2.at h1
  repeat' (first | ((with_reducible refine o_s ?_); (first | (refine o_1 ?_; refine o_2 ?_) | (refine o_g ?_; first | refine o_u ?_ | refine o_k ?_ | refine o_n ?_ | refine o_v ?_ | ((first | refine o_G ?_ ?_ | refine o_N ?_ ?_) <;> intro hc)))) | ((fail_if_success (with_reducible refine o_s ?_)); go_step))
  · rename_i hc
    refine wpl_store1 (v := .slice none 0 0) rfl rfl rfl h1' (by decide +kernel) rfl ?_
    intro w3 p3
    have h23 := (p3.other _ (by omega)).trans h2
    refine wpl_store1 (v := .bool false) rfl rfl rfl h23 (by decide +kernel) rfl ?_
    intro w4 p4
    have h14 := (p4.other _ (by omega)).trans p3.this
    repeat' (first | ((with_reducible refine o_s ?_); (first | (refine o_1 ?_; refine o_2 ?_) | (refine o_g ?_; first | refine o_u ?_ | refine o_k ?_ | refine o_n ?_ | refine o_v ?_ | ((first | refine o_G ?_ ?_ | refine o_N ?_ ?_) <;> intro hc)))) | ((fail_if_success (with_reducible refine o_s ?_)); go_step))
    refine leaves_nil (results_cells2 rfl rfl rfl h14 p4.this (by decide +kernel) (by decide +kernel)) ⟨_, rfl, ?_, ?_⟩
    · exact ((x1.trans x2).move p3.mv (by rintro k ⟨⟩; omega)).move p4.mv (by rintro k ⟨⟩; omega)
    · rw [labels, if_pos (by omega)]
  · rename_i hc
    refine wpl_allocB (z := [.slice none 0 0]) rfl (by decide +kernel) ?_
    intro w3 x3 s3 h3
    rw [s2, s1] at h3 s3 ⊢
    repeat' (first | ((with_reducible refine o_s ?_); (first | (refine o_1 ?_; refine o_2 ?_) | (refine o_g ?_; first | refine o_u ?_ | refine o_k ?_ | refine o_n ?_ | refine o_v ?_ | ((first | refine o_G ?_ ?_ | refine o_N ?_ ?_) <;> intro hc)))) | ((fail_if_success (with_reducible refine o_s ?_)); go_step))
    refine wpl_callG (enters_of Tryz.func157 rfl rfl) rfl rfl (t40 nm _) ?_
    rintro e w4 ⟨rfl, x4, s4, h4⟩
    refine ⟨_, rfl, ?_⟩
    rw [s3] at h4 s4
    refine gset ?_
    repeat' ((fail_if_success (with_reducible refine o_s ?_)); go_step)
    simp only [s3]
    have e4 : w4.heap.size = w.heap.size + 4 := by omega
    generalize hs : w.heap.size = s at *
    have g0 : w4.heap[s]? = _ := x4.at (x3.at h1')
    have g1 : w4.heap[s + 1]? = _ := x4.at (x3.at h2)
    have g2 : w4.heap[s + 2]? = _ := x4.at h3
    have g3 : w4.heap[s + 3]? = _ := h4
    have gx : Ext w w4 := ((x1.trans x2).trans x3).trans x4
    clear h1 h2 h1' h3 h4 x1 x2 x3 x4 s1 s2 s3 s4
    refine wp_rangeFunc_of (caps := #[.pointer (some ⟨s + 3, 0, none⟩)]) rfl (enters_of Tryz.func187 rfl rfl) e4 ?_
    intro fn W lp hlp xW k4 k5 sW
    have hJ : CutMid w s lp [] W := ⟨gx.trans xW, hs, xW.at g0, xW.at g1, ⟨_, xW.at g2, Own.nil _ _ _ _⟩, k4, k5, by omega⟩
    have gb := xW.at g3
    have hrdy : lp.state = .ready ∧ lp.pending = none := by subst hlp; exact ⟨rfl, rfl⟩
    have hlab : labels nm = parse nm := by rw [labels, if_neg (by omega)]
    have hy : YieldOk Tryz.prog (s + 5) (s + 3) lp (CutMid w s lp) (CutOut w s lp) := by
      constructor
      · intro pre x rest W hpre hM hb
        subst hlp
        simp only [List.zip_toArray, List.zip_cons_cons, List.zip_nil_right, List.foldl_toArray', List.foldl_cons, List.foldl_nil, List.setIfInBounds_toArray, List.set_cons_succ, List.set_cons_zero, List.foldl_toArray, List.size_toArray, List.zip_toArray, List.length_cons, List.length_nil]
        have m0 := hM.c0
        have m1 := hM.c1
        obtain ⟨v, m2, mo⟩ := hM.loc
        have md := hM.df
        have ml := hM.lp
        have mx := hM.ext
        have ms := hM.size
        clear hM hJ gb xW k4 k5 sW g0 g1 g2 g3
        refine round_of ?_
        repeat' (first | refine wpR_region (by rfl) (by intro _ _ h; exact h) ?_ | ((with_reducible refine o_s ?_); (first | (refine o_1 ?_; refine o_2 ?_) | (refine o_g ?_; first | refine o_u ?_ | refine o_k ?_ | refine o_n ?_ | refine o_v ?_ | ((first | refine o_G ?_ ?_ | refine o_N ?_ ?_) <;> intro hc)))) | ((fail_if_success (with_reducible refine o_s ?_)); first | go_step | gi_step))
        refine ⟨_, ml, rfl, ?_⟩
        intro w2 p2
        have n0 := p2.at m0 (by omega)
        have n1 := p2.at m1 (by omega)
        have n2 := p2.at m2 (by omega)
        have no := mo.put p2 (by omega)
        have nb := p2.at hb (by omega)
        have nd := p2.at md (by omega)
        have nl := p2.this
        have nx := mx.move p2.mv (by rintro k ⟨⟩; omega)
        have ns : s + 6 ≤ w2.heap.size := Nat.le_trans ms p2.mv.size
        clear m0 m1 m2 mo hb md ml mx ms p2
        have hp2 := pts_block (cs := [v]) n2
        repeat' (first | refine wpR_region (by rfl) (by intro _ _ h; exact h) ?_ | ((with_reducible refine o_s ?_); (first | (refine o_1 ?_; refine o_2 ?_) | (refine o_g ?_; first | refine o_u ?_ | refine o_k ?_ | refine o_n ?_ | refine o_v ?_ | ((first | refine o_G ?_ ?_ | refine o_N ?_ ?_) <;> intro hc)))) | ((fail_if_success (with_reducible refine o_s ?_)); first | go_step | gi_step))
        refine wpl_slice (xs := [str x]) (k := 1) (e := 9) (bytes := 16) rfl rfl rfl (by intro y hy; simp at hy; subst hy; rfl) (by decide +kernel) (by simp) ?_
        intro v' w3 x3 s3 sl3 _
        refine gset ?_
        refine wpl_append (B := s + 6) (k := 1) (e := 9) (bytes := 16) (x := v') rfl (no.ext x3) rfl sl3 (by decide +kernel) (by simp [str, Value.cells]; rfl) (by have := x3.size; omega) (by simp [tcells]; omega) (by simp [tcells]; omega) ?_
        intro v2 w4 o4 mv4
        refine gset ?_
        have hv : Mv v.ownBlock w3 w4 := mv4
        have no3 := no.ext x3
        have q2 := no3.mvs hv (x3.at n2) (by omega)
        refine wpl_store1 (v := v2) rfl rfl rfl q2 (by decide +kernel) o4.one ?_
        intro w5 p5
        have q0 := p5.at (no3.mvs hv (x3.at n0) (by omega)) (by omega)
        have q1 := p5.at (no3.mvs hv (x3.at n1) (by omega)) (by omega)
        have q3 := p5.at (no3.mvs hv (x3.at nb) (by omega)) (by omega)
        have q4 := p5.at (no3.mvs hv (x3.at nd) (by omega)) (by omega)
        have q5 := p5.at (no3.mvs hv (x3.at nl) (by omega)) (by omega)
        have qx := (no3.mvx hv (nx.trans x3) (by omega)).move p5.mv (by rintro k ⟨⟩; omega)
        have qs : s + 6 ≤ w5.heap.size := by have := x3.size; have := hv.size; have := p5.mv.size; omega
        have qo := o4.put p5 (by omega)
        have q2' := p5.this
        repeat' (first | refine wpR_region (by rfl) (by intro _ _ h; exact h) ?_ | ((with_reducible refine o_s ?_); (first | (refine o_1 ?_; refine o_2 ?_) | (refine o_g ?_; first | refine o_u ?_ | refine o_k ?_ | refine o_n ?_ | refine o_v ?_ | ((first | refine o_G ?_ ?_ | refine o_N ?_ ?_) <;> intro hc)))) | ((fail_if_success (with_reducible refine o_s ?_)); first | go_step | gi_step))
        refine round_normal q5 fun w6 p6 => ⟨rfl, ⟨qx.move p6.mv (by rintro k ⟨⟩; omega), hs, p6.at q0 (by omega), p6.at q1 (by omega), ⟨v2, p6.at q2' (by omega), ?_⟩, p6.at q4 (by omega), p6.this, Nat.le_trans qs p6.mv.size⟩, p6.at q3 (by omega)⟩
        have := qo.put p6 (by omega)
        simpa [tcells, str, Value.cells] using this
      · intro pre W hM
        subst hlp
        simp only [List.zip_toArray, List.zip_cons_cons, List.zip_nil_right, List.foldl_toArray', List.foldl_cons, List.foldl_nil, List.setIfInBounds_toArray, List.set_cons_succ, List.set_cons_zero, List.foldl_toArray, List.size_toArray, List.length_cons, List.length_nil]
        have m0 := hM.c0
        have m1 := hM.c1
        have md := hM.df
        have ml := hM.lp
        have mx := hM.ext
        clear hM hJ gb xW k4 k5 sW g0 g1 g2 g3
        refine round_of ?_
        repeat' (first | refine wpR_region (by rfl) (by intro _ _ h; exact h) ?_ | ((with_reducible refine o_s ?_); (first | (refine o_1 ?_; refine o_2 ?_) | (refine o_g ?_; first | refine o_u ?_ | refine o_k ?_ | refine o_n ?_ | refine o_v ?_ | ((first | refine o_G ?_ ?_ | refine o_N ?_ ?_) <;> intro hc)))) | ((fail_if_success (with_reducible refine o_s ?_)); first | go_step | gi_step))
        refine ⟨_, ml, rfl, ?_⟩
        intro w2 p2
        have n0 := p2.at m0 (by omega)
        have n1 := p2.at m1 (by omega)
        have nd := p2.at md (by omega)
        have nl := p2.this
        have nx := mx.move p2.mv (by rintro k ⟨⟩; omega)
        clear m0 m1 md ml mx p2
        repeat' (first | refine wpR_region (by rfl) (by intro _ _ h; exact h) ?_ | ((with_reducible refine o_s ?_); (first | (refine o_1 ?_; refine o_2 ?_) | (refine o_g ?_; first | refine o_u ?_ | refine o_k ?_ | refine o_n ?_ | refine o_v ?_ | ((first | refine o_G ?_ ?_ | refine o_N ?_ ?_) <;> intro hc)))) | ((fail_if_success (with_reducible refine o_s ?_)); first | go_step | gi_step))
        refine wpl_store1 (v := .slice none 0 0) rfl rfl rfl n0 (by decide +kernel) rfl ?_
        intro w3 p3
        refine wpl_store1 (v := .bool false) rfl rfl rfl (p3.at n1 (by omega)) (by decide +kernel) rfl ?_
        intro w4 p4
        have q0 := p4.at p3.this (by omega)
        have q1 := p4.this
        have q4 := p4.at (p3.at nd (by omega)) (by omega)
        have q5 := p4.at (p3.at nl (by omega)) (by omega)
        have qx := (nx.move p3.mv (by rintro k ⟨⟩; omega)).move p4.mv (by rintro k ⟨⟩; omega)
        repeat' (first | refine wpR_region (by rfl) (by intro _ _ h; exact h) ?_ | ((with_reducible refine o_s ?_); (first | (refine o_1 ?_; refine o_2 ?_) | (refine o_g ?_; first | refine o_u ?_ | refine o_k ?_ | refine o_n ?_ | refine o_v ?_ | ((first | refine o_G ?_ ?_ | refine o_N ?_ ?_) <;> intro hc)))) | ((fail_if_success (with_reducible refine o_s ?_)); first | go_step | gi_step))
        exact round_ret q5 fun w6 p6 => ⟨rfl, ⟨qx.move p6.mv (by rintro k ⟨⟩; omega), hs, p6.at q0 (by omega), p6.at q1 (by omega), p6.at q4 (by omega), p6.this⟩⟩
    refine (t73 (s + 5) (s + 3) lp (CutMid w s lp) (CutOut w s lp) (by subst hlp; rfl) (fun _ _ h => h.lp) (fun _ _ _ _ h hp => h.put hp) hy nm W hJ gb (by omega)).mono ?_
    rintro e W' ⟨rfl, hR⟩
    refine ⟨⟨_, rfl⟩, ?_⟩
    clear hJ gb xW k4 k5 sW hy g0 g1 g2 g3
    cases hpn : parse nm with
    | some ls =>
      rw [hpn] at hR
      refine ⟨lp, hR.lp, by rw [hrdy.1]; simp, ?_⟩
      intro W2 hput
      rw [hrdy.2]
      clear hlp hrdy
      simp only
      have hm := hput.mv
      have ne : ∀ k, k ≠ s + 4 + 1 → some k ≠ some (s + 4 + 1) := fun k hk e => hk (Option.some.inj e)
      have f0 := hm.at hR.c0 (ne _ (by omega))
      have f1 := hm.at hR.c1 (ne _ (by omega))
      have fd := hm.at hR.df (ne _ (by omega))
      obtain ⟨v, f2, ho⟩ := hR.loc
      have fo : Own (s + 6) 1 9 W2 v (tcells ls) := ho.put hput (by omega)
      have f2 := hm.at f2 (ne _ (by omega))
      have fx : Ext w W2 := hR.ext.move hm (by rintro k ⟨⟩; omega)
      have fs := Nat.le_trans hR.size hm.size
      clear hR hput hm
      have hp2 := pts_block (cs := [v]) f2
      repeat' (first | ((with_reducible refine o_s ?_); (first | (refine o_1 ?_; refine o_2 ?_) | (refine o_g ?_; first | refine o_u ?_ | refine o_k ?_ | refine o_n ?_ | refine o_v ?_ | ((first | refine o_G ?_ ?_ | refine o_N ?_ ?_) <;> intro hc)))) | ((fail_if_success (with_reducible refine o_s ?_)); go_step))
      refine wpl_store1 (v := v) rfl rfl rfl f0 (by decide +kernel) fo.one ?_
      intro W3 p3
      refine wpl_store1 (v := .bool true) rfl rfl rfl ((p3.other _ (by omega)).trans f1) (by decide +kernel) rfl ?_
      intro W4 p4
      have q0 := (p4.other _ (by omega)).trans p3.this
      have qd := (p4.other _ (by omega)).trans ((p3.other _ (by omega)).trans fd)
      have qx : Ext w W4 := (fx.move p3.mv (by rintro k ⟨⟩; omega)).move p4.mv (by rintro k ⟨⟩; omega)
      have qo : Own (s + 6) 1 9 W4 v (tcells ls) := (fo.put p3 (by omega)).put p4 (by omega)
      have qf := (p4.this)
      repeat' (first | ((with_reducible refine o_s ?_); (first | (refine o_1 ?_; refine o_2 ?_) | (refine o_g ?_; first | refine o_u ?_ | refine o_k ?_ | refine o_n ?_ | refine o_v ?_ | ((first | refine o_G ?_ ?_ | refine o_N ?_ ?_) <;> intro hc)))) | ((fail_if_success (with_reducible refine o_s ?_)); go_step))
      refine leaves_mark qd fun W5 p5 => ⟨_, results_cells2 rfl rfl rfl (p5.at q0 (by omega)) (p5.at qf (by omega)) (by decide +kernel) (by decide +kernel), _, rfl, qx.move p5.mv (by rintro k ⟨⟩; omega), ?_⟩
      rw [hlab, hpn, hs]
      exact ⟨v, rfl, (qo.put p5 (by omega)).weaken (by omega)⟩
    | none =>
      rw [hpn] at hR
      refine ⟨_, hR.lp, by simp, ?_⟩
      intro W2 hput
      simp only
      have hm := hput.mv
      have ne : ∀ k, k ≠ s + 4 + 1 → some k ≠ some (s + 4 + 1) := fun k hk e => hk (Option.some.inj e)
      have f0 := hm.at hR.c0 (ne _ (by omega))
      have f1 := hm.at hR.c1 (ne _ (by omega))
      have fd := hm.at hR.df (ne _ (by omega))
      have fx : Ext w W2 := hR.ext.move hm (by rintro k ⟨⟩; omega)
      clear hlp hrdy
      repeat' ((fail_if_success (with_reducible refine o_s ?_)); go_step)
      refine leaves_mark fd fun W5 p5 => ⟨_, results_cells2 rfl rfl rfl (p5.at f0 (by omega)) (p5.at f1 (by omega)) (by decide +kernel) (by decide +kernel), _, rfl, fx.move p5.mv (by rintro k ⟨⟩; omega), ?_⟩
      rw [hlab, hpn]
open Go.RowKit Go.Proofs
theorem bSize : (Tryz.prog.info? 194).map (·.size) = some 2 := by kernel_rfl
theorem bLies : liesAt Tryz.prog Tryz.prog.depth 194 (2 / Tryz.prog.cellsOf 194) 0 194 1 = true := by kernel_rfl
theorem bInfo : (Tryz.prog.info? 5).map (fun i => (i.zero, i.size, i.bytes)) = some (some (.int .u8 0), 1, 1) := by kernel_rfl


set_option maxHeartbeats 1000000 in
set_option maxRecDepth 100000 in
theorem T.Builder_copyCheck_used (b : Nat) (w : World) (h0 : w.cell? ⟨b, 0, none⟩ = some (.pointer (some ⟨b, 0, none⟩))) :
    Calls Tryz.prog 188 #[.pointer (some ⟨b, 0, none⟩)] w fun e w' => e = .returned (.tuple #[]) ∧ w' = w := by
  obtain ⟨j, hj, _⟩ := Option.map_eq_some_iff.1 bSize
  go_enter Tryz.func188, Tryz.ntmps188
  go_wp2
  rw [Lib.run_neq_ptr_same w _ Tryz.underlying192 hj]
  go_wp2
  go_end0
  exact ⟨rfl, rfl⟩


set_option maxHeartbeats 1000000 in
set_option maxRecDepth 100000 in
theorem T.Builder_copyCheck_fresh (b : Nat) (w : World) (h0 : w.cell? ⟨b, 0, none⟩ = some (.pointer none)) (hsh : w.shape? b = some (194, 2)) (hfz : w.frozen? ⟨b, 0, none⟩ = false) :
    Calls Tryz.prog 188 #[.pointer (some ⟨b, 0, none⟩)] w fun e w' => e = .returned (.tuple #[]) ∧ w' = w.setCell ⟨b, 0, none⟩ (.pointer (some ⟨b, 0, none⟩)) := by
  obtain ⟨j, hj, hjs⟩ := Option.map_eq_some_iff.1 bSize
  go_enter Tryz.func188, Tryz.ntmps188
  go_wp2
  rw [Lib.run_to_unsafe w ⟨b, 0, none⟩ Tryz.underlying192 Tryz.underlying241 hj (by rw [hjs]; decide) hsh (Nat.zero_lt_succ 1)]
  simp only [Result.andThen]
  rw [Oper.upon_value]
  go_wp2
  rw [run_callFunc_extern Tryz.func218 (by kernel_rfl) (by kernel_rfl) (by kernel_rfl) (e := Extern.AbiNoEscape.same) (by kernel_rfl)]
  rw [Lib.run_noEscape]
  simp only [Result.andThen]
  rw [Oper.upon_value]
  go_wp2
  rw [Lib.run_from_unsafe w ⟨b, 0, none⟩ Tryz.underlying241 Tryz.underlying192 hj hsh bLies]
  simp only [Result.andThen]
  rw [Oper.upon_value]
  go_wp2
  go_end0
  exact ⟨rfl, rfl⟩


theorem T.Builder_copyCheck (B b : Nat) (bs : List Value) (w : World) (h : Lib.IsBuilder 194 5 B b bs w) :
    Calls Tryz.prog 188 #[.pointer (some ⟨b, 0, none⟩)] w fun e w' => e = .returned (.tuple #[]) ∧ (Lib.BuilderAt 194 5 B b (.pointer (some ⟨b, 0, none⟩)) bs w' ∧ Below B w w' ∧ w.drawn ≤ w'.drawn) := by
  rcases h with h | h
  · refine (T.Builder_copyCheck_fresh b w h.cell0 h.shape h.frozen0).mono ?_
    rintro e w' ⟨rfl, rfl⟩
    exact ⟨rfl, h.used _, (Below.refl B w).setCell (p := ⟨b, 0, none⟩) h.1 _, Nat.le_refl _⟩
  · refine (T.Builder_copyCheck_used b w h.cell0).mono ?_
    rintro e w' ⟨rfl, rfl⟩
    exact ⟨rfl, h, Below.refl B _, Nat.le_refl _⟩


set_option maxHeartbeats 2000000 in
set_option maxRecDepth 100000 in
theorem T.Builder_WriteByte (B b : Nat) (bs : List Value) (c : Int) (w : World) (h : Lib.IsBuilder 194 5 B b bs w) (hlen : bs.length + 1 ≤ 140737488355328) (hBw : B ≤ w.heap.size) :
    Calls Tryz.prog 159 #[.pointer (some ⟨b, 0, none⟩), .int .u8 c] w fun e w' => e = .returned .nilIface ∧ (Lib.BuilderAt 194 5 B b (.pointer (some ⟨b, 0, none⟩)) (bs ++ [.int .u8 c]) w' ∧ Below B w w' ∧ w.drawn ≤ w'.drawn) := by
  obtain ⟨i0, hi, hz0, hz1, hz2⟩ := info_parts bInfo
  go_enter Tryz.func159, Tryz.ntmps159
  go_wp2_with (go_at_call 188; refine (T.Builder_copyCheck B b bs _ h).mono ?_)
  rintro e w1 ⟨rfl, h1, hb1, hd1⟩
  obtain ⟨hB, v, hbk, hown, hne⟩ := h1
  have c0 : w1.cell? ⟨b, 0, none⟩ = some (.pointer (some ⟨b, 0, none⟩)) := by rw [Lib.cell_of_heap hbk]; rfl
  have c1 : w1.cell? ⟨b, 1, none⟩ = some v := by rw [Lib.cell_of_heap hbk]; rfl
  go_wp2_with (at_builtin; refine wpl_appOwn rfl _ _ 165 rfl B 5 i0 (.int .u8 0) 1 1 Tryz.underlying165 hi hz0 hz1 hz2 rfl (by decide) _ _ _ rfl (hown.alloc _) ⟨w1.heap.size, 0, none⟩ 1 1 [.int .u8 c] rfl rfl ?c1 ?c2 ?c3 ?c4 ?c5 ?_)
  case c1 =>
    intro j u hj
    match j, hj with
    | 0, hj => simp at hj; subst hj; simp [Addr.add]
  case c2 => intro u hu; simp at hu; subst hu; rfl
  case c3 => unfold maxLen; omega
  case c4 => omega
  case c5 => have := hb1.size; simp; omega
  intro v' w2 hown' hgrow hd2
  have hlt : b < w1.heap.size := by
    rcases Nat.lt_or_ge b w1.heap.size with h' | h'
    · exact h'
    · simp [Array.getElem?_eq_none h'] at hbk
  have hb2 : w2.heap[b]? = some (.cells #[.pointer (some ⟨b, 0, none⟩), v] 194 (0, 0)) := by
    rw [hgrow.block b (by simp; omega) (fun e => hne e.symm), Lib.alloc_old w1 _ b hlt]
    exact hbk
  have d0 : w2.cell? ⟨b, 0, none⟩ = some (.pointer (some ⟨b, 0, none⟩)) := by rw [Lib.cell_of_heap hb2]; rfl
  have d1 : w2.cell? ⟨b, 1, none⟩ = some v := by rw [Lib.cell_of_heap hb2]; rfl
  have f1 : w2.frozen? ⟨b, 1, none⟩ = false := Lib.frozen_of_heap hb2 1
  obtain ⟨g, cap, rfl⟩ : ∃ g cap, v' = .slice (some ⟨g, 0, none⟩) (bs.length + 1) cap := by
    rcases hown'.2 with ⟨_, h0⟩ | ⟨g, cap, cur, hv, _⟩
    · omega
    · exact ⟨g, cap, hv⟩
  go_wp2
  go_ret
  refine ⟨rfl, ?_, ?_⟩
  · exact Lib.BuilderAt.put (T := 194) (e := 5) hB hb2 (bs' := bs ++ [.int .u8 c]) (by simpa using hown') (by decide)
  · exact ⟨((hb1.alloc (by have := hb1.size; omega) _).grown hgrow (by have := hb1.size; simp; omega) (fun k hk => (hown.lt k hk).1)).setCell (p := ⟨b, 1, none⟩) hB _, Nat.le_trans hd1 hd2⟩


set_option maxHeartbeats 2000000 in
set_option maxRecDepth 100000 in
theorem T.Builder_WriteString (B b : Nat) (bs : List Value) (s : ByteArray) (w : World) (h : Lib.IsBuilder 194 5 B b bs w) (hlen : bs.length + s.size ≤ 140737488355328) (hBw : B ≤ w.heap.size) :
    Calls Tryz.prog 160 #[.pointer (some ⟨b, 0, none⟩), .string s] w fun e w' => e = .returned (.tuple #[.int .i64 s.size, .nilIface]) ∧ (Lib.BuilderAt 194 5 B b (.pointer (some ⟨b, 0, none⟩)) (bs ++ Lib.strCells s) w' ∧ Below B w w' ∧ w.drawn ≤ w'.drawn) := by
  obtain ⟨i0, hi, hz0, hz1, hz2⟩ := info_parts bInfo
  go_enter Tryz.func160, Tryz.ntmps160
  go_wp2_with (go_at_call 188; refine (T.Builder_copyCheck B b bs _ h).mono ?_)
  rintro e w1 ⟨rfl, h1, hb1, hd1⟩
  obtain ⟨hB, v, hbk, hown, hne⟩ := h1
  have c0 : w1.cell? ⟨b, 0, none⟩ = some (.pointer (some ⟨b, 0, none⟩)) := by rw [Lib.cell_of_heap hbk]; rfl
  have c1 : w1.cell? ⟨b, 1, none⟩ = some v := by rw [Lib.cell_of_heap hbk]; rfl
  go_wp2_with (at_builtin; refine wpl_appOwnS rfl _ _ 165 9 rfl B 5 i0 Tryz.underlying165 Tryz.underlying9 hi hz0 hz1 hz2 _ _ _ rfl hown s rfl ?c3 ?c4 ?c5 ?_)
  case c3 => unfold maxLen; omega
  case c4 => omega
  case c5 => have := hb1.size; omega
  intro v' w2 hown' hgrow hd2
  have hlt : b < w1.heap.size := by
    rcases Nat.lt_or_ge b w1.heap.size with h' | h'
    · exact h'
    · simp [Array.getElem?_eq_none h'] at hbk
  have hb2 : w2.heap[b]? = some (.cells #[.pointer (some ⟨b, 0, none⟩), v] 194 (0, 0)) := by
    rw [hgrow.block b hlt (fun e => hne e.symm)]
    exact hbk
  have d0 : w2.cell? ⟨b, 0, none⟩ = some (.pointer (some ⟨b, 0, none⟩)) := by rw [Lib.cell_of_heap hb2]; rfl
  have d1 : w2.cell? ⟨b, 1, none⟩ = some v := by rw [Lib.cell_of_heap hb2]; rfl
  have f1 : w2.frozen? ⟨b, 1, none⟩ = false := Lib.frozen_of_heap hb2 1
  obtain ⟨ao, n', cap, rfl⟩ : ∃ ao n' cap, v' = .slice ao n' cap := by
    rcases hown'.2 with ⟨hv, _⟩ | ⟨g, cap, cur, hv, _⟩
    · exact ⟨_, _, _, hv⟩
    · exact ⟨_, _, _, hv⟩
  go_wp2
  go_ret2
  refine ⟨rfl, ?_, ?_⟩
  · exact Lib.BuilderAt.put (T := 194) (e := 5) hB hb2 (bs' := bs ++ Lib.strCells s) (by simpa [Lib.strCells_length] using hown') (by decide)
  · exact ⟨(hb1.grown hgrow (by have := hb1.size; omega) (fun k hk => (hown.lt k hk).1)).setCell (p := ⟨b, 1, none⟩) hB _, Nat.le_trans hd1 hd2⟩
theorem Ext.heapEq {w w1 : World} (h : w1.heap = w.heap) {k : Nat} {o : Obj} (hk : w.heap[k]? = some o) : w1.heap[k]? = some o := by rw [h]; exact hk
theorem freeze_ext {w0 w : World} (h : Ext w0 w) {g n : Nat} (hg : w0.heap.size ≤ g) : Ext w0 (w.freeze ⟨g, 0, none⟩ n) := by
  unfold World.freeze
  split
  · exact h
  · refine ⟨h.os, h.tape, h.output, by simpa using h.size, fun k hk => ?_, h.drawn⟩
    have hne : g ≠ k := by omega
    simp only [Array.getElem?_modify]
    rw [if_neg hne]
    exact h.block k hk
set_option maxHeartbeats 1000000 in
theorem T.Builder_String (B b : Nat) (l : List UInt8) (w0 w : World) (h : Lib.IsBuilder 194 5 B b (Lib.byteCells l) w) (hx0 : Ext w0 w) (hB : w0.heap.size ≤ B) (hlen : l.length ≤ 9223372036854775807) :
    Calls Tryz.prog 161 #[.pointer (some ⟨b, 0, none⟩)] w fun e w' => e = .returned (str l) ∧ Ext w0 w' := by
  obtain ⟨p, hbB, v, hbk, hown, hne⟩ : ∃ p, Lib.BuilderAt 194 5 B b p (Lib.byteCells l) w := by
    rcases h with h | h <;> exact ⟨_, h⟩
  go_enter Tryz.func161, Tryz.ntmps161
  repeat' (first | ((with_reducible refine o_s ?_); (first | (refine o_1 ?_; refine o_2 ?_) | (refine o_g ?_; first | refine o_u ?_ | refine o_k ?_ | refine o_n ?_ | refine o_v ?_ | ((first | refine o_G ?_ ?_ | refine o_N ?_ ?_) <;> intro hc)))) | ((fail_if_success (with_reducible refine o_s ?_)); go_step))
  refine wph_region (S := fun w' => Ext w0 w' ∧ w'.heap[b]? = some (.cells #[p, v] 194 (0, 0))) (by decide +kernel) ?_
  intro w1 x1 hh1
  have hS : Ext w0 w1 ∧ w1.heap[b]? = some (.cells #[p, v] 194 (0, 0)) := ⟨hx0.trans x1, Ext.heapEq hh1 hbk⟩
  have hsl' := (Own.sl (B := B) (k := 1) (e := 5) (es := bcells l) ⟨by rw [bcells_flat]; simpa [bcells, Lib.byteCells] using ownsRowG_of hown, by simp [bcells]⟩)
  ((with_reducible apply wph_take (i := 0)); (rfl); (rfl); (decide +kernel); (decide +kernel); (decide +kernel); (rfl); (exact hS); (intro w9 hS9; (have hp := pts_block (cs := [p, v]) hS9.2); exact rn); (exact fun _ _ _ h => h); (refine gset ?_)); ((with_reducible apply wph_take (i := 1)); (rfl); (rfl); (decide +kernel); (decide +kernel); (decide +kernel); (rfl); (exact hS); (intro w9 hS9; (have hp := pts_block (cs := [p, v]) hS9.2); exact rn); (exact fun _ _ _ h => h); (refine gset ?_)); ((with_reducible apply wph_take (i := 2)); (rfl); (rfl); (decide +kernel); (decide +kernel); (decide +kernel); (rfl); (exact hS); (intro w9 hS9; (have hp := pts_block (cs := [p, v]) hS9.2); exact rn); (exact fun _ _ _ h => h); (refine gset ?_)); ((with_reducible apply wph_take (i := 3)); (rfl); (rfl); (decide +kernel); (decide +kernel); (decide +kernel); (rfl); (exact hS); (intro w9 hS9; (have hp := pts_block (cs := [p, v]) hS9.2); exact rn); (exact fun _ _ _ h => h); (refine gset ?_)); ((with_reducible apply wph_take (i := 5)); (rfl); (rfl); (decide +kernel); (decide +kernel); (decide +kernel); (rfl); (exact hS); (intro w9 hS9; (have hp := pts_block (cs := [p, v]) hS9.2); exact rn); (exact fun _ _ _ h => h); (refine gset ?_)); ((with_reducible apply wph_take (i := 6)); (rfl); (rfl); (decide +kernel); (decide +kernel); (decide +kernel); (rfl); (exact hS); (intro w9 hS9; (have hp := pts_block (cs := [p, v]) hS9.2); exact rn); (exact fun _ _ _ h => h); (refine gset ?_)); ((with_reducible apply wph_take (i := 7)); (rfl); (rfl); (decide +kernel); (decide +kernel); (decide +kernel); (rfl); (exact hS); (intro w9 hS9; (have hp := pts_block (cs := [p, v]) hS9.2); exact rn); (exact fun _ _ _ h => h); (refine gset ?_)); ((with_reducible apply wph_take (i := 8)); (rfl); (rfl); (decide +kernel); (decide +kernel); (decide +kernel); (rfl); (exact hS); (intro w9 hS9; (have hp := pts_block (cs := [p, v]) hS9.2); exact rn); (exact fun _ _ _ h => h); (refine gset ?_))
  have hsz : ∀ w', (Sl 1 w' v (bcells l)) ∨ True := fun _ => .inr trivial
  refine wph_take (i := 9) (v := .int .i64 ((bcells l).length : Nat)) rfl rfl (by decide +kernel) (by decide +kernel) (by decide +kernel) rfl hS (fun w' _ => ?_) (fun _ _ _ h => h) ?_
  · obtain ⟨ad, cap, h1, _⟩ := hsl'.out
    obtain ⟨e, i, ht, _⟩ := sliceOf_spec (P := Tryz.prog) (t := 165) (k := 1) (by decide +kernel)
    exact ⟨by simp [execOp, resolve, invoke, builtin, Act.eval, h1, Builtin.len_, run_underlying ht, goInt]⟩
  refine gset ?_
  have hlb : (bcells l).length = l.length := by simp [bcells]
  have hE : Ext w0 w1 := hx0.trans x1
  obtain ⟨q, w2, hr2, x2, hq⟩ : ∃ q w2, (Builtin.unsafeSliceData_ #[165] 219 #[v]).run Tryz.prog w1 = .ok (.pointer q) w2 ∧ Ext w1 w2 ∧ (l ≠ [] → ∃ g cur, q = some ⟨g, 0, none⟩ ∧ B ≤ g ∧ w2.heap[g]? = some (.cells cur 5 (0, 0)) ∧ l.length ≤ cur.size ∧ ∀ j x, l[j]? = some x → w2.cell? ⟨g, j, none⟩ = some (.int .u8 (x.toNat : Nat))) := by
    rcases hown.2 with ⟨rfl, h0⟩ | ⟨g, cap, cur, rfl, hbg, hg, hnc, hcm, hcs, htake⟩
    · refine ⟨none, w1, rfl, Ext.refl _, fun hne => absurd (List.eq_nil_of_length_eq_zero ?_) hne⟩
      simpa [Lib.byteCells] using h0
    · have hg1 : w1.heap[g]? = some (.cells cur 5 (0, 0)) := Ext.heapEq hh1 hg
      by_cases hc : cap = 0
      · subst hc
        have hl0 : l = [] := List.eq_nil_of_length_eq_zero (by simpa [Lib.byteCells] using hnc)
        exact ⟨_, _, Lib.run_unsafeSliceData_zero w1 _ _ 5 Tryz.underlying219 ⟨g, 0, none⟩ _ (5, cur.size) (by simp [World.shape?, hg1]), Ext.alloc _ _, fun hne => absurd hl0 hne⟩
      · refine ⟨_, w1, Lib.run_unsafeSliceData_row _ _ _ _ _ _ hc, Ext.refl _, fun _ => ⟨g, cur, rfl, hbg, hg1, ?_, fun j x hj => ?_⟩⟩
        · have : l.length ≤ cap := by simpa [Lib.byteCells] using hnc
          omega
        · rw [cell_of_row w1 g j cur 5 _ hg1]
          have := congrArg (·[j]?) htake
          have hjl : j < l.length := (List.getElem?_eq_some_iff.1 hj).1
          simp only [List.getElem?_take] at this
          rw [if_pos (by simpa [Lib.byteCells] using hjl)] at this
          rw [← Array.getElem?_toList, this]
          simp [Lib.byteCells, hj]
  refine wph_one (i := 4) (by decide +kernel) rfl rfl ?_
  refine wpl_val rfl (w' := w2) (v := .pointer q) (by simp [execOp, resolve, invoke, builtin, evalT, Act.eval, hr2]) ?_
  refine gset ?_
  have hb1 : b < w1.heap.size := (Array.getElem?_eq_some_iff.1 hS.2).1
  refine wph_nil ⟨⟨hE.trans x2, x2.at hS.2⟩, ?_⟩
  have hE2 : Ext w0 w2 := hE.trans x2
  obtain ⟨w3, hr3, x3, hb3⟩ : ∃ w3, (Builtin.unsafeString_ #[219, 3] 9 #[.pointer q, .int .i64 ((bcells l).length : Nat)]).run Tryz.prog w2 = .ok (str l) w3 ∧ Ext w0 w3 ∧ w3.heap[b]? = some (.cells #[p, v] 194 (0, 0)) := by
    by_cases hl0 : l = []
    · subst hl0
      exact ⟨w2, Lib.run_unsafeString_none w2 _ _ _ q, hE2, x2.at hS.2⟩
    · obtain ⟨g, cur, rfl, hbg, hg2, hcl, hcell⟩ := hq hl0
      refine ⟨_, by rw [hlb]; exact Lib.run_unsafeString_row w2 219 3 9 5 Tryz.underlying219 (by decide +kernel) g cur.size (by simp [World.shape?, hg2]) l hl0 hcl hlen (fun j x hj => by rw [add_none, Nat.zero_add]; exact hcell j x hj), freeze_ext hE2 (by omega), ?_⟩
      have hgb : g ≠ b := by
        rintro rfl
        rw [x2.at hS.2] at hg2
        simp at hg2
      unfold World.freeze
      split
      · exact x2.at hS.2
      · simp only [Array.getElem?_modify]
        rw [if_neg hgb]
        exact x2.at hS.2
  refine wph_one (i := 10) (by decide +kernel) rfl rfl ?_
  refine wpl_val rfl (w' := w3) (v := str l) (by rw [hlb] at hr3; simp [execOp, resolve, invoke, builtin, Act.eval, hlb, hr3]) ?_
  refine gset ?_
  refine wph_nil ⟨⟨x3, hb3⟩, ?_⟩
  refine wph_one (i := 11) (by decide +kernel) rfl rfl ?_
  repeat' (first | ((with_reducible refine o_s ?_); (first | (refine o_1 ?_; refine o_2 ?_) | (refine o_g ?_; first | refine o_u ?_ | refine o_k ?_ | refine o_n ?_ | refine o_v ?_ | ((first | refine o_G ?_ ?_ | refine o_N ?_ ?_) <;> intro hc)))) | ((fail_if_success (with_reducible refine o_s ?_)); go_step))
  refine ⟨⟨x3, hb3⟩, ?_⟩
  refine wph_done (by decide +kernel) ?_
  repeat' (first | ((with_reducible refine o_s ?_); (first | (refine o_1 ?_; refine o_2 ?_) | (refine o_g ?_; first | refine o_u ?_ | refine o_k ?_ | refine o_n ?_ | refine o_v ?_ | ((first | refine o_G ?_ ?_ | refine o_N ?_ ?_) <;> intro hc)))) | ((fail_if_success (with_reducible refine o_s ?_)); go_step))
  go_ret
  exact ⟨rfl, x3⟩
theorem enc_append (a b : List (List UInt8)) : enc (a ++ b) = enc a ++ enc b := by simp [enc]
theorem enc_one (x : List UInt8) : enc [x] = UInt8.ofNat x.length :: x := by simp [enc]
theorem join_bad {ls : List (List UInt8)} {x : List UInt8} (h : x ∈ ls) (hb : fitL x = false) : join ls = none := by
  rw [join, if_neg]
  rintro ⟨h1, _⟩
  have := List.all_eq_true.1 h1 x h
  rw [hb] at this
  cases this
theorem join_long {ls : List (List UInt8)} {k : Nat} (h : 254 < (enc (ls.take k)).length) : join ls = none := by
  rw [join, if_neg]
  rintro ⟨_, h2⟩
  have : enc ls = enc (ls.take k) ++ enc (ls.drop k) := by rw [← enc_append, List.take_append_drop]
  rw [this, List.length_append] at h2
  omega
theorem byteCells_append (a b : List UInt8) : Lib.byteCells (a ++ b) = Lib.byteCells a ++ Lib.byteCells b := by simp [Lib.byteCells]
theorem byteCells_len (a : List UInt8) : (Lib.byteCells a).length = a.length := by simp [Lib.byteCells]
set_option maxHeartbeats 1000000 in
theorem t30 (v : Value) (ls : List (List UInt8)) (w : World) (h : Sl 1 w v (tcells ls)) (hl : ls.length ≤ 9223372036854775806) : Calls Tryz.prog 116 #[v] w (RetV w (match join ls with | some n => .tuple #[str n, .int .i64 0] | none => .tuple #[str [], .int .i64 1])) := by
  go_enter Tryz.func116, Tryz.ntmps116
  repeat' ((fail_if_success (with_reducible refine o_s ?_)); go_step)
  repeat' (first | ((with_reducible refine o_s ?_); (first | (refine o_1 ?_; refine o_2 ?_) | (refine o_g ?_; first | refine o_u ?_ | refine o_k ?_ | refine o_n ?_ | refine o_v ?_ | ((first | refine o_G ?_ ?_ | refine o_N ?_ ?_) <;> intro hc)))) | ((fail_if_success (with_reducible refine o_s ?_)); go_step))
  refine wpl_allocB (z := [.pointer none, .slice none 0 0]) rfl (by decide +kernel) ?_
  intro w1 x1 s1 h1
  refine gset ?_
  have hb : Lib.IsBuilder 194 5 w.heap.size w.heap.size (Lib.byteCells []) w1 := .inl ⟨Nat.le_refl _, .slice none 0 0, h1, World.ownsRow_nil _ _ _ _, by simp [Value.ownBlock]⟩
  have hs := h.ext x1
  repeat' (first | ((with_reducible refine o_s ?_); (first | (refine o_1 ?_; refine o_2 ?_) | (refine o_g ?_; first | refine o_u ?_ | refine o_k ?_ | refine o_n ?_ | refine o_v ?_ | ((first | refine o_G ?_ ?_ | refine o_N ?_ ?_) <;> intro hc)))) | ((fail_if_success (with_reducible refine o_s ?_)); go_step))
  clear hs
  have hlt : (tcells ls).length = ls.length := by simp [tcells]
  rw [hlt]
  go_loopw [9] (fun i wr => ∃ k : Nat, k ≤ ls.length ∧ i = .int .i64 k ∧ Ext w wr ∧ Lib.IsBuilder 194 5 w.heap.size w.heap.size (Lib.byteCells (enc (ls.take k))) wr ∧ (ls.take k).all fitL = true ∧ (enc (ls.take k)).length ≤ 318) (fun i _ => ls.length - (intOf i).toNat)
  case atStart => exact ⟨0, Nat.zero_le _, rfl, x1, hb, rfl, by simp [enc]⟩
  case round =>
    obtain ⟨k, hk, rfl, hx, hbk, hall, h318⟩ := hrel
    have hsl := h.ext hx
    by_cases hlt : k < ls.length
    · have hp := hsl.elem (e := [str ls[k]]) (i := k) (by simp [tcells, hlt])
      have hmem : ls[k] ∈ ls := List.getElem_mem hlt
      repeat' (first | ((with_reducible refine o_s ?_); (first | (refine o_1 ?_; refine o_2 ?_) | (refine o_g ?_; first | refine o_u ?_ | refine o_k ?_ | refine o_n ?_ | refine o_v ?_ | ((first | refine o_G ?_ ?_ | refine o_N ?_ ?_) <;> intro hc)))) | ((fail_if_success (with_reducible refine o_s ?_)); go_step))
      · rename_i hc0 hc1 hc2
        refine wpl_callG (enters_of Tryz.func158 rfl rfl) rfl rfl (Tryz.Builder_Len _ _ _ _ hbk) ?_
        rintro e w2 ⟨rfl, rfl⟩
        refine ⟨_, rfl, ?_⟩
        refine gset ?_
        rw [byteCells_len]
        repeat' (first | ((with_reducible refine o_s ?_); (first | (refine o_1 ?_; refine o_2 ?_) | (refine o_g ?_; first | refine o_u ?_ | refine o_k ?_ | refine o_n ?_ | refine o_v ?_ | ((first | refine o_G ?_ ?_ | refine o_N ?_ ?_) <;> intro hc)))) | ((fail_if_success (with_reducible refine o_s ?_)); go_step))
        · rename_i hc3
          go_ret2
          refine ⟨?_, hx⟩
          rw [join_long (k := k) (by omega)]
          rfl
        · rename_i hc3
          have h63 : ls[k].length ≤ 63 := by omega
          have e8 : IntKind.wrap .u8 ((ls[k].length : Nat) : Int) = ((ls[k].length : Nat) : Int) := by simp [IntKind.wrap, IntKind.bits, IntKind.signed]; omega
          rw [e8]
          refine wpl_callG (enters_of Tryz.func159 rfl rfl) rfl rfl (T.Builder_WriteByte _ _ _ _ _ hbk (by rw [byteCells_len]; omega) hx.size) ?_
          rintro e w3 ⟨rfl, hb3, bl3, dr3⟩
          refine ⟨_, rfl, ?_⟩
          refine gset ?_
          repeat' (first | ((with_reducible refine o_s ?_); (first | (refine o_1 ?_; refine o_2 ?_) | (refine o_g ?_; first | refine o_u ?_ | refine o_k ?_ | refine o_n ?_ | refine o_v ?_ | ((first | refine o_G ?_ ?_ | refine o_N ?_ ?_) <;> intro hc)))) | ((fail_if_success (with_reducible refine o_s ?_)); go_step))
          refine wpl_callG (enters_of Tryz.func160 rfl rfl) rfl rfl (T.Builder_WriteString _ _ _ _ _ (.inr hb3) (by rw [List.length_append, byteCells_len, size_mk]; simp; omega) (Nat.le_trans hx.size bl3.size)) ?_
          rintro e w4 ⟨rfl, hb4, bl4, dr4⟩
          refine ⟨_, rfl, ?_⟩
          refine gset ?_
          have hx4 : Ext w w4 := hx.below' (bl3.trans bl4) (Nat.le_trans dr3 dr4)
          have hb5 : Lib.IsBuilder 194 5 w.heap.size w.heap.size (Lib.byteCells (enc (ls.take (k + 1)))) w4 := by
            rw [List.take_add_one, List.getElem?_eq_getElem hlt, Option.toList_some, enc_append, enc_one, byteCells_append]
            have e : Lib.byteCells (UInt8.ofNat ls[k].length :: ls[k]) = Value.int .u8 (ls[k].length : Nat) :: Lib.strCells ⟨ls[k].toArray⟩ := by
              have : (UInt8.ofNat ls[k].length).toNat = ls[k].length := by simp; omega
              simp [Lib.byteCells, Lib.strCells, this]
            rw [e]
            refine .inr ?_
            simpa using hb4
          have hall2 : (ls.take (k + 1)).all fitL = true := by
            rw [List.take_add_one, List.getElem?_eq_getElem hlt, Option.toList_some, List.all_append, hall]
            have : ls[k].length ≠ 0 := fun e => hc2 (List.eq_nil_of_length_eq_zero e)
            simp [fitL]; omega
          have h3182 : (enc (ls.take (k + 1))).length ≤ 318 := by
            rw [List.take_add_one, List.getElem?_eq_getElem hlt, Option.toList_some, enc_append, enc_one]
            simp; omega
          clear hbk hb3 hb4 bl3 bl4 hsl hp
          repeat' (first | ((with_reducible refine o_s ?_); (first | (refine o_1 ?_; refine o_2 ?_) | (refine o_g ?_; first | refine o_u ?_ | refine o_k ?_ | refine o_n ?_ | refine o_v ?_ | ((first | refine o_G ?_ ?_ | refine o_N ?_ ?_) <;> intro hc)))) | ((fail_if_success (with_reducible refine o_s ?_)); go_step))
          exact ⟨⟨k + 1, by omega, rfl, hx4, hb5, hall2, h3182⟩, by simp [intOf]; omega⟩
      · go_ret2
        refine ⟨?_, hx⟩
        rw [join_bad hmem (by simp [fitL]; omega)]
        rfl
      · go_ret2
        refine ⟨?_, hx⟩
        rw [join_bad hmem (by simp [fitL, hc])]
        rfl
    · have : k = ls.length := by omega
      subst this
      rw [List.take_length] at hbk hall h318
      repeat' (first | ((with_reducible refine o_s ?_); (first | (refine o_1 ?_; refine o_2 ?_) | (refine o_g ?_; first | refine o_u ?_ | refine o_k ?_ | refine o_n ?_ | refine o_v ?_ | ((first | refine o_G ?_ ?_ | refine o_N ?_ ?_) <;> intro hc)))) | ((fail_if_success (with_reducible refine o_s ?_)); go_step))
      refine wpl_callG (enters_of Tryz.func158 rfl rfl) rfl rfl (Tryz.Builder_Len _ _ _ _ hbk) ?_
      rintro e w2 ⟨rfl, rfl⟩
      refine ⟨_, rfl, ?_⟩
      refine gset ?_
      rw [byteCells_len]
      repeat' (first | ((with_reducible refine o_s ?_); (first | (refine o_1 ?_; refine o_2 ?_) | (refine o_g ?_; first | refine o_u ?_ | refine o_k ?_ | refine o_n ?_ | refine o_v ?_ | ((first | refine o_G ?_ ?_ | refine o_N ?_ ?_) <;> intro hc)))) | ((fail_if_success (with_reducible refine o_s ?_)); go_step))
      · go_ret2
        refine ⟨?_, hx⟩
        rw [join_long (k := ls.length) (by rw [List.take_length]; omega)]
        rfl
      · refine wpl_callG (enters_of Tryz.func161 rfl rfl) rfl rfl (T.Builder_String _ _ _ w _ hbk hx (Nat.le_refl _) (by omega)) ?_
        rintro e w3 ⟨rfl, x3⟩
        refine ⟨_, rfl, ?_⟩
        refine gset ?_
        repeat' (first | ((with_reducible refine o_s ?_); (first | (refine o_1 ?_; refine o_2 ?_) | (refine o_g ?_; first | refine o_u ?_ | refine o_k ?_ | refine o_n ?_ | refine o_v ?_ | ((first | refine o_G ?_ ?_ | refine o_N ?_ ?_) <;> intro hc)))) | ((fail_if_success (with_reducible refine o_s ?_)); go_step))
        go_ret2
        refine ⟨?_, x3⟩
        rw [join, if_pos ⟨hall, by omega⟩]
        rfl
theorem tcells_get (l : List (List UInt8)) (k : Nat) (b : List UInt8) (h : l[k]? = some b) : (tcells l)[k]? = some [str b] := by simp [tcells, h]
theorem tcells_set (l : List (List UInt8)) (k : Nat) (b : List UInt8) : (tcells l).set k [str b] = tcells (l.set k b) := by simp [tcells, List.map_set]
theorem tcells_length (l : List (List UInt8)) : (tcells l).length = l.length := by simp [tcells]
set_option maxHeartbeats 1000000 in
theorem t17 (nm : List UInt8) (w : World) : Calls Tryz.prog 84 #[str nm] w (RetV w (str (fold nm))) := by
  go_enter Tryz.func84, Tryz.ntmps84
  repeat' (first | ((with_reducible refine o_s ?_); (first | (refine o_1 ?_; refine o_2 ?_) | (refine o_g ?_; first | refine o_u ?_ | refine o_k ?_ | refine o_n ?_ | refine o_v ?_ | ((first | refine o_G ?_ ?_ | refine o_N ?_ ?_) <;> intro hc)))) | ((fail_if_success (with_reducible refine o_s ?_)); go_step))
  refine wpl_callR (enters_of Tryz.func114 rfl rfl) rfl rfl (t28 nm _) ?_
  intro v w1 x1 hv
  cases hl : labels nm with
  | none =>
    rw [hl] at hv
    subst hv
    repeat' (first | ((with_reducible refine o_s ?_); (first | (refine o_1 ?_; refine o_2 ?_) | (refine o_g ?_; first | refine o_u ?_ | refine o_k ?_ | refine o_n ?_ | refine o_v ?_ | ((first | refine o_G ?_ ?_ | refine o_N ?_ ?_) <;> intro hc)))) | ((fail_if_success (with_reducible refine o_s ?_)); go_step))
    go_ret
    exact ⟨by simp [fold, hl], x1⟩
  | some ls =>
    rw [hl] at hv
    obtain ⟨s, rfl, hs⟩ := hv
    have hfit := labels_fit hl
    have hlen := len_le_enc ls
    rw [hfit.2.1] at hlen
    have hsl := hs.sl
    repeat' (first | ((with_reducible refine o_s ?_); (first | (refine o_1 ?_; refine o_2 ?_) | (refine o_g ?_; first | refine o_u ?_ | refine o_k ?_ | refine o_n ?_ | refine o_v ?_ | ((first | refine o_G ?_ ?_ | refine o_N ?_ ?_) <;> intro hc)))) | ((fail_if_success (with_reducible refine o_s ?_)); go_step))
    clear hsl
    rw [tcells_length]
    go_loopw [19] (fun i wr => ∃ k : Nat, k ≤ ls.length ∧ i = .int .i64 k ∧ Ext w wr ∧ Own w.heap.size 1 9 wr s (tcells (mapP low ls k))) (fun i _ => ls.length - (intOf i).toNat)
    case atStart => exact ⟨0, Nat.zero_le _, rfl, x1, by simpa [mapP_zero] using hs⟩
    case round =>
      obtain ⟨k, hk, rfl, hx, ho⟩ := hrel
      have hsl := ho.sl
      have hlen2 : (tcells (mapP low ls k)).length = ls.length := by rw [tcells_length, mapP_length]
      by_cases hlt : k < ls.length
      · have hp := hsl.elem (tcells_get _ _ _ (mapP_get low ls k hlt))
        have h254 : ls[k].length ≤ 254 := by have := mem_enc_le (List.getElem_mem hlt); rw [hfit.2.1] at this; omega
        repeat' (first | ((with_reducible refine o_s ?_); (first | (refine o_1 ?_; refine o_2 ?_) | (refine o_g ?_; first | refine o_u ?_ | refine o_k ?_ | refine o_n ?_ | refine o_v ?_ | ((first | refine o_G ?_ ?_ | refine o_N ?_ ?_) <;> intro hc)))) | ((fail_if_success (with_reducible refine o_s ?_)); go_step))
        refine wpl_callV (enters_of Tryz.func115 rfl rfl) rfl rfl (t29 _ _ h254) ?_
        intro w2 x2
        refine gset ?_
        have hsl := hsl.ext x2
        have ho := ho.ext x2
        have hx := hx.trans x2
        clear hp
        repeat' (first | ((with_reducible refine o_s ?_); (first | (refine o_1 ?_; refine o_2 ?_) | (refine o_g ?_; first | refine o_u ?_ | refine o_k ?_ | refine o_n ?_ | refine o_v ?_ | ((first | refine o_G ?_ ?_ | refine o_N ?_ ?_) <;> intro hc)))) | ((fail_if_success (with_reducible refine o_s ?_)); go_step))
        refine wpl_storeE1 (c := str (low ls[k])) (i := k) rfl rfl rfl ho (by omega) (by decide +kernel) rfl ?_
        intro w3 o3 m3
        have hx3 := ho.mvx m3 hx (Nat.le_refl _)
        rw [tcells_set, ← mapP_succ low ls k hlt] at o3
        clear hx ho hsl
        repeat' (first | ((with_reducible refine o_s ?_); (first | (refine o_1 ?_; refine o_2 ?_) | (refine o_g ?_; first | refine o_u ?_ | refine o_k ?_ | refine o_n ?_ | refine o_v ?_ | ((first | refine o_G ?_ ?_ | refine o_N ?_ ?_) <;> intro hc)))) | ((fail_if_success (with_reducible refine o_s ?_)); go_step))
        exact ⟨⟨k + 1, by omega, rfl, hx3, o3⟩, by simp [intOf]; omega⟩
      · have : k = ls.length := by omega
        subst this
        rw [mapP_all] at hsl
        repeat' (first | ((with_reducible refine o_s ?_); (first | (refine o_1 ?_; refine o_2 ?_) | (refine o_g ?_; first | refine o_u ?_ | refine o_k ?_ | refine o_n ?_ | refine o_v ?_ | ((first | refine o_G ?_ ?_ | refine o_N ?_ ?_) <;> intro hc)))) | ((fail_if_success (with_reducible refine o_s ?_)); go_step))
        refine wpl_callV (enters_of Tryz.func116 rfl rfl) rfl rfl (t30 _ _ _ hsl (by simp; omega)) ?_
        intro w2 x2
        refine gset ?_
        cases hj : join (ls.map low) with
        | none =>
          repeat' (first | ((with_reducible refine o_s ?_); (first | (refine o_1 ?_; refine o_2 ?_) | (refine o_g ?_; first | refine o_u ?_ | refine o_k ?_ | refine o_n ?_ | refine o_v ?_ | ((first | refine o_G ?_ ?_ | refine o_N ?_ ?_) <;> intro hc)))) | ((fail_if_success (with_reducible refine o_s ?_)); go_step))
          go_ret
          exact ⟨by simp [fold, hl, hj], hx.trans x2⟩
        | some n =>
          repeat' (first | ((with_reducible refine o_s ?_); (first | (refine o_1 ?_; refine o_2 ?_) | (refine o_g ?_; first | refine o_u ?_ | refine o_k ?_ | refine o_n ?_ | refine o_v ?_ | ((first | refine o_G ?_ ?_ | refine o_N ?_ ?_) <;> intro hc)))) | ((fail_if_success (with_reducible refine o_s ?_)); go_step))
          go_ret
          exact ⟨by simp [fold, hl, hj], hx.trans x2⟩
theorem drop_get {l : List UInt8} {i : Nat} (h : i < l.length) : l.drop i = l[i] :: l.drop (i + 1) := List.drop_eq_getElem_cons h
theorem getD_get {l : List UInt8} {i : Nat} (h : i < l.length) : l.getD i 0 = l[i] := by simp [h]
theorem parse_at {l : List UInt8} {i : Nat} (h : i < l.length) : parse (l.drop i) = if (l.getD i 0).toNat < 1 ∨ 63 < (l.getD i 0).toNat ∨ l.length - i - 1 < (l.getD i 0).toNat then none else (parse (l.drop (i + 1 + (l.getD i 0).toNat))).map ((l.take (i + 1 + (l.getD i 0).toNat)).drop (i + 1) :: ·) := by
  rw [drop_get h, getD_get h, parse_cons]
  simp only [List.length_drop]
  rw [show l.length - (i + 1) = l.length - i - 1 by omega]
  congr 1
  rw [List.drop_drop, List.drop_take]
  rw [show i + 1 + l[i].toNat - (i + 1) = l[i].toNat by omega]
set_option maxHeartbeats 1000000 in
theorem r1_cut (nm : List UInt8) (w : World) : Calls Tryz.prog 94 #[str nm] w (Ret w fun v w' => match labels nm with
    | none => v = .tuple #[.slice none 0 0, .bool false]
    | some ls => ∃ s, v = .tuple #[s, .bool true] ∧ Own w.heap.size 1 9 w' s (tcells ls)) := by
  by_cases h254 : 254 < nm.length
  · go_enter Tryz.func94, Tryz.ntmps94
    repeat' (first | ((with_reducible refine o_s ?_); (first | (refine o_1 ?_; refine o_2 ?_) | (refine o_g ?_; first | refine o_u ?_ | refine o_k ?_ | refine o_n ?_ | refine o_v ?_ | ((first | refine o_G ?_ ?_ | refine o_N ?_ ?_) <;> intro hc)))) | ((fail_if_success (with_reducible refine o_s ?_)); go_step))
    go_ret2
    exact ⟨_, rfl, Ext.refl _, by simp [labels, h254]⟩
  · have hlab : labels nm = parse nm := by rw [labels, if_neg h254]
    rw [hlab]
    go_enter Tryz.func94, Tryz.ntmps94
    repeat' (first | ((with_reducible refine o_s ?_); (first | (refine o_1 ?_; refine o_2 ?_) | (refine o_g ?_; first | refine o_u ?_ | refine o_k ?_ | refine o_n ?_ | refine o_v ?_ | ((first | refine o_G ?_ ?_ | refine o_N ?_ ?_) <;> intro hc)))) | ((fail_if_success (with_reducible refine o_s ?_)); go_step))
    have h0 : 0 ≤ nm.length := Nat.zero_le _
    go_loopw [4, 5, 6] (fun o a _ wr => ∃ (i : Nat) (pre : List (List UInt8)), i ≤ nm.length ∧ a = .int .i64 i ∧ Ext w wr ∧ Own w.heap.size 1 9 wr o (tcells pre) ∧ pre.length ≤ i ∧ parse nm = (parse (nm.drop i)).map (pre ++ ·)) (fun _ a _ _ => nm.length - (intOf a).toNat)
    case atStart => exact ⟨0, [], Nat.zero_le _, rfl, Ext.refl _, Own.nil _ _ _ _, Nat.le_refl _, by simp⟩
    case round =>
      obtain ⟨i, pre, hi, rfl, hx, ho, hpl, hpar⟩ := hrel
      by_cases hlt : i < nm.length
      · rw [parse_at hlt] at hpar
        have hb : (nm.getD i 0).toNat < 256 := UInt8.toNat_lt _
        repeat' (first | ((with_reducible refine o_s ?_); (first | (refine o_1 ?_; refine o_2 ?_) | (refine o_g ?_; first | refine o_u ?_ | refine o_k ?_ | refine o_n ?_ | refine o_v ?_ | ((first | refine o_G ?_ ?_ | refine o_N ?_ ?_) <;> intro hc)))) | ((fail_if_success (with_reducible refine o_s ?_)); go_step))
        rotate_left
        · rw [if_neg (by omega), Option.map_map] at hpar
          refine ap1 [str ((nm.take (i + 1 + (nm.getD i 0).toNat)).drop (i + 1))] hx ho (by rw [tcells_length]; omega) ?_
          intro s2 v2 w1 w2 _ _ x2 o2
          refine gset ?_
          repeat' (first | ((with_reducible refine o_s ?_); (first | (refine o_1 ?_; refine o_2 ?_) | (refine o_g ?_; first | refine o_u ?_ | refine o_k ?_ | refine o_n ?_ | refine o_v ?_ | ((first | refine o_G ?_ ?_ | refine o_N ?_ ?_) <;> intro hc)))) | ((fail_if_success (with_reducible refine o_s ?_)); go_step))
          refine ⟨⟨i + 1 + (nm.getD i 0).toNat, pre ++ [(nm.take (i + 1 + (nm.getD i 0).toNat)).drop (i + 1)], by omega, by go_num, x2, ?_, by simp; omega, ?_⟩, by simp [intOf]; omega⟩
          · simpa [tcells] using o2
          · rw [hpar]; congr 1; funext x; simp
        all_goals
          go_ret2
          exact ⟨_, rfl, hx, by rw [hpar, if_pos (by omega)]; rfl⟩
      · have : i = nm.length := by omega
        subst this
        rw [List.drop_length, parse_nil, Option.map_some, List.append_nil] at hpar
        repeat' (first | ((with_reducible refine o_s ?_); (first | (refine o_1 ?_; refine o_2 ?_) | (refine o_g ?_; first | refine o_u ?_ | refine o_k ?_ | refine o_n ?_ | refine o_v ?_ | ((first | refine o_G ?_ ?_ | refine o_N ?_ ?_) <;> intro hc)))) | ((fail_if_success (with_reducible refine o_s ?_)); go_step))
        go_ret2
        exact ⟨_, rfl, hx, by rw [hpar]; exact ⟨_, rfl, ho⟩⟩

theorem r1_Check (nm : List UInt8) (w : World) : Calls Tryz.prog 136 #[str nm] w (RetV w (.int .i64 (if (labels nm).isSome then 0 else 1))) := by
  go_enter Tryz.func136, Tryz.ntmps136
  repeat' (first | ((with_reducible refine o_s ?_); (first | (refine o_1 ?_; refine o_2 ?_) | (refine o_g ?_; first | refine o_u ?_ | refine o_k ?_ | refine o_n ?_ | refine o_v ?_ | ((first | refine o_G ?_ ?_ | refine o_N ?_ ?_) <;> intro hc)))) | ((fail_if_success (with_reducible refine o_s ?_)); go_step))
  refine wpl_callR (enters_of Tryz.func94 rfl rfl) rfl rfl (r1_cut nm _) ?_
  intro v w1 x1 hv
  cases hl : labels nm with
  | none =>
    rw [hl] at hv
    subst hv
    repeat' (first | ((with_reducible refine o_s ?_); (first | (refine o_1 ?_; refine o_2 ?_) | (refine o_g ?_; first | refine o_u ?_ | refine o_k ?_ | refine o_n ?_ | refine o_v ?_ | ((first | refine o_G ?_ ?_ | refine o_N ?_ ?_) <;> intro hc)))) | ((fail_if_success (with_reducible refine o_s ?_)); go_step))
    go_ret
    exact ⟨by simp [hl], x1⟩
  | some ls =>
    rw [hl] at hv
    obtain ⟨s, rfl, _⟩ := hv
    repeat' (first | ((with_reducible refine o_s ?_); (first | (refine o_1 ?_; refine o_2 ?_) | (refine o_g ?_; first | refine o_u ?_ | refine o_k ?_ | refine o_n ?_ | refine o_v ?_ | ((first | refine o_G ?_ ?_ | refine o_N ?_ ?_) <;> intro hc)))) | ((fail_if_success (with_reducible refine o_s ?_)); go_step))
    go_ret
    exact ⟨by simp [hl], x1⟩
theorem lowB_of32 {b : UInt8} (h : 65 ≤ b.toNat) (h2 : b.toNat ≤ 90) : IntKind.wrap .u8 ((b.toNat : Int) + 32) = ((lowB b).toNat : Int) := by
  rw [lowB, if_pos ⟨h, h2⟩]
  have : (b + 32).toNat = b.toNat + 32 := by rw [UInt8.toNat_add]; simp; omega
  rw [this]
  simp [IntKind.wrap, IntKind.bits, IntKind.signed]; omega
set_option maxHeartbeats 1000000 in
theorem r1_Small (l : List UInt8) (w : World) (hl : l.length ≤ 4611686018427387904) : Calls Tryz.prog 95 #[str l] w (RetV w (str (low l))) := by
  go_enter Tryz.func95, Tryz.ntmps95
  repeat' (first | ((with_reducible refine o_s ?_); (first | (refine o_1 ?_; refine o_2 ?_) | (refine o_g ?_; first | refine o_u ?_ | refine o_k ?_ | refine o_n ?_ | refine o_v ?_ | ((first | refine o_G ?_ ?_ | refine o_N ?_ ?_) <;> intro hc)))) | ((fail_if_success (with_reducible refine o_s ?_)); go_step))
  refine wpl_bytes (e := 5) (l := l) rfl rfl (by decide +kernel) (by decide +kernel) (by omega) ?_
  intro v w1 x1 o1
  refine gset ?_
  have hlb : (bcells l).length = l.length := by simp [bcells]
  repeat' (first | ((with_reducible refine o_s ?_); (first | (refine o_1 ?_; refine o_2 ?_) | (refine o_g ?_; first | refine o_u ?_ | refine o_k ?_ | refine o_n ?_ | refine o_v ?_ | ((first | refine o_G ?_ ?_ | refine o_N ?_ ?_) <;> intro hc)))) | ((fail_if_success (with_reducible refine o_s ?_)); go_step))
  go_loopw [4] (fun i wr => ∃ k : Nat, k ≤ l.length ∧ i = .int .i64 k ∧ Ext w wr ∧ Own w.heap.size 1 5 wr v (bcells (lowP l k))) (fun i _ => l.length - (intOf i).toNat)
  case atStart => exact ⟨0, Nat.zero_le _, rfl, x1, by simpa [lowP_zero] using o1⟩
  case round =>
    obtain ⟨k, hk, rfl, hx, ho⟩ := hrel
    have hsl := ho.sl
    have hlen : (bcells (lowP l k)).length = l.length := by simp [bcells, lowP_length]
    by_cases hlt : k < l.length
    · have hp := hsl.elem (bcells_get _ _ _ (lowP_get l k hlt))
      repeat' (first | ((with_reducible refine o_s ?_); (first | (refine o_1 ?_; refine o_2 ?_) | (refine o_g ?_; first | refine o_u ?_ | refine o_k ?_ | refine o_n ?_ | refine o_v ?_ | ((first | refine o_G ?_ ?_ | refine o_N ?_ ?_) <;> intro hc)))) | ((fail_if_success (with_reducible refine o_s ?_)); go_step))
      · refine wpl_storeE1 (c := .int .u8 _) (i := k) rfl rfl rfl ho (by omega) (by decide +kernel) rfl ?_
        intro w2 o2 m2
        have hx2 := ho.mvx m2 hx (Nat.le_refl _)
        have e2 : (bcells (lowP l k)).set k [Value.int .u8 (IntKind.u8.wrap (↑l[k].toNat + 32))] = bcells (lowP l (k + 1)) := by
          rw [lowP_succ l k hlt, ← bcells_set, lowB_of32 (by omega) (by omega)]
        rw [e2] at o2
        clear hx ho hsl hp
        repeat' (first | ((with_reducible refine o_s ?_); (first | (refine o_1 ?_; refine o_2 ?_) | (refine o_g ?_; first | refine o_u ?_ | refine o_k ?_ | refine o_n ?_ | refine o_v ?_ | ((first | refine o_G ?_ ?_ | refine o_N ?_ ?_) <;> intro hc)))) | ((fail_if_success (with_reducible refine o_s ?_)); go_step))
        exact ⟨⟨k + 1, by omega, by go_num, hx2, o2⟩, by simp [intOf]; omega⟩
      all_goals
        refine ⟨⟨k + 1, by omega, by go_num, hx, ?_⟩, by simp [intOf]; omega⟩
        rw [lowP_same l k hlt (lowB_no (by omega))]; exact ho
    · have : k = l.length := by omega
      subst this
      rw [lowP_all] at hsl hlen
      repeat' (first | ((with_reducible refine o_s ?_); (first | (refine o_1 ?_; refine o_2 ?_) | (refine o_g ?_; first | refine o_u ?_ | refine o_k ?_ | refine o_n ?_ | refine o_v ?_ | ((first | refine o_G ?_ ?_ | refine o_N ?_ ?_) <;> intro hc)))) | ((fail_if_success (with_reducible refine o_s ?_)); go_step))
      go_ret
      exact ⟨rfl, hx⟩
theorem t84 {B : Nat} {v : Value} {ls : List (List UInt8)} {w : World} (h : Own B 1 9 w v (tcells ls)) : Calls Tryz.prog 172 #[v] w fun e w' => e = .returned (.tuple #[]) ∧ Own B 1 9 w' v (tcells ls.reverse) ∧ Mv v.ownBlock w w' := by
  rcases h.form with ⟨rfl, h0⟩ | ⟨g, cap, rfl, hg, hB, hc, hm⟩
  · have : ls = [] := by simpa [tcells] using h0
    subst this
    refine (Tryz.slices_Reverse_string_empty none 0 w).mono ?_
    rintro e w' ⟨rfl, rfl⟩
    exact ⟨rfl, h, Mv.refl _ _⟩
  · rw [tcells_length] at h hm ⊢
    refine (Tryz.slices_Reverse_string g 0 cap ls w (Own.holds h) hm).mono ?_
    rintro e w' ⟨rfl, n, rfl⟩
    have := Own.putRow (ys := ls.reverse) h (by simp) n #[]
    rw [Sort.grow_empty] at this
    exact ⟨rfl, this.1, this.2⟩
theorem t18 {B : Nat} {v : Value} {ls : List (List UInt8)} {w : World} (h : Own B 1 9 w v (tcells ls)) (hl : ls.length < 4611686018427387904) : Calls Tryz.prog 146 #[v] w fun e w' => e = .returned (.tuple #[]) ∧ Own B 1 9 w' v (tcells (ls.mergeSort fun x y => decide (x ≤ y))) ∧ Mv v.ownBlock w w' := by
  rcases h.form with ⟨rfl, h0⟩ | ⟨g, cap, rfl, hg, hB, hc, hm⟩
  · have : ls = [] := by simpa [tcells] using h0
    subst this
    refine (Tryz.slices_Sort_string_none none 0 w).mono ?_
    rintro e w' ⟨rfl, rfl⟩
    exact ⟨rfl, by simpa using h, Mv.refl _ _⟩
  · rw [tcells_length] at h hm ⊢
    refine (Tryz.slices_Sort_string g 0 cap ls w (Own.holds h) hg hl).mono ?_
    rintro e w' ⟨rfl, n, os, rfl⟩
    have := Own.putRow (ys := ls.mergeSort fun x y => decide (x ≤ y)) h (List.length_mergeSort _) n os
    exact ⟨rfl, this.1, this.2⟩
theorem compact_le (ls : List (List UInt8)) : (Lib.compact ls).length ≤ ls.length := by
  unfold Lib.compact Lib.compactUpTo
  rw [List.length_map]
  exact Nat.le_trans (List.length_filter_le _ _) (by simp)
theorem t19 {B : Nat} {v : Value} {ls : List (List UInt8)} {w : World} (h : Own B 1 9 w v (tcells ls)) : Calls Tryz.prog 147 #[v] w fun e w' => ∃ v', e = .returned v' ∧ Own B 1 9 w' v' (tcells (Lib.compact ls)) ∧ Mv v.ownBlock w w' ∧ v'.ownBlock = v.ownBlock := by
  rcases h.form with ⟨rfl, h0⟩ | ⟨g, cap, rfl, hg, hB, hc, hm⟩
  · have : ls = [] := by simpa [tcells] using h0
    subst this
    refine (Tryz.slices_Compact_string_empty none 0 w).mono ?_
    rintro e w' ⟨rfl, rfl⟩
    exact ⟨_, rfl, h, Mv.refl _ _, rfl⟩
  · rw [tcells_length] at h hm hc ⊢
    refine (Tryz.slices_Compact_string g 0 cap ls w (Own.holds h) hm hc).mono ?_
    rintro e w' ⟨rfl, n, rfl⟩
    have hle := compact_le ls
    have := Own.putRow (ys := Lib.compact ls ++ List.replicate (ls.length - (Lib.compact ls).length) []) h (by simp; omega) n #[]
    rw [Sort.grow_empty] at this
    refine ⟨_, rfl, ?_, this.2, rfl⟩
    have h2 := this.1.short (m := (Lib.compact ls).length) (by simp)
    rw [List.map_append, List.take_left' (by simp)] at h2
    exact h2
theorem t64 (nm : List UInt8) (w : World) : Calls Tryz.prog 134 #[str nm] w (Ret w fun v w' => match turned nm with
    | some ls => ∃ s, v = .tuple #[s, .bool true] ∧ Sl 1 w' s (tcells ls) ∧ ls.length ≤ 254
    | none => ∃ s, v = .tuple #[s, .bool false]) := by
  go_enter Tryz.func134, Tryz.ntmps134
  repeat' (first | ((with_reducible refine o_s ?_); (first | (refine o_1 ?_; refine o_2 ?_) | (refine o_g ?_; first | refine o_u ?_ | refine o_k ?_ | refine o_n ?_ | refine o_v ?_ | ((first | refine o_G ?_ ?_ | refine o_N ?_ ?_) <;> intro hc)))) | ((fail_if_success (with_reducible refine o_s ?_)); go_step))
  refine wpl_callV (enters_of Tryz.func84 rfl rfl) rfl rfl (t17 nm _) ?_
  intro w1 x1
  refine gset ?_
  refine wpl_callR (enters_of Tryz.func114 rfl rfl) rfl rfl (t28 _ _) ?_
  intro v w2 x2 hv
  cases hl : labels (fold nm) with
  | none =>
    rw [hl] at hv
    subst hv
    repeat' (first | ((with_reducible refine o_s ?_); (first | (refine o_1 ?_; refine o_2 ?_) | (refine o_g ?_; first | refine o_u ?_ | refine o_k ?_ | refine o_n ?_ | refine o_v ?_ | ((first | refine o_G ?_ ?_ | refine o_N ?_ ?_) <;> intro hc)))) | ((fail_if_success (with_reducible refine o_s ?_)); go_step))
    refine wpl_callG (enters_of Tryz.func172 rfl rfl) rfl rfl (t84 (ls := []) (Own.nil w2.heap.size 1 9 w2)) ?_
    rintro e w3 ⟨rfl, _, m3⟩
    refine ⟨_, rfl, ?_⟩
    repeat' (first | ((with_reducible refine o_s ?_); (first | (refine o_1 ?_; refine o_2 ?_) | (refine o_g ?_; first | refine o_u ?_ | refine o_k ?_ | refine o_n ?_ | refine o_v ?_ | ((first | refine o_G ?_ ?_ | refine o_N ?_ ?_) <;> intro hc)))) | ((fail_if_success (with_reducible refine o_s ?_)); go_step))
    go_ret2
    refine ⟨_, rfl, (x1.trans x2).move m3 (by rintro k ⟨⟩), ?_⟩
    simp [turned, hl]
  | some ls =>
    rw [hl] at hv
    obtain ⟨s, rfl, hs⟩ := hv
    repeat' (first | ((with_reducible refine o_s ?_); (first | (refine o_1 ?_; refine o_2 ?_) | (refine o_g ?_; first | refine o_u ?_ | refine o_k ?_ | refine o_n ?_ | refine o_v ?_ | ((first | refine o_G ?_ ?_ | refine o_N ?_ ?_) <;> intro hc)))) | ((fail_if_success (with_reducible refine o_s ?_)); go_step))
    refine wpl_callG (enters_of Tryz.func172 rfl rfl) rfl rfl (t84 hs) ?_
    rintro e w3 ⟨rfl, o3, m3⟩
    refine ⟨_, rfl, ?_⟩
    repeat' (first | ((with_reducible refine o_s ?_); (first | (refine o_1 ?_; refine o_2 ?_) | (refine o_g ?_; first | refine o_u ?_ | refine o_k ?_ | refine o_n ?_ | refine o_v ?_ | ((first | refine o_G ?_ ?_ | refine o_N ?_ ?_) <;> intro hc)))) | ((fail_if_success (with_reducible refine o_s ?_)); go_step))
    go_ret2
    refine ⟨_, rfl, hs.mvx m3 (x1.trans x2) x1.size, ?_⟩
    have := labels_fit hl
    simp only [turned, hl, Option.map_some]
    refine ⟨s, rfl, o3.sl, ?_⟩
    have h2 := len_le_enc ls
    rw [this.2.1] at h2
    simp; omega
theorem t85 (a : List UInt8) (w : World) : Calls Tryz.prog 219 #[str a] w (RetV w (.bool false)) := by
  go_enter Tryz.func219, Tryz.ntmps219
  repeat' (first | ((with_reducible refine o_s ?_); (first | (refine o_1 ?_; refine o_2 ?_) | (refine o_g ?_; first | refine o_u ?_ | refine o_k ?_ | refine o_n ?_ | refine o_v ?_ | ((first | refine o_G ?_ ?_ | refine o_N ?_ ?_) <;> intro hc)))) | ((fail_if_success (with_reducible refine o_s ?_)); go_step))
  go_ret
  exact ⟨by simp, Ext.refl _⟩
theorem t80 (a : List UInt8) (w : World) : Calls Tryz.prog 228 #[str a] w (RetV w (.bool false)) := by
  go_enter Tryz.func228, Tryz.ntmps228
  repeat' (first | ((with_reducible refine o_s ?_); (first | (refine o_1 ?_; refine o_2 ?_) | (refine o_g ?_; first | refine o_u ?_ | refine o_k ?_ | refine o_n ?_ | refine o_v ?_ | ((first | refine o_G ?_ ?_ | refine o_N ?_ ?_) <;> intro hc)))) | ((fail_if_success (with_reducible refine o_s ?_)); go_step))
  go_ret
  exact ⟨by simp, Ext.refl _⟩
theorem t65 (a b : List UInt8) (w : World) : Calls Tryz.prog 189 #[str a, str b] w (RetV w (.int .i64 (cmpB a b))) := by
  go_enter Tryz.func189, Tryz.ntmps189
  repeat' (first | ((with_reducible refine o_s ?_); (first | (refine o_1 ?_; refine o_2 ?_) | (refine o_g ?_; first | refine o_u ?_ | refine o_k ?_ | refine o_n ?_ | refine o_v ?_ | ((first | refine o_G ?_ ?_ | refine o_N ?_ ?_) <;> intro hc)))) | ((fail_if_success (with_reducible refine o_s ?_)); go_step))
  refine wpl_callV (enters_of Tryz.func219 rfl rfl) rfl rfl (t85 _ _) ?_
  intro w1 x1
  repeat' (first | ((with_reducible refine o_s ?_); (first | (refine o_1 ?_; refine o_2 ?_) | (refine o_g ?_; first | refine o_u ?_ | refine o_k ?_ | refine o_n ?_ | refine o_v ?_ | ((first | refine o_G ?_ ?_ | refine o_N ?_ ?_) <;> intro hc)))) | ((fail_if_success (with_reducible refine o_s ?_)); go_step))
  refine wpl_callV (enters_of Tryz.func219 rfl rfl) rfl rfl (t85 _ _) ?_
  intro w2 x2
  repeat' (first | ((with_reducible refine o_s ?_); (first | (refine o_1 ?_; refine o_2 ?_) | (refine o_g ?_; first | refine o_u ?_ | refine o_k ?_ | refine o_n ?_ | refine o_v ?_ | ((first | refine o_G ?_ ?_ | refine o_N ?_ ?_) <;> intro hc)))) | ((fail_if_success (with_reducible refine o_s ?_)); go_step))
  · rename_i h
    go_ret
    exact ⟨by simp [cmpB, h], x1.trans x2⟩
  · have h := ‹Op.bytesLess a b = false›
    have h2 := ‹(!(Op.bytesLess a b || a == b)) = true›
    go_ret
    have h3 : a ≠ b := by intro e; subst e; simp at h2
    exact ⟨by simp [cmpB, h, h3], x1.trans x2⟩
  · have h := ‹Op.bytesLess a b = false›
    have h2 := ‹(!(Op.bytesLess a b || a == b)) = false›
    go_ret
    rw [h] at h2
    have h3 : a = b := by simpa using h2
    subst h3
    exact ⟨by simp [cmpB, h], x1.trans x2⟩
theorem t86 (a b : List UInt8) (w : World) : Calls Tryz.prog 220 #[str a, str b] w (RetV w (.int .i64 (cmpB a b))) := by
  go_enter Tryz.func220, Tryz.ntmps220
  repeat' (first | ((with_reducible refine o_s ?_); (first | (refine o_1 ?_; refine o_2 ?_) | (refine o_g ?_; first | refine o_u ?_ | refine o_k ?_ | refine o_n ?_ | refine o_v ?_ | ((first | refine o_G ?_ ?_ | refine o_N ?_ ?_) <;> intro hc)))) | ((fail_if_success (with_reducible refine o_s ?_)); go_step))
  refine wpl_callV (enters_of Tryz.func228 rfl rfl) rfl rfl (t80 _ _) ?_
  intro w1 x1
  repeat' (first | ((with_reducible refine o_s ?_); (first | (refine o_1 ?_; refine o_2 ?_) | (refine o_g ?_; first | refine o_u ?_ | refine o_k ?_ | refine o_n ?_ | refine o_v ?_ | ((first | refine o_G ?_ ?_ | refine o_N ?_ ?_) <;> intro hc)))) | ((fail_if_success (with_reducible refine o_s ?_)); go_step))
  refine wpl_callV (enters_of Tryz.func228 rfl rfl) rfl rfl (t80 _ _) ?_
  intro w2 x2
  repeat' (first | ((with_reducible refine o_s ?_); (first | (refine o_1 ?_; refine o_2 ?_) | (refine o_g ?_; first | refine o_u ?_ | refine o_k ?_ | refine o_n ?_ | refine o_v ?_ | ((first | refine o_G ?_ ?_ | refine o_N ?_ ?_) <;> intro hc)))) | ((fail_if_success (with_reducible refine o_s ?_)); go_step))
  · rename_i h
    go_ret
    exact ⟨by simp [cmpB, h], x1.trans x2⟩
  · have h := ‹Op.bytesLess a b = false›
    have h2 := ‹(!(Op.bytesLess a b || a == b)) = true›
    go_ret
    have h3 : a ≠ b := by intro e; subst e; simp at h2
    exact ⟨by simp [cmpB, h, h3], x1.trans x2⟩
  · have h := ‹Op.bytesLess a b = false›
    have h2 := ‹(!(Op.bytesLess a b || a == b)) = false›
    go_ret
    rw [h] at h2
    have h3 : a = b := by simpa using h2
    subst h3
    exact ⟨by simp [cmpB, h], x1.trans x2⟩
theorem tcells_at {l : List (List UInt8)} {k : Nat} (h : k < l.length) : (tcells l)[k]? = some [str l[k]] := tcells_get l k _ (List.getElem?_eq_getElem h)
theorem t66 (u v : Value) (xs ys : List (List UInt8)) (w : World) (hu : Sl 1 w u (tcells xs)) (hv : Sl 1 w v (tcells ys)) : Calls Tryz.prog 190 #[u, v] w (RetV w (.int .i64 (cmpL xs ys))) := by
  have hxl := hu.le
  have hyl := hv.le
  have hxe := tcells_length xs
  have hye := tcells_length ys
  go_enter Tryz.func190, Tryz.ntmps190
  repeat' (first | ((with_reducible refine o_s ?_); (first | (refine o_1 ?_; refine o_2 ?_) | (refine o_g ?_; first | refine o_u ?_ | refine o_k ?_ | refine o_n ?_ | refine o_v ?_ | ((first | refine o_G ?_ ?_ | refine o_N ?_ ?_) <;> intro hc)))) | ((fail_if_success (with_reducible refine o_s ?_)); go_step))
  rw [hxe]
  go_loopw [11] (fun i wr => ∃ k : Nat, k ≤ xs.length ∧ k ≤ ys.length ∧ i = .int .i64 k ∧ Ext w wr ∧ cmpL xs ys = cmpL (xs.drop k) (ys.drop k)) (fun i _ => xs.length - (intOf i).toNat)
  case atStart => exact ⟨0, Nat.zero_le _, Nat.zero_le _, rfl, Ext.refl _, rfl⟩
  case round =>
    obtain ⟨k, hk, hk2, rfl, hx, hrec⟩ := hrel
    have hul := hu.ext hx
    have hvl := hv.ext hx
    by_cases hlt : k < xs.length
    · have hp := hul.elem (tcells_at hlt)
      have hd := List.drop_eq_getElem_cons hlt
      by_cases hlt2 : k < ys.length
      · have hp2 := hvl.elem (tcells_at hlt2)
        have hd2 := List.drop_eq_getElem_cons hlt2
        repeat' (first | ((with_reducible refine o_s ?_); (first | (refine o_1 ?_; refine o_2 ?_) | (refine o_g ?_; first | refine o_u ?_ | refine o_k ?_ | refine o_n ?_ | refine o_v ?_ | ((first | refine o_G ?_ ?_ | refine o_N ?_ ?_) <;> intro hc)))) | ((fail_if_success (with_reducible refine o_s ?_)); go_step))
        refine wpl_callV (enters_of Tryz.func220 rfl rfl) rfl rfl (t86 _ _ _) ?_
        intro w2 x2
        have hx2 := hx.trans x2
        clear hx hul hvl hp hp2
        repeat' (first | ((with_reducible refine o_s ?_); (first | (refine o_1 ?_; refine o_2 ?_) | (refine o_g ?_; first | refine o_u ?_ | refine o_k ?_ | refine o_n ?_ | refine o_v ?_ | ((first | refine o_G ?_ ?_ | refine o_N ?_ ?_) <;> intro hc)))) | ((fail_if_success (with_reducible refine o_s ?_)); go_step))
        · rename_i hc
          go_ret
          refine ⟨?_, hx2⟩
          rw [hrec, hd, hd2, cmpL, if_pos (by simpa using hc)]
          rfl
        · rename_i hc
          refine ⟨⟨k + 1, by omega, by omega, rfl, hx2, ?_⟩, by simp [intOf]; omega⟩
          rw [hrec, hd, hd2, cmpL, if_neg (by simpa using hc)]
      · have : k = ys.length := by omega
        subst this
        repeat' (first | ((with_reducible refine o_s ?_); (first | (refine o_1 ?_; refine o_2 ?_) | (refine o_g ?_; first | refine o_u ?_ | refine o_k ?_ | refine o_n ?_ | refine o_v ?_ | ((first | refine o_G ?_ ?_ | refine o_N ?_ ?_) <;> intro hc)))) | ((fail_if_success (with_reducible refine o_s ?_)); go_step))
        go_ret
        refine ⟨?_, hx⟩
        rw [hrec, hd, List.drop_length, cmpL]
        rfl
    · have : k = xs.length := by omega
      subst this
      repeat' (first | ((with_reducible refine o_s ?_); (first | (refine o_1 ?_; refine o_2 ?_) | (refine o_g ?_; first | refine o_u ?_ | refine o_k ?_ | refine o_n ?_ | refine o_v ?_ | ((first | refine o_G ?_ ?_ | refine o_N ?_ ?_) <;> intro hc)))) | ((fail_if_success (with_reducible refine o_s ?_)); go_step))
      · rename_i hc
        go_ret
        refine ⟨?_, hx⟩
        have hlt2 : xs.length < ys.length := by rw [hxe, hye] at hc; omega
        rw [hrec, List.drop_length, List.drop_eq_getElem_cons hlt2, cmpL]
        rfl
      · rename_i hc
        go_ret
        refine ⟨?_, hx⟩
        have hlt2 : xs.length = ys.length := by rw [hxe, hye] at hc; omega
        rw [hrec, List.drop_length, hlt2, List.drop_length, cmpL]
        rfl
theorem t35 (a b : List UInt8) (w : World) : Calls Tryz.prog 163 #[str a, str b] w (RetV w (.int .i64 (cmpN a b))) := by
  go_enter Tryz.func163, Tryz.ntmps163
  repeat' (first | ((with_reducible refine o_s ?_); (first | (refine o_1 ?_; refine o_2 ?_) | (refine o_g ?_; first | refine o_u ?_ | refine o_k ?_ | refine o_n ?_ | refine o_v ?_ | ((first | refine o_G ?_ ?_ | refine o_N ?_ ?_) <;> intro hc)))) | ((fail_if_success (with_reducible refine o_s ?_)); go_step))
  refine wpl_callR (enters_of Tryz.func134 rfl rfl) rfl rfl (t64 a _) ?_
  intro v w1 x1 hv
  cases ha : turned a with
  | none =>
    rw [ha] at hv
    obtain ⟨s, rfl⟩ := hv
    repeat' (first | ((with_reducible refine o_s ?_); (first | (refine o_1 ?_; refine o_2 ?_) | (refine o_g ?_; first | refine o_u ?_ | refine o_k ?_ | refine o_n ?_ | refine o_v ?_ | ((first | refine o_G ?_ ?_ | refine o_N ?_ ?_) <;> intro hc)))) | ((fail_if_success (with_reducible refine o_s ?_)); go_step))
    refine wpl_callR (enters_of Tryz.func134 rfl rfl) rfl rfl (t64 b _) ?_
    intro v w2 x2 hv
    cases hb : turned b with
    | none =>
      rw [hb] at hv
      obtain ⟨s2, rfl⟩ := hv
      repeat' (first | ((with_reducible refine o_s ?_); (first | (refine o_1 ?_; refine o_2 ?_) | (refine o_g ?_; first | refine o_u ?_ | refine o_k ?_ | refine o_n ?_ | refine o_v ?_ | ((first | refine o_G ?_ ?_ | refine o_N ?_ ?_) <;> intro hc)))) | ((fail_if_success (with_reducible refine o_s ?_)); go_step))
      refine wpl_callV (enters_of Tryz.func189 rfl rfl) rfl rfl (t65 _ _ _) ?_
      intro w3 x3
      repeat' (first | ((with_reducible refine o_s ?_); (first | (refine o_1 ?_; refine o_2 ?_) | (refine o_g ?_; first | refine o_u ?_ | refine o_k ?_ | refine o_n ?_ | refine o_v ?_ | ((first | refine o_G ?_ ?_ | refine o_N ?_ ?_) <;> intro hc)))) | ((fail_if_success (with_reducible refine o_s ?_)); go_step))
      go_ret
      exact ⟨by simp [cmpN, ha, hb], (x1.trans x2).trans x3⟩
    | some ys =>
      rw [hb] at hv
      obtain ⟨s2, rfl, hs2, _⟩ := hv
      repeat' (first | ((with_reducible refine o_s ?_); (first | (refine o_1 ?_; refine o_2 ?_) | (refine o_g ?_; first | refine o_u ?_ | refine o_k ?_ | refine o_n ?_ | refine o_v ?_ | ((first | refine o_G ?_ ?_ | refine o_N ?_ ?_) <;> intro hc)))) | ((fail_if_success (with_reducible refine o_s ?_)); go_step))
      go_ret
      exact ⟨by simp [cmpN, ha, hb], x1.trans x2⟩
  | some xs =>
    rw [ha] at hv
    obtain ⟨s, rfl, hs, _⟩ := hv
    repeat' (first | ((with_reducible refine o_s ?_); (first | (refine o_1 ?_; refine o_2 ?_) | (refine o_g ?_; first | refine o_u ?_ | refine o_k ?_ | refine o_n ?_ | refine o_v ?_ | ((first | refine o_G ?_ ?_ | refine o_N ?_ ?_) <;> intro hc)))) | ((fail_if_success (with_reducible refine o_s ?_)); go_step))
    refine wpl_callR (enters_of Tryz.func134 rfl rfl) rfl rfl (t64 b _) ?_
    intro v w2 x2 hv
    cases hb : turned b with
    | none =>
      rw [hb] at hv
      obtain ⟨s2, rfl⟩ := hv
      repeat' (first | ((with_reducible refine o_s ?_); (first | (refine o_1 ?_; refine o_2 ?_) | (refine o_g ?_; first | refine o_u ?_ | refine o_k ?_ | refine o_n ?_ | refine o_v ?_ | ((first | refine o_G ?_ ?_ | refine o_N ?_ ?_) <;> intro hc)))) | ((fail_if_success (with_reducible refine o_s ?_)); go_step))
      go_ret
      exact ⟨by simp [cmpN, ha, hb], x1.trans x2⟩
    | some ys =>
      rw [hb] at hv
      obtain ⟨s2, rfl, hs2, _⟩ := hv
      have hs := hs.ext x2
      repeat' (first | ((with_reducible refine o_s ?_); (first | (refine o_1 ?_; refine o_2 ?_) | (refine o_g ?_; first | refine o_u ?_ | refine o_k ?_ | refine o_n ?_ | refine o_v ?_ | ((first | refine o_G ?_ ?_ | refine o_N ?_ ?_) <;> intro hc)))) | ((fail_if_success (with_reducible refine o_s ?_)); go_step))
      refine wpl_callV (enters_of Tryz.func190 rfl rfl) rfl rfl (t66 _ _ _ _ _ hs hs2) ?_
      intro w3 x3
      repeat' (first | ((with_reducible refine o_s ?_); (first | (refine o_1 ?_; refine o_2 ?_) | (refine o_g ?_; first | refine o_u ?_ | refine o_k ?_ | refine o_n ?_ | refine o_v ?_ | ((first | refine o_G ?_ ?_ | refine o_N ?_ ?_) <;> intro hc)))) | ((fail_if_success (with_reducible refine o_s ?_)); go_step))
      go_ret
      exact ⟨by simp [cmpN, ha, hb], (x1.trans x2).trans x3⟩
theorem t27 (nm : List UInt8) (w : World) : Calls Tryz.prog 83 #[str nm] w (RetV w (.int .i64 (if (labels nm).isSome then 0 else 1))) := by
  go_enter Tryz.func83, Tryz.ntmps83
  repeat' (first | ((with_reducible refine o_s ?_); (first | (refine o_1 ?_; refine o_2 ?_) | (refine o_g ?_; first | refine o_u ?_ | refine o_k ?_ | refine o_n ?_ | refine o_v ?_ | ((first | refine o_G ?_ ?_ | refine o_N ?_ ?_) <;> intro hc)))) | ((fail_if_success (with_reducible refine o_s ?_)); go_step))
  refine wpl_callR (enters_of Tryz.func114 rfl rfl) rfl rfl (t28 nm _) ?_
  intro v w1 x1 hv
  cases hl : labels nm with
  | none =>
    rw [hl] at hv
    subst hv
    repeat' (first | ((with_reducible refine o_s ?_); (first | (refine o_1 ?_; refine o_2 ?_) | (refine o_g ?_; first | refine o_u ?_ | refine o_k ?_ | refine o_n ?_ | refine o_v ?_ | ((first | refine o_G ?_ ?_ | refine o_N ?_ ?_) <;> intro hc)))) | ((fail_if_success (with_reducible refine o_s ?_)); go_step))
    go_ret
    exact ⟨by simp [hl], x1⟩
  | some ls =>
    rw [hl] at hv
    obtain ⟨s, rfl, _⟩ := hv
    repeat' (first | ((with_reducible refine o_s ?_); (first | (refine o_1 ?_; refine o_2 ?_) | (refine o_g ?_; first | refine o_u ?_ | refine o_k ?_ | refine o_n ?_ | refine o_v ?_ | ((first | refine o_G ?_ ?_ | refine o_N ?_ ?_) <;> intro hc)))) | ((fail_if_success (with_reducible refine o_s ?_)); go_step))
    go_ret
    exact ⟨by simp [hl], x1⟩
end Go.Proofs.X
