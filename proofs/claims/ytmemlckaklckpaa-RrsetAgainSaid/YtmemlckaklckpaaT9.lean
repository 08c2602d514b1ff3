/- A part of the proof of a statement on sets of records: what some functions of the program do, walked step by step. -/
import Derived.Test.YtmemlckaklckpaaProg
import Derived.Test.YtmemlckaklckpaaT8
set_option linter.unusedSimpArgs false
set_option linter.unusedVariables false
namespace Go.Proofs.X
open Go.RowKit
set_option maxRecDepth 100000
theorem t40 (nm : List UInt8) (w : World) : Calls Try.prog 40 #[str nm] w fun e w' => e = .returned (.func (.func 73) #[] #[.pointer (some ⟨w.heap.size, 0, none⟩)]) ∧ Ext w w' ∧ w'.heap.size = w.heap.size + 1 ∧ w'.heap[w.heap.size]? = some (.cells #[str nm] 30 (0, 0)) := by
  go_enter Try.func40, Try.ntmps40
  repeat' ((fail_if_success (apply wpl_is)); go_step)
  refine wpl_boxB (vs := [str nm]) rfl rfl ?_
  intro w1 x1 s1 h1
  simp only [List.set_cons_succ, List.set_cons_zero, List.getD_cons_succ, List.getD_cons_zero, List.length_map, if_true, Bool.false_eq_true, if_false, Int.toNat_natCast, Int.toNat_zero, Int.toNat_one, Nat.zero_mul]
  repeat' (first | (apply wpl_run; (rfl); ((first | exact Runs.moveT _ | exact Runs.assignT _ | exact Runs.moveC _ | exact Runs.assignC _ | ((apply Runs.pickTC); (rfl)) | ((apply Runs.pickCT); (rfl)) | ((apply Runs.pickT); (rfl)) | ((apply Runs.len); (assumption); (decide +kernel)) | ((apply Runs.lenS); (rfl); (decide +kernel)) | ((apply Runs.idxT); (rfl); (assumption); (fail); (decide +kernel)) | ((apply Runs.fieldTn); (assumption); (decide +kernel)) | ((apply Runs.loadP); (rfl); (assumption); (rfl); (decide +kernel)) | ((apply Runs.load); (assumption); (decide +kernel)) | ((apply Runs.loadN); (assumption); (rfl); (decide +kernel)) | ((apply Runs.extract); (rfl); (rfl)) | ((apply Runs.not); (rfl)) | ((apply Runs.lss); (rfl); (rfl)) | ((apply Runs.leq); (rfl); (rfl)) | ((apply Runs.gtr); (rfl); (rfl)) | ((apply Runs.geq); (rfl); (rfl)) | ((apply Runs.eql); (rfl); (rfl)) | ((apply Runs.neq); (rfl); (rfl)) | ((apply Runs.inc); (rfl); (rfl); (fail)) | ((apply Runs.add); (rfl); (rfl); (fail)) | ((apply Runs.sub); (rfl); (rfl); (fail)) | ((apply Runs.addU); (rfl); (rfl)) | ((apply Runs.subU); (rfl); (rfl)) | ((apply Runs.eqlS); (rfl); (rfl)) | ((apply Runs.neqS); (rfl); (rfl)) | ((apply Runs.lssS); (rfl); (rfl)) | ((apply Runs.geqS); (rfl); (rfl)) | ((apply Runs.gtrS); (rfl); (rfl)) | ((apply Runs.idxS); (rfl); (rfl); (fail); (decide +kernel)) | ((apply Runs.idxTI); (rfl); (assumption); (fail); (fail); (decide +kernel)) | ((apply Runs.idxSI); (rfl); (rfl); (fail); (fail); (decide +kernel)) | ((apply Runs.convB); (rfl); (decide +kernel); (decide +kernel)) | ((apply Runs.cutSI); (rfl); (rfl); (rfl); (fail); (fail); (fail); (decide +kernel)) | ((apply Runs.dropSI); (rfl); (rfl); (fail); (fail); (decide +kernel)) | ((apply Runs.takeSI); (rfl); (rfl); (fail); (fail); (decide +kernel)) | ((apply Runs.cutTI); (rfl); (rfl); (assumption); (fail); (fail); (fail); (decide +kernel)) | ((apply Runs.dropTI); (rfl); (assumption); (fail); (fail); (decide +kernel)) | ((apply Runs.takeTI); (rfl); (assumption); (fail); (fail); (decide +kernel)) | ((apply Runs.shr); (rfl); (rfl); (decide +kernel); (decide +kernel)) | ((apply Runs.shl8); (rfl); (rfl); (fail)) | ((apply Runs.or8); (rfl); (rfl); (fail); (fail)) | ((apply Runs.mul); (rfl); (rfl); (fail)) | exact Runs.func1)); (simp only [List.set_cons_succ, List.set_cons_zero, List.getD_cons_succ, List.getD_cons_zero, List.length_map, if_true, Bool.false_eq_true, if_false, Int.toNat_natCast, Int.toNat_zero, Int.toNat_one, Nat.zero_mul])) | (apply wpl_skip; (rfl); (simp only [List.set_cons_succ, List.set_cons_zero, List.getD_cons_succ, List.getD_cons_zero, List.length_map, if_true, Bool.false_eq_true, if_false, Int.toNat_natCast, Int.toNat_zero, Int.toNat_one, Nat.zero_mul])) | ((apply wpl_guard; (rfl)) <;> (intro hc)) | ((fail_if_success (apply wpl_is)); go_step))
  go_ret
  exact ⟨rfl, x1, s1, h1⟩
def tcells (ls : List (List UInt8)) : List (List Value) := ls.map fun x => [str x]
/-- between two rounds of cut's loop -/
structure CutMid (w : World) (s : Nat) (lp : Loop) (pre : List (List UInt8)) (W : World) : Prop where
  ext : Ext w W
  hs : w.heap.size = s
  c0 : W.heap[s]? = some (.cells #[.slice none 0 0] 35 (0, 0))
  c1 : W.heap[s + 1]? = some (.cells #[.bool false] 4 (0, 0))
  loc : ∃ v, W.heap[s + 2]? = some (.cells #[v] 35 (0, 0)) ∧ Own (s + 6) 1 9 W v (tcells pre)
  df : W.heap[s + 4]? = some (.deferred (some []))
  lp : W.heap[s + 5]? = some (.loop lp)
  size : s + 6 ≤ W.heap.size
structure CutOut (w : World) (s : Nat) (lp : Loop) (W : World) : Prop where
  ext : Ext w W
  hs : w.heap.size = s
  c0 : W.heap[s]? = some (.cells #[.slice none 0 0] 35 (0, 0))
  c1 : W.heap[s + 1]? = some (.cells #[.bool false] 4 (0, 0))
  df : W.heap[s + 4]? = some (.deferred (some []))
  lp : W.heap[s + 5]? = some (.loop { lp with state := .done, pending := some .ret })
theorem CutMid.put {w : World} {s : Nat} {lp : Loop} {pre : List (List UInt8)} {W W' : World} (h : CutMid w s lp pre W) {o : Obj} (hp : Put W W' (s + 3) o) : CutMid w s lp pre W' := by
  have hm := hp.mv
  have ne : ∀ k, k ≠ s + 3 → some k ≠ some (s + 3) := fun k hk e => hk (Option.some.inj e)
  obtain ⟨v, hv, ho⟩ := h.loc
  refine ⟨h.ext.move hm (by rintro k ⟨⟩; have := h.hs; omega), h.hs, hm.at h.c0 (ne _ (by omega)), hm.at h.c1 (ne _ (by omega)), ⟨v, hm.at hv (ne _ (by omega)), ho.mv hm ?_⟩, hm.at h.df (ne _ (by omega)), hm.at h.lp (ne _ (by omega)), Nat.le_trans h.size hm.size⟩
  cases hb : v.ownBlock with
  | none => exact .inl rfl
  | some r => have := ho.block r hb; exact .inr (ne r (by omega))
set_option maxHeartbeats 1000000 in
theorem t28 (nm : List UInt8) (w : World) : Calls Try.prog 28 #[str nm] w (Ret w fun v w' => match labels nm with
    | some ls => ∃ s, v = .tuple #[s, .bool true] ∧ Own w.heap.size 1 9 w' s (tcells ls)
    | none => v = .tuple #[.slice none 0 0, .bool false]) := by
  refine calls_of_wp_marks Try.func28 rfl ?_
  simp only [Try.ntmps28, List.size_toArray, List.length_cons, List.length_nil, Nat.reduceAdd, Nat.reduceSub, Array.replicate_succ, Array.replicate_zero, List.push_toArray, List.append_toArray, List.nil_append, List.cons_append]
  repeat' ((fail_if_success (apply wpl_is)); go_step)
  refine wpl_allocB (z := [.slice none 0 0]) rfl (by decide +kernel) ?_
  intro w1 x1 s1 h1
  simp only [List.set_cons_succ, List.set_cons_zero, List.getD_cons_succ, List.getD_cons_zero, List.length_map, if_true, Bool.false_eq_true, if_false, Int.toNat_natCast, Int.toNat_zero, Int.toNat_one, Nat.zero_mul]
  refine wpl_allocB (z := [.bool false]) rfl (by decide +kernel) ?_
  intro w2 x2 s2 h2
  simp only [List.set_cons_succ, List.set_cons_zero, List.getD_cons_succ, List.getD_cons_zero, List.length_map, if_true, Bool.false_eq_true, if_false, Int.toNat_natCast, Int.toNat_zero, Int.toNat_one, Nat.zero_mul]
  rw [s1] at h2 ⊢
  have h1' := x2.at h1
  repeat' (first | (apply wpl_run; (rfl); ((first | exact Runs.moveT _ | exact Runs.assignT _ | exact Runs.moveC _ | exact Runs.assignC _ | ((apply Runs.pickTC); (rfl)) | ((apply Runs.pickCT); (rfl)) | ((apply Runs.pickT); (rfl)) | ((apply Runs.len); (assumption); (decide +kernel)) | ((apply Runs.lenS); (rfl); (decide +kernel)) | ((apply Runs.idxT); (rfl); (assumption); (fail); (decide +kernel)) | ((apply Runs.fieldTn); (assumption); (decide +kernel)) | ((apply Runs.loadP); (rfl); (assumption); (rfl); (decide +kernel)) | ((apply Runs.load); (assumption); (decide +kernel)) | ((apply Runs.loadN); (assumption); (rfl); (decide +kernel)) | ((apply Runs.extract); (rfl); (rfl)) | ((apply Runs.not); (rfl)) | ((apply Runs.lss); (rfl); (rfl)) | ((apply Runs.leq); (rfl); (rfl)) | ((apply Runs.gtr); (rfl); (rfl)) | ((apply Runs.geq); (rfl); (rfl)) | ((apply Runs.eql); (rfl); (rfl)) | ((apply Runs.neq); (rfl); (rfl)) | ((apply Runs.inc); (rfl); (rfl); (fail)) | ((apply Runs.add); (rfl); (rfl); (fail)) | ((apply Runs.sub); (rfl); (rfl); (fail)) | ((apply Runs.addU); (rfl); (rfl)) | ((apply Runs.subU); (rfl); (rfl)) | ((apply Runs.eqlS); (rfl); (rfl)) | ((apply Runs.neqS); (rfl); (rfl)) | ((apply Runs.lssS); (rfl); (rfl)) | ((apply Runs.geqS); (rfl); (rfl)) | ((apply Runs.gtrS); (rfl); (rfl)) | ((apply Runs.idxS); (rfl); (rfl); (fail); (decide +kernel)) | ((apply Runs.idxTI); (rfl); (assumption); (fail); (fail); (decide +kernel)) | ((apply Runs.idxSI); (rfl); (rfl); (fail); (fail); (decide +kernel)) | ((apply Runs.convB); (rfl); (decide +kernel); (decide +kernel)) | ((apply Runs.cutSI); (rfl); (rfl); (rfl); (fail); (fail); (fail); (decide +kernel)) | ((apply Runs.dropSI); (rfl); (rfl); (fail); (fail); (decide +kernel)) | ((apply Runs.takeSI); (rfl); (rfl); (fail); (fail); (decide +kernel)) | ((apply Runs.cutTI); (rfl); (rfl); (assumption); (fail); (fail); (fail); (decide +kernel)) | ((apply Runs.dropTI); (rfl); (assumption); (fail); (fail); (decide +kernel)) | ((apply Runs.takeTI); (rfl); (assumption); (fail); (fail); (decide +kernel)) | ((apply Runs.shr); (rfl); (rfl); (decide +kernel); (decide +kernel)) | ((apply Runs.shl8); (rfl); (rfl); (fail)) | ((apply Runs.or8); (rfl); (rfl); (fail); (fail)) | ((apply Runs.mul); (rfl); (rfl); (fail)) | exact Runs.func1 | exact Runs.func0 | ((apply Runs.strOf (e := 5)); (assumption); (decide +kernel); (decide +kernel)) | ((apply Runs.convU); (rfl); (decide +kernel); (decide +kernel)) | ((apply Runs.convS); (rfl); (decide +kernel); (decide +kernel)))); (simp only [List.set_cons_succ, List.set_cons_zero, List.getD_cons_succ, List.getD_cons_zero, List.length_map, if_true, Bool.false_eq_true, if_false, Int.toNat_natCast, Int.toNat_zero, Int.toNat_one, Nat.zero_mul])) | (apply wpl_skip; (rfl); (simp only [List.set_cons_succ, List.set_cons_zero, List.getD_cons_succ, List.getD_cons_zero, List.length_map, if_true, Bool.false_eq_true, if_false, Int.toNat_natCast, Int.toNat_zero, Int.toNat_one, Nat.zero_mul])) | ((apply wpl_guard; (rfl)) <;> (intro hc)) | ((fail_if_success (apply wpl_is)); go_step))
  · rename_i hc
    refine wpl_store1 (v := .slice none 0 0) rfl rfl rfl h1' (by decide +kernel) rfl ?_
    intro w3 p3
    have h23 := (p3.other _ (by omega)).trans h2
    refine wpl_store1 (v := .bool false) rfl rfl rfl h23 (by decide +kernel) rfl ?_
    intro w4 p4
    have h14 := (p4.other _ (by omega)).trans p3.this
    repeat' (first | (apply wpl_run; (rfl); (fail); (simp only [List.set_cons_succ, List.set_cons_zero, List.getD_cons_succ, List.getD_cons_zero, List.length_map, if_true, Bool.false_eq_true, if_false, Int.toNat_natCast, Int.toNat_zero, Int.toNat_one, Nat.zero_mul])) | (apply wpl_skip; (rfl); (simp only [List.set_cons_succ, List.set_cons_zero, List.getD_cons_succ, List.getD_cons_zero, List.length_map, if_true, Bool.false_eq_true, if_false, Int.toNat_natCast, Int.toNat_zero, Int.toNat_one, Nat.zero_mul])) | ((apply wpl_guard; (rfl)) <;> (intro hc)) | ((fail_if_success (apply wpl_is)); go_step))
    refine leaves_nil (results_cells2 rfl rfl rfl h14 p4.this (by decide +kernel) (by decide +kernel)) ⟨_, rfl, ?_, ?_⟩
    · exact ((x1.trans x2).move p3.mv (by rintro k ⟨⟩; omega)).move p4.mv (by rintro k ⟨⟩; omega)
    · rw [labels, if_pos (by omega)]
  · rename_i hc
    refine wpl_allocB (z := [.slice none 0 0]) rfl (by decide +kernel) ?_
    intro w3 x3 s3 h3
    rw [s2, s1] at h3 s3 ⊢
    repeat' (first | (apply wpl_run; (rfl); ((first | exact Runs.moveT _ | exact Runs.assignT _ | exact Runs.moveC _ | exact Runs.assignC _ | ((apply Runs.pickTC); (rfl)) | ((apply Runs.pickCT); (rfl)) | ((apply Runs.pickT); (rfl)) | ((apply Runs.len); (assumption); (decide +kernel)) | ((apply Runs.lenS); (rfl); (decide +kernel)) | ((apply Runs.idxT); (rfl); (assumption); (fail); (decide +kernel)) | ((apply Runs.fieldTn); (assumption); (decide +kernel)) | ((apply Runs.loadP); (rfl); (assumption); (rfl); (decide +kernel)) | ((apply Runs.load); (assumption); (decide +kernel)) | ((apply Runs.loadN); (assumption); (rfl); (decide +kernel)) | ((apply Runs.extract); (rfl); (rfl)) | ((apply Runs.not); (rfl)) | ((apply Runs.lss); (rfl); (rfl)) | ((apply Runs.leq); (rfl); (rfl)) | ((apply Runs.gtr); (rfl); (rfl)) | ((apply Runs.geq); (rfl); (rfl)) | ((apply Runs.eql); (rfl); (rfl)) | ((apply Runs.neq); (rfl); (rfl)) | ((apply Runs.inc); (rfl); (rfl); (fail)) | ((apply Runs.add); (rfl); (rfl); (fail)) | ((apply Runs.sub); (rfl); (rfl); (fail)) | ((apply Runs.addU); (rfl); (rfl)) | ((apply Runs.subU); (rfl); (rfl)) | ((apply Runs.eqlS); (rfl); (rfl)) | ((apply Runs.neqS); (rfl); (rfl)) | ((apply Runs.lssS); (rfl); (rfl)) | ((apply Runs.geqS); (rfl); (rfl)) | ((apply Runs.gtrS); (rfl); (rfl)) | ((apply Runs.idxS); (rfl); (rfl); (fail); (decide +kernel)) | ((apply Runs.idxTI); (rfl); (assumption); (fail); (fail); (decide +kernel)) | ((apply Runs.idxSI); (rfl); (rfl); (fail); (fail); (decide +kernel)) | ((apply Runs.convB); (rfl); (decide +kernel); (decide +kernel)) | ((apply Runs.cutSI); (rfl); (rfl); (rfl); (fail); (fail); (fail); (decide +kernel)) | ((apply Runs.dropSI); (rfl); (rfl); (fail); (fail); (decide +kernel)) | ((apply Runs.takeSI); (rfl); (rfl); (fail); (fail); (decide +kernel)) | ((apply Runs.cutTI); (rfl); (rfl); (assumption); (fail); (fail); (fail); (decide +kernel)) | ((apply Runs.dropTI); (rfl); (assumption); (fail); (fail); (decide +kernel)) | ((apply Runs.takeTI); (rfl); (assumption); (fail); (fail); (decide +kernel)) | ((apply Runs.shr); (rfl); (rfl); (decide +kernel); (decide +kernel)) | ((apply Runs.shl8); (rfl); (rfl); (fail)) | ((apply Runs.or8); (rfl); (rfl); (fail); (fail)) | ((apply Runs.mul); (rfl); (rfl); (fail)) | exact Runs.func1 | exact Runs.func0 | ((apply Runs.strOf (e := 5)); (assumption); (decide +kernel); (decide +kernel)) | ((apply Runs.convU); (rfl); (decide +kernel); (decide +kernel)) | ((apply Runs.convS); (rfl); (decide +kernel); (decide +kernel)))); (simp only [List.set_cons_succ, List.set_cons_zero, List.getD_cons_succ, List.getD_cons_zero, List.length_map, if_true, Bool.false_eq_true, if_false, Int.toNat_natCast, Int.toNat_zero, Int.toNat_one, Nat.zero_mul])) | (apply wpl_skip; (rfl); (simp only [List.set_cons_succ, List.set_cons_zero, List.getD_cons_succ, List.getD_cons_zero, List.length_map, if_true, Bool.false_eq_true, if_false, Int.toNat_natCast, Int.toNat_zero, Int.toNat_one, Nat.zero_mul])) | ((apply wpl_guard; (rfl)) <;> (intro hc)) | ((fail_if_success (apply wpl_is)); go_step))
    refine wpl_callG (enters_of Try.func40 rfl rfl) rfl rfl (t40 nm _) ?_
    rintro e w4 ⟨rfl, x4, s4, h4⟩
    refine ⟨_, rfl, ?_⟩
    rw [s3] at h4 s4
    simp only [List.set_cons_succ, List.set_cons_zero, List.getD_cons_succ, List.getD_cons_zero, List.length_map, if_true, Bool.false_eq_true, if_false, Int.toNat_natCast, Int.toNat_zero, Int.toNat_one, Nat.zero_mul]
    repeat' ((fail_if_success (apply wpl_is)); go_step)
    simp only [s3]
    have e4 : w4.heap.size = w.heap.size + 4 := by omega
    generalize hs : w.heap.size = s at *
    have g0 : w4.heap[s]? = _ := x4.at (x3.at h1')
    have g1 : w4.heap[s + 1]? = _ := x4.at (x3.at h2)
    have g2 : w4.heap[s + 2]? = _ := x4.at h3
    have g3 : w4.heap[s + 3]? = _ := h4
    have gx : Ext w w4 := ((x1.trans x2).trans x3).trans x4
    clear h1 h2 h1' h3 h4 x1 x2 x3 x4 s1 s2 s3 s4
    refine wp_rangeFunc_of (caps := #[.pointer (some ⟨s + 3, 0, none⟩)]) rfl (enters_of Try.func73 rfl rfl) e4 ?_
    intro fn W lp hlp xW k4 k5 sW
    have hJ : CutMid w s lp [] W := ⟨gx.trans xW, hs, xW.at g0, xW.at g1, ⟨_, xW.at g2, Own.nil _ _ _ _⟩, k4, k5, by omega⟩
    have gb := xW.at g3
    have hrdy : lp.state = .ready ∧ lp.pending = none := by subst hlp; exact ⟨rfl, rfl⟩
    have hlab : labels nm = parse nm := by rw [labels, if_neg (by omega)]
    have hy : YieldOk Try.prog (s + 5) (s + 3) lp (CutMid w s lp) (CutOut w s lp) := by
      constructor
      · intro pre x rest W hpre hM hb
        subst hlp
        simp only [List.zip_toArray, List.zip_cons_cons, List.zip_nil_right, List.foldl_toArray', List.foldl_cons, List.foldl_nil, List.setIfInBounds_toArray, List.set_cons_succ, List.set_cons_zero, List.foldl_toArray, List.size_toArray, List.zip_toArray, List.length_cons, List.length_nil]
        have m0 := hM.c0
        have m1 := hM.c1
        obtain ⟨v, m2, mo⟩ := hM.loc
        have md := hM.df
        have ml := hM.lp
        have mx := hM.ext
        have ms := hM.size
        clear hM hJ gb xW k4 k5 sW g0 g1 g2 g3
        refine round_of ?_
        repeat' (first | refine wpR_region (by rfl) (by intro _ _ h; exact h) ?_ | (apply wpl_run; (rfl); (first | exact Runs.moveT _ | exact Runs.assignT _); (simp only [List.set_cons_succ, List.set_cons_zero, List.getD_cons_succ, List.getD_cons_zero, List.length_map, if_true, Bool.false_eq_true, if_false, Int.toNat_natCast, Int.toNat_zero, Int.toNat_one, Nat.zero_mul])) | (apply wpl_skip; (rfl); (simp only [List.set_cons_succ, List.set_cons_zero, List.getD_cons_succ, List.getD_cons_zero, List.length_map, if_true, Bool.false_eq_true, if_false, Int.toNat_natCast, Int.toNat_zero, Int.toNat_one, Nat.zero_mul])) | ((apply wpl_guard; (rfl)) <;> (intro hc)) | ((fail_if_success (apply wpl_is)); first | go_step | gi_step))
        refine ⟨_, ml, rfl, ?_⟩
        intro w2 p2
        have n0 := p2.at m0 (by omega)
        have n1 := p2.at m1 (by omega)
        have n2 := p2.at m2 (by omega)
        have no := mo.put p2 (by omega)
        have nb := p2.at hb (by omega)
        have nd := p2.at md (by omega)
        have nl := p2.this
        have nx := mx.move p2.mv (by rintro k ⟨⟩; omega)
        have ns : s + 6 ≤ w2.heap.size := Nat.le_trans ms p2.mv.size
        clear m0 m1 m2 mo hb md ml mx ms p2
        have hp2 := pts_block (cs := [v]) n2
        repeat' (first | refine wpR_region (by rfl) (by intro _ _ h; exact h) ?_ | (apply wpl_run; (rfl); ((first | exact Runs.moveT _ | exact Runs.assignT _ | exact Runs.moveC _ | exact Runs.assignC _ | ((apply Runs.pickTC); (rfl)) | ((apply Runs.pickCT); (rfl)) | ((apply Runs.pickT); (rfl)) | ((apply Runs.len); (assumption); (decide +kernel)) | ((apply Runs.lenS); (rfl); (decide +kernel)) | ((apply Runs.idxT); (rfl); (assumption); (fail); (decide +kernel)) | ((apply Runs.fieldTn); (assumption); (decide +kernel)) | ((apply Runs.loadP); (rfl); (assumption); (rfl); (decide +kernel)) | ((apply Runs.load); (assumption); (decide +kernel)) | ((apply Runs.loadN); (assumption); (rfl); (decide +kernel)) | ((apply Runs.extract); (rfl); (rfl)) | ((apply Runs.not); (rfl)) | ((apply Runs.lss); (rfl); (rfl)) | ((apply Runs.leq); (rfl); (rfl)) | ((apply Runs.gtr); (rfl); (rfl)) | ((apply Runs.geq); (rfl); (rfl)) | ((apply Runs.eql); (rfl); (rfl)) | ((apply Runs.neq); (rfl); (rfl)) | ((apply Runs.inc); (rfl); (rfl); (fail)) | ((apply Runs.add); (rfl); (rfl); (fail)) | ((apply Runs.sub); (rfl); (rfl); (fail)) | ((apply Runs.addU); (rfl); (rfl)) | ((apply Runs.subU); (rfl); (rfl)) | ((apply Runs.eqlS); (rfl); (rfl)) | ((apply Runs.neqS); (rfl); (rfl)) | ((apply Runs.lssS); (rfl); (rfl)) | ((apply Runs.geqS); (rfl); (rfl)) | ((apply Runs.gtrS); (rfl); (rfl)) | ((apply Runs.idxS); (rfl); (rfl); (fail); (decide +kernel)) | ((apply Runs.idxTI); (rfl); (assumption); (fail); (fail); (decide +kernel)) | ((apply Runs.idxSI); (rfl); (rfl); (fail); (fail); (decide +kernel)) | ((apply Runs.convB); (rfl); (decide +kernel); (decide +kernel)) | ((apply Runs.cutSI); (rfl); (rfl); (rfl); (fail); (fail); (fail); (decide +kernel)) | ((apply Runs.dropSI); (rfl); (rfl); (fail); (fail); (decide +kernel)) | ((apply Runs.takeSI); (rfl); (rfl); (fail); (fail); (decide +kernel)) | ((apply Runs.cutTI); (rfl); (rfl); (assumption); (fail); (fail); (fail); (decide +kernel)) | ((apply Runs.dropTI); (rfl); (assumption); (fail); (fail); (decide +kernel)) | ((apply Runs.takeTI); (rfl); (assumption); (fail); (fail); (decide +kernel)) | ((apply Runs.shr); (rfl); (rfl); (decide +kernel); (decide +kernel)) | ((apply Runs.shl8); (rfl); (rfl); (fail)) | ((apply Runs.or8); (rfl); (rfl); (fail); (fail)) | ((apply Runs.mul); (rfl); (rfl); (fail)) | exact Runs.func1 | exact Runs.func0 | ((apply Runs.strOf (e := 5)); (assumption); (decide +kernel); (decide +kernel)) | ((apply Runs.convU); (rfl); (decide +kernel); (decide +kernel)) | ((apply Runs.convS); (rfl); (decide +kernel); (decide +kernel)))); (simp only [List.set_cons_succ, List.set_cons_zero, List.getD_cons_succ, List.getD_cons_zero, List.length_map, if_true, Bool.false_eq_true, if_false, Int.toNat_natCast, Int.toNat_zero, Int.toNat_one, Nat.zero_mul])) | (apply wpl_skip; (rfl); (simp only [List.set_cons_succ, List.set_cons_zero, List.getD_cons_succ, List.getD_cons_zero, List.length_map, if_true, Bool.false_eq_true, if_false, Int.toNat_natCast, Int.toNat_zero, Int.toNat_one, Nat.zero_mul])) | ((apply wpl_guard; (rfl)) <;> (intro hc)) | ((fail_if_success (apply wpl_is)); first | go_step | gi_step))
        refine wpl_slice (xs := [str x]) (k := 1) (e := 9) (bytes := 16) rfl rfl rfl (by intro y hy; simp at hy; subst hy; rfl) (by decide +kernel) (by simp) ?_
        intro v' w3 x3 s3 sl3 _
        simp only [List.set_cons_succ, List.set_cons_zero, List.getD_cons_succ, List.getD_cons_zero, List.length_map, if_true, Bool.false_eq_true, if_false, Int.toNat_natCast, Int.toNat_zero, Int.toNat_one, Nat.zero_mul]
        refine wpl_append (B := s + 6) (k := 1) (e := 9) (bytes := 16) (x := v') rfl (no.ext x3) rfl sl3 (by decide +kernel) (by simp [str, Value.cells]; rfl) (by have := x3.size; omega) (by simp [tcells]; omega) (by simp [tcells]; omega) ?_
        intro v2 w4 o4 mv4
        simp only [List.set_cons_succ, List.set_cons_zero, List.getD_cons_succ, List.getD_cons_zero, List.length_map, if_true, Bool.false_eq_true, if_false, Int.toNat_natCast, Int.toNat_zero, Int.toNat_one, Nat.zero_mul]
        have hv : Mv v.ownBlock w3 w4 := mv4
        have no3 := no.ext x3
        have q2 := no3.mvs hv (x3.at n2) (by omega)
        refine wpl_store1 (v := v2) rfl rfl rfl q2 (by decide +kernel) o4.one ?_
        intro w5 p5
        have q0 := p5.at (no3.mvs hv (x3.at n0) (by omega)) (by omega)
        have q1 := p5.at (no3.mvs hv (x3.at n1) (by omega)) (by omega)
        have q3 := p5.at (no3.mvs hv (x3.at nb) (by omega)) (by omega)
        have q4 := p5.at (no3.mvs hv (x3.at nd) (by omega)) (by omega)
        have q5 := p5.at (no3.mvs hv (x3.at nl) (by omega)) (by omega)
        have qx := (no3.mvx hv (nx.trans x3) (by omega)).move p5.mv (by rintro k ⟨⟩; omega)
        have qs : s + 6 ≤ w5.heap.size := by have := x3.size; have := hv.size; have := p5.mv.size; omega
        have qo := o4.put p5 (by omega)
        have q2' := p5.this
        repeat' (first | refine wpR_region (by rfl) (by intro _ _ h; exact h) ?_ | (apply wpl_run; (rfl); (fail); (simp only [List.set_cons_succ, List.set_cons_zero, List.getD_cons_succ, List.getD_cons_zero, List.length_map, if_true, Bool.false_eq_true, if_false, Int.toNat_natCast, Int.toNat_zero, Int.toNat_one, Nat.zero_mul])) | (apply wpl_skip; (rfl); (simp only [List.set_cons_succ, List.set_cons_zero, List.getD_cons_succ, List.getD_cons_zero, List.length_map, if_true, Bool.false_eq_true, if_false, Int.toNat_natCast, Int.toNat_zero, Int.toNat_one, Nat.zero_mul])) | ((apply wpl_guard; (rfl)) <;> (intro hc)) | ((fail_if_success (apply wpl_is)); first | go_step | gi_step))
        refine round_normal q5 fun w6 p6 => ⟨rfl, ⟨qx.move p6.mv (by rintro k ⟨⟩; omega), hs, p6.at q0 (by omega), p6.at q1 (by omega), ⟨v2, p6.at q2' (by omega), ?_⟩, p6.at q4 (by omega), p6.this, Nat.le_trans qs p6.mv.size⟩, p6.at q3 (by omega)⟩
        have := qo.put p6 (by omega)
        simpa [tcells, str, Value.cells] using this
      · intro pre W hM
        subst hlp
        simp only [List.zip_toArray, List.zip_cons_cons, List.zip_nil_right, List.foldl_toArray', List.foldl_cons, List.foldl_nil, List.setIfInBounds_toArray, List.set_cons_succ, List.set_cons_zero, List.foldl_toArray, List.size_toArray, List.length_cons, List.length_nil]
        have m0 := hM.c0
        have m1 := hM.c1
        have md := hM.df
        have ml := hM.lp
        have mx := hM.ext
        clear hM hJ gb xW k4 k5 sW g0 g1 g2 g3
        refine round_of ?_
        repeat' (first | refine wpR_region (by rfl) (by intro _ _ h; exact h) ?_ | (apply wpl_run; (rfl); (first | exact Runs.moveT _ | exact Runs.assignT _); (simp only [List.set_cons_succ, List.set_cons_zero, List.getD_cons_succ, List.getD_cons_zero, List.length_map, if_true, Bool.false_eq_true, if_false, Int.toNat_natCast, Int.toNat_zero, Int.toNat_one, Nat.zero_mul])) | (apply wpl_skip; (rfl); (simp only [List.set_cons_succ, List.set_cons_zero, List.getD_cons_succ, List.getD_cons_zero, List.length_map, if_true, Bool.false_eq_true, if_false, Int.toNat_natCast, Int.toNat_zero, Int.toNat_one, Nat.zero_mul])) | ((apply wpl_guard; (rfl)) <;> (intro hc)) | ((fail_if_success (apply wpl_is)); first | go_step | gi_step))
        refine ⟨_, ml, rfl, ?_⟩
        intro w2 p2
        have n0 := p2.at m0 (by omega)
        have n1 := p2.at m1 (by omega)
        have nd := p2.at md (by omega)
        have nl := p2.this
        have nx := mx.move p2.mv (by rintro k ⟨⟩; omega)
        clear m0 m1 md ml mx p2
        repeat' (first | refine wpR_region (by rfl) (by intro _ _ h; exact h) ?_ | (apply wpl_run; (rfl); ((first | exact Runs.moveT _ | exact Runs.assignT _ | exact Runs.moveC _ | exact Runs.assignC _ | ((apply Runs.pickTC); (rfl)) | ((apply Runs.pickCT); (rfl)) | ((apply Runs.pickT); (rfl)) | ((apply Runs.len); (assumption); (decide +kernel)) | ((apply Runs.lenS); (rfl); (decide +kernel)) | ((apply Runs.idxT); (rfl); (assumption); (fail); (decide +kernel)) | ((apply Runs.fieldTn); (assumption); (decide +kernel)) | ((apply Runs.loadP); (rfl); (assumption); (rfl); (decide +kernel)) | ((apply Runs.load); (assumption); (decide +kernel)) | ((apply Runs.loadN); (assumption); (rfl); (decide +kernel)) | ((apply Runs.extract); (rfl); (rfl)) | ((apply Runs.not); (rfl)))); (simp only [List.set_cons_succ, List.set_cons_zero, List.getD_cons_succ, List.getD_cons_zero, List.length_map, if_true, Bool.false_eq_true, if_false, Int.toNat_natCast, Int.toNat_zero, Int.toNat_one, Nat.zero_mul])) | (apply wpl_skip; (rfl); (simp only [List.set_cons_succ, List.set_cons_zero, List.getD_cons_succ, List.getD_cons_zero, List.length_map, if_true, Bool.false_eq_true, if_false, Int.toNat_natCast, Int.toNat_zero, Int.toNat_one, Nat.zero_mul])) | ((apply wpl_guard; (rfl)) <;> (intro hc)) | ((fail_if_success (apply wpl_is)); first | go_step | gi_step))
        refine wpl_store1 (v := .slice none 0 0) rfl rfl rfl n0 (by decide +kernel) rfl ?_
        intro w3 p3
        refine wpl_store1 (v := .bool false) rfl rfl rfl (p3.at n1 (by omega)) (by decide +kernel) rfl ?_
        intro w4 p4
        have q0 := p4.at p3.this (by omega)
        have q1 := p4.this
        have q4 := p4.at (p3.at nd (by omega)) (by omega)
        have q5 := p4.at (p3.at nl (by omega)) (by omega)
        have qx := (nx.move p3.mv (by rintro k ⟨⟩; omega)).move p4.mv (by rintro k ⟨⟩; omega)
        repeat' (first | refine wpR_region (by rfl) (by intro _ _ h; exact h) ?_ | (apply wpl_run; (rfl); (fail); (simp only [List.set_cons_succ, List.set_cons_zero, List.getD_cons_succ, List.getD_cons_zero, List.length_map, if_true, Bool.false_eq_true, if_false, Int.toNat_natCast, Int.toNat_zero, Int.toNat_one, Nat.zero_mul])) | (apply wpl_skip; (rfl); (simp only [List.set_cons_succ, List.set_cons_zero, List.getD_cons_succ, List.getD_cons_zero, List.length_map, if_true, Bool.false_eq_true, if_false, Int.toNat_natCast, Int.toNat_zero, Int.toNat_one, Nat.zero_mul])) | ((apply wpl_guard; (rfl)) <;> (intro hc)) | ((fail_if_success (apply wpl_is)); first | go_step | gi_step))
        exact round_ret q5 fun w6 p6 => ⟨rfl, ⟨qx.move p6.mv (by rintro k ⟨⟩; omega), hs, p6.at q0 (by omega), p6.at q1 (by omega), p6.at q4 (by omega), p6.this⟩⟩
    refine (t73 (s + 5) (s + 3) lp (CutMid w s lp) (CutOut w s lp) (by subst hlp; rfl) (fun _ _ h => h.lp) (fun _ _ _ _ h hp => h.put hp) hy nm W hJ gb (by omega)).mono ?_
    rintro e W' ⟨rfl, hR⟩
    refine ⟨⟨_, rfl⟩, ?_⟩
    clear hJ gb xW k4 k5 sW hy g0 g1 g2 g3
    cases hpn : parse nm with
    | some ls =>
      rw [hpn] at hR
      refine ⟨lp, hR.lp, by rw [hrdy.1]; simp, ?_⟩
      intro W2 hput
      rw [hrdy.2]
      clear hlp hrdy
      simp only
      have hm := hput.mv
      have ne : ∀ k, k ≠ s + 4 + 1 → some k ≠ some (s + 4 + 1) := fun k hk e => hk (Option.some.inj e)
      have f0 := hm.at hR.c0 (ne _ (by omega))
      have f1 := hm.at hR.c1 (ne _ (by omega))
      have fd := hm.at hR.df (ne _ (by omega))
      obtain ⟨v, f2, ho⟩ := hR.loc
      have fo : Own (s + 6) 1 9 W2 v (tcells ls) := ho.put hput (by omega)
      have f2 := hm.at f2 (ne _ (by omega))
      have fx : Ext w W2 := hR.ext.move hm (by rintro k ⟨⟩; omega)
      have fs := Nat.le_trans hR.size hm.size
      clear hR hput hm
      have hp2 := pts_block (cs := [v]) f2
      repeat' (first | (apply wpl_run; (rfl); ((first | exact Runs.moveT _ | exact Runs.assignT _ | exact Runs.moveC _ | exact Runs.assignC _ | ((apply Runs.pickTC); (rfl)) | ((apply Runs.pickCT); (rfl)) | ((apply Runs.pickT); (rfl)) | ((apply Runs.len); (assumption); (decide +kernel)) | ((apply Runs.lenS); (rfl); (decide +kernel)) | ((apply Runs.idxT); (rfl); (assumption); (fail); (decide +kernel)) | ((apply Runs.fieldTn); (assumption); (decide +kernel)) | ((apply Runs.loadP); (rfl); (assumption); (rfl); (decide +kernel)) | ((apply Runs.load); (assumption); (decide +kernel)))); (simp only [List.set_cons_succ, List.set_cons_zero, List.getD_cons_succ, List.getD_cons_zero, List.length_map, if_true, Bool.false_eq_true, if_false, Int.toNat_natCast, Int.toNat_zero, Int.toNat_one, Nat.zero_mul])) | (apply wpl_skip; (rfl); (simp only [List.set_cons_succ, List.set_cons_zero, List.getD_cons_succ, List.getD_cons_zero, List.length_map, if_true, Bool.false_eq_true, if_false, Int.toNat_natCast, Int.toNat_zero, Int.toNat_one, Nat.zero_mul])) | ((apply wpl_guard; (rfl)) <;> (intro hc)) | ((fail_if_success (apply wpl_is)); go_step))
      refine wpl_store1 (v := v) rfl rfl rfl f0 (by decide +kernel) fo.one ?_
      intro W3 p3
      refine wpl_store1 (v := .bool true) rfl rfl rfl ((p3.other _ (by omega)).trans f1) (by decide +kernel) rfl ?_
      intro W4 p4
      have q0 := (p4.other _ (by omega)).trans p3.this
      have qd := (p4.other _ (by omega)).trans ((p3.other _ (by omega)).trans fd)
      have qx : Ext w W4 := (fx.move p3.mv (by rintro k ⟨⟩; omega)).move p4.mv (by rintro k ⟨⟩; omega)
      have qo : Own (s + 6) 1 9 W4 v (tcells ls) := (fo.put p3 (by omega)).put p4 (by omega)
      have qf := (p4.this)
      repeat' (first | (apply wpl_run; (rfl); (fail); (simp only [List.set_cons_succ, List.set_cons_zero, List.getD_cons_succ, List.getD_cons_zero, List.length_map, if_true, Bool.false_eq_true, if_false, Int.toNat_natCast, Int.toNat_zero, Int.toNat_one, Nat.zero_mul])) | (apply wpl_skip; (rfl); (simp only [List.set_cons_succ, List.set_cons_zero, List.getD_cons_succ, List.getD_cons_zero, List.length_map, if_true, Bool.false_eq_true, if_false, Int.toNat_natCast, Int.toNat_zero, Int.toNat_one, Nat.zero_mul])) | ((apply wpl_guard; (rfl)) <;> (intro hc)) | ((fail_if_success (apply wpl_is)); go_step))
      refine leaves_mark qd fun W5 p5 => ⟨_, results_cells2 rfl rfl rfl (p5.at q0 (by omega)) (p5.at qf (by omega)) (by decide +kernel) (by decide +kernel), _, rfl, qx.move p5.mv (by rintro k ⟨⟩; omega), ?_⟩
      rw [hlab, hpn, hs]
      exact ⟨v, rfl, (qo.put p5 (by omega)).weaken (by omega)⟩
    | none =>
      rw [hpn] at hR
      refine ⟨_, hR.lp, by simp, ?_⟩
      intro W2 hput
      simp only
      have hm := hput.mv
      have ne : ∀ k, k ≠ s + 4 + 1 → some k ≠ some (s + 4 + 1) := fun k hk e => hk (Option.some.inj e)
      have f0 := hm.at hR.c0 (ne _ (by omega))
      have f1 := hm.at hR.c1 (ne _ (by omega))
      have fd := hm.at hR.df (ne _ (by omega))
      have fx : Ext w W2 := hR.ext.move hm (by rintro k ⟨⟩; omega)
      clear hlp hrdy
      repeat' ((fail_if_success (apply wpl_is)); go_step)
      refine leaves_mark fd fun W5 p5 => ⟨_, results_cells2 rfl rfl rfl (p5.at f0 (by omega)) (p5.at f1 (by omega)) (by decide +kernel) (by decide +kernel), _, rfl, fx.move p5.mv (by rintro k ⟨⟩; omega), ?_⟩
      rw [hlab, hpn]

end Go.Proofs.X
