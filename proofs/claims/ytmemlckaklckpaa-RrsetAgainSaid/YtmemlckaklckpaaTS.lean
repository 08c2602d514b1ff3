/- A part of the proof of a statement on sets of records: what some functions of the program do, walked step by step. -/
import Derived.Test.YtmemlckaklckpaaTB
import Derived.Test.YtmemlckaklckpaaXHeld
set_option linter.unusedSimpArgs false
set_option linter.unusedVariables false
namespace Go.Proofs.X
open Go.RowKit
set_option maxRecDepth 100000
theorem Ext.heapEq {w w1 : World} (h : w1.heap = w.heap) {k : Nat} {o : Obj} (hk : w.heap[k]? = some o) : w1.heap[k]? = some o := by rw [h]; exact hk
theorem ownsRow_heap {w w1 : World} (h : w1.heap = w.heap) {B e k : Nat} {v : Value} {n : Nat} {xs : List Value} (ho : w.ownsRow B e k v n xs) : w1.ownsRow B e k v n xs := by
  unfold World.ownsRow at *
  rw [h]; exact ho
theorem freeze_ext {w0 w : World} (h : Ext w0 w) {g n : Nat} (hg : w0.heap.size ≤ g) : Ext w0 (w.freeze ⟨g, 0, none⟩ n) := by
  unfold World.freeze
  split
  · exact h
  · refine ⟨h.os, h.tape, h.output, by simpa using h.size, fun k hk => ?_, h.drawn⟩
    have hne : g ≠ k := by omega
    simp only [Array.getElem?_modify]
    rw [if_neg hne]
    exact h.block k hk
set_option maxHeartbeats 1000000 in
/-- (*strings.Builder).String -/
theorem T.Builder_String (B b : Nat) (l : List UInt8) (w0 w : World) (h : Lib.IsBuilder 84 5 B b (Lib.byteCells l) w) (hx0 : Ext w0 w) (hB : w0.heap.size ≤ B) (hlen : l.length ≤ 9223372036854775807) :
    Calls Try.prog 44 #[.pointer (some ⟨b, 0, none⟩)] w fun e w' => e = .returned (str l) ∧ Ext w0 w' := by
  obtain ⟨p, hbB, v, hbk, hown, hne⟩ : ∃ p, Lib.BuilderAt 84 5 B b p (Lib.byteCells l) w := by
    rcases h with h | h <;> exact ⟨_, h⟩
  go_enter Try.func44, Try.ntmps44
  repeat' (first | ((with_reducible apply wpl_run); (rfl); (first | exact Runs.moveT _ | exact Runs.assignT _ | exact Runs.moveC _ | exact Runs.assignC _); (simp only [List.set_cons_succ, List.set_cons_zero, List.getD_cons_succ, List.getD_cons_zero, List.length_map, if_true, Bool.false_eq_true, if_false, Int.toNat_natCast, Int.toNat_zero, Int.toNat_one, Nat.zero_mul])) | ((with_reducible apply wpl_skip); (rfl); (simp only [List.set_cons_succ, List.set_cons_zero, List.getD_cons_succ, List.getD_cons_zero, List.length_map, if_true, Bool.false_eq_true, if_false, Int.toNat_natCast, Int.toNat_zero, Int.toNat_one, Nat.zero_mul])) | (((with_reducible apply wpl_guard); (rfl)) <;> (intro hc)) | ((fail_if_success (with_reducible apply wpl_is)); go_step))
  refine wph_region (S := fun w' => Ext w0 w' ∧ w'.heap[b]? = some (.cells #[p, v] 84 (0, 0))) (by decide +kernel) ?_
  intro w1 x1 hh1
  have hS : Ext w0 w1 ∧ w1.heap[b]? = some (.cells #[p, v] 84 (0, 0)) := ⟨hx0.trans x1, Ext.heapEq hh1 hbk⟩
  have hsl' := (Own.sl (B := B) (k := 1) (e := 5) (es := bcells l) ⟨by rw [bcells_flat]; simpa [bcells, Lib.byteCells] using ownsRowG_of hown, by simp [bcells]⟩)
  ((with_reducible apply wph_take (i := 0)); (rfl); (rfl); (decide +kernel); (decide +kernel); (decide +kernel); (rfl); (exact hS); (intro w9 hS9; (have hp := pts_block (cs := [p, v]) hS9.2); (exact Runs.moveT _)); (exact fun _ _ _ h => h); (simp only [List.set_cons_succ, List.set_cons_zero, List.getD_cons_succ, List.getD_cons_zero, List.length_map, if_true, Bool.false_eq_true, if_false, Int.toNat_natCast, Int.toNat_zero, Int.toNat_one, Nat.zero_mul])); ((with_reducible apply wph_take (i := 1)); (rfl); (rfl); (decide +kernel); (decide +kernel); (decide +kernel); (rfl); (exact hS); (intro w9 hS9; (have hp := pts_block (cs := [p, v]) hS9.2); (first | exact Runs.moveT _ | exact Runs.assignT _ | exact Runs.moveC _ | exact Runs.assignC _ | ((apply Runs.pickTC); (rfl)) | ((apply Runs.pickCT); (rfl)) | ((apply Runs.pickT); (rfl)) | ((apply Runs.len); (fail); (decide +kernel)) | ((apply Runs.lenS); (rfl); (decide +kernel)) | ((apply Runs.idxT); (rfl); (fail); (fail); (decide +kernel)) | ((apply Runs.fieldTn); (fail); (decide +kernel)) | ((apply Runs.loadP); (fail); (fail); (rfl); (decide +kernel)) | ((apply Runs.load); (fail); (decide +kernel)) | ((apply Runs.loadN); (fail); (fail); (decide +kernel)) | ((apply Runs.extract); (rfl); (rfl)) | ((apply Runs.not); (rfl)) | ((apply Runs.lss); (rfl); (rfl)) | ((apply Runs.leq); (rfl); (rfl)) | ((apply Runs.gtr); (rfl); (rfl)) | ((apply Runs.geq); (rfl); (rfl)) | ((apply Runs.eql); (rfl); (rfl)) | ((apply Runs.neq); (rfl); (rfl)) | ((apply Runs.inc); (rfl); (rfl); (fail)) | ((apply Runs.add); (rfl); (rfl); (fail)) | ((apply Runs.sub); (rfl); (rfl); (fail)) | ((apply Runs.addU); (rfl); (rfl)) | ((apply Runs.subU); (rfl); (rfl)) | ((apply Runs.eqlS); (rfl); (rfl)) | ((apply Runs.neqS); (rfl); (rfl)) | ((apply Runs.lssS); (rfl); (rfl)) | ((apply Runs.geqS); (rfl); (rfl)) | ((apply Runs.gtrS); (rfl); (rfl)) | ((apply Runs.idxS); (rfl); (rfl); (fail); (decide +kernel)) | ((apply Runs.idxTI); (rfl); (fail); (fail); (fail); (decide +kernel)) | ((apply Runs.idxSI); (rfl); (rfl); (fail); (fail); (decide +kernel)) | ((apply Runs.convB); (rfl); (decide +kernel); (decide +kernel)) | ((apply Runs.cutSI); (rfl); (rfl); (rfl); (fail); (fail); (fail); (decide +kernel)) | ((apply Runs.dropSI); (rfl); (rfl); (fail); (fail); (decide +kernel)) | ((apply Runs.takeSI); (rfl); (rfl); (fail); (fail); (decide +kernel)) | ((apply Runs.cutTI); (rfl); (rfl); (fail); (fail); (fail); (fail); (decide +kernel)) | ((apply Runs.dropTI); (rfl); (fail); (fail); (fail); (decide +kernel)) | ((apply Runs.takeTI); (rfl); (fail); (fail); (fail); (decide +kernel)) | ((apply Runs.shr); (rfl); (rfl); (decide +kernel); (decide +kernel)) | ((apply Runs.shl8); (rfl); (rfl); (fail)) | ((apply Runs.or8); (rfl); (rfl); (fail); (fail)) | ((apply Runs.mul); (rfl); (rfl); (fail)) | exact Runs.func1 | exact Runs.func0 | ((apply Runs.nilP); (rfl)))); (exact fun _ _ _ h => h); (simp only [List.set_cons_succ, List.set_cons_zero, List.getD_cons_succ, List.getD_cons_zero, List.length_map, if_true, Bool.false_eq_true, if_false, Int.toNat_natCast, Int.toNat_zero, Int.toNat_one, Nat.zero_mul])); ((with_reducible apply wph_take (i := 2)); (rfl); (rfl); (decide +kernel); (decide +kernel); (decide +kernel); (rfl); (exact hS); (intro w9 hS9; (have hp := pts_block (cs := [p, v]) hS9.2); (first | exact Runs.moveT _ | exact Runs.assignT _ | exact Runs.moveC _ | exact Runs.assignC _ | ((apply Runs.pickTC); (rfl)) | ((apply Runs.pickCT); (rfl)) | ((apply Runs.pickT); (rfl)) | ((apply Runs.len); (fail); (decide +kernel)) | ((apply Runs.lenS); (rfl); (decide +kernel)) | ((apply Runs.idxT); (rfl); (fail); (fail); (decide +kernel)) | ((apply Runs.fieldTn); (assumption); (decide +kernel)))); (exact fun _ _ _ h => h); (simp only [List.set_cons_succ, List.set_cons_zero, List.getD_cons_succ, List.getD_cons_zero, List.length_map, if_true, Bool.false_eq_true, if_false, Int.toNat_natCast, Int.toNat_zero, Int.toNat_one, Nat.zero_mul])); ((with_reducible apply wph_take (i := 3)); (rfl); (rfl); (decide +kernel); (decide +kernel); (decide +kernel); (rfl); (exact hS); (intro w9 hS9; (have hp := pts_block (cs := [p, v]) hS9.2); (first | exact Runs.moveT _ | exact Runs.assignT _ | exact Runs.moveC _ | exact Runs.assignC _ | ((apply Runs.pickTC); (rfl)) | ((apply Runs.pickCT); (rfl)) | ((apply Runs.pickT); (rfl)) | ((apply Runs.len); (fail); (decide +kernel)) | ((apply Runs.lenS); (rfl); (decide +kernel)) | ((apply Runs.idxT); (rfl); (fail); (fail); (decide +kernel)) | ((apply Runs.fieldTn); (fail); (decide +kernel)) | ((apply Runs.loadP); ((first | rfl | (simp only [List.getD_cons_succ, List.getD_cons_zero]; with_reducible rfl))); (assumption); (rfl); (decide +kernel)))); (exact fun _ _ _ h => h); (simp only [List.set_cons_succ, List.set_cons_zero, List.getD_cons_succ, List.getD_cons_zero, List.length_map, if_true, Bool.false_eq_true, if_false, Int.toNat_natCast, Int.toNat_zero, Int.toNat_one, Nat.zero_mul])); ((with_reducible apply wph_take (i := 5)); (rfl); (rfl); (decide +kernel); (decide +kernel); (decide +kernel); (rfl); (exact hS); (intro w9 hS9; (have hp := pts_block (cs := [p, v]) hS9.2); (exact Runs.moveT _)); (exact fun _ _ _ h => h); (simp only [List.set_cons_succ, List.set_cons_zero, List.getD_cons_succ, List.getD_cons_zero, List.length_map, if_true, Bool.false_eq_true, if_false, Int.toNat_natCast, Int.toNat_zero, Int.toNat_one, Nat.zero_mul])); ((with_reducible apply wph_take (i := 6)); (rfl); (rfl); (decide +kernel); (decide +kernel); (decide +kernel); (rfl); (exact hS); (intro w9 hS9; (have hp := pts_block (cs := [p, v]) hS9.2); (first | exact Runs.moveT _ | exact Runs.assignT _ | exact Runs.moveC _ | exact Runs.assignC _ | ((apply Runs.pickTC); (rfl)) | ((apply Runs.pickCT); (rfl)) | ((apply Runs.pickT); (rfl)) | ((apply Runs.len); (fail); (decide +kernel)) | ((apply Runs.lenS); (rfl); (decide +kernel)) | ((apply Runs.idxT); (rfl); (fail); (fail); (decide +kernel)) | ((apply Runs.fieldTn); (fail); (decide +kernel)) | ((apply Runs.loadP); (fail); (fail); (rfl); (decide +kernel)) | ((apply Runs.load); (fail); (decide +kernel)) | ((apply Runs.loadN); (fail); (fail); (decide +kernel)) | ((apply Runs.extract); (rfl); (rfl)) | ((apply Runs.not); (rfl)) | ((apply Runs.lss); (rfl); (rfl)) | ((apply Runs.leq); (rfl); (rfl)) | ((apply Runs.gtr); (rfl); (rfl)) | ((apply Runs.geq); (rfl); (rfl)) | ((apply Runs.eql); (rfl); (rfl)) | ((apply Runs.neq); (rfl); (rfl)) | ((apply Runs.inc); (rfl); (rfl); (fail)) | ((apply Runs.add); (rfl); (rfl); (fail)) | ((apply Runs.sub); (rfl); (rfl); (fail)) | ((apply Runs.addU); (rfl); (rfl)) | ((apply Runs.subU); (rfl); (rfl)) | ((apply Runs.eqlS); (rfl); (rfl)) | ((apply Runs.neqS); (rfl); (rfl)) | ((apply Runs.lssS); (rfl); (rfl)) | ((apply Runs.geqS); (rfl); (rfl)) | ((apply Runs.gtrS); (rfl); (rfl)) | ((apply Runs.idxS); (rfl); (rfl); (fail); (decide +kernel)) | ((apply Runs.idxTI); (rfl); (fail); (fail); (fail); (decide +kernel)) | ((apply Runs.idxSI); (rfl); (rfl); (fail); (fail); (decide +kernel)) | ((apply Runs.convB); (rfl); (decide +kernel); (decide +kernel)) | ((apply Runs.cutSI); (rfl); (rfl); (rfl); (fail); (fail); (fail); (decide +kernel)) | ((apply Runs.dropSI); (rfl); (rfl); (fail); (fail); (decide +kernel)) | ((apply Runs.takeSI); (rfl); (rfl); (fail); (fail); (decide +kernel)) | ((apply Runs.cutTI); (rfl); (rfl); (fail); (fail); (fail); (fail); (decide +kernel)) | ((apply Runs.dropTI); (rfl); (fail); (fail); (fail); (decide +kernel)) | ((apply Runs.takeTI); (rfl); (fail); (fail); (fail); (decide +kernel)) | ((apply Runs.shr); (rfl); (rfl); (decide +kernel); (decide +kernel)) | ((apply Runs.shl8); (rfl); (rfl); (fail)) | ((apply Runs.or8); (rfl); (rfl); (fail); (fail)) | ((apply Runs.mul); (rfl); (rfl); (fail)) | exact Runs.func1 | exact Runs.func0 | ((apply Runs.nilP); (rfl)))); (exact fun _ _ _ h => h); (simp only [List.set_cons_succ, List.set_cons_zero, List.getD_cons_succ, List.getD_cons_zero, List.length_map, if_true, Bool.false_eq_true, if_false, Int.toNat_natCast, Int.toNat_zero, Int.toNat_one, Nat.zero_mul])); ((with_reducible apply wph_take (i := 7)); (rfl); (rfl); (decide +kernel); (decide +kernel); (decide +kernel); (rfl); (exact hS); (intro w9 hS9; (have hp := pts_block (cs := [p, v]) hS9.2); (first | exact Runs.moveT _ | exact Runs.assignT _ | exact Runs.moveC _ | exact Runs.assignC _ | ((apply Runs.pickTC); (rfl)) | ((apply Runs.pickCT); (rfl)) | ((apply Runs.pickT); (rfl)) | ((apply Runs.len); (fail); (decide +kernel)) | ((apply Runs.lenS); (rfl); (decide +kernel)) | ((apply Runs.idxT); (rfl); (fail); (fail); (decide +kernel)) | ((apply Runs.fieldTn); (assumption); (decide +kernel)))); (exact fun _ _ _ h => h); (simp only [List.set_cons_succ, List.set_cons_zero, List.getD_cons_succ, List.getD_cons_zero, List.length_map, if_true, Bool.false_eq_true, if_false, Int.toNat_natCast, Int.toNat_zero, Int.toNat_one, Nat.zero_mul])); ((with_reducible apply wph_take (i := 8)); (rfl); (rfl); (decide +kernel); (decide +kernel); (decide +kernel); (rfl); (exact hS); (intro w9 hS9; (have hp := pts_block (cs := [p, v]) hS9.2); (first | exact Runs.moveT _ | exact Runs.assignT _ | exact Runs.moveC _ | exact Runs.assignC _ | ((apply Runs.pickTC); (rfl)) | ((apply Runs.pickCT); (rfl)) | ((apply Runs.pickT); (rfl)) | ((apply Runs.len); (fail); (decide +kernel)) | ((apply Runs.lenS); (rfl); (decide +kernel)) | ((apply Runs.idxT); (rfl); (fail); (fail); (decide +kernel)) | ((apply Runs.fieldTn); (fail); (decide +kernel)) | ((apply Runs.loadP); ((first | rfl | (simp only [List.getD_cons_succ, List.getD_cons_zero]; with_reducible rfl))); (assumption); (rfl); (decide +kernel)))); (exact fun _ _ _ h => h); (simp only [List.set_cons_succ, List.set_cons_zero, List.getD_cons_succ, List.getD_cons_zero, List.length_map, if_true, Bool.false_eq_true, if_false, Int.toNat_natCast, Int.toNat_zero, Int.toNat_one, Nat.zero_mul]))
  have hsz : ∀ w', (Sl 1 w' v (bcells l)) ∨ True := fun _ => .inr trivial
  refine wph_take (i := 9) (v := .int .i64 ((bcells l).length : Nat)) rfl rfl (by decide +kernel) (by decide +kernel) (by decide +kernel) rfl hS (fun w' _ => ?_) (fun _ _ _ h => h) ?_
  · obtain ⟨ad, cap, h1, _⟩ := hsl'.out
    obtain ⟨e, i, ht, _⟩ := sliceOf_spec (P := Try.prog) (t := 81) (k := 1) (by decide +kernel)
    exact ⟨by simp [execOp, resolve, invoke, builtin, Act.eval, h1, Builtin.len_, run_underlying ht, goInt]⟩
  simp only [List.set_cons_succ, List.set_cons_zero, List.getD_cons_succ, List.getD_cons_zero, List.length_map, if_true, Bool.false_eq_true, if_false, Int.toNat_natCast, Int.toNat_zero, Int.toNat_one, Nat.zero_mul]
  have hlb : (bcells l).length = l.length := by simp [bcells]
  have hE : Ext w0 w1 := hx0.trans x1
  obtain ⟨q, w2, hr2, x2, hq⟩ : ∃ q w2, (Builtin.unsafeSliceData_ #[81] 121 #[v]).run Try.prog w1 = .ok (.pointer q) w2 ∧ Ext w1 w2 ∧ (l ≠ [] → ∃ g cur, q = some ⟨g, 0, none⟩ ∧ B ≤ g ∧ w2.heap[g]? = some (.cells cur 5 (0, 0)) ∧ l.length ≤ cur.size ∧ ∀ j x, l[j]? = some x → w2.cell? ⟨g, j, none⟩ = some (.int .u8 (x.toNat : Nat))) := by
    rcases hown.2 with ⟨rfl, h0⟩ | ⟨g, cap, cur, rfl, hbg, hg, hnc, hcm, hcs, htake⟩
    · refine ⟨none, w1, rfl, Ext.refl _, fun hne => absurd (List.eq_nil_of_length_eq_zero ?_) hne⟩
      simpa [Lib.byteCells] using h0
    · have hg1 : w1.heap[g]? = some (.cells cur 5 (0, 0)) := Ext.heapEq hh1 hg
      by_cases hc : cap = 0
      · subst hc
        have hl0 : l = [] := List.eq_nil_of_length_eq_zero (by simpa [Lib.byteCells] using hnc)
        exact ⟨_, _, Lib.run_unsafeSliceData_zero w1 _ _ 5 Try.underlying121 ⟨g, 0, none⟩ _ (5, cur.size) (by simp [World.shape?, hg1]), Ext.alloc _ _, fun hne => absurd hl0 hne⟩
      · refine ⟨_, w1, Lib.run_unsafeSliceData_row _ _ _ _ _ _ hc, Ext.refl _, fun _ => ⟨g, cur, rfl, hbg, hg1, ?_, fun j x hj => ?_⟩⟩
        · have : l.length ≤ cap := by simpa [Lib.byteCells] using hnc
          omega
        · rw [cell_of_row w1 g j cur 5 _ hg1]
          have := congrArg (·[j]?) htake
          have hjl : j < l.length := (List.getElem?_eq_some_iff.1 hj).1
          simp only [List.getElem?_take] at this
          rw [if_pos (by simpa [Lib.byteCells] using hjl)] at this
          rw [← Array.getElem?_toList, this]
          simp [Lib.byteCells, hj]
  refine wph_one (i := 4) (by decide +kernel) rfl rfl ?_
  refine wpl_val rfl (w' := w2) (v := .pointer q) (by simp [execOp, resolve, invoke, builtin, evalT, Act.eval, hr2]) ?_
  simp only [List.set_cons_succ, List.set_cons_zero, List.getD_cons_succ, List.getD_cons_zero, List.length_map, if_true, Bool.false_eq_true, if_false, Int.toNat_natCast, Int.toNat_zero, Int.toNat_one, Nat.zero_mul]
  have hb1 : b < w1.heap.size := (Array.getElem?_eq_some_iff.1 hS.2).1
  refine wph_nil ⟨⟨hE.trans x2, x2.at hS.2⟩, ?_⟩
  have hE2 : Ext w0 w2 := hE.trans x2
  obtain ⟨w3, hr3, x3, hb3⟩ : ∃ w3, (Builtin.unsafeString_ #[121, 3] 9 #[.pointer q, .int .i64 ((bcells l).length : Nat)]).run Try.prog w2 = .ok (str l) w3 ∧ Ext w0 w3 ∧ w3.heap[b]? = some (.cells #[p, v] 84 (0, 0)) := by
    by_cases hl0 : l = []
    · subst hl0
      exact ⟨w2, Lib.run_unsafeString_none w2 _ _ _ q, hE2, x2.at hS.2⟩
    · obtain ⟨g, cur, rfl, hbg, hg2, hcl, hcell⟩ := hq hl0
      refine ⟨_, by rw [hlb]; exact Lib.run_unsafeString_row w2 121 3 9 5 Try.underlying121 (by decide +kernel) g cur.size (by simp [World.shape?, hg2]) l hl0 hcl hlen (fun j x hj => by rw [add_none, Nat.zero_add]; exact hcell j x hj), freeze_ext hE2 (by omega), ?_⟩
      have hgb : g ≠ b := by
        rintro rfl
        rw [x2.at hS.2] at hg2
        simp at hg2
      unfold World.freeze
      split
      · exact x2.at hS.2
      · simp only [Array.getElem?_modify]
        rw [if_neg hgb]
        exact x2.at hS.2
  refine wph_one (i := 10) (by decide +kernel) rfl rfl ?_
  refine wpl_val rfl (w' := w3) (v := str l) (by rw [hlb] at hr3; simp [execOp, resolve, invoke, builtin, Act.eval, hlb, hr3]) ?_
  simp only [List.set_cons_succ, List.set_cons_zero, List.getD_cons_succ, List.getD_cons_zero, List.length_map, if_true, Bool.false_eq_true, if_false, Int.toNat_natCast, Int.toNat_zero, Int.toNat_one, Nat.zero_mul]
  refine wph_nil ⟨⟨x3, hb3⟩, ?_⟩
  refine wph_one (i := 11) (by decide +kernel) rfl rfl ?_
  repeat' (first | ((with_reducible apply wpl_run); (rfl); (first | exact Runs.moveT _ | exact Runs.assignT _); (simp only [List.set_cons_succ, List.set_cons_zero, List.getD_cons_succ, List.getD_cons_zero, List.length_map, if_true, Bool.false_eq_true, if_false, Int.toNat_natCast, Int.toNat_zero, Int.toNat_one, Nat.zero_mul])) | ((with_reducible apply wpl_skip); (rfl); (simp only [List.set_cons_succ, List.set_cons_zero, List.getD_cons_succ, List.getD_cons_zero, List.length_map, if_true, Bool.false_eq_true, if_false, Int.toNat_natCast, Int.toNat_zero, Int.toNat_one, Nat.zero_mul])) | (((with_reducible apply wpl_guard); (rfl)) <;> (intro hc)) | ((fail_if_success (with_reducible apply wpl_is)); go_step))
  refine ⟨⟨x3, hb3⟩, ?_⟩
  refine wph_done (by decide +kernel) ?_
  repeat' (first | ((with_reducible apply wpl_run); (rfl); (fail); (simp only [List.set_cons_succ, List.set_cons_zero, List.getD_cons_succ, List.getD_cons_zero, List.length_map, if_true, Bool.false_eq_true, if_false, Int.toNat_natCast, Int.toNat_zero, Int.toNat_one, Nat.zero_mul])) | ((with_reducible apply wpl_skip); (rfl); (simp only [List.set_cons_succ, List.set_cons_zero, List.getD_cons_succ, List.getD_cons_zero, List.length_map, if_true, Bool.false_eq_true, if_false, Int.toNat_natCast, Int.toNat_zero, Int.toNat_one, Nat.zero_mul])) | (((with_reducible apply wpl_guard); (rfl)) <;> (intro hc)) | ((fail_if_success (with_reducible apply wpl_is)); go_step))
  go_ret
  exact ⟨rfl, x3⟩

end Go.Proofs.X
