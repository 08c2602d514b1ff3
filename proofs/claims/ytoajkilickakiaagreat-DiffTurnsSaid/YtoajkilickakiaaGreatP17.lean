/- Laws and walks that the proof of the statement is made of (part 17). -/
import Derived.Test.YtoajkilickakiaaGreatProg
import Derived.OwnWalk
import Derived.Test.YtoajkilickakiaaGreatShelf
import Derived.Shelf.RegionOpenPlain
import Derived.Lib.Strings
import Derived.Lib.Slices
import Derived.Lib.Walk
import Derived.Lib.Builder
import Derived.Lib.AppendStr
import Derived.Lib.UnsafeStr
import Derived.Lib.MakeNoZero
import Derived.WalkKit
import Derived.Laws.Externs
import Derived.Laws.IdiomCopy
import Derived.Laws.BitsLemmas
import GoSem.Claims
import Derived.Shelf.SlSortCmp.NoneTotal
import Derived.Lib.Hide
import Derived.Test.YtoajkilickakiaaGreatRows
import Derived.ProofKit
import Derived.OpenShut
import Derived.ShutString
import Derived.ChangeOld
import Derived.Below
import Derived.Test.YtoajkilickakiaaGreatP1
import Derived.Test.YtoajkilickakiaaGreatP2
import Derived.Test.YtoajkilickakiaaGreatP4
import Derived.Test.YtoajkilickakiaaGreatP5
import Derived.Test.YtoajkilickakiaaGreatP10
import Derived.Test.YtoajkilickakiaaGreatP11
import Derived.Test.YtoajkilickakiaaGreatP12
import Derived.Test.YtoajkilickakiaaGreatP13
import Derived.Test.YtoajkilickakiaaGreatP14
import Derived.Test.YtoajkilickakiaaGreatP15
import Derived.Test.YtoajkilickakiaaGreatP16
set_option linter.unusedSimpArgs false
set_option linter.unusedVariables false
namespace Go.Proofs.X
open Go.RowKit
set_option maxRecDepth 100000
/-! ### Compose, of the reference -/
set_option maxHeartbeats 6000000 in
/-- lodestarref10.Compose -/
theorem r10_Compose {a b : DeltaR} {r q : Value} (w : World) (h : DelA a r w) (k : DelA b q w) (b1 : a.gone.length ≤ 20000) (b2 : a.new.length ≤ 20000) (b3 : b.gone.length ≤ 20000) (b4 : b.new.length ≤ 20000) :
    Calls Tryz.prog 34 #[r, q] w (Ret w (DelU w.heap.size (comD a b) (comE a b))) := by
  obtain ⟨g, n, rfl, sg, sn⟩ := h
  obtain ⟨g', n', rfl, sg', sn'⟩ := k
  have e1 := less_len b.gone a.new
  have e2 := less_len a.new b.gone
  have lG : (comG a b).length ≤ 40000 := by rw [comG, List.length_append]; omega
  have lN : (comN a b).length ≤ 40000 := by rw [comN, List.length_append]; omega
  go_enter Tryz.func34, Tryz.ntmps34
  repeat' ((fail_if_success (with_reducible refine o_s ?_)); go_step)
  refine wpl_box (vs := [.int .i64 a.fr, .int .i64 a.to, g, n]) rfl rfl ?_
  intro p w1 x1 hp
  refine gset ?_
  refine wpl_box (vs := [.int .i64 b.fr, .int .i64 b.to, g', n']) rfl rfl ?_
  intro p' w2 x2 hq
  refine gset ?_
  refine wpl_allocB (z := zdel) rfl (by decide +kernel) ?_
  intro w3 x3 s3 h3
  refine gset ?_
  have hx3 := (x1.trans x2).trans x3
  have zz := (x1.trans x2).size
  have hp3 := (hp.ext x2).ext x3
  have hq3 := hq.ext x3
  repeat' (first | ((with_reducible refine o_s ?_); (first | (refine o_1 ?_; refine o_2 ?_) | (refine o_g ?_; first | refine o_u ?_ | refine o_k ?_ | refine o_n ?_ | refine o_v ?_ | ((first | refine o_G ?_ ?_ | refine o_N ?_ ?_) <;> intro hc)))) | ((fail_if_success (with_reducible refine o_s ?_)); go_step))
  · have q0 : ¬ a.to = b.fr := by simpa using (by assumption : (!decide (a.to = b.fr)) = true)
    refine wpl_run (v := .agg zdel.toArray) rfl (Runs.build0 (by kernel_rfl)) ?_
    refine gset ?_
    refine wpl_storeB (v := .agg zdel.toArray) rfl rfl rfl h3 (by decide +kernel) rfl (by decide +kernel) ?_
    intro w7 p7
    have x7 : Ext w w7 := hx3.move p7.mv (by rintro k ⟨⟩; exact zz)
    repeat' (first | ((with_reducible refine o_s ?_); (first | (refine o_1 ?_; refine o_2 ?_) | (refine o_g ?_; first | refine o_u ?_ | refine o_k ?_ | refine o_n ?_ | refine o_v ?_ | ((first | refine o_G ?_ ?_ | refine o_N ?_ ?_) <;> intro hc)))) | ((fail_if_success (with_reducible refine o_s ?_)); go_step))
    refine bodyPost_ret (results_cellT (cs := zdel) rfl rfl p7.this (by decide +kernel)) rfl ⟨_, rfl, x7, ?_⟩
    have he : comE a b = 7 := by rw [comE, if_neg q0]
    have hd : comD a b = zeroD := by rw [comD, if_neg (by rw [he]; decide)]
    rw [hd, he]
    exact DelU.bad rfl
  · have q0 : a.to = b.fr := by simpa using (by assumption : (!decide (a.to = b.fr)) = false)
    have he : comE a b = 0 := by rw [comE, if_pos q0]
    refine wph_region (S := fun w' => Ext w3 w') (by decide +kernel) ?_
    intro w4 x4 hh4
    refine tk 0 ?_; refine gset ?_; refine tk 1 ?_; refine gset ?_; refine tk 3 ?_; refine gset ?_; refine tk 4 ?_; refine gset ?_; refine tk 5 ?_; refine gset ?_; refine tk 6 ?_; refine gset ?_
    refine wph_one (i := 2) (by decide +kernel) rfl rfl ?_
    refine wpl_appendO (B := w4.heap.size) (e := 75) (k := 4) rfl (Own.nil _ _ _ _) rfl (sg.ext (hx3.trans x4)) rcells_one (Nat.le_refl _) (by simp [rcells_length]; omega) ?_
    intro r0 w5 o5 m5 _
    refine gset ?_
    have x5 : Ext w4 w5 := (Own.nil w4.heap.size 4 75 w4).mvx m5 (Ext.refl _) (Nat.le_refl _)
    rw [List.nil_append] at o5
    have x35 := x4.trans x5
    refine wph_nil ⟨x35, ?_⟩
    refine wph_one (i := 7) (by decide +kernel) rfl rfl ?_
    refine wpl_callR (enters_of Tryz.func70 rfl rfl) rfl rfl (r10_less g' n b.gone a.new _ (sg'.ext (hx3.trans x35)) (sn.ext (hx3.trans x35)) (by omega)) ?_
    intro u1 w6 x6 o6
    refine gset ?_
    have x36 := x35.trans x6
    refine wph_nil ⟨x36, ?_⟩
    refine wph_one (i := 8) (by decide +kernel) rfl rfl ?_
    have o56 := o5.ext x6
    refine wpl_appendO (B := w4.heap.size) (e := 75) (k := 4) rfl o56 rfl o6.sl rcells_one (x5.trans x6).size (by rw [rcells_length, rcells_length]; omega) ?_
    intro r1 w7 o7 m7 _
    refine gset ?_
    have x37 : Ext w3 w7 := o56.mvx m7 x36 x4.size
    refine wph_nil ⟨x37, ?_⟩
    refine tk 9 ?_; refine gset ?_
    refine wph_done (by decide +kernel) ?_
    have eG : rcells a.gone ++ rcells (lessR b.gone a.new) = rcells (comG a b) := by simp [comG, rcells]
    rw [eG] at o7
    have hx7 := hx3.trans x37
    have h7 := x37.at h3
    have hp7 := hp3.ext x37
    have hq7 := hq3.ext x37
    repeat' (first | ((with_reducible refine o_s ?_); (first | (refine o_1 ?_; refine o_2 ?_) | (refine o_g ?_; first | refine o_u ?_ | refine o_k ?_ | refine o_n ?_ | refine o_v ?_ | ((first | refine o_G ?_ ?_ | refine o_N ?_ ?_) <;> intro hc)))) | ((fail_if_success (with_reducible refine o_s ?_)); go_step))
    refine wph_region (S := fun w' => Ext w7 w') (by decide +kernel) ?_
    intro w8 x8 hh8
    refine tk 0 ?_; refine gset ?_; refine tk 1 ?_; refine gset ?_; refine tk 2 ?_; refine gset ?_; refine tk 3 ?_; refine gset ?_; refine tk 5 ?_; refine gset ?_; refine tk 6 ?_; refine gset ?_
    refine wph_one (i := 4) (by decide +kernel) rfl rfl ?_
    refine wpl_callR (enters_of Tryz.func70 rfl rfl) rfl rfl (r10_less n g' a.new b.gone _ (sn.ext (hx7.trans x8)) (sg'.ext (hx7.trans x8)) (by omega)) ?_
    intro u2 w9 x9 o9
    refine gset ?_
    have x79 := x8.trans x9
    refine wph_nil ⟨x79, ?_⟩
    refine wph_one (i := 7) (by decide +kernel) rfl rfl ?_
    refine wpl_appendO (B := w8.heap.size) (e := 75) (k := 4) rfl o9 rfl (sn'.ext (hx7.trans x79)) rcells_one x9.size (by rw [rcells_length, rcells_length]; omega) ?_
    intro r2 w11 o11 m11 _
    refine gset ?_
    have x711 : Ext w7 w11 := o9.mvx m11 x79 x8.size
    refine wph_nil ⟨x711, ?_⟩
    refine tk 8 ?_; refine gset ?_
    refine wph_done (by decide +kernel) ?_
    have eN : rcells (lessR a.new b.gone) ++ rcells b.new = rcells (comN a b) := by simp [comN, rcells]
    rw [eN] at o11
    have hx12 := hx7.trans x711
    have h12 := x711.at h7
    have hp12 := hp7.ext x711
    have hq12 := hq7.ext x711
    have sr1 := (o7.ext x711).sl
    have sr2 := o11.sl
    repeat' (first | ((with_reducible refine o_s ?_); (first | (refine o_1 ?_; refine o_2 ?_) | (refine o_g ?_; first | refine o_u ?_ | refine o_k ?_ | refine o_n ?_ | refine o_v ?_ | ((first | refine o_G ?_ ?_ | refine o_N ?_ ?_) <;> intro hc)))) | ((fail_if_success (with_reducible refine o_s ?_)); go_step))
    refine wpi_region 11 (Ext w11) (by decide +kernel) ?_
    intro w13 x13 _
    refine ⟨x13, ?_⟩
    ((with_reducible apply wpi_take (i := 0)); (rfl); (rfl); (rfl); (decide +kernel); (decide +kernel); (decide +kernel); (decide +kernel); (rfl); (intro _ _; exact rn); (exact fun _ _ _ h => h); (refine gset ?_)); ((with_reducible apply wpi_take (i := 1)); (rfl); (rfl); (rfl); (decide +kernel); (decide +kernel); (decide +kernel); (decide +kernel); (rfl); (intro _ _; exact rn); (exact fun _ _ _ h => h); (refine gset ?_)); ((with_reducible apply wpi_take (i := 2)); (rfl); (rfl); (rfl); (decide +kernel); (decide +kernel); (decide +kernel); (decide +kernel); (rfl); (intro _ _; exact rn); (exact fun _ _ _ h => h); (refine gset ?_)); ((with_reducible apply wpi_take (i := 3)); (rfl); (rfl); (rfl); (decide +kernel); (decide +kernel); (decide +kernel); (decide +kernel); (rfl); (intro _ _; exact rn); (exact fun _ _ _ h => h); (refine gset ?_)); ((with_reducible apply wpi_take (i := 4)); (rfl); (rfl); (rfl); (decide +kernel); (decide +kernel); (decide +kernel); (decide +kernel); (rfl); (intro _ _; exact rn); (exact fun _ _ _ h => h); (refine gset ?_)); ((with_reducible apply wpi_take (i := 5)); (rfl); (rfl); (rfl); (decide +kernel); (decide +kernel); (decide +kernel); (decide +kernel); (rfl); (intro _ _; exact rn); (exact fun _ _ _ h => h); (refine gset ?_)); ((with_reducible apply wpi_take (i := 7)); (rfl); (rfl); (rfl); (decide +kernel); (decide +kernel); (decide +kernel); (decide +kernel); (rfl); (intro _ _; exact rn); (exact fun _ _ _ h => h); (refine gset ?_)); ((with_reducible apply wpi_take (i := 8)); (rfl); (rfl); (rfl); (decide +kernel); (decide +kernel); (decide +kernel); (decide +kernel); (rfl); (intro _ _; exact rn); (exact fun _ _ _ h => h); (refine gset ?_))
    refine wpi_op (i := 6) (by decide +kernel) rfl rfl ?_
    refine wpl_callR (enters_of Tryz.func70 rfl rfl) rfl rfl (r10_less r1 r2 _ _ _ (sr1.ext x13) (sr2.ext x13) (by omega)) ?_
    intro y w14 x14 og
    refine gset ?_
    have x1214 := x13.trans x14
    refine wph_nil ⟨till_yes x1214, ?_⟩
    refine wpi_op (i := 9) (by decide +kernel) rfl rfl ?_
    refine wpl_callR (enters_of Tryz.func70 rfl rfl) rfl rfl (r10_less r2 r1 _ _ _ (sr2.ext x1214) (sr1.ext x1214) (by omega)) ?_
    intro z w15 x15 on
    refine gset ?_
    have x1215 := x1214.trans x15
    refine wph_nil ⟨till_yes x1215, ?_⟩
    have sy := (og.ext x15).sl
    have sz := on.sl
    refine wpi_take (i := 10) (v := .agg #[.int .i64 a.fr, .int .i64 b.to, y, z]) rfl rfl rfl (by decide +kernel) (by decide +kernel) (by decide +kernel) (by decide +kernel) rfl (fun w' _ => Runs.build rfl (by obtain ⟨_, _, _, rfl⟩ := sy.slf; obtain ⟨_, _, _, rfl⟩ := sz.slf; kernel_rfl)) (fun _ _ _ h => h) ?_
    refine gset ?_
    refine wpi_op (i := 11) (by decide +kernel) rfl rfl ?_
    have h15 := x1215.at h12
    refine wpl_storeB (v := .agg #[.int .i64 a.fr, .int .i64 b.to, y, z]) rfl rfl rfl h15 (show sizeTy Tryz.prog 34 4 = true by decide +kernel) rfl (all4 rfl rfl sy.one sz.one) ?_
    intro w16 p16
    refine wph_nil ⟨till_no rfl, ?_⟩
    ((with_reducible apply wpi_pure (i := 12)); (rfl); (rfl); (rfl); (decide +kernel); (decide +kernel); (decide +kernel); (rfl); (intro _; exact rn); (exact fun _ _ _ h => h); (refine gset ?_))
    refine wpi_done (by decide +kernel) ?_
    have x16 : Ext w w16 := (hx12.trans x1215).move p16.mv (by rintro k ⟨⟩; exact zz)
    repeat' (first | ((with_reducible refine o_s ?_); (first | (refine o_1 ?_; refine o_2 ?_) | (refine o_g ?_; first | refine o_u ?_ | refine o_k ?_ | refine o_n ?_ | refine o_v ?_ | ((first | refine o_G ?_ ?_ | refine o_N ?_ ?_) <;> intro hc)))) | ((fail_if_success (with_reducible refine o_s ?_)); go_step))
    refine bodyPost_ret (results_cellT (cs := [.int .i64 a.fr, .int .i64 b.to, y, z]) rfl rfl p16.this (show aggTy Tryz.prog 34 4 = true by decide +kernel)) rfl ⟨_, rfl, x16, ?_⟩
    have hd : comD a b = ⟨a.fr, b.to, lessR (comG a b) (comN a b), lessR (comN a b) (comG a b)⟩ := by rw [comD, if_pos he]
    rw [hd, he]
    exact ⟨_, rfl, y, z, rfl, (og.ext x15).mv p16.mv (.inr ((og.ext x15).neBlock h15 (by decide))) |>.weaken (hx12.trans x13).size, on.mv p16.mv (.inr (on.neBlock h15 (by decide))) |>.weaken (hx12.trans x1214).size⟩
set_option maxHeartbeats 6000000 in
/-- lodestarlaw10.DiffTurns -/
theorem d5 {a b : DeltaR} {r q : Value} (w : World) (ha : DelA a r w) (hb : DelA b q w) : Calls Tryz.prog 5 #[r, q] w (Yes w) := by
  obtain ⟨g, n, rfl, sg, sn⟩ := ha
  obtain ⟨g', n', rfl, sg', sn'⟩ := hb
  go_enter Tryz.func5, Tryz.ntmps5
  repeat' ((fail_if_success (with_reducible refine o_s ?_)); go_step)
  refine wpl_box (vs := [.int .i64 a.fr, .int .i64 a.to, g, n]) rfl rfl ?_
  intro p w1 x1 hp
  refine gset ?_
  refine wpl_box (vs := [.int .i64 b.fr, .int .i64 b.to, g', n']) rfl rfl ?_
  intro p' w2 x2 hq
  refine gset ?_
  have hx2 := x1.trans x2
  have hp2 := hp.ext x2
  have hA2 : DelA a (.agg #[.int .i64 a.fr, .int .i64 a.to, g, n]) w2 := ⟨g, n, rfl, sg.ext hx2, sn.ext hx2⟩
  have hB2 : DelA b (.agg #[.int .i64 b.fr, .int .i64 b.to, g', n']) w2 := ⟨g', n', rfl, sg'.ext hx2, sn'.ext hx2⟩
  have sg2 := sg.ext hx2
  have sn2 := sn.ext hx2
  have sg'2 := sg'.ext hx2
  have sn'2 := sn'.ext hx2
  repeat' (first | ((with_reducible refine o_s ?_); (first | (refine o_1 ?_; refine o_2 ?_) | (refine o_g ?_; first | refine o_u ?_ | refine o_k ?_ | refine o_n ?_ | refine o_v ?_ | ((first | refine o_G ?_ ?_ | refine o_N ?_ ?_) <;> intro hc)))) | ((fail_if_success (with_reducible refine o_s ?_)); go_step))
  refine wpl_callV (enters_of Tryz.func26 rfl rfl) rfl rfl (l10_short _ hA2) ?_; intro w3 x3; refine gset ?_
  have hx3 := hx2.trans x3
  have hp3 := hp2.ext x3
  have hq3 := hq.ext x3
  have hA3 := hA2.ext x3
  have hB3 := hB2.ext x3
  have sg3 := sg2.ext x3
  have sn3 := sn2.ext x3
  have sg'3 := sg'2.ext x3
  have sn'3 := sn'2.ext x3
  cases hf : (shortR a.gone && shortR a.new) with
  | false =>
    repeat' (first | ((with_reducible refine o_s ?_); (first | (refine o_1 ?_; refine o_2 ?_) | (refine o_g ?_; first | refine o_u ?_ | refine o_k ?_ | refine o_n ?_ | refine o_v ?_ | ((first | refine o_G ?_ ?_ | refine o_N ?_ ?_) <;> intro hc)))) | ((fail_if_success (with_reducible refine o_s ?_)); go_step))
    refine wpl_callV (enters_of Tryz.func20 rfl rfl) rfl rfl (d_liveV _) ?_; intro w4 x4; refine gset ?_
    repeat' (first | ((with_reducible refine o_s ?_); (first | (refine o_1 ?_; refine o_2 ?_) | (refine o_g ?_; first | refine o_u ?_ | refine o_k ?_ | refine o_n ?_ | refine o_v ?_ | ((first | refine o_G ?_ ?_ | refine o_N ?_ ?_) <;> intro hc)))) | ((fail_if_success (with_reducible refine o_s ?_)); go_step))
    go_ret
    exact ⟨rfl, hx3.trans x4⟩
  | true =>
    repeat' (first | ((with_reducible refine o_s ?_); (first | (refine o_1 ?_; refine o_2 ?_) | (refine o_g ?_; first | refine o_u ?_ | refine o_k ?_ | refine o_n ?_ | refine o_v ?_ | ((first | refine o_G ?_ ?_ | refine o_N ?_ ?_) <;> intro hc)))) | ((fail_if_success (with_reducible refine o_s ?_)); go_step))
    refine wpl_callV (enters_of Tryz.func26 rfl rfl) rfl rfl (l10_short _ hB3) ?_; intro w4 x4; refine gset ?_
    have hx4 := hx3.trans x4
    have hp4 := hp3.ext x4
    have hq4 := hq3.ext x4
    have hA4 := hA3.ext x4
    have hB4 := hB3.ext x4
    have sg4 := sg3.ext x4
    have sn4 := sn3.ext x4
    have sg'4 := sg'3.ext x4
    have sn'4 := sn'3.ext x4
    cases hs : (shortR b.gone && shortR b.new) with
    | false =>
      repeat' (first | ((with_reducible refine o_s ?_); (first | (refine o_1 ?_; refine o_2 ?_) | (refine o_g ?_; first | refine o_u ?_ | refine o_k ?_ | refine o_n ?_ | refine o_v ?_ | ((first | refine o_G ?_ ?_ | refine o_N ?_ ?_) <;> intro hc)))) | ((fail_if_success (with_reducible refine o_s ?_)); go_step))
      refine wpl_callV (enters_of Tryz.func20 rfl rfl) rfl rfl (d_liveV _) ?_; intro w5 x5; refine gset ?_
      repeat' (first | ((with_reducible refine o_s ?_); (first | (refine o_1 ?_; refine o_2 ?_) | (refine o_g ?_; first | refine o_u ?_ | refine o_k ?_ | refine o_n ?_ | refine o_v ?_ | ((first | refine o_G ?_ ?_ | refine o_N ?_ ?_) <;> intro hc)))) | ((fail_if_success (with_reducible refine o_s ?_)); go_step))
      go_ret
      exact ⟨rfl, hx4.trans x5⟩
    | true =>
      obtain ⟨hf1, hf2⟩ := Bool.and_eq_true_iff.1 hf
      obtain ⟨hs1, hs2⟩ := Bool.and_eq_true_iff.1 hs
      obtain ⟨l1, _⟩ := shortD hf1
      obtain ⟨l2, _⟩ := shortD hf2
      obtain ⟨l3, _⟩ := shortD hs1
      obtain ⟨l4, _⟩ := shortD hs2
      repeat' (first | ((with_reducible refine o_s ?_); (first | (refine o_1 ?_; refine o_2 ?_) | (refine o_g ?_; first | refine o_u ?_ | refine o_k ?_ | refine o_n ?_ | refine o_v ?_ | ((first | refine o_G ?_ ?_ | refine o_N ?_ ?_) <;> intro hc)))) | ((fail_if_success (with_reducible refine o_s ?_)); go_step))
      refine wpl_callR (enters_of Tryz.func32 rfl rfl) rfl rfl (r10_Copy _ hA4 (by omega) (by omega)) ?_
      rintro _ w5 x5 ⟨gc, nc, rfl, ogc, onc⟩
      have sgc := ogc.sl
      have snc := onc.sl
      refine gset ?_
      refine wpl_callV (enters_of Tryz.func29 rfl rfl) rfl rfl (l10_Delta (d := a) _ ⟨gc, nc, rfl, sgc, snc⟩) ?_; intro w6 x6; refine gset ?_
      have sgc6 := sgc.ext x6
      have snc6 := snc.ext x6
      refine wpl_allocB (z := zdel) rfl (by decide +kernel) ?_
      intro w7 x7 s7 h7
      refine gset ?_
      refine wpl_storeB (v := .agg #[.int .i64 a.fr, .int .i64 a.to, gc, nc]) rfl rfl rfl h7 (show sizeTy Tryz.prog 30 4 = true by decide +kernel) rfl (all4 rfl rfl sgc6.one snc6.one) ?_
      intro w8 p8
      have x8 : Ext w6 w8 := x7.move p8.mv (by rintro k ⟨⟩; exact Nat.le_refl _)
      have ho8 := pts_block (cs := [.int .i64 a.fr, .int .i64 a.to, gc, nc]) p8.this
      have x48 := (x5.trans x6).trans x8
      have hx8 := hx4.trans x48
      have hp8 := hp4.ext x48
      have hq8 := hq4.ext x48
      have sgc8 := sgc6.ext x8
      have snc8 := snc6.ext x8
      have hA8 : DelA a (.agg #[.int .i64 a.fr, .int .i64 a.to, gc, nc]) w8 := ⟨gc, nc, rfl, sgc8, snc8⟩
      have hB8 := hB4.ext x48
      have hZ8 := hA4.ext x48
      have sg8 := sg4.ext x48
      have sn8 := sn4.ext x48
      have sg'8 := sg'4.ext x48
      have sn'8 := sn'4.ext x48
      clear p8 h7 x7
      repeat' (first | ((with_reducible refine o_s ?_); (first | (refine o_1 ?_; refine o_2 ?_) | (refine o_g ?_; first | refine o_u ?_ | refine o_k ?_ | refine o_n ?_ | refine o_v ?_ | ((first | refine o_G ?_ ?_ | refine o_N ?_ ?_) <;> intro hc)))) | ((fail_if_success (with_reducible refine o_s ?_)); go_step))
      refine wph_region (S := fun w' => Ext w8 w') (by decide +kernel) ?_
      intro w21 x21 hh21
      refine tk 0 ?_; refine gset ?_; refine tk 1 ?_; refine gset ?_
      apply meet4 (F := fun (g2 n2 : Value) (b' : Nat) w' => Ext w8 w' ∧ Pts w' (.pointer (some ⟨b', 0, none⟩)) [.int .i64 (comD a b).fr, .int .i64 (comD a b).to, g2, n2] ∧ Sl 4 w' g2 (rcells (comD a b).gone) ∧ Sl 4 w' n2 (rcells (comD a b).new))
      · intro hG
        refine wph_two (i := 2) (j := 7) (by decide +kernel) rfl rfl rfl ?_ ?_
        · refine wpl_callV (enters_of Tryz.func29 rfl rfl) rfl rfl (l10_Delta _ (hB8.ext x21)) ?_
          intro wC xC
          refine gset ?_
          have x1 := x21.trans xC
          refine wph_nil ⟨x1, ?_⟩
          refine wph_two (i := 3) (j := 7) (by decide +kernel) rfl rfl rfl ?_ ?_
          · refine wpl_callR (enters_of Tryz.func33 rfl rfl) rfl rfl (p_Compose _ (hA8.ext x1) (hB8.ext x1) (by omega) (by omega) (by omega) (by omega)) ?_
            rintro _ wD xD ⟨_, rfl, g2, n2, rfl, og2, on2⟩
            have sg2 := og2.sl
            have sn2 := on2.sl
            refine gset ?_
            have x2 := x1.trans xD
            refine wph_nil ⟨x2, ?_⟩
            refine tk 4 ?_; refine gset ?_; refine tk 5 ?_; refine gset ?_; refine tk 6 ?_; refine gset ?_
            refine wph_one (i := 7) (by decide +kernel) rfl rfl ?_
            refine wpl_allocB (z := zdel) rfl (by decide +kernel) ?_
            intro wE xE sE hE
            refine gset ?_
            have x3 := x2.trans xE
            refine wph_nil ⟨x3, ?_⟩
            refine wph_one (i := 8) (by decide +kernel) rfl rfl ?_
            refine wpl_storeB (v := .agg #[.int .i64 (comD a b).fr, .int .i64 (comD a b).to, g2, n2]) rfl rfl rfl hE (show sizeTy Tryz.prog 30 4 = true by decide +kernel) rfl (all4 rfl rfl sg2.one sn2.one) ?_
            intro wF pF
            have xF : Ext wD wF := xE.move pF.mv (by rintro k ⟨⟩; exact Nat.le_refl _)
            have hF := pts_block (cs := [.int .i64 (comD a b).fr, .int .i64 (comD a b).to, g2, n2]) pF.this
            refine wph_nil ⟨x2.trans xF, ?_⟩
            refine tk 9 ?_; refine gset ?_
            have x4 := x2.trans xF
            clear pF hE xE sE
            generalize wD.heap.size = b' at *
            exact hG g2 n2 b' _ ⟨x4, hF, sg2.ext xF, sn2.ext xF⟩
          · refine wpl_allocB (z := zdel) rfl (by decide +kernel) ?_
            intro wD xD sD hD
            refine gset ?_
            have x2 := x1.trans xD
            refine wph_nil ⟨x2, ?_⟩
            refine wph_one (i := 3) (by decide +kernel) rfl rfl ?_
            refine wpl_callR (enters_of Tryz.func33 rfl rfl) rfl rfl (p_Compose _ (hA8.ext x2) (hB8.ext x2) (by omega) (by omega) (by omega) (by omega)) ?_
            rintro _ wE xE ⟨_, rfl, g2, n2, rfl, og2, on2⟩
            have sg2 := og2.sl
            have sn2 := on2.sl
            refine gset ?_
            have x3 := x2.trans xE
            refine wph_nil ⟨x3, ?_⟩
            refine tk 4 ?_; refine gset ?_; refine tk 5 ?_; refine gset ?_; refine tk 6 ?_; refine gset ?_
            have hb := x1.size
            have hE := xE.at hD
            have hlt : wC.heap.size < wD.heap.size := by omega
            refine wph_one (i := 8) (by decide +kernel) rfl rfl ?_
            refine wpl_storeB (v := .agg #[.int .i64 (comD a b).fr, .int .i64 (comD a b).to, g2, n2]) rfl rfl rfl hE (show sizeTy Tryz.prog 30 4 = true by decide +kernel) rfl (all4 rfl rfl sg2.one sn2.one) ?_
            intro wF pF
            have xF : Ext w8 wF := x3.move pF.mv (by rintro k ⟨⟩; exact hb)
            have hF := pts_block (cs := [.int .i64 (comD a b).fr, .int .i64 (comD a b).to, g2, n2]) pF.this
            refine wph_nil ⟨xF, ?_⟩
            refine tk 9 ?_; refine gset ?_
            have hfin1 := (og2.mv pF.mv (.inr (og2.neBlock hE (by decide)))).sl
            have hfin2 := (on2.mv pF.mv (.inr (on2.neBlock hE (by decide)))).sl
            clear pF hE hD sD
            generalize wC.heap.size = b' at *
            exact hG g2 n2 b' _ ⟨xF, hF, hfin1, hfin2⟩
        · refine wpl_allocB (z := zdel) rfl (by decide +kernel) ?_
          intro wC xC sC hC
          refine gset ?_
          have x1 := x21.trans xC
          refine wph_nil ⟨x1, ?_⟩
          refine wph_one (i := 2) (by decide +kernel) rfl rfl ?_
          refine wpl_callV (enters_of Tryz.func29 rfl rfl) rfl rfl (l10_Delta _ (hB8.ext x1)) ?_
          intro wD xD
          refine gset ?_
          have x2 := x1.trans xD
          refine wph_nil ⟨x2, ?_⟩
          refine wph_one (i := 3) (by decide +kernel) rfl rfl ?_
          refine wpl_callR (enters_of Tryz.func33 rfl rfl) rfl rfl (p_Compose _ (hA8.ext x2) (hB8.ext x2) (by omega) (by omega) (by omega) (by omega)) ?_
          rintro _ wE xE ⟨_, rfl, g2, n2, rfl, og2, on2⟩
          have sg2 := og2.sl
          have sn2 := on2.sl
          refine gset ?_
          have x3 := x2.trans xE
          refine wph_nil ⟨x3, ?_⟩
          refine tk 4 ?_; refine gset ?_; refine tk 5 ?_; refine gset ?_; refine tk 6 ?_; refine gset ?_
          have hb := x21.size
          have hE := xE.at (xD.at hC)
          have hlt : w21.heap.size < wD.heap.size := by have := xD.size; omega
          refine wph_one (i := 8) (by decide +kernel) rfl rfl ?_
          refine wpl_storeB (v := .agg #[.int .i64 (comD a b).fr, .int .i64 (comD a b).to, g2, n2]) rfl rfl rfl hE (show sizeTy Tryz.prog 30 4 = true by decide +kernel) rfl (all4 rfl rfl sg2.one sn2.one) ?_
          intro wF pF
          have xF : Ext w8 wF := x3.move pF.mv (by rintro k ⟨⟩; exact hb)
          have hF := pts_block (cs := [.int .i64 (comD a b).fr, .int .i64 (comD a b).to, g2, n2]) pF.this
          refine wph_nil ⟨xF, ?_⟩
          refine tk 9 ?_; refine gset ?_
          have hfin1 := (og2.mv pF.mv (.inr (og2.neBlock hE (by decide)))).sl
          have hfin2 := (on2.mv pF.mv (.inr (on2.neBlock hE (by decide)))).sl
          clear pF hE hC sC
          generalize w21.heap.size = b' at *
          exact hG g2 n2 b' _ ⟨xF, hF, hfin1, hfin2⟩
      · rintro g2 n2 b' w20 ⟨x820, hf20, sg20, sn20⟩
        refine wph_done (by decide +kernel) ?_
        have hx20 := hx8.trans x820
        have hp20 := hp8.ext x820
        have hq20 := hq8.ext x820
        have ho20 := ho8.ext x820
        have gsg20 := sg8.ext x820
        have gsn20 := sn8.ext x820
        have gsg'20 := sg'8.ext x820
        have gsn'20 := sn'8.ext x820
        repeat' (first | ((with_reducible refine o_s ?_); (first | (refine o_1 ?_; refine o_2 ?_) | (refine o_g ?_; first | refine o_u ?_ | refine o_k ?_ | refine o_n ?_ | refine o_v ?_ | ((first | refine o_G ?_ ?_ | refine o_N ?_ ?_) <;> intro hc)))) | ((fail_if_success (with_reducible refine o_s ?_)); go_step))
        refine wpl_callR (enters_of Tryz.func34 rfl rfl) rfl rfl (r10_Compose _ (hZ8.ext x820) (hB8.ext x820) (by omega) (by omega) (by omega) (by omega)) ?_
        rintro _ w21 x21 ⟨_, rfl, g3, n3, rfl, og3, on3⟩
        have sg3' := og3.sl
        have sn3' := on3.sl
        refine gset ?_
        repeat' (first | ((with_reducible refine o_s ?_); (first | (refine o_1 ?_; refine o_2 ?_) | (refine o_g ?_; first | refine o_u ?_ | refine o_k ?_ | refine o_n ?_ | refine o_v ?_ | ((first | refine o_G ?_ ?_ | refine o_N ?_ ?_) <;> intro hc)))) | ((fail_if_success (with_reducible refine o_s ?_)); go_step))
        refine wpl_allocB (z := zdel) rfl (by decide +kernel) ?_
        intro w22 x22 s22 h22
        refine gset ?_
        refine wpl_storeB (v := .agg #[.int .i64 (comD a b).fr, .int .i64 (comD a b).to, g3, n3]) rfl rfl rfl h22 (show sizeTy Tryz.prog 34 4 = true by decide +kernel) rfl (all4 rfl rfl sg3'.one sn3'.one) ?_
        intro w23 p23
        have x23 : Ext w21 w23 := x22.move p23.mv (by rintro k ⟨⟩; exact Nat.le_refl _)
        have hg23 := pts_block (cs := [.int .i64 (comD a b).fr, .int .i64 (comD a b).to, g3, n3]) p23.this
        have x2023 := x21.trans x23
        have hf23 := hf20.ext x2023
        have hp23 := hp20.ext x2023
        have ho23 := ho20.ext x2023
        have hx23 := hx20.trans x2023
        have s3g := sg3'.ext x23
        have s3n := sn3'.ext x23
        have s2g := sg20.ext x2023
        have s2n := sn20.ext x2023
        have x823 := x820.trans x2023
        have hA23 := hA8.ext x823
        have hZ23 := hZ8.ext x823
        have sgc23 := sgc8.ext x823
        have snc23 := snc8.ext x823
        have sg23 := sg8.ext x823
        have sn23 := sn8.ext x823
        have hC23 : DelA (comD a b) (.agg #[.int .i64 (comD a b).fr, .int .i64 (comD a b).to, g2, n2]) w23 := ⟨g2, n2, rfl, s2g, s2n⟩
        have hE23 : DelA (comD a b) (.agg #[.int .i64 (comD a b).fr, .int .i64 (comD a b).to, g3, n3]) w23 := ⟨g3, n3, rfl, s3g, s3n⟩
        clear p23 h22 x22
        repeat' (first | ((with_reducible refine o_s ?_); (first | (refine o_1 ?_; refine o_2 ?_) | (refine o_g ?_; first | refine o_u ?_ | refine o_k ?_ | refine o_n ?_ | refine o_v ?_ | ((first | refine o_G ?_ ?_ | refine o_N ?_ ?_) <;> intro hc)))) | ((fail_if_success (with_reducible refine o_s ?_)); go_step))
        refine wph_region (S := fun w' => Ext w23 w') (by decide +kernel) ?_
        intro w24 x24 hh24
        refine tk 0 ?_; refine gset ?_; refine tk 3 ?_; refine gset ?_
        refine wph_one (i := 1) (by decide +kernel) rfl rfl ?_
        refine wpl_callR (enters_of Tryz.func35 rfl rfl) rfl rfl (p_Invert _ (hA23.ext x24) (by omega) (by omega)) ?_
        intro u25 w25 x25 o25
        refine gset ?_
        have y25 := x24.trans x25
        refine wph_nil ⟨y25, ?_⟩
        refine wph_one (i := 2) (by decide +kernel) rfl rfl ?_
        refine wpl_callV (enters_of Tryz.func24 rfl rfl) rfl rfl (l10_Told _ o25.a) ?_; intro w26 x26; refine gset ?_
        have y26 := y25.trans x26
        refine wph_nil ⟨y26, ?_⟩
        refine wph_one (i := 4) (by decide +kernel) rfl rfl ?_
        refine wpl_callR (enters_of Tryz.func36 rfl rfl) rfl rfl (r10_Invert _ (hZ23.ext y26) (by omega) (by omega)) ?_
        intro u27 w27 x27 o27
        refine gset ?_
        have y27 := y26.trans x27
        refine wph_nil ⟨y27, ?_⟩
        refine wph_one (i := 5) (by decide +kernel) rfl rfl ?_
        refine wpl_callV (enters_of Tryz.func23 rfl rfl) rfl rfl (same_delT (d := invD a) _ (o25.a.ext (x26.trans x27)) o27.a) ?_; intro w28 x28; refine gset ?_
        have y28 := y27.trans x28
        refine wph_nil ⟨y28, ?_⟩
        refine tk 6 ?_; refine gset ?_; refine tk 7 ?_; refine gset ?_; refine tk 9 ?_; refine gset ?_
        refine wph_one (i := 8) (by decide +kernel) rfl rfl ?_
        refine wpl_callV (enters_of Tryz.func24 rfl rfl) rfl rfl (l10_Told _ (hC23.ext y28)) ?_; intro w29 x29; refine gset ?_
        have y29 := y28.trans x29
        refine wph_nil ⟨y29, ?_⟩
        refine wph_one (i := 10) (by decide +kernel) rfl rfl ?_
        refine wpl_callV (enters_of Tryz.func23 rfl rfl) rfl rfl (same_delT _ (hC23.ext y29) (hE23.ext y29)) ?_; intro w30 x30; refine gset ?_
        have y30 := y29.trans x30
        refine wph_nil ⟨y30, ?_⟩
        refine tk 11 ?_; refine gset ?_; refine tk 12 ?_; refine gset ?_; refine tk 13 ?_; refine gset ?_; refine tk 14 ?_; refine gset ?_; refine tk 15 ?_; refine gset ?_; refine tk 16 ?_; refine gset ?_; refine tk 17 ?_; refine gset ?_; refine tk 18 ?_; refine gset ?_; refine tk 20 ?_; refine gset ?_
        refine wph_one (i := 19) (by decide +kernel) rfl rfl ?_
        refine wpl_callV (enters_of Tryz.func24 rfl rfl) rfl rfl (l10_Told _ (hA23.ext y30)) ?_; intro w31 x31; refine gset ?_
        have y31 := y30.trans x31
        refine wph_nil ⟨y31, ?_⟩
        refine wph_one (i := 21) (by decide +kernel) rfl rfl ?_
        refine wpl_callV (enters_of Tryz.func23 rfl rfl) rfl rfl (same_delT _ (hA23.ext y31) (hZ23.ext y31)) ?_; intro w32 x32; refine gset ?_
        have y32 := y31.trans x32
        refine wph_nil ⟨y32, ?_⟩
        refine tk 22 ?_; refine gset ?_; refine tk 23 ?_; refine gset ?_
        refine wph_one (i := 24) (by decide +kernel) rfl rfl ?_
        refine wpl_callV (enters_of Tryz.func20 rfl rfl) rfl rfl (d_liveV _) ?_; intro w33 x33; refine gset ?_
        have y33 := y32.trans x33
        refine wph_nil ⟨y33, ?_⟩
        refine tk 25 ?_; refine gset ?_; refine tk 26 ?_; refine gset ?_
        refine wph_done (by decide +kernel) ?_
        repeat' (first | ((with_reducible refine o_s ?_); (first | (refine o_1 ?_; refine o_2 ?_) | (refine o_g ?_; first | refine o_u ?_ | refine o_k ?_ | refine o_n ?_ | refine o_v ?_ | ((first | refine o_G ?_ ?_ | refine o_N ?_ ?_) <;> intro hc)))) | ((fail_if_success (with_reducible refine o_s ?_)); go_step))
        go_ret
        exact ⟨rfl, hx23.trans y33⟩
open Go.ChangeShapes Go.WideShapes Go.ChangeAt Go.RowKit
theorem own : ownKnob Tryz.prog.godebug = none := by kernel_rfl
theorem laidOut : laidOutB Tryz.prog = true := by kernel_rfl
/-- a slice of records that came in -/
theorem open_recs {H : Type} {enc : TypeId × Value → H} {w : World} {base : Nat} {spare : Nat → Bool} {held : Bool} {fuel : Nat} {v : Value} {x : DataW H × List MemPlace} (h : DataW.trod enc Tryz.prog w base spare held fuel 28 [v] = some x) : ∃ l : List Rec, Sl 4 w v (rcells l) := by
  obtain ⟨es, hs, he⟩ := open_rows Tryz.underlying28 (show Tryz.prog.cellsOf 75 = 4 by kernel_rfl) (by omega) h
  obtain ⟨l, rfl⟩ : ∃ l : List Rec, es = l.map Rec.cells := by
    refine all_map fun c hc => ?_
    obtain ⟨n, y, hy⟩ := he c hc
    obtain ⟨xs, n', _, _, hl, hxl, hf⟩ := DataW.trod_struct Tryz.underlying75 hy
    have c30 : Tryz.prog.cellsOf 22 = 1 := by kernel_rfl
    have c3 : Tryz.prog.cellsOf 3 = 1 := by kernel_rfl
    have c9 : Tryz.prog.cellsOf 9 = 1 := by kernel_rfl
    have c32 : Tryz.prog.cellsOf 75 = 4 := by kernel_rfl
    rw [c32] at hl
    match c, hl, xs, hxl with
    | [a, b, d, e], _, [y0, y1, y2, y3], _ =>
      have g0 := hf 0 _ rfl
      have g1 := hf 1 _ rfl
      have g2 := hf 2 _ rfl
      have g3 := hf 3 _ rfl
      simp [c30, c3, c9] at g0 g1 g2 g3
      obtain ⟨s0, rfl, _⟩ := trod_str Tryz.underlying22 g0
      obtain ⟨n1, rfl, _⟩ := trod_num Tryz.underlying3 g1
      obtain ⟨n2, rfl, _⟩ := trod_num Tryz.underlying3 g2
      obtain ⟨s3, rfl, _⟩ := trod_str Tryz.underlying9 g3
      exact ⟨⟨s0, n1, n2, s3⟩, rfl⟩
  exact ⟨l, hs⟩
open Go.ChangeShapes Go.WideShapes Go.ChangeAt Go.RowKit
/-- a slice of texts that came in -/
theorem open_texts {H : Type} {enc : TypeId × Value → H} {w : World} {base : Nat} {spare : Nat → Bool} {held : Bool} {fuel : Nat} {v : Value} {x : DataW H × List MemPlace} (h : DataW.trod enc Tryz.prog w base spare held fuel 53 [v] = some x) : ∃ l : List (List UInt8), Sl 1 w v (tcells l) := by
  obtain ⟨es, hs, he⟩ := open_rows Tryz.underlying53 (show Tryz.prog.cellsOf 9 = 1 by kernel_rfl) (by omega) h
  obtain ⟨l, rfl⟩ : ∃ l : List (List UInt8), es = l.map fun s => [str s] := by
    refine all_map fun c hc => ?_
    obtain ⟨n, y, hy⟩ := he c hc
    have hl : c.length = 1 := by
      obtain ⟨_, _, _, _, _, h4, _, _⟩ := hs
      exact h4 c hc
    match c, hl with
    | [a], _ =>
      obtain ⟨s, rfl, _⟩ := trod_str Tryz.underlying9 hy
      exact ⟨s, rfl⟩
  exact ⟨l, hs⟩
/-- a slice of sets that came in -/
theorem open_sets {H : Type} {enc : TypeId × Value → H} {w : World} {base : Nat} {spare : Nat → Bool} {held : Bool} {fuel : Nat} {v : Value} {x : DataW H × List MemPlace} (h : DataW.trod enc Tryz.prog w base spare held fuel 23 [v] = some x) : ∃ l : List RSet, SetsAt w v l := by
  obtain ⟨es, hs, he⟩ := open_rows Tryz.underlying23 (show Tryz.prog.cellsOf 55 = 4 by kernel_rfl) (by omega) h
  obtain ⟨l, rfl⟩ : ∃ l : List {p : RSet × Value // Sl 1 w p.2 (tcells p.1.data)}, es = l.map fun p => [str p.1.1.name, .int .i64 p.1.1.kind, .int .i64 p.1.1.ttl, p.1.2] := by
    refine all_map fun c hc => ?_
    obtain ⟨n, y, hy⟩ := he c hc
    obtain ⟨xs, n', _, _, hl, hxl, hf⟩ := DataW.trod_struct Tryz.underlying55 hy
    have c30 : Tryz.prog.cellsOf 22 = 1 := by kernel_rfl
    have c3 : Tryz.prog.cellsOf 3 = 1 := by kernel_rfl
    have c35 : Tryz.prog.cellsOf 53 = 1 := by kernel_rfl
    have c37 : Tryz.prog.cellsOf 55 = 4 := by kernel_rfl
    rw [c37] at hl
    match c, hl, xs, hxl with
    | [a, b, d, e], _, [y0, y1, y2, y3], _ =>
      have g0 := hf 0 _ rfl
      have g1 := hf 1 _ rfl
      have g2 := hf 2 _ rfl
      have g3 := hf 3 _ rfl
      simp [c30, c3, c35] at g0 g1 g2 g3
      obtain ⟨s0, rfl, _⟩ := trod_str Tryz.underlying22 g0
      obtain ⟨n1, rfl, _⟩ := trod_num Tryz.underlying3 g1
      obtain ⟨n2, rfl, _⟩ := trod_num Tryz.underlying3 g2
      obtain ⟨ts, hts⟩ := open_texts g3
      exact ⟨⟨(⟨s0, n1, n2, ts⟩, e), hts⟩, rfl⟩
  refine ⟨l.map fun p => p.1.1, _, hs, by simp, ?_⟩
  intro i s hi
  rw [List.getElem?_map] at hi
  obtain ⟨p, hp, rfl⟩ := Option.map_eq_some_iff.1 hi
  exact ⟨p.1.2, by rw [List.getElem?_map, hp]; rfl, p.2⟩
open Go.ChangeShapes Go.WideShapes Go.ChangeAt Go.RowKit
/-- a zone that came in -/
theorem open_zone {H : Type} {enc : TypeId × Value → H} {w : World} {base : Nat} {spare : Nat → Bool} {held : Bool} {fuel : Nat} {c : Array Value} {x : DataW H × List MemPlace} (h : DataW.trod enc Tryz.prog w base spare held fuel 25 (Value.agg c).cells.toList = some x) : ∃ (o : List UInt8) (l : List RSet) (u : Value), c = #[str o, u] ∧ SetsAt w u l := by
  have e : (Value.agg c).cells.toList = c.toList := rfl
  rw [e] at h
  obtain ⟨xs, n', _, _, hl, hxl, hf⟩ := DataW.trod_struct Tryz.underlying25 h
  have c30 : Tryz.prog.cellsOf 22 = 1 := by kernel_rfl
  have c25 : Tryz.prog.cellsOf 23 = 1 := by kernel_rfl
  have c43 : Tryz.prog.cellsOf 25 = 2 := by kernel_rfl
  rw [c43] at hl
  obtain ⟨cl⟩ := c
  match cl, hl, xs, hxl with
  | [a, b], _, [y0, y1], _ =>
    have g0 := hf 0 _ rfl
    have g1 := hf 1 _ rfl
    simp [c30, c25] at g0 g1
    obtain ⟨s0, rfl, _⟩ := trod_str Tryz.underlying22 g0
    obtain ⟨l, hls⟩ := open_sets g1
    exact ⟨s0, l, b, rfl, hls⟩
open Go.ChangeShapes Go.WideShapes Go.ChangeAt Go.RowKit
/-- a delta that came in -/
theorem open_delta {H : Type} {enc : TypeId × Value → H} {w : World} {base : Nat} {spare : Nat → Bool} {held : Bool} {fuel : Nat} {c : Array Value} {x : DataW H × List MemPlace} (h : DataW.trod enc Tryz.prog w base spare held fuel 34 (Value.agg c).cells.toList = some x) : ∃ d : DeltaR, DelA d (.agg c) w := by
  have e : (Value.agg c).cells.toList = c.toList := rfl
  rw [e] at h
  obtain ⟨xs, n', _, _, hl, hxl, hf⟩ := DataW.trod_struct Tryz.underlying34 h
  have c3 : Tryz.prog.cellsOf 3 = 1 := by kernel_rfl
  have c28 : Tryz.prog.cellsOf 28 = 1 := by kernel_rfl
  have c34 : Tryz.prog.cellsOf 34 = 4 := by kernel_rfl
  rw [c34] at hl
  obtain ⟨cl⟩ := c
  match cl, hl, xs, hxl with
  | [a, b, d, e], _, [y0, y1, y2, y3], _ =>
    have g0 := hf 0 _ rfl
    have g1 := hf 1 _ rfl
    have g2 := hf 2 _ rfl
    have g3 := hf 3 _ rfl
    simp [c3, c28] at g0 g1 g2 g3
    obtain ⟨n0, rfl, _⟩ := trod_num Tryz.underlying3 g0
    obtain ⟨n1, rfl, _⟩ := trod_num Tryz.underlying3 g1
    obtain ⟨l2, h2⟩ := open_recs g2
    obtain ⟨l3, h3⟩ := open_recs g3
    exact ⟨⟨n0, n1, l2, l3⟩, d, e, rfl, h2, h3⟩
open Go.ChangeShapes Go.WideShapes Go.ChangeAt Go.RowKit
set_option maxRecDepth 100000 in
theorem diffTurns_lifted (os : Os) (started : os.Started) (H : Type) (enc : TypeId × Value → H) :
    ReturnsInHanded {} Tryz.checked os 5 .any (YtoajkilickakiaaGreat.Rows.diffTurnsSpec.pre6 enc Tryz.prog Tryz.f5 YtoajkilickakiaaGreat.Rows.diffTurnsRow.domain false) (YtoajkilickakiaaGreat.Rows.diffTurnsSpec.post enc Tryz.prog Tryz.f5 false true false false) := by
  refine returnsInHanded_of_change (C := Tryz.checked) own started (by kernel_rfl) Tryz.func5
    (ChangeSpec.witness6 (enc := enc) (C := Tryz.checked) false ⟨#[], #[.agg #[.int .i64 0, .int .i64 0, .slice none 0 0, .slice none 0 0], .agg #[.int .i64 0, .int .i64 0, .slice none 0 0, .slice none 0 0]], []⟩ 8 (by kernel_rfl) (by kernel_rfl) (by kernel_rfl) (by kernel_rfl)) ?_
  intro W base args ds gs before hval0 hW hcnd _
  have hW' := hW
  obtain ⟨p, q, hA0, hV, rfl, hfz, hnd⟩ := hW
  have hA : DataW.TrodAll enc Tryz.prog W 0 (fun _ => true) true Tryz.f5.params.toList args.toList ds p := hA0
  have hval : ∀ (j : Nat) t v, Tryz.f5.params[j]? = some t → args[j]? = some v → Value.okWide Tryz.prog W .any base t v := hval0
  rw [Tryz.params5] at hA hval
  obtain ⟨v0, vs0, d0, ds0, p0, q0, hargs, rfl, rfl, h0, r0⟩ := trodAll_cons hA
  obtain ⟨v1, vs1, d1, ds1, p1, q1, rfl, rfl, rfl, h1, r1⟩ := trodAll_cons r0
  obtain ⟨rfl, rfl, rfl⟩ := trodAll_nil r1
  obtain rfl : args = #[v0, v1] := by cases args; simp_all
  obtain ⟨rfl, rfl⟩ := trodVars_none hV
  have k0 := h0
  have k1 := h1
  have lt0 : ∀ x ∈ p0, x.block < W.heap.size := by obtain ⟨m, hm⟩ := k0; exact DataW.trod_lt m _ _ _ hm
  have lt1 : ∀ x ∈ p1, x.block < W.heap.size := by obtain ⟨m, hm⟩ := k1; exact DataW.trod_lt m _ _ _ hm
  obtain ⟨c0, rfl, z0⟩ := okWide_struct Tryz.underlying34 (hval 0 34 v0 rfl rfl)
  obtain ⟨d0', g0⟩ : ∃ d : DeltaR, DelA d (.agg c0) W := by
    obtain ⟨fuel, hf⟩ := h0
    exact open_delta hf
  obtain ⟨c1, rfl, z1⟩ := okWide_struct Tryz.underlying34 (hval 1 34 v1 rfl rfl)
  obtain ⟨d1', g1⟩ : ∃ d : DeltaR, DelA d (.agg c1) W := by
    obtain ⟨fuel, hf⟩ := h1
    exact open_delta hf
  clear hA0 hval0
  have h9 := d5  W g0 g1
  refine h9.mono fun e W' ⟨he, hx⟩ => ?_
  subst he
  have bel := hx.below
  exact ⟨_, rfl, _, _, _, [], _, [], hW', trodAll_mk1 (shut_bool Tryz.underlying4 _), (trodAll_cons_mk (Below.trod laidOut (by kernel_rfl) (of_decide_eq_true (by kernel_rfl)) k0 bel lt0) (trodAll_cons_mk (Below.trod laidOut (by kernel_rfl) (of_decide_eq_true (by kernel_rfl)) k1 bel lt1) trodAll_mk0)), rfl, bel.frame _, fun h => by cases h⟩
theorem e_enter : Tryz.checked.prog.mayEnter = true := by kernel_rfl
theorem e_lift : (YtoajkilickakiaaGreat.Rows.diffTurnsRow.lifted == Tryz.checked.prog.liftsFinal) = true := by kernel_rfl
theorem e_make : (Tryz.checked.prog.make == some YtoajkilickakiaaGreat.Rows.diffTurnsRow.make) = true := by kernel_rfl
theorem diffTurns_closed : joinedFacts Tryz.checked.prog 5 Tryz.f5 YtoajkilickakiaaGreat.Rows.diffTurnsSpec YtoajkilickakiaaGreat.Rows.diffTurnsRow = true := by
  unfold joinedFacts
  simp only [Bool.and_eq_true]
  repeat' (refine And.intro ?_ ?_)
  all_goals first | (with_reducible exact e_enter) | (with_reducible exact e_lift) | (with_reducible exact e_make) | kernel_rfl
theorem diffTurns_holds : YtoajkilickakiaaGreat.Rows.DiffTurnsSaid :=
  OpenClaim.holds_of_wide 5 Tryz.f5 rfl rfl rfl rfl rfl rfl rfl ⟨rfl, rfl, rfl, rfl, rfl⟩ rfl rfl rfl rfl rfl (by kernel_rfl) Tryz.func5 diffTurns_closed
    (of_decide_eq_true (by kernel_rfl)) (by unfold Func.isWrapper; first | (rw [if_pos (by decide +kernel)]; kernel_rfl) | (rw [if_neg (by decide +kernel)]; exact ⟨rfl, rfl⟩))
    (fun os started H enc _ => diffTurns_lifted os started H enc)
end Go.Proofs.X
