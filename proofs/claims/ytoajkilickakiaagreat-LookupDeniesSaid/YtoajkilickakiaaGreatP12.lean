/- Laws and walks that the proof of the statement is made of (part 12). -/
import Derived.Test.YtoajkilickakiaaGreatProg
import Derived.Test.YtoajkilickakiaaGreatShelf
import Derived.Shelf.SlSortCmp.NoneTotal
import Derived.Shelf.RegionOpenPlain
import Derived.Lib.Strings
import Derived.Lib.Slices
import Derived.Lib.Walk
import Derived.Lib.Builder
import Derived.Lib.AppendStr
import Derived.Lib.UnsafeStr
import Derived.Lib.MakeNoZero
import Derived.WalkKit
import Derived.Laws.Externs
import Derived.Laws.IdiomCopy
import Derived.Laws.BitsLemmas
import GoSem.Claims
import Derived.Lib.Hide
import Derived.OwnWalk
import Derived.Test.YtoajkilickakiaaGreatP1
import Derived.Test.YtoajkilickakiaaGreatP2
import Derived.Test.YtoajkilickakiaaGreatP3
import Derived.Test.YtoajkilickakiaaGreatP4
import Derived.Test.YtoajkilickakiaaGreatP5
import Derived.Test.YtoajkilickakiaaGreatP6
import Derived.Test.YtoajkilickakiaaGreatP8
import Derived.Test.YtoajkilickakiaaGreatP9
import Derived.Test.YtoajkilickakiaaGreatP10
import Derived.Test.YtoajkilickakiaaGreatP11
set_option linter.unusedSimpArgs false
set_option linter.unusedVariables false
namespace Go.Proofs.X
open Go.RowKit
set_option maxRecDepth 100000
theorem rcells_one {l : List Rec} : ∀ f ∈ rcells l, ∀ u ∈ f, u.oneCell' = true := by
  intro f hf u hu
  obtain ⟨r, _, rfl⟩ := List.mem_map.1 hf
  simp only [Rec.cells, List.mem_cons, List.not_mem_nil, or_false] at hu
  rcases hu with rfl | rfl | rfl | rfl <;> rfl
set_option maxHeartbeats 4000000 in
theorem p_Delete {B : Nat} {v : Value} {l : List Rec} {w : World} {i : Nat} (h : Own B 4 75 w v (rcells l)) (hi : i < l.length) (hl : l.length ≤ 1000000) : Calls Tryz.prog 75 #[v, .int .i64 i, .int .i64 (i + 1 : Nat)] w fun e w' => ∃ v', e = .returned v' ∧ Own B 4 75 w' v' (rcells (l.eraseIdx i)) ∧ Mv v.ownBlock w w' ∧ v'.ownBlock = v.ownBlock := by
  have hlen := rcells_length l
  have h1c := rcells_one (l := l)
  rcases h.form with ⟨rfl, hn⟩ | ⟨g, cap, rfl, hg, hb, hc, _⟩
  · exfalso
    rw [hn] at hlen
    simp at hlen; omega
  · have hs := h.sl
    rw [hlen] at hc
    have hs' := hs
    rw [hlen] at hs'
    go_enter Tryz.func75, Tryz.ntmps75
    repeat' (first | ((with_reducible refine o_s ?_); (first | (refine o_1 ?_; refine o_2 ?_) | (refine o_g ?_; first | refine o_u ?_ | refine o_k ?_ | refine o_n ?_ | refine o_v ?_ | ((first | refine o_G ?_ ?_ | refine o_N ?_ ?_) <;> intro hc)))) | ((fail_if_success (with_reducible refine o_s ?_)); go_step))
    refine wpl_run0 (Runs.cut3 (k := 4) (m := i) (n := i + 1) (p := l.length) (l := (rcells l).length) (c := cap) (ad := some ⟨g, 0, none⟩) rfl rfl rfl (by rw [← hlen]; rfl) (by omega) (by omega) hc (by decide +kernel)) ?_
    refine gset ?_
    repeat' (first | ((with_reducible refine o_s ?_); (first | (refine o_1 ?_; refine o_2 ?_) | (refine o_g ?_; first | refine o_u ?_ | refine o_k ?_ | refine o_n ?_ | refine o_v ?_ | ((first | refine o_G ?_ ?_ | refine o_N ?_ ?_) <;> intro hc)))) | ((fail_if_success (with_reducible refine o_s ?_)); go_step))
    refine wpi_region 6 (fun w' => Sl 4 w' (Value.slice (some ⟨g, 0, none⟩) (rcells l).length cap) (rcells l)) (by decide +kernel) ?_
    intro w1 x1 _
    refine ⟨hs.ext x1, ?_⟩
    ((with_reducible apply wpi_take (i := 0)); (rfl); (rfl); (rfl); (decide +kernel); (decide +kernel); (decide +kernel); (decide +kernel); (rfl); (intro _ _; exact rn); (exact fun _ _ _ h => h); (refine gset ?_)); ((with_reducible apply wpi_take (i := 1)); (rfl); (rfl); (rfl); (decide +kernel); (decide +kernel); (decide +kernel); (decide +kernel); (rfl); (intro _ _; exact rn); (exact fun _ _ _ h => h); (refine gset ?_)); ((with_reducible apply wpi_take (i := 2)); (rfl); (rfl); (rfl); (decide +kernel); (decide +kernel); (decide +kernel); (decide +kernel); (rfl); (intro _ _; exact rn); (exact fun _ _ _ h => h); (refine gset ?_)); ((with_reducible apply wpi_take (i := 3)); (rfl); (rfl); (rfl); (decide +kernel); (decide +kernel); (decide +kernel); (decide +kernel); (rfl); (intro _ _; exact rn); (exact fun _ _ _ h => h); (refine gset ?_)); ((with_reducible apply wpi_take (i := 4)); (rfl); (rfl); (rfl); (decide +kernel); (decide +kernel); (decide +kernel); (decide +kernel); (rfl); (intro _ _; exact rn); (exact fun _ _ _ h => h); (refine gset ?_)); ((with_reducible apply wpi_take (i := 5)); (rfl); (rfl); (rfl); (decide +kernel); (decide +kernel); (decide +kernel); (decide +kernel); (rfl); (intro _ _; exact rn); (exact fun _ _ _ h => h); (refine gset ?_))
    have e22 : cutSl (Value.slice (some ⟨g, 0, none⟩) (rcells l).length cap) 4 0 i = .slice (some ⟨g, 0, none⟩) i cap := by simp [cutSl, add_none]
    obtain ⟨ad, e25⟩ : ∃ ad, cutSl (Value.slice (some ⟨g, 0, none⟩) (rcells l).length cap) 4 (i + 1) (rcells l).length = .slice (some ad) ((rcells l).length - (i + 1)) (cap - (i + 1)) := by
      by_cases hq : cap = i + 1
      · exact ⟨⟨g, 0, none⟩, by simp [cutSl, hq]⟩
      · exact ⟨_, by simp only [cutSl, if_neg hq]; rfl⟩
    have hcut := (hs.ext x1).cut (m := i + 1) (n := (rcells l).length) (by omega) (Nat.le_refl _)
    rw [e25, List.take_length] at hcut
    refine wpi_op (i := 6) (by decide +kernel) rfl rfl ?_
    refine wpl_appOver (i := i) (j := i + 1) (h.ext x1) e22 e25 hcut (by omega) (by omega) h1c ?_
    intro w2 o2 m2
    refine gset ?_
    refine wph_nil ⟨till_no rfl, ?_⟩
    ((with_reducible apply wpi_pure (i := 7)); (rfl); (rfl); (rfl); (decide +kernel); (decide +kernel); (decide +kernel); (rfl); (intro _; exact rn); (exact fun _ _ _ h => h); (refine gset ?_))
    refine wpi_done (by decide +kernel) ?_
    obtain ⟨m, hm⟩ : ∃ m, i + ((rcells l).length - (i + 1)) = m := ⟨_, rfl⟩
    rw [hm] at o2 ⊢
    have ee : (rcells l).take i ++ (rcells l).drop (i + 1) = rcells (l.eraseIdx i) := by
      rw [List.eraseIdx_eq_take_drop_succ]; simp [rcells, List.map_take, List.map_drop]
    rw [ee] at o2
    have hml : (rcells (l.eraseIdx i)).length = m := by rw [rcells_length, List.length_eraseIdx_of_lt hi]; omega
    have h2l : (rcells (l.eraseIdx i) ++ (rcells l).drop m).length = (rcells l).length := by rw [List.length_append, hml, List.length_drop]; omega
    have hsh := o2
    rw [← h2l] at hsh
    have hsh := hsh.short (m := m) (by omega)
    rw [List.take_left' hml] at hsh
    have hs2 := hsh.sl
    repeat' (first | ((with_reducible refine o_s ?_); (first | (refine o_1 ?_; refine o_2 ?_) | (refine o_g ?_; first | refine o_u ?_ | refine o_k ?_ | refine o_n ?_ | refine o_v ?_ | ((first | refine o_G ?_ ?_ | refine o_N ?_ ?_) <;> intro hc)))) | ((fail_if_success (with_reducible refine o_s ?_)); go_step))
    refine wpl_run0 (Runs.cutC (k := 4) (m := m) (n := l.length) (l := m) (c := cap) (ad := some ⟨g, 0, none⟩) rfl (by rw [← hml]; rfl) (by rw [← hlen]; rfl) (by omega) hc (by decide +kernel)) ?_
    refine gset ?_
    have e31 : (if cap = m then some (⟨g, 0, none⟩ : Addr) else Option.map (fun x : Addr => x.add (m * 4)) (some (⟨g, 0, none⟩ : Addr))) = some (⟨g, m * 4, none⟩ : Addr) := by
      rw [if_neg (by omega)]; simp [add_none]
    rw [e31]
    rw [← h2l] at o2
    have h2l' : (rcells (l.eraseIdx i) ++ (rcells l).drop m).length = l.length := by omega
    refine wpl_clearO (m := m) (z := zrec) o2 (by rw [h2l']; rfl) (by omega) ?_
    intro w3 o3 m3
    rw [List.take_left' hml] at o3
    repeat' (first | ((with_reducible refine o_s ?_); (first | (refine o_1 ?_; refine o_2 ?_) | (refine o_g ?_; first | refine o_u ?_ | refine o_k ?_ | refine o_n ?_ | refine o_v ?_ | ((first | refine o_G ?_ ?_ | refine o_N ?_ ?_) <;> intro hc)))) | ((fail_if_success (with_reducible refine o_s ?_)); go_step))
    go_ret
    exact ⟨_, rfl, o3, (x1.mv (some g)).trans (m2.trans m3), rfl⟩
def zdel : List Value := [.int .i64 0, .int .i64 0, .slice none 0 0, .slice none 0 0]
def DelA (d : DeltaR) (r : Value) (w : World) : Prop := ∃ g n, r = .agg #[.int .i64 d.fr, .int .i64 d.to, g, n] ∧ Sl 4 w g (rcells d.gone) ∧ Sl 4 w n (rcells d.new)
def DelO (B : Nat) (d : DeltaR) (r : Value) (w : World) : Prop := ∃ g n, r = .agg #[.int .i64 d.fr, .int .i64 d.to, g, n] ∧ Own B 4 75 w g (rcells d.gone) ∧ Own B 4 75 w n (rcells d.new)
theorem DelO.a {B : Nat} {d : DeltaR} {r : Value} {w : World} (h : DelO B d r w) : DelA d r w := let ⟨g, n, e, a, b⟩ := h; ⟨g, n, e, a.sl, b.sl⟩
def DelU (B : Nat) (d : DeltaR) (e : Int) (r : Value) (w : World) : Prop := ∃ y, r = .tuple #[y, .int .i64 e] ∧ DelO B d y w
theorem DelU.bad {B : Nat} {d : DeltaR} {e : Int} {w : World} (h : d = zeroD) : DelU B d e (.tuple #[.agg zdel.toArray, .int .i64 e]) w := by
  subst h
  exact ⟨_, rfl, _, _, rfl, Own.nil _ _ _ _, Own.nil _ _ _ _⟩
theorem mkD_bad {oa ob : List UInt8} {la lb : List RSet} (h : mkE oa la ob lb ≠ 0) : mkD oa la ob lb = zeroD := if_neg h
set_option maxHeartbeats 6000000 in
theorem p_Make (oa : List UInt8) (u : Value) (la : List RSet) (ob : List UInt8) (v : Value) (lb : List RSet) (w : World) (hu : SetsAt w u la) (hv : SetsAt w v lb)
    (ba : ∀ s ∈ la, s.data.length ≤ 1000000) (da : ∀ s ∈ la, ∀ d ∈ s.data, d.length ≤ 4611686018427387904) (bb : ∀ s ∈ lb, s.data.length ≤ 1000000) (db : ∀ s ∈ lb, ∀ d ∈ s.data, d.length ≤ 4611686018427387904)
    (h1 : (recordsS la).length ≤ 100000) (h2 : (recordsS lb).length ≤ 100000) : Calls Tryz.prog 21 #[.agg #[str oa, u], .agg #[str ob, v]] w (Ret w (DelU w.heap.size (mkD oa la ob lb) (mkE oa la ob lb))) := by
  go_enter Tryz.func21, Tryz.ntmps21
  repeat' ((fail_if_success (with_reducible refine o_s ?_)); go_step)
  refine wpl_box (vs := [str oa, u]) rfl rfl ?_
  intro p w1 x1 hp
  refine gset ?_
  refine wpl_box (vs := [str ob, v]) rfl rfl ?_
  intro q w2 x2 hq
  refine gset ?_
  refine wpl_allocB (z := zdel) rfl (by decide +kernel) ?_
  intro w3 x3 s3 h3
  refine gset ?_
  have hx3 := (x1.trans x2).trans x3
  have zz := (x1.trans x2).size
  have hp3 := (hp.ext x2).ext x3
  have hq3 := hq.ext x3
  repeat' (first | ((with_reducible refine o_s ?_); (first | (refine o_1 ?_; refine o_2 ?_) | (refine o_g ?_; first | refine o_u ?_ | refine o_k ?_ | refine o_n ?_ | refine o_v ?_ | ((first | refine o_G ?_ ?_ | refine o_N ?_ ?_) <;> intro hc)))) | ((fail_if_success (with_reducible refine o_s ?_)); go_step))
  refine wpl_callV (enters_of Tryz.func63 rfl rfl) rfl rfl (p_Soa oa u la _ (hu.ext hx3) ba da) ?_; intro w4 x4; refine gset ?_
  have hx4 := hx3.trans x4
  repeat' (first | ((with_reducible refine o_s ?_); (first | (refine o_1 ?_; refine o_2 ?_) | (refine o_g ?_; first | refine o_u ?_ | refine o_k ?_ | refine o_n ?_ | refine o_v ?_ | ((first | refine o_G ?_ ?_ | refine o_N ?_ ?_) <;> intro hc)))) | ((fail_if_success (with_reducible refine o_s ?_)); go_step))
  refine wpl_allocB (z := zeroSoa) rfl (by decide +kernel) ?_
  intro w5 x5 s5 h5
  refine gset ?_
  refine wpl_storeB (v := .agg (soaZ oa la).cells.toArray) rfl rfl rfl h5 (show sizeTy Tryz.prog 103 7 = true by decide +kernel) rfl (soaR_one _) ?_
  intro w6 p6
  have x46 : Ext w4 w6 := x5.move p6.mv (by rintro k ⟨⟩; exact Nat.le_refl _)
  have b6 : w6.heap[w4.heap.size]? = some (.cells (soaZ oa la).cells.toArray 103 (0, 0)) := p6.this
  have x36 := x4.trans x46
  have hx6 := hx3.trans x36
  clear p6 h5 x5
  have h6 := x36.at h3
  have hp6 := hp3.ext x36
  have hq6 := hq3.ext x36
  repeat' (first | ((with_reducible refine o_s ?_); (first | (refine o_1 ?_; refine o_2 ?_) | (refine o_g ?_; first | refine o_u ?_ | refine o_k ?_ | refine o_n ?_ | refine o_v ?_ | ((first | refine o_G ?_ ?_ | refine o_N ?_ ?_) <;> intro hc)))) | ((fail_if_success (with_reducible refine o_s ?_)); go_step))
  · have q0 : ¬ zoneR oa la = 0 := by simpa using (by assumption : (!decide (zoneR oa la = 0)) = true)
    refine wpl_run (v := .agg zdel.toArray) rfl (Runs.build0 (by kernel_rfl)) ?_
    refine gset ?_
    repeat' (first | ((with_reducible refine o_s ?_); (first | (refine o_1 ?_; refine o_2 ?_) | (refine o_g ?_; first | refine o_u ?_ | refine o_k ?_ | refine o_n ?_ | refine o_v ?_ | ((first | refine o_G ?_ ?_ | refine o_N ?_ ?_) <;> intro hc)))) | ((fail_if_success (with_reducible refine o_s ?_)); go_step))
    refine wpl_storeB (v := .agg zdel.toArray) rfl rfl rfl h6 (by decide +kernel) rfl (by decide +kernel) ?_
    intro w7 p7
    have x7 : Ext w w7 := hx6.move p7.mv (by rintro k ⟨⟩; exact zz)
    repeat' (first | ((with_reducible refine o_s ?_); (first | (refine o_1 ?_; refine o_2 ?_) | (refine o_g ?_; first | refine o_u ?_ | refine o_k ?_ | refine o_n ?_ | refine o_v ?_ | ((first | refine o_G ?_ ?_ | refine o_N ?_ ?_) <;> intro hc)))) | ((fail_if_success (with_reducible refine o_s ?_)); go_step))
    refine bodyPost_ret (results_cellT (cs := zdel) rfl rfl p7.this (by decide +kernel)) rfl ⟨_, rfl, x7, ?_⟩
    have he : mkE oa la ob lb = zoneR oa la := by rw [mkE, if_neg q0]
    rw [mkD_bad (by rw [he]; exact q0), he]
    exact DelU.bad rfl
  · have q0 : zoneR oa la = 0 := by simpa using (by assumption : (!decide (zoneR oa la = 0)) = false)
    refine wpl_callV (enters_of Tryz.func63 rfl rfl) rfl rfl (p_Soa ob v lb _ (hv.ext hx6) bb db) ?_; intro w7 x7; refine gset ?_
    have hx7 := hx6.trans x7
    repeat' (first | ((with_reducible refine o_s ?_); (first | (refine o_1 ?_; refine o_2 ?_) | (refine o_g ?_; first | refine o_u ?_ | refine o_k ?_ | refine o_n ?_ | refine o_v ?_ | ((first | refine o_G ?_ ?_ | refine o_N ?_ ?_) <;> intro hc)))) | ((fail_if_success (with_reducible refine o_s ?_)); go_step))
    refine wpl_allocB (z := zeroSoa) rfl (by decide +kernel) ?_
    intro w8 x8 s8 h8
    refine gset ?_
    refine wpl_storeB (v := .agg (soaZ ob lb).cells.toArray) rfl rfl rfl h8 (show sizeTy Tryz.prog 103 7 = true by decide +kernel) rfl (soaR_one _) ?_
    intro w9 p9
    have x79 : Ext w7 w9 := x8.move p9.mv (by rintro k ⟨⟩; exact Nat.le_refl _)
    have c9 : w9.heap[w7.heap.size]? = some (.cells (soaZ ob lb).cells.toArray 103 (0, 0)) := p9.this
    have x69 := x7.trans x79
    have hx9 := hx6.trans x69
    clear p9 h8 x8
    have h9 := x69.at h6
    have b9 := x69.at b6
    have hp9 := hp6.ext x69
    have hq9 := hq6.ext x69
    repeat' (first | ((with_reducible refine o_s ?_); (first | (refine o_1 ?_; refine o_2 ?_) | (refine o_g ?_; first | refine o_u ?_ | refine o_k ?_ | refine o_n ?_ | refine o_v ?_ | ((first | refine o_G ?_ ?_ | refine o_N ?_ ?_) <;> intro hc)))) | ((fail_if_success (with_reducible refine o_s ?_)); go_step))
    · have q1 : ¬ zoneR ob lb = 0 := by simpa using (by assumption : (!decide (zoneR ob lb = 0)) = true)
      refine wpl_run (v := .agg zdel.toArray) rfl (Runs.build0 (by kernel_rfl)) ?_
      refine gset ?_
      repeat' (first | ((with_reducible refine o_s ?_); (first | (refine o_1 ?_; refine o_2 ?_) | (refine o_g ?_; first | refine o_u ?_ | refine o_k ?_ | refine o_n ?_ | refine o_v ?_ | ((first | refine o_G ?_ ?_ | refine o_N ?_ ?_) <;> intro hc)))) | ((fail_if_success (with_reducible refine o_s ?_)); go_step))
      refine wpl_storeB (v := .agg zdel.toArray) rfl rfl rfl h9 (by decide +kernel) rfl (by decide +kernel) ?_
      intro wz pz
      have xz : Ext w wz := hx9.move pz.mv (by rintro k ⟨⟩; exact zz)
      repeat' (first | ((with_reducible refine o_s ?_); (first | (refine o_1 ?_; refine o_2 ?_) | (refine o_g ?_; first | refine o_u ?_ | refine o_k ?_ | refine o_n ?_ | refine o_v ?_ | ((first | refine o_G ?_ ?_ | refine o_N ?_ ?_) <;> intro hc)))) | ((fail_if_success (with_reducible refine o_s ?_)); go_step))
      refine bodyPost_ret (results_cellT (cs := zdel) rfl rfl pz.this (by decide +kernel)) rfl ⟨_, rfl, xz, ?_⟩
      have he : mkE oa la ob lb = zoneR ob lb := by rw [mkE, if_pos q0, if_neg q1]
      rw [mkD_bad (by rw [he]; exact q1), he]
      exact DelU.bad rfl
    · have q1 : zoneR ob lb = 0 := by simpa using (by assumption : (!decide (zoneR ob lb = 0)) = false)
      · have q2 : ¬ oa = ob := by simpa using (by assumption : (!decide (oa = ob)) = true)
        refine wpl_run (v := .agg zdel.toArray) rfl (Runs.build0 (by kernel_rfl)) ?_
        refine gset ?_
        repeat' (first | ((with_reducible refine o_s ?_); (first | (refine o_1 ?_; refine o_2 ?_) | (refine o_g ?_; first | refine o_u ?_ | refine o_k ?_ | refine o_n ?_ | refine o_v ?_ | ((first | refine o_G ?_ ?_ | refine o_N ?_ ?_) <;> intro hc)))) | ((fail_if_success (with_reducible refine o_s ?_)); go_step))
        refine wpl_storeB (v := .agg zdel.toArray) rfl rfl rfl h9 (by decide +kernel) rfl (by decide +kernel) ?_
        intro wz pz
        have xz : Ext w wz := hx9.move pz.mv (by rintro k ⟨⟩; exact zz)
        repeat' (first | ((with_reducible refine o_s ?_); (first | (refine o_1 ?_; refine o_2 ?_) | (refine o_g ?_; first | refine o_u ?_ | refine o_k ?_ | refine o_n ?_ | refine o_v ?_ | ((first | refine o_G ?_ ?_ | refine o_N ?_ ?_) <;> intro hc)))) | ((fail_if_success (with_reducible refine o_s ?_)); go_step))
        refine bodyPost_ret (results_cellT (cs := zdel) rfl rfl pz.this (by decide +kernel)) rfl ⟨_, rfl, xz, ?_⟩
        have he : mkE oa la ob lb = 1 := by rw [mkE, if_pos q0, if_pos q1, if_neg q2]
        rw [mkD_bad (by rw [he]; decide), he]
        exact DelU.bad rfl
    · have q1 : zoneR ob lb = 0 := by simpa using (by assumption : (!decide (zoneR ob lb = 0)) = false)
      have q2 : oa = ob := by simpa using (by assumption : (!decide (oa = ob)) = false)
      have he : mkE oa la ob lb = 0 := by rw [mkE, if_pos q0, if_pos q1, if_pos q2]
      refine wph_region (S := fun w' => Ext w9 w') (by decide +kernel) ?_
      intro w10 x10 hh10
      refine tk 0 ?_; refine gset ?_; refine tk 1 ?_; refine gset ?_; refine tk 3 ?_; refine gset ?_; refine tk 4 ?_; refine gset ?_
      refine wph_one (i := 2) (by decide +kernel) rfl rfl ?_
      refine wpl_callR (enters_of Tryz.func43 rfl rfl) rfl rfl (t10 u la _ (hu.ext (hx9.trans x10)) (by omega)) ?_
      intro r1 w11 x11 o11
      refine gset ?_
      have x911 := x10.trans x11
      refine wph_nil ⟨x911, ?_⟩
      refine wph_one (i := 5) (by decide +kernel) rfl rfl ?_
      refine wpl_callR (enters_of Tryz.func43 rfl rfl) rfl rfl (t10 v lb _ (hv.ext (hx9.trans x911)) (by omega)) ?_
      intro r2 w12 x12 o12
      refine gset ?_
      have x912 := x911.trans x12
      refine wph_nil ⟨x912, ?_⟩
      refine tk 6 ?_; refine gset ?_; refine tk 7 ?_; refine gset ?_
      refine wph_done (by decide +kernel) ?_
      have hx12 := hx9.trans x912
      have h12 := x912.at h9
      have sr1 := (o11.ext x12).sl
      have sr2 := o12.sl
      have pb12 := pts_block (x912.at b9)
      have pc12 := pts_block (x912.at c9)
      repeat' (first | ((with_reducible refine o_s ?_); (first | (refine o_1 ?_; refine o_2 ?_) | (refine o_g ?_; first | refine o_u ?_ | refine o_k ?_ | refine o_n ?_ | refine o_v ?_ | ((first | refine o_G ?_ ?_ | refine o_N ?_ ?_) <;> intro hc)))) | ((fail_if_success (with_reducible refine o_s ?_)); go_step))
      refine wpi_region 11 (Ext w12) (by decide +kernel) ?_
      intro w13 x13 _
      refine ⟨x13, ?_⟩
      ((with_reducible apply wpi_take (i := 0)); (rfl); (rfl); (rfl); (decide +kernel); (decide +kernel); (decide +kernel); (decide +kernel); (rfl); (intro _ _; exact rn); (exact fun _ _ _ h => h); (refine gset ?_)); ((with_reducible apply wpi_take (i := 1)); (rfl); (rfl); (rfl); (decide +kernel); (decide +kernel); (decide +kernel); (decide +kernel); (rfl); (intro _ _; exact rn); (exact fun _ _ _ h => h); (refine gset ?_)); ((with_reducible apply wpi_take (i := 2)); (rfl); (rfl); (rfl); (decide +kernel); (decide +kernel); (decide +kernel); (decide +kernel); (rfl); (intro _ _; exact rn); (exact fun _ _ _ h => h); (refine gset ?_)); ((with_reducible apply wpi_take (i := 3)); (rfl); (rfl); (rfl); (decide +kernel); (decide +kernel); (decide +kernel); (decide +kernel); (rfl); (intro _ _; exact rn); (exact fun _ _ _ h => h); (refine gset ?_)); ((with_reducible apply wpi_take (i := 4)); (rfl); (rfl); (rfl); (decide +kernel); (decide +kernel); (decide +kernel); (decide +kernel); (rfl); (intro _ _; exact rn); (exact fun _ _ _ h => h); (refine gset ?_)); ((with_reducible apply wpi_take (i := 5)); (rfl); (rfl); (rfl); (decide +kernel); (decide +kernel); (decide +kernel); (decide +kernel); (rfl); (intro _ _; exact rn); (exact fun _ _ _ h => h); (refine gset ?_)); ((with_reducible apply wpi_take (i := 7)); (rfl); (rfl); (rfl); (decide +kernel); (decide +kernel); (decide +kernel); (decide +kernel); (rfl); (intro _ _; exact rn); (exact fun _ _ _ h => h); (refine gset ?_)); ((with_reducible apply wpi_take (i := 8)); (rfl); (rfl); (rfl); (decide +kernel); (decide +kernel); (decide +kernel); (decide +kernel); (rfl); (intro _ _; exact rn); (exact fun _ _ _ h => h); (refine gset ?_))
      refine wpi_op (i := 6) (by decide +kernel) rfl rfl ?_
      refine wpl_callR (enters_of Tryz.func67 rfl rfl) rfl rfl (p_less r1 r2 _ _ _ (sr1.ext x13) (sr2.ext x13) (by omega)) ?_
      intro g w14 x14 og
      refine gset ?_
      have x1214 := x13.trans x14
      refine wph_nil ⟨till_yes x1214, ?_⟩
      refine wpi_op (i := 9) (by decide +kernel) rfl rfl ?_
      refine wpl_callR (enters_of Tryz.func67 rfl rfl) rfl rfl (p_less r2 r1 _ _ _ (sr2.ext x1214) (sr1.ext x1214) (by omega)) ?_
      intro n w15 x15 on
      refine gset ?_
      have x1215 := x1214.trans x15
      refine wph_nil ⟨till_yes x1215, ?_⟩
      have sg := (og.ext x15).sl
      have sn := on.sl
      refine wpi_take (i := 10) (v := .agg #[.int .i64 (soaZ oa la).serial, .int .i64 (soaZ ob lb).serial, g, n]) rfl rfl rfl (by decide +kernel) (by decide +kernel) (by decide +kernel) (by decide +kernel) rfl (fun w' _ => Runs.build rfl (by obtain ⟨_, _, _, rfl⟩ := sg.slf; obtain ⟨_, _, _, rfl⟩ := sn.slf; kernel_rfl)) (fun _ _ _ h => h) ?_
      refine gset ?_
      refine wpi_op (i := 11) (by decide +kernel) rfl rfl ?_
      have h15 := x1215.at h12
      refine wpl_storeB (v := .agg #[.int .i64 (soaZ oa la).serial, .int .i64 (soaZ ob lb).serial, g, n]) rfl rfl rfl h15 (show sizeTy Tryz.prog 30 4 = true by decide +kernel) rfl (all4 rfl rfl sg.one sn.one) ?_
      intro w16 p16
      refine wph_nil ⟨till_no rfl, ?_⟩
      ((with_reducible apply wpi_pure (i := 12)); (rfl); (rfl); (rfl); (decide +kernel); (decide +kernel); (decide +kernel); (rfl); (intro _; exact rn); (exact fun _ _ _ h => h); (refine gset ?_))
      refine wpi_done (by decide +kernel) ?_
      have x16 : Ext w w16 := (hx12.trans x1215).move p16.mv (by rintro k ⟨⟩; exact zz)
      repeat' (first | ((with_reducible refine o_s ?_); (first | (refine o_1 ?_; refine o_2 ?_) | (refine o_g ?_; first | refine o_u ?_ | refine o_k ?_ | refine o_n ?_ | refine o_v ?_ | ((first | refine o_G ?_ ?_ | refine o_N ?_ ?_) <;> intro hc)))) | ((fail_if_success (with_reducible refine o_s ?_)); go_step))
      refine bodyPost_ret (results_cellT (cs := [.int .i64 (soaZ oa la).serial, .int .i64 (soaZ ob lb).serial, g, n]) rfl rfl p16.this (show aggTy Tryz.prog 30 4 = true by decide +kernel)) rfl ⟨_, rfl, x16, ?_⟩
      have hd : mkD oa la ob lb = ⟨(soaZ oa la).serial, (soaZ ob lb).serial, lessR (recordsS la) (recordsS lb), lessR (recordsS lb) (recordsS la)⟩ := by rw [mkD, if_pos he]
      rw [hd, he]
      exact ⟨_, rfl, g, n, rfl, (og.ext x15).mv p16.mv (.inr ((og.ext x15).neBlock h15 (by decide))) |>.weaken (hx12.trans x13).size, on.mv p16.mv (.inr (on.neBlock h15 (by decide))) |>.weaken (hx12.trans x1214).size⟩
set_option maxHeartbeats 500000 in
theorem r8_Few (o : List UInt8) (v : Value) (l : List RSet) (w : World) (hv : SetsAt w v l) : Calls Tryz.prog 25 #[.agg #[str o, v]] w (RetV w (.bool (decide ((o.length : Int) ≤ 300) && fewS l))) := by
  go_enter Tryz.func25, Tryz.ntmps25
  repeat' ((fail_if_success (with_reducible refine o_s ?_)); go_step)
  refine wpl_box (vs := [str o, v]) rfl rfl ?_
  intro p w1 x1 hp
  refine gset ?_
  have hv1 := hv.ext x1
  repeat' (first | ((with_reducible refine o_s ?_); (first | (refine o_1 ?_; refine o_2 ?_) | (refine o_g ?_; first | refine o_u ?_ | refine o_k ?_ | refine o_n ?_ | refine o_v ?_ | ((first | refine o_G ?_ ?_ | refine o_N ?_ ?_) <;> intro hc)))) | ((fail_if_success (with_reducible refine o_s ?_)); go_step))
  · refine wpl_callV (enters_of Tryz.func71 rfl rfl) rfl rfl (t14 v l _ hv1) ?_; intro w2 x2; refine gset ?_
    repeat' (first | ((with_reducible refine o_s ?_); (first | (refine o_1 ?_; refine o_2 ?_) | (refine o_g ?_; first | refine o_u ?_ | refine o_k ?_ | refine o_n ?_ | refine o_v ?_ | ((first | refine o_G ?_ ?_ | refine o_N ?_ ?_) <;> intro hc)))) | ((fail_if_success (with_reducible refine o_s ?_)); go_step))
    go_ret
    exact ⟨by rw [decide_eq_true hc]; rfl, x1.trans x2⟩
  · go_ret
    exact ⟨by rw [decide_eq_false hc]; rfl, x1⟩
set_option maxHeartbeats 500000 in
theorem r8_Same (o o' : List UInt8) (u v : Value) (a b : List RSet) (w : World) (hu : SetsAt w u a) (hv : SetsAt w v b) : Calls Tryz.prog 31 #[.agg #[str o, u], .agg #[str o', v]] w (RetV w (.bool (decide (o = o') && decide (a = b)))) := by
  go_enter Tryz.func31, Tryz.ntmps31
  repeat' ((fail_if_success (with_reducible refine o_s ?_)); go_step)
  refine wpl_box (vs := [str o, u]) rfl rfl ?_
  intro p w1 x1 hp
  refine gset ?_
  repeat' ((fail_if_success (with_reducible refine o_s ?_)); go_step)
  refine wpl_box (vs := [str o', v]) rfl rfl ?_
  intro q w2 x2 hq
  refine gset ?_
  have hx2 := x1.trans x2
  have hp2 := hp.ext x2
  repeat' (first | ((with_reducible refine o_s ?_); (first | (refine o_1 ?_; refine o_2 ?_) | (refine o_g ?_; first | refine o_u ?_ | refine o_k ?_ | refine o_n ?_ | refine o_v ?_ | ((first | refine o_G ?_ ?_ | refine o_N ?_ ?_) <;> intro hc)))) | ((fail_if_success (with_reducible refine o_s ?_)); go_step))
  · refine wpl_callV (enters_of Tryz.func80 rfl rfl) rfl rfl (t11 u v a b _ (hu.ext hx2) (hv.ext hx2)) ?_; intro w3 x3; refine gset ?_
    repeat' (first | ((with_reducible refine o_s ?_); (first | (refine o_1 ?_; refine o_2 ?_) | (refine o_g ?_; first | refine o_u ?_ | refine o_k ?_ | refine o_n ?_ | refine o_v ?_ | ((first | refine o_G ?_ ?_ | refine o_N ?_ ?_) <;> intro hc)))) | ((fail_if_success (with_reducible refine o_s ?_)); go_step))
    go_ret
    exact ⟨by rw [decide_eq_true hc]; rfl, hx2.trans x3⟩
  · go_ret
    exact ⟨by rw [decide_eq_false hc]; rfl, hx2⟩
theorem DelA.ext {d : DeltaR} {r : Value} {w w' : World} (h : DelA d r w) (hx : Ext w w') : DelA d r w' := by
  obtain ⟨g, n, e, a, b⟩ := h
  exact ⟨g, n, e, a.ext hx, b.ext hx⟩
theorem l10_Told {d : DeltaR} {r : Value} (w : World) (h : DelA d r w) : Calls Tryz.prog 24 #[r] w (RetV w r) := by
  obtain ⟨g, n, rfl, sg, sn⟩ := h
  go_enter Tryz.func24, Tryz.ntmps24
  repeat' ((fail_if_success (with_reducible refine o_s ?_)); go_step)
  refine wpl_box (vs := [.int .i64 d.fr, .int .i64 d.to, g, n]) rfl rfl ?_
  intro p w1 x1 hp
  refine gset ?_
  refine wpl_allocB (z := zdel) rfl (by decide +kernel) ?_
  intro w2 x2 s2 h2
  refine gset ?_
  have hx2 := x1.trans x2
  have zz := x1.size
  have hp2 := hp.ext x2
  repeat' (first | ((with_reducible refine o_s ?_); (first | (refine o_1 ?_; refine o_2 ?_) | (refine o_g ?_; first | refine o_u ?_ | refine o_k ?_ | refine o_n ?_ | refine o_v ?_ | ((first | refine o_G ?_ ?_ | refine o_N ?_ ?_) <;> intro hc)))) | ((fail_if_success (with_reducible refine o_s ?_)); go_step))
  refine wpl_run (v := .agg #[.int .i64 d.fr, .int .i64 d.to, g, n]) rfl (Runs.build rfl (by obtain ⟨_, _, _, rfl⟩ := sg.slf; obtain ⟨_, _, _, rfl⟩ := sn.slf; kernel_rfl)) ?_
  refine gset ?_
  refine wpl_storeB (v := .agg #[.int .i64 d.fr, .int .i64 d.to, g, n]) rfl rfl rfl h2 (show sizeTy Tryz.prog 34 4 = true by decide +kernel) rfl (all4 rfl rfl sg.one sn.one) ?_
  intro w3 p3
  have x3 : Ext w w3 := hx2.move p3.mv (by rintro k ⟨⟩; exact zz)
  repeat' (first | ((with_reducible refine o_s ?_); (first | (refine o_1 ?_; refine o_2 ?_) | (refine o_g ?_; first | refine o_u ?_ | refine o_k ?_ | refine o_n ?_ | refine o_v ?_ | ((first | refine o_G ?_ ?_ | refine o_N ?_ ?_) <;> intro hc)))) | ((fail_if_success (with_reducible refine o_s ?_)); go_step))
  exact bodyPost_ret (results_cell1 (cs := [.int .i64 d.fr, .int .i64 d.to, g, n]) rfl rfl p3.this (show aggTy Tryz.prog 34 4 = true by decide +kernel)) rfl ⟨rfl, x3⟩
theorem l10_few (oa ob : List UInt8) (u v : Value) (la lb : List RSet) (w : World) (hu : SetsAt w u la) (hv : SetsAt w v lb) : Calls Tryz.prog 19 #[.agg #[str oa, u], .agg #[str ob, v]] w (RetV w (.bool ((decide ((oa.length : Int) ≤ 300) && fewS la) && (decide ((ob.length : Int) ≤ 300) && fewS lb)))) := by
  go_enter Tryz.func19, Tryz.ntmps19
  repeat' ((fail_if_success (with_reducible refine o_s ?_)); go_step)
  refine wpl_box (vs := [str oa, u]) rfl rfl ?_
  intro p w1 x1 hp
  refine gset ?_
  refine wpl_box (vs := [str ob, v]) rfl rfl ?_
  intro q w2 x2 hq
  refine gset ?_
  have hx2 := x1.trans x2
  have hp2 := hp.ext x2
  repeat' (first | ((with_reducible refine o_s ?_); (first | (refine o_1 ?_; refine o_2 ?_) | (refine o_g ?_; first | refine o_u ?_ | refine o_k ?_ | refine o_n ?_ | refine o_v ?_ | ((first | refine o_G ?_ ?_ | refine o_N ?_ ?_) <;> intro hc)))) | ((fail_if_success (with_reducible refine o_s ?_)); go_step))
  refine wpl_callV (enters_of Tryz.func25 rfl rfl) rfl rfl (r8_Few oa u la _ (hu.ext hx2)) ?_; intro w3 x3; refine gset ?_
  have hx3 := hx2.trans x3
  have hq3 := hq.ext x3
  cases hg : (decide ((oa.length : Int) ≤ 300) && fewS la) with
  | false =>
    repeat' (first | ((with_reducible refine o_s ?_); (first | (refine o_1 ?_; refine o_2 ?_) | (refine o_g ?_; first | refine o_u ?_ | refine o_k ?_ | refine o_n ?_ | refine o_v ?_ | ((first | refine o_G ?_ ?_ | refine o_N ?_ ?_) <;> intro hc)))) | ((fail_if_success (with_reducible refine o_s ?_)); go_step))
    go_ret
    exact ⟨by rw [hg]; rfl, hx3⟩
  | true =>
    repeat' (first | ((with_reducible refine o_s ?_); (first | (refine o_1 ?_; refine o_2 ?_) | (refine o_g ?_; first | refine o_u ?_ | refine o_k ?_ | refine o_n ?_ | refine o_v ?_ | ((first | refine o_G ?_ ?_ | refine o_N ?_ ?_) <;> intro hc)))) | ((fail_if_success (with_reducible refine o_s ?_)); go_step))
    refine wpl_callV (enters_of Tryz.func25 rfl rfl) rfl rfl (r8_Few ob v lb _ (hv.ext hx3)) ?_; intro w4 x4; refine gset ?_
    repeat' (first | ((with_reducible refine o_s ?_); (first | (refine o_1 ?_; refine o_2 ?_) | (refine o_g ?_; first | refine o_u ?_ | refine o_k ?_ | refine o_n ?_ | refine o_v ?_ | ((first | refine o_G ?_ ?_ | refine o_N ?_ ?_) <;> intro hc)))) | ((fail_if_success (with_reducible refine o_s ?_)); go_step))
    go_ret
    exact ⟨by rw [hg]; rfl, hx3.trans x4⟩
theorem same_del {a b : DeltaR} : decide (a = b) = (decide (a.fr = b.fr) && decide (a.to = b.to) && decide (a.gone = b.gone) && decide (a.new = b.new)) := by
  rw [Bool.eq_iff_iff]
  cases a; cases b
  simp [and_assoc]
theorem r10_Same {a b : DeltaR} {r q : Value} (w : World) (h : DelA a r w) (k : DelA b q w) : Calls Tryz.prog 23 #[r, q] w (RetV w (.bool (decide (a = b)))) := by
  obtain ⟨g, n, rfl, sg, sn⟩ := h
  obtain ⟨g', n', rfl, sg', sn'⟩ := k
  rw [same_del]
  go_enter Tryz.func23, Tryz.ntmps23
  repeat' ((fail_if_success (with_reducible refine o_s ?_)); go_step)
  refine wpl_box (vs := [.int .i64 a.fr, .int .i64 a.to, g, n]) rfl rfl ?_
  intro p w1 x1 hp
  refine gset ?_
  refine wpl_box (vs := [.int .i64 b.fr, .int .i64 b.to, g', n']) rfl rfl ?_
  intro p' w2 x2 hq
  refine gset ?_
  have hx2 := x1.trans x2
  have hp2 := hp.ext x2
  repeat' (first | ((with_reducible refine o_s ?_); (first | (refine o_1 ?_; refine o_2 ?_) | (refine o_g ?_; first | refine o_u ?_ | refine o_k ?_ | refine o_n ?_ | refine o_v ?_ | ((first | refine o_G ?_ ?_ | refine o_N ?_ ?_) <;> intro hc)))) | ((fail_if_success (with_reducible refine o_s ?_)); go_step))
  · have c1 : a.fr = b.fr := by assumption
    refine wpl_callV (enters_of Tryz.func42 rfl rfl) rfl rfl (r3_Same g g' a.gone b.gone _ (sg.ext hx2) (sg'.ext hx2)) ?_; intro w3 x3; refine gset ?_
    have hx3 := hx2.trans x3
    have hp3 := hp2.ext x3
    have hq3 := hq.ext x3
    cases hg : decide (a.gone = b.gone) with
    | false =>
      repeat' (first | ((with_reducible refine o_s ?_); (first | (refine o_1 ?_; refine o_2 ?_) | (refine o_g ?_; first | refine o_u ?_ | refine o_k ?_ | refine o_n ?_ | refine o_v ?_ | ((first | refine o_G ?_ ?_ | refine o_N ?_ ?_) <;> intro hc)))) | ((fail_if_success (with_reducible refine o_s ?_)); go_step))
      go_ret
      exact ⟨by rw [decide_eq_true c1, decide_eq_true hc, hg]; rfl, hx3⟩
    | true =>
      repeat' (first | ((with_reducible refine o_s ?_); (first | (refine o_1 ?_; refine o_2 ?_) | (refine o_g ?_; first | refine o_u ?_ | refine o_k ?_ | refine o_n ?_ | refine o_v ?_ | ((first | refine o_G ?_ ?_ | refine o_N ?_ ?_) <;> intro hc)))) | ((fail_if_success (with_reducible refine o_s ?_)); go_step))
      refine wpl_callV (enters_of Tryz.func42 rfl rfl) rfl rfl (r3_Same n n' a.new b.new _ (sn.ext hx3) (sn'.ext hx3)) ?_; intro w4 x4; refine gset ?_
      repeat' (first | ((with_reducible refine o_s ?_); (first | (refine o_1 ?_; refine o_2 ?_) | (refine o_g ?_; first | refine o_u ?_ | refine o_k ?_ | refine o_n ?_ | refine o_v ?_ | ((first | refine o_G ?_ ?_ | refine o_N ?_ ?_) <;> intro hc)))) | ((fail_if_success (with_reducible refine o_s ?_)); go_step))
      go_ret
      exact ⟨by rw [decide_eq_true c1, decide_eq_true hc, hg]; rfl, hx3.trans x4⟩
  · have c1 : a.fr = b.fr := by assumption
    go_ret
    exact ⟨by rw [decide_eq_true c1, decide_eq_false hc]; rfl, hx2⟩
  · go_ret
    exact ⟨by rw [decide_eq_false hc]; rfl, hx2⟩
theorem p_Invert {d : DeltaR} {r : Value} (w : World) (h : DelA d r w) (b1 : d.gone.length ≤ 100000) (b2 : d.new.length ≤ 100000) : Calls Tryz.prog 35 #[r] w (Ret w (DelO w.heap.size (invD d))) := by
  obtain ⟨g, n, rfl, sg, sn⟩ := h
  go_enter Tryz.func35, Tryz.ntmps35
  repeat' ((fail_if_success (with_reducible refine o_s ?_)); go_step)
  refine wpl_box (vs := [.int .i64 d.fr, .int .i64 d.to, g, n]) rfl rfl ?_
  intro p w1 x1 hp
  refine gset ?_
  refine wpl_allocB (z := zdel) rfl (by decide +kernel) ?_
  intro w2 x2 s2 h2
  refine gset ?_
  have hx2 := x1.trans x2
  have zz := x1.size
  have hp2 := hp.ext x2
  repeat' (first | ((with_reducible refine o_s ?_); (first | (refine o_1 ?_; refine o_2 ?_) | (refine o_g ?_; first | refine o_u ?_ | refine o_k ?_ | refine o_n ?_ | refine o_v ?_ | ((first | refine o_G ?_ ?_ | refine o_N ?_ ?_) <;> intro hc)))) | ((fail_if_success (with_reducible refine o_s ?_)); go_step))
  refine wpi_region 11 (Ext w2) (by decide +kernel) ?_
  intro w3 x3 _
  refine ⟨x3, ?_⟩
  ((with_reducible apply wpi_take (i := 0)); (rfl); (rfl); (rfl); (decide +kernel); (decide +kernel); (decide +kernel); (decide +kernel); (rfl); (intro _ _; exact rn); (exact fun _ _ _ h => h); (refine gset ?_)); ((with_reducible apply wpi_take (i := 1)); (rfl); (rfl); (rfl); (decide +kernel); (decide +kernel); (decide +kernel); (decide +kernel); (rfl); (intro _ _; exact rn); (exact fun _ _ _ h => h); (refine gset ?_)); ((with_reducible apply wpi_take (i := 2)); (rfl); (rfl); (rfl); (decide +kernel); (decide +kernel); (decide +kernel); (decide +kernel); (rfl); (intro _ _; exact rn); (exact fun _ _ _ h => h); (refine gset ?_)); ((with_reducible apply wpi_take (i := 3)); (rfl); (rfl); (rfl); (decide +kernel); (decide +kernel); (decide +kernel); (decide +kernel); (rfl); (intro _ _; exact rn); (exact fun _ _ _ h => h); (refine gset ?_)); ((with_reducible apply wpi_take (i := 4)); (rfl); (rfl); (rfl); (decide +kernel); (decide +kernel); (decide +kernel); (decide +kernel); (rfl); (intro _ _; exact rn); (exact fun _ _ _ h => h); (refine gset ?_)); ((with_reducible apply wpi_take (i := 5)); (rfl); (rfl); (rfl); (decide +kernel); (decide +kernel); (decide +kernel); (decide +kernel); (rfl); (intro _ _; exact rn); (exact fun _ _ _ h => h); (refine gset ?_)); ((with_reducible apply wpi_take (i := 7)); (rfl); (rfl); (rfl); (decide +kernel); (decide +kernel); (decide +kernel); (decide +kernel); (rfl); (intro _ _; exact rn); (exact fun _ _ _ h => h); (refine gset ?_)); ((with_reducible apply wpi_take (i := 8)); (rfl); (rfl); (rfl); (decide +kernel); (decide +kernel); (decide +kernel); (decide +kernel); (rfl); (intro _ _; exact rn); (exact fun _ _ _ h => h); (refine gset ?_))
  refine wpi_op (i := 6) (by decide +kernel) rfl rfl ?_
  refine wpl_callR (enters_of Tryz.func82 rfl rfl) rfl rfl (p_CloneR n d.new _ (sn.ext (hx2.trans x3)) (by omega)) ?_
  intro n' w4 x4 on
  refine gset ?_
  have x24 := x3.trans x4
  refine wph_nil ⟨till_yes x24, ?_⟩
  refine wpi_op (i := 9) (by decide +kernel) rfl rfl ?_
  refine wpl_callR (enters_of Tryz.func82 rfl rfl) rfl rfl (p_CloneR g d.gone _ (sg.ext (hx2.trans x24)) (by omega)) ?_
  intro g' w5 x5 og
  refine gset ?_
  have x25 := x24.trans x5
  refine wph_nil ⟨till_yes x25, ?_⟩
  have on5 := on.ext x5
  have sg5 := og.sl
  have sn5 := on5.sl
  refine wpi_take (i := 10) (v := .agg #[.int .i64 d.to, .int .i64 d.fr, n', g']) rfl rfl rfl (by decide +kernel) (by decide +kernel) (by decide +kernel) (by decide +kernel) rfl (fun w' _ => Runs.build rfl (by obtain ⟨_, _, _, rfl⟩ := sg5.slf; obtain ⟨_, _, _, rfl⟩ := sn5.slf; kernel_rfl)) (fun _ _ _ h => h) ?_
  refine gset ?_
  refine wpi_op (i := 11) (by decide +kernel) rfl rfl ?_
  have h5 := x25.at h2
  refine wpl_storeB (v := .agg #[.int .i64 d.to, .int .i64 d.fr, n', g']) rfl rfl rfl h5 (show sizeTy Tryz.prog 30 4 = true by decide +kernel) rfl (all4 rfl rfl sn5.one sg5.one) ?_
  intro w6 p6
  refine wph_nil ⟨till_no rfl, ?_⟩
  refine wpi_done (by decide +kernel) ?_
  have x6 : Ext w w6 := (hx2.trans x25).move p6.mv (by rintro k ⟨⟩; exact zz)
  repeat' (first | ((with_reducible refine o_s ?_); (first | (refine o_1 ?_; refine o_2 ?_) | (refine o_g ?_; first | refine o_u ?_ | refine o_k ?_ | refine o_n ?_ | refine o_v ?_ | ((first | refine o_G ?_ ?_ | refine o_N ?_ ?_) <;> intro hc)))) | ((fail_if_success (with_reducible refine o_s ?_)); go_step))
  refine bodyPost_ret (results_cell1 (cs := [.int .i64 d.to, .int .i64 d.fr, n', g']) rfl rfl p6.this (show aggTy Tryz.prog 30 4 = true by decide +kernel)) rfl ⟨_, rfl, x6, ?_⟩
  exact ⟨n', g', rfl, on5.mv p6.mv (.inr (on5.neBlock h5 (by decide))) |>.weaken (hx2.trans x3).size, og.mv p6.mv (.inr (og.neBlock h5 (by decide))) |>.weaken (hx2.trans x24).size⟩
theorem goneF_append : ∀ (g h l : List Rec), goneF l (g ++ h) = (goneF l g).bind fun m => goneF m h
  | [], h, l => by simp [goneF]
  | r :: g, h, l => by
    rw [List.cons_append, goneF, goneF]
    split
    · exact goneF_append g h _
    · rfl
theorem newF_append : ∀ (g h l : List Rec), newF l (g ++ h) = (newF l g).bind fun m => newF m h
  | [], h, l => by simp [newF]
  | r :: g, h, l => by
    rw [List.cons_append, newF, newF]
    split
    · rfl
    · exact newF_append g h _
theorem gone_step {l m g : List Rec} {k : Nat} (hk : k < g.length) (h : goneF l (g.take k) = some m) : goneF l (g.take (k + 1)) = if g[k] ∈ m then some (m.erase g[k]) else none := by
  rw [List.take_succ_eq_append_getElem hk, goneF_append, h]
  simp [goneF]
theorem new_step {l m g : List Rec} {k : Nat} (hk : k < g.length) (h : newF l (g.take k) = some m) : newF l (g.take (k + 1)) = if g[k] ∈ m then none else some (m ++ [g[k]]) := by
  rw [List.take_succ_eq_append_getElem hk, newF_append, h]
  simp [newF]
theorem gone_bad {l m g : List Rec} {k : Nat} (hk : k < g.length) (h : goneF l (g.take k) = some m) (hn : g[k] ∉ m) : goneF l g = none := by
  rw [← List.take_append_drop k g, goneF_append, h, List.drop_eq_getElem_cons hk]
  simp [goneF, hn]
theorem new_bad {l m g : List Rec} {k : Nat} (hk : k < g.length) (h : newF l (g.take k) = some m) (hn : g[k] ∈ m) : newF l g = none := by
  rw [← List.take_append_drop k g, newF_append, h, List.drop_eq_getElem_cons hk]
  simp [newF, hn]
theorem gone_len : ∀ {g l m : List Rec}, goneF l g = some m → m.length ≤ l.length ∧ ∀ r ∈ m, r ∈ l
  | [], l, m, h => by rw [goneF] at h; cases h; exact ⟨Nat.le_refl _, fun _ h => h⟩
  | r :: g, l, m, h => by
    rw [goneF] at h
    split at h
    · obtain ⟨h1, h2⟩ := gone_len h
      exact ⟨Nat.le_trans h1 (List.length_erase_le), fun q hq => List.mem_of_mem_erase (h2 q hq)⟩
    · cases h
theorem new_len : ∀ {g l m : List Rec}, newF l g = some m → m.length = l.length + g.length ∧ ∀ r ∈ m, r ∈ l ∨ r ∈ g
  | [], l, m, h => by rw [newF] at h; cases h; exact ⟨by simp, fun _ h => .inl h⟩
  | r :: g, l, m, h => by
    rw [newF] at h
    split at h
    · cases h
    · obtain ⟨h1, h2⟩ := new_len h
      refine ⟨by rw [h1]; simp; omega, fun q hq => ?_⟩
      rcases h2 q hq with h3 | h3
      · rcases List.mem_append.1 h3 with h4 | h4
        · exact .inl h4
        · exact .inr (by rw [List.mem_singleton.1 h4]; simp)
      · exact .inr (List.mem_cons_of_mem _ h3)
theorem idx_mem {m : List Rec} {r : Rec} (h : r ∈ m) : ∃ i, i < m.length ∧ idxI (fun q => decide (r = q)) m = (i : Nat) ∧ m.eraseIdx i = m.erase r := by
  have hlt := List.idxOf_lt_length_of_mem h
  refine ⟨m.idxOf r, hlt, idx_at hlt ?_ ?_, (List.erase_eq_eraseIdx_of_idxOf rfl).symm⟩
  · rw [any_mem, decide_eq_false_iff_not]
    intro hm
    obtain ⟨j, hj, he⟩ := List.getElem_of_mem hm
    rw [List.length_take] at hj
    rw [List.getElem_take] at he
    have := List.not_of_lt_findIdx (p := (· == r)) (xs := m) (i := j) (by unfold List.idxOf at hj; omega)
    simp [he] at this
  · have := List.getElem_idxOf hlt
    rw [this]; simp
theorem idx_none {m : List Rec} {r : Rec} (h : r ∉ m) : idxI (fun q => decide (r = q)) m = -1 := idx_no (by rw [any_mem, decide_eq_false h])
theorem recs_len {s : RSet} : (recsOf s).length = s.data.length := by simp [recsOf]
theorem putS_recs (r : Rec) : ∀ gs : List RSet, (recordsS (putS r gs)).length ≤ (recordsS gs).length + 1
  | [] => by simp [putS, recordsS, recsOf, recSet]
  | g :: gs => by
    have ih := putS_recs r gs
    unfold recordsS at ih ⊢
    rw [putS]
    split
    · simp only [List.map_cons, List.flatten_cons, List.length_append] at ih ⊢; omega
    · split
      · simp only [List.map_cons, List.flatten_cons, List.length_append]
        have : (recsOf (recSet r)).length = 1 := rfl
        omega
      · simp only [List.map_cons, List.flatten_cons, List.length_append]
        have h1 : (recsOf ⟨fold r.name, r.kind, min r.ttl g.ttl, textS r.data g.data⟩).length ≤ (recsOf g).length + 1 := by
          rw [recs_len, recs_len]
          exact textS_len _ _
        omega
theorem putAll_recs (l : List Rec) : ∀ k, k ≤ l.length → (recordsS (putAll (l.take k))).length ≤ k
  | 0, _ => by simp [putAll, recordsS]
  | k + 1, h => by
    rw [putAll_succ h]
    have := putS_recs l[k] (putAll (l.take k))
    have ih := putAll_recs l k (by omega)
    omega
theorem loadL_bounds {o : List UInt8} {m : List Rec} {n : Nat} (hm : ∀ r ∈ m, r.data.length ≤ n) : (∀ s ∈ loadL o m, s.data.length ≤ m.length) ∧ (∀ s ∈ loadL o m, ∀ d ∈ s.data, d.length ≤ n) ∧ (recordsS (loadL o m)).length ≤ m.length := by
  unfold loadL
  split
  · refine ⟨putAll_len m, fun s hs d hd => ?_, ?_⟩
    · obtain ⟨r, hr, rfl⟩ := putAll_data hs hd
      exact hm r hr
    · have := putAll_recs m m.length (Nat.le_refl _)
      rwa [List.take_length] at this
  · simp [recordsS]
theorem recs_data {l : List RSet} {n : Nat} (h : ∀ s ∈ l, ∀ d ∈ s.data, d.length ≤ n) : ∀ r ∈ recordsS l, r.data.length ≤ n := by
  intro r hr
  unfold recordsS at hr
  obtain ⟨x, hx, hr⟩ := List.mem_flatten.1 hr
  obtain ⟨s, hs, rfl⟩ := List.mem_map.1 hx
  unfold recsOf at hr
  obtain ⟨d, hd, rfl⟩ := List.mem_map.1 hr
  exact h s hs d hd
def AppU (B : Nat) (o : List UInt8) (l : List RSet) (d : DeltaR) (q : Value) (w : World) : Prop := ∃ y, q = .tuple #[.agg #[str (appO o l d), y], .int .i64 (appE o l d)] ∧ SetsO B w y (appL o l d)
theorem AppU.bad {B : Nat} {o : List UInt8} {l : List RSet} {d : DeltaR} {e : Int} {w : World} (h : appE o l d = e) (he : e ≠ 0) : AppU B o l d (.tuple #[.agg zzone.toArray, .int .i64 e]) w := by
  refine ⟨.slice none 0 0, ?_, ?_⟩
  · rw [appO, if_neg (by rw [h]; exact he), h]; rfl
  · rw [appL, if_neg (by rw [h]; exact he)]; exact SetsO.nil _ _
theorem appE_none {o : List UInt8} {l : List RSet} {d : DeltaR} (q0 : zoneR o l = 0) (q1 : (soaZ o l).serial = d.fr) (h : editR (recordsS l) d = none) : appE o l d = 5 := by rw [appE, if_pos q0, if_pos q1, h]
theorem appE_some {o : List UInt8} {l : List RSet} {d : DeltaR} {x : List Rec} (q0 : zoneR o l = 0) (q1 : (soaZ o l).serial = d.fr) (h : editR (recordsS l) d = some x) : appE o l d = endE o x d.to := by rw [appE, if_pos q0, if_pos q1, h]
theorem edit_none1 {l : List Rec} {d : DeltaR} (h : goneF l d.gone = none) : editR l d = none := by rw [editR, h]; rfl
theorem edit_of {l m : List Rec} {d : DeltaR} (h : goneF l d.gone = some m) : editR l d = newF m d.new := by rw [editR, h]; rfl
set_option maxHeartbeats 8000000 in
theorem p_Apply (o : List UInt8) (v : Value) (l : List RSet) {d : DeltaR} {r : Value} (w : World) (hv : SetsAt w v l) (hd : DelA d r w)
    (bl : ∀ s ∈ l, s.data.length ≤ 1000000) (dl : ∀ s ∈ l, ∀ d ∈ s.data, d.length ≤ 1000000) (h1 : (recordsS l).length ≤ 5000) (h2 : d.new.length ≤ 5000) (dn : ∀ q ∈ d.new, q.data.length ≤ 1000000) :
    Calls Tryz.prog 28 #[.agg #[str o, v], r] w (Ret w (AppU w.heap.size o l d)) := by
  obtain ⟨g, n, rfl, sg, sn⟩ := hd
  have lg := rcells_length d.gone
  have ln := rcells_length d.new
  have lgl := sg.le
  have lnl := sn.le
  go_enter Tryz.func28, Tryz.ntmps28
  repeat' ((fail_if_success (with_reducible refine o_s ?_)); go_step)
  refine wpl_box (vs := [str o, v]) rfl rfl ?_
  intro p w1 x1 hp
  refine gset ?_
  refine wpl_box (vs := [.int .i64 d.fr, .int .i64 d.to, g, n]) rfl rfl ?_
  intro q w2 x2 hq
  refine gset ?_
  refine wpl_allocB (z := zzone) rfl (by decide +kernel) ?_
  intro w3 x3 s3 h3
  refine gset ?_
  have hx3 := (x1.trans x2).trans x3
  have zz := (x1.trans x2).size
  have hp3 := (hp.ext x2).ext x3
  have hq3 := hq.ext x3
  repeat' (first | ((with_reducible refine o_s ?_); (first | (refine o_1 ?_; refine o_2 ?_) | (refine o_g ?_; first | refine o_u ?_ | refine o_k ?_ | refine o_n ?_ | refine o_v ?_ | ((first | refine o_G ?_ ?_ | refine o_N ?_ ?_) <;> intro hc)))) | ((fail_if_success (with_reducible refine o_s ?_)); go_step))
  refine wpl_callV (enters_of Tryz.func63 rfl rfl) rfl rfl (p_Soa o v l _ (hv.ext hx3) bl (fun s hs d hd => by have := dl s hs d hd; omega)) ?_; intro w4 x4; refine gset ?_
  have hx4 := hx3.trans x4
  repeat' (first | ((with_reducible refine o_s ?_); (first | (refine o_1 ?_; refine o_2 ?_) | (refine o_g ?_; first | refine o_u ?_ | refine o_k ?_ | refine o_n ?_ | refine o_v ?_ | ((first | refine o_G ?_ ?_ | refine o_N ?_ ?_) <;> intro hc)))) | ((fail_if_success (with_reducible refine o_s ?_)); go_step))
  refine wpl_allocB (z := zeroSoa) rfl (by decide +kernel) ?_
  intro w5 x5 s5 h5
  refine gset ?_
  refine wpl_storeB (v := .agg (soaZ o l).cells.toArray) rfl rfl rfl h5 (show sizeTy Tryz.prog 103 7 = true by decide +kernel) rfl (soaR_one _) ?_
  intro w6 p6
  have x46 : Ext w4 w6 := x5.move p6.mv (by rintro k ⟨⟩; exact Nat.le_refl _)
  have b6 : w6.heap[w4.heap.size]? = some (.cells (soaZ o l).cells.toArray 103 (0, 0)) := p6.this
  have x36 := x4.trans x46
  have hx6 := hx3.trans x36
  clear p6 h5 x5
  have h6 := x36.at h3
  have hp6 := hp3.ext x36
  have hq6 := hq3.ext x36
  repeat' (first | ((with_reducible refine o_s ?_); (first | (refine o_1 ?_; refine o_2 ?_) | (refine o_g ?_; first | refine o_u ?_ | refine o_k ?_ | refine o_n ?_ | refine o_v ?_ | ((first | refine o_G ?_ ?_ | refine o_N ?_ ?_) <;> intro hc)))) | ((fail_if_success (with_reducible refine o_s ?_)); go_step))
  · have q0 : ¬ zoneR o l = 0 := by simpa using (by assumption : (!decide (zoneR o l = 0)) = true)
    refine wpl_run (v := .agg zzone.toArray) rfl (Runs.build0 (by kernel_rfl)) ?_
    refine gset ?_
    repeat' (first | ((with_reducible refine o_s ?_); (first | (refine o_1 ?_; refine o_2 ?_) | (refine o_g ?_; first | refine o_u ?_ | refine o_k ?_ | refine o_n ?_ | refine o_v ?_ | ((first | refine o_G ?_ ?_ | refine o_N ?_ ?_) <;> intro hc)))) | ((fail_if_success (with_reducible refine o_s ?_)); go_step))
    refine wpl_storeB (v := .agg zzone.toArray) rfl rfl rfl h6 (by decide +kernel) rfl (by decide +kernel) ?_
    intro wz pz
    have xz : Ext w wz := hx6.move pz.mv (by rintro k ⟨⟩; exact zz)
    repeat' (first | ((with_reducible refine o_s ?_); (first | (refine o_1 ?_; refine o_2 ?_) | (refine o_g ?_; first | refine o_u ?_ | refine o_k ?_ | refine o_n ?_ | refine o_v ?_ | ((first | refine o_G ?_ ?_ | refine o_N ?_ ?_) <;> intro hc)))) | ((fail_if_success (with_reducible refine o_s ?_)); go_step))
    refine bodyPost_ret (results_cellT (cs := zzone) rfl rfl pz.this (by decide +kernel)) rfl ⟨_, rfl, xz, ?_⟩
    exact AppU.bad (by rw [appE, if_neg q0]) q0
  · have q0 : zoneR o l = 0 := by simpa using (by assumption : (!decide (zoneR o l = 0)) = false)
    have pb6 := pts_block b6
    have pb6' : Pts w6 (.pointer (some ⟨w4.heap.size, 0, none⟩)) [str (soaZ o l).main, str (soaZ o l).mail, .int .i64 (soaZ o l).serial, .int .i64 (soaZ o l).refresh, .int .i64 (soaZ o l).retry, .int .i64 (soaZ o l).expire, .int .i64 (soaZ o l).minimum] := pb6
    repeat' (first | ((with_reducible refine o_s ?_); (first | (refine o_1 ?_; refine o_2 ?_) | (refine o_g ?_; first | refine o_u ?_ | refine o_k ?_ | refine o_n ?_ | refine o_v ?_ | ((first | refine o_G ?_ ?_ | refine o_N ?_ ?_) <;> intro hc)))) | ((fail_if_success (with_reducible refine o_s ?_)); go_step))
    · have q1 : ¬ (soaZ o l).serial = d.fr := by simpa using (by assumption : (!decide ((soaZ o l).serial = d.fr)) = true)
      refine wpl_run (v := .agg zzone.toArray) rfl (Runs.build0 (by kernel_rfl)) ?_
      refine gset ?_
      refine wpl_storeB (v := .agg zzone.toArray) rfl rfl rfl h6 (by decide +kernel) rfl (by decide +kernel) ?_
      intro wz pz
      have xz : Ext w wz := hx6.move pz.mv (by rintro k ⟨⟩; exact zz)
      repeat' (first | ((with_reducible refine o_s ?_); (first | (refine o_1 ?_; refine o_2 ?_) | (refine o_g ?_; first | refine o_u ?_ | refine o_k ?_ | refine o_n ?_ | refine o_v ?_ | ((first | refine o_G ?_ ?_ | refine o_N ?_ ?_) <;> intro hc)))) | ((fail_if_success (with_reducible refine o_s ?_)); go_step))
      refine bodyPost_ret (results_cellT (cs := zzone) rfl rfl pz.this (by decide +kernel)) rfl ⟨_, rfl, xz, ?_⟩
      exact AppU.bad (by rw [appE, if_pos q0, if_neg q1]) (by decide)
    · have q1 : (soaZ o l).serial = d.fr := by simpa using (by assumption : (!decide ((soaZ o l).serial = d.fr)) = false)
      refine wpl_callR (enters_of Tryz.func43 rfl rfl) rfl rfl (t10 v l _ (hv.ext hx6) (by omega)) ?_
      intro r0 w7 x7 o7
      refine gset ?_
      have hq7 := hq6.ext x7
      have sg6 := sg.ext hx6
      have sn6 := sn.ext hx6
      have hrd := recs_data dl
      repeat' (first | ((with_reducible refine o_s ?_); (first | (refine o_1 ?_; refine o_2 ?_) | (refine o_g ?_; first | refine o_u ?_ | refine o_k ?_ | refine o_n ?_ | refine o_v ?_ | ((first | refine o_G ?_ ?_ | refine o_N ?_ ?_) <;> intro hc)))) | ((fail_if_success (with_reducible refine o_s ?_)); go_step))
      go_loopw [8, 10, 11, 39] (fun o _ _ i wr => ∃ (k : Nat) (m : List Rec), k ≤ d.gone.length ∧ i = .int .i64 k ∧ Ext w6 wr ∧ Own w6.heap.size 4 75 wr o (rcells m) ∧ goneF (recordsS l) (d.gone.take k) = some m) (fun _ _ _ i _ => d.gone.length - (intOf i).toNat)
      case atStart => exact ⟨0, recordsS l, Nat.zero_le _, rfl, x7, o7, rfl⟩
      case round =>
        obtain ⟨k, m, hk, rfl, hx, ho, hg⟩ := hrel
        obtain ⟨gl, gm⟩ := gone_len hg
        have hml := rcells_length m
        have hsg := sg6.ext hx
        have hqr := hq6.ext hx
        have hpr := hp6.ext hx
        by_cases hlt : k < d.gone.length
        · have hpe := hsg.elem (rcells_at hlt)
          repeat' (first | ((with_reducible refine o_s ?_); (first | (refine o_1 ?_; refine o_2 ?_) | (refine o_g ?_; first | refine o_u ?_ | refine o_k ?_ | refine o_n ?_ | refine o_v ?_ | ((first | refine o_G ?_ ?_ | refine o_N ?_ ?_) <;> intro hc)))) | ((fail_if_success (with_reducible refine o_s ?_)); go_step))
          refine wpl_allocB (z := zrec) rfl (by decide +kernel) ?_
          intro w8 x8 s8 h8
          refine gset ?_
          refine wpl_storeB (v := .agg #[str d.gone[k].name, .int .i64 d.gone[k].kind, .int .i64 d.gone[k].ttl, str d.gone[k].data]) rfl rfl rfl h8 (show sizeTy Tryz.prog 75 4 = true by decide +kernel) rfl (all4 rfl rfl rfl rfl) ?_
          intro w9 p9
          have x9 : Ext wr w9 := x8.move p9.mv (by rintro k ⟨⟩; exact Nat.le_refl _)
          have hp9 := pts_block (cs := [str d.gone[k].name, .int .i64 d.gone[k].kind, .int .i64 d.gone[k].ttl, str d.gone[k].data]) p9.this
          have hx9 := hx.trans x9
          have ho9 := ho.ext x9
          clear p9 h8 x8
          repeat' (first | ((with_reducible refine o_s ?_); (first | (refine o_1 ?_; refine o_2 ?_) | (refine o_g ?_; first | refine o_u ?_ | refine o_k ?_ | refine o_n ?_ | refine o_v ?_ | ((first | refine o_G ?_ ?_ | refine o_N ?_ ?_) <;> intro hc)))) | ((fail_if_success (with_reducible refine o_s ?_)); go_step))
          refine wpl_callV (enters_of Tryz.func74 rfl rfl) rfl rfl (p_Index _ m d.gone[k] _ ho9.sl) ?_; intro w10 x10; refine gset ?_
          have hx10 := hx9.trans x10
          have ho10 := ho9.ext x10
          by_cases hm : d.gone[k] ∈ m
          · obtain ⟨i, hi, ei, ee⟩ := idx_mem hm
            rw [ei]
            have hst := gone_step hlt hg
            rw [if_pos hm] at hst
            repeat' (first | ((with_reducible refine o_s ?_); (first | (refine o_1 ?_; refine o_2 ?_) | (refine o_g ?_; first | refine o_u ?_ | refine o_k ?_ | refine o_n ?_ | refine o_v ?_ | ((first | refine o_G ?_ ?_ | refine o_N ?_ ?_) <;> intro hc)))) | ((fail_if_success (with_reducible refine o_s ?_)); go_step))
            refine wpl_callG (enters_of Tryz.func75 rfl rfl) rfl rfl (p_Delete ho10 hi (by omega)) ?_
            rintro _ w11 ⟨v11, rfl, o11, m11, k11⟩
            refine ⟨_, rfl, ?_⟩
            refine gset ?_
            rw [ee] at o11
            have hx11 : Ext w6 w11 := ho10.mvx m11 hx10 (Nat.le_refl _)
            repeat' (first | ((with_reducible refine o_s ?_); (first | (refine o_1 ?_; refine o_2 ?_) | (refine o_g ?_; first | refine o_u ?_ | refine o_k ?_ | refine o_n ?_ | refine o_v ?_ | ((first | refine o_G ?_ ?_ | refine o_N ?_ ?_) <;> intro hc)))) | ((fail_if_success (with_reducible refine o_s ?_)); go_step))
            exact ⟨⟨k + 1, _, by omega, by go_num, hx11, o11, hst⟩, by simp [intOf]; omega⟩
          · rw [idx_none hm]
            have hb := edit_none1 (gone_bad hlt hg hm)
            repeat' (first | ((with_reducible refine o_s ?_); (first | (refine o_1 ?_; refine o_2 ?_) | (refine o_g ?_; first | refine o_u ?_ | refine o_k ?_ | refine o_n ?_ | refine o_v ?_ | ((first | refine o_G ?_ ?_ | refine o_N ?_ ?_) <;> intro hc)))) | ((fail_if_success (with_reducible refine o_s ?_)); go_step))
            refine wpl_run (v := .agg zzone.toArray) rfl (Runs.build0 (by kernel_rfl)) ?_
            refine gset ?_
            refine wpl_storeB (v := .agg zzone.toArray) rfl rfl rfl (hx10.at h6) (by decide +kernel) rfl (by decide +kernel) ?_
            intro wz pz
            have xz : Ext w wz := (hx6.trans hx10).move pz.mv (by rintro k ⟨⟩; exact zz)
            repeat' (first | ((with_reducible refine o_s ?_); (first | (refine o_1 ?_; refine o_2 ?_) | (refine o_g ?_; first | refine o_u ?_ | refine o_k ?_ | refine o_n ?_ | refine o_v ?_ | ((first | refine o_G ?_ ?_ | refine o_N ?_ ?_) <;> intro hc)))) | ((fail_if_success (with_reducible refine o_s ?_)); go_step))
            refine bodyPost_ret (results_cellT (cs := zzone) rfl rfl pz.this (by decide +kernel)) rfl ⟨_, rfl, xz, ?_⟩
            exact AppU.bad (appE_none q0 q1 hb) (by decide)
        · have : k = d.gone.length := by omega
          subst this
          rw [List.take_length] at hg
          have hed := edit_of hg
          repeat' (first | ((with_reducible refine o_s ?_); (first | (refine o_1 ?_; refine o_2 ?_) | (refine o_g ?_; first | refine o_u ?_ | refine o_k ?_ | refine o_n ?_ | refine o_v ?_ | ((first | refine o_G ?_ ?_ | refine o_N ?_ ?_) <;> intro hc)))) | ((fail_if_success (with_reducible refine o_s ?_)); go_step))
          go_loopw [8, 13, 58] (fun o _ i wr => ∃ (k : Nat) (m' : List Rec), k ≤ d.new.length ∧ i = .int .i64 k ∧ Ext w6 wr ∧ Own w6.heap.size 4 75 wr o (rcells m') ∧ newF m (d.new.take k) = some m') (fun _ _ i _ => d.new.length - (intOf i).toNat)
          case atStart => exact ⟨0, m, Nat.zero_le _, rfl, hx, ho, rfl⟩
          case round =>
            obtain ⟨k, m', hk, rfl, hx, ho, hn⟩ := hrel
            obtain ⟨nl, nm⟩ := new_len hn
            have hml := rcells_length m'
            have hsn := sn6.ext hx
            have hqr := hq6.ext hx
            have hpr := hp6.ext hx
            rw [List.length_take] at nl
            by_cases hlt : k < d.new.length
            · have hpe := hsn.elem (rcells_at hlt)
              have hst := new_step hlt hn
              repeat' (first | ((with_reducible refine o_s ?_); (first | (refine o_1 ?_; refine o_2 ?_) | (refine o_g ?_; first | refine o_u ?_ | refine o_k ?_ | refine o_n ?_ | refine o_v ?_ | ((first | refine o_G ?_ ?_ | refine o_N ?_ ?_) <;> intro hc)))) | ((fail_if_success (with_reducible refine o_s ?_)); go_step))
              refine wpl_allocB (z := zrec) rfl (by decide +kernel) ?_
              intro w8 x8 s8 h8
              refine gset ?_
              refine wpl_storeB (v := .agg #[str d.new[k].name, .int .i64 d.new[k].kind, .int .i64 d.new[k].ttl, str d.new[k].data]) rfl rfl rfl h8 (show sizeTy Tryz.prog 75 4 = true by decide +kernel) rfl (all4 rfl rfl rfl rfl) ?_
              intro w9 p9
              have x9 : Ext wr w9 := x8.move p9.mv (by rintro k ⟨⟩; exact Nat.le_refl _)
              have hp9 := pts_block (cs := [str d.new[k].name, .int .i64 d.new[k].kind, .int .i64 d.new[k].ttl, str d.new[k].data]) p9.this
              have hx9 := hx.trans x9
              have ho9 := ho.ext x9
              clear p9 h8 x8
              repeat' (first | ((with_reducible refine o_s ?_); (first | (refine o_1 ?_; refine o_2 ?_) | (refine o_g ?_; first | refine o_u ?_ | refine o_k ?_ | refine o_n ?_ | refine o_v ?_ | ((first | refine o_G ?_ ?_ | refine o_N ?_ ?_) <;> intro hc)))) | ((fail_if_success (with_reducible refine o_s ?_)); go_step))
              refine wpl_callV (enters_of Tryz.func76 rfl rfl) rfl rfl (p_Contains _ m' d.new[k] _ ho9.sl) ?_; intro w10 x10; refine gset ?_
              have hx10 := hx9.trans x10
              have ho10 := ho9.ext x10
              have hp10 := hp9.ext x10
              by_cases hm : d.new[k] ∈ m'
              · rw [decide_eq_true hm]
                have hb := new_bad hlt hn hm
                repeat' (first | ((with_reducible refine o_s ?_); (first | (refine o_1 ?_; refine o_2 ?_) | (refine o_g ?_; first | refine o_u ?_ | refine o_k ?_ | refine o_n ?_ | refine o_v ?_ | ((first | refine o_G ?_ ?_ | refine o_N ?_ ?_) <;> intro hc)))) | ((fail_if_success (with_reducible refine o_s ?_)); go_step))
                refine wpl_run (v := .agg zzone.toArray) rfl (Runs.build0 (by kernel_rfl)) ?_
                refine gset ?_
                refine wpl_storeB (v := .agg zzone.toArray) rfl rfl rfl (hx10.at h6) (by decide +kernel) rfl (by decide +kernel) ?_
                intro wz pz
                have xz : Ext w wz := (hx6.trans hx10).move pz.mv (by rintro k ⟨⟩; exact zz)
                repeat' (first | ((with_reducible refine o_s ?_); (first | (refine o_1 ?_; refine o_2 ?_) | (refine o_g ?_; first | refine o_u ?_ | refine o_k ?_ | refine o_n ?_ | refine o_v ?_ | ((first | refine o_G ?_ ?_ | refine o_N ?_ ?_) <;> intro hc)))) | ((fail_if_success (with_reducible refine o_s ?_)); go_step))
                refine bodyPost_ret (results_cellT (cs := zzone) rfl rfl pz.this (by decide +kernel)) rfl ⟨_, rfl, xz, ?_⟩
                exact AppU.bad (appE_none q0 q1 (hed.trans hb)) (by decide)
              · rw [decide_eq_false hm]
                rw [if_neg hm] at hst
                repeat' (first | ((with_reducible refine o_s ?_); (first | (refine o_1 ?_; refine o_2 ?_) | (refine o_g ?_; first | refine o_u ?_ | refine o_k ?_ | refine o_n ?_ | refine o_v ?_ | ((first | refine o_G ?_ ?_ | refine o_N ?_ ?_) <;> intro hc)))) | ((fail_if_success (with_reducible refine o_s ?_)); go_step))
                refine ap1 [str d.new[k].name, .int .i64 d.new[k].kind, .int .i64 d.new[k].ttl, str d.new[k].data] hx10 ho10 (by omega) ?_ (rec_elem rfl)
                intro s5 v5 w11 w12 x11 m12 x12 o12
                refine gset ?_
                repeat' (first | ((with_reducible refine o_s ?_); (first | (refine o_1 ?_; refine o_2 ?_) | (refine o_g ?_; first | refine o_u ?_ | refine o_k ?_ | refine o_n ?_ | refine o_v ?_ | ((first | refine o_G ?_ ?_ | refine o_N ?_ ?_) <;> intro hc)))) | ((fail_if_success (with_reducible refine o_s ?_)); go_step))
                refine ⟨⟨k + 1, _, by omega, by go_num, x12, ?_, hst⟩, by simp [intOf]; omega⟩
                simpa [rcells, Rec.cells] using o12
            · have : k = d.new.length := by omega
              subst this
              rw [List.take_length] at hn
              rw [hn] at hed
              have hmd : ∀ q ∈ m', q.data.length ≤ 1000000 := by
                intro q hq
                rcases nm q hq with h | h
                · exact hrd q (gm q h)
                · exact dn q (List.mem_of_mem_take h)
              have hm5 : m'.length ≤ 10000 := by omega
              obtain ⟨lb1, lb2, lb3⟩ := loadL_bounds (o := o) hmd
              have hend := appE_some q0 q1 hed
              repeat' (first | ((with_reducible refine o_s ?_); (first | (refine o_1 ?_; refine o_2 ?_) | (refine o_g ?_; first | refine o_u ?_ | refine o_k ?_ | refine o_n ?_ | refine o_v ?_ | ((first | refine o_G ?_ ?_ | refine o_N ?_ ?_) <;> intro hc)))) | ((fail_if_success (with_reducible refine o_s ?_)); go_step))
              refine wpl_callR (enters_of Tryz.func64 rfl rfl) rfl rfl (p_Load o _ m' _ ho.sl hm5 (fun q hq => by have := hmd q hq; omega)) ?_
              rintro _ w20 x20 ⟨y, rfl, sy⟩
              refine gset ?_
              have hx20 := hx.trans x20
              obtain ⟨ya, yn, yc, hys⟩ : ∃ a n c, y = .slice a n c := by obtain ⟨css, h, _⟩ := sy.out; exact h.slf
              have hy1 : y.oneCell' = true := by rw [hys]; rfl
              repeat' (first | ((with_reducible refine o_s ?_); (first | (refine o_1 ?_; refine o_2 ?_) | (refine o_g ?_; first | refine o_u ?_ | refine o_k ?_ | refine o_n ?_ | refine o_v ?_ | ((first | refine o_G ?_ ?_ | refine o_N ?_ ?_) <;> intro hc)))) | ((fail_if_success (with_reducible refine o_s ?_)); go_step))
              refine wpl_allocB (z := zzone) rfl (by decide +kernel) ?_
              intro w21 x21 s21 h21
              refine gset ?_
              refine wpl_storeB (v := .agg #[str (loadO o m'), y]) rfl rfl rfl h21 (show sizeTy Tryz.prog 25 2 = true by decide +kernel) rfl (zone_one hy1) ?_
              intro w22 p22
              have x2022 : Ext w20 w22 := x21.move p22.mv (by rintro k ⟨⟩; exact Nat.le_refl _)
              have z22 : w22.heap[w20.heap.size]? = some (.cells [str (loadO o m'), y].toArray 25 (0, 0)) := p22.this
              have hx22 := hx20.trans x2022
              have sy22 := sy.ext x2022
              have ho22 := ho.ext (x20.trans x2022)
              clear p22 h21 x21
              repeat' (first | ((with_reducible refine o_s ?_); (first | (refine o_1 ?_; refine o_2 ?_) | (refine o_g ?_; first | refine o_u ?_ | refine o_k ?_ | refine o_n ?_ | refine o_v ?_ | ((first | refine o_G ?_ ?_ | refine o_N ?_ ?_) <;> intro hc)))) | ((fail_if_success (with_reducible refine o_s ?_)); go_step))
              · have q2 : ¬ loadE o m' = 0 := by simpa using (by assumption : (!decide (loadE o m' = 0)) = true)
                refine wpl_run (v := .agg zzone.toArray) rfl (Runs.build0 (by kernel_rfl)) ?_
                refine gset ?_
                repeat' (first | ((with_reducible refine o_s ?_); (first | (refine o_1 ?_; refine o_2 ?_) | (refine o_g ?_; first | refine o_u ?_ | refine o_k ?_ | refine o_n ?_ | refine o_v ?_ | ((first | refine o_G ?_ ?_ | refine o_N ?_ ?_) <;> intro hc)))) | ((fail_if_success (with_reducible refine o_s ?_)); go_step))
                refine wpl_storeB (v := .agg zzone.toArray) rfl rfl rfl (hx22.at h6) (by decide +kernel) rfl (by decide +kernel) ?_
                intro wz pz
                have xz : Ext w wz := (hx6.trans hx22).move pz.mv (by rintro k ⟨⟩; exact zz)
                repeat' (first | ((with_reducible refine o_s ?_); (first | (refine o_1 ?_; refine o_2 ?_) | (refine o_g ?_; first | refine o_u ?_ | refine o_k ?_ | refine o_n ?_ | refine o_v ?_ | ((first | refine o_G ?_ ?_ | refine o_N ?_ ?_) <;> intro hc)))) | ((fail_if_success (with_reducible refine o_s ?_)); go_step))
                refine bodyPost_ret (results_cellT (cs := zzone) rfl rfl pz.this (by decide +kernel)) rfl ⟨_, rfl, xz, ?_⟩
                exact AppU.bad (by rw [hend, endE, if_neg q2]) q2
              · have q2 : loadE o m' = 0 := by simpa using (by assumption : (!decide (loadE o m' = 0)) = false)
                have pz22 := pts_block z22
                repeat' (first | ((with_reducible refine o_s ?_); (first | (refine o_1 ?_; refine o_2 ?_) | (refine o_g ?_; first | refine o_u ?_ | refine o_k ?_ | refine o_n ?_ | refine o_v ?_ | ((first | refine o_G ?_ ?_ | refine o_N ?_ ?_) <;> intro hc)))) | ((fail_if_success (with_reducible refine o_s ?_)); go_step))
                refine wpl_callV (enters_of Tryz.func63 rfl rfl) rfl rfl (p_Soa (loadO o m') y (loadL o m') _ sy22.sets (fun s hs => by have := lb1 s hs; omega) (fun s hs d hd => by have := lb2 s hs d hd; omega)) ?_; intro w23 x23; refine gset ?_
                have hx23 := hx22.trans x23
                have b23 := hx23.at b6
                repeat' (first | ((with_reducible refine o_s ?_); (first | (refine o_1 ?_; refine o_2 ?_) | (refine o_g ?_; first | refine o_u ?_ | refine o_k ?_ | refine o_n ?_ | refine o_v ?_ | ((first | refine o_G ?_ ?_ | refine o_N ?_ ?_) <;> intro hc)))) | ((fail_if_success (with_reducible refine o_s ?_)); go_step))
                refine wpl_storeB (v := .agg (soaZ (loadO o m') (loadL o m')).cells.toArray) rfl rfl rfl b23 (show sizeTy Tryz.prog 103 7 = true by decide +kernel) rfl (soaR_one _) ?_
                intro w24 p24
                have e1 := x4.size
                have e2 := x46.size
                have e3 := hx.size
                have e4 := x20.size
                have e5 : w4.heap.size < w6.heap.size := (Array.getElem?_eq_some_iff.1 b6).1
                have x24 : Ext w3 w24 := (x36.trans hx23).move p24.mv (by rintro k ⟨⟩; exact e1)
                have hxw24 := hx3.trans x24
                have hq24 := hq3.ext x24
                have b24 : w24.heap[w4.heap.size]? = some (.cells [str (soaZ (loadO o m') (loadL o m')).main, str (soaZ (loadO o m') (loadL o m')).mail, .int .i64 (soaZ (loadO o m') (loadL o m')).serial, .int .i64 (soaZ (loadO o m') (loadL o m')).refresh, .int .i64 (soaZ (loadO o m') (loadL o m')).retry, .int .i64 (soaZ (loadO o m') (loadL o m')).expire, .int .i64 (soaZ (loadO o m') (loadL o m')).minimum].toArray 103 (0, 0)) := p24.this
                have h24 := p24.at (hx23.at h6) (by omega)
                have z24 := p24.at (x23.at z22) (by omega)
                have sy24 := (sy22.ext x23).put p24 (by omega)
                have ho24 := (ho22.ext x23).mv p24.mv (.inr ((ho22.ext x23).neBlock b23 (by decide)))
                have pz24 := pts_block z24
                clear p24 b23
                repeat' (first | ((with_reducible refine o_s ?_); (first | (refine o_1 ?_; refine o_2 ?_) | (refine o_g ?_; first | refine o_u ?_ | refine o_k ?_ | refine o_n ?_ | refine o_v ?_ | ((first | refine o_G ?_ ?_ | refine o_N ?_ ?_) <;> intro hc)))) | ((fail_if_success (with_reducible refine o_s ?_)); go_step))
                refine wpl_callR (enters_of Tryz.func43 rfl rfl) rfl rfl (t10 y (loadL o m') _ sy24.sets (by omega)) ?_
                intro r5 w25 x25 o25
                refine gset ?_
                have hxw25 := hxw24.trans x25
                have h25 := x25.at h24
                have z25 := x25.at z24
                have pz25 := pz24.ext x25
                have pb25 := pts_block (x25.at b24)
                have hq25 := hq24.ext x25
                have sl25 := (ho24.ext x25).sl
                have sr25 := o25.sl
                have lr := rcells_length (recordsS (loadL o m'))
                repeat' (first | ((with_reducible refine o_s ?_); (first | (refine o_1 ?_; refine o_2 ?_) | (refine o_g ?_; first | refine o_u ?_ | refine o_k ?_ | refine o_n ?_ | refine o_v ?_ | ((first | refine o_G ?_ ?_ | refine o_N ?_ ?_) <;> intro hc)))) | ((fail_if_success (with_reducible refine o_s ?_)); go_step))
                · have q3 : (soaZ (loadO o m') (loadL o m')).serial = d.to := by simpa using (by assumption : (!decide ((soaZ (loadO o m') (loadL o m')).serial = d.to)) = false)
                  have q4 : (recordsS (loadL o m')).length = m'.length := by
                    have : (↑(rcells (recordsS (loadL o m'))).length : Int) = ↑(rcells m').length := by simpa using hc
                    omega
                  refine wpl_callR (enters_of Tryz.func67 rfl rfl) rfl rfl (p_less _ r5 m' (recordsS (loadL o m')) _ sl25 sr25 (by omega)) ?_
                  intro r6 w26 x26 o26
                  have sr26 := o26.sl
                  have hxw26 := hxw25.trans x26
                  have h26 := x26.at h25
                  have z26 := x26.at z25
                  have pz26 := pz25.ext x26
                  have l6 := rcells_length (lessR m' (recordsS (loadL o m')))
                  have sy26 := (sy24.ext x25).ext x26
                  refine gset ?_
                  repeat' (first | ((with_reducible refine o_s ?_); (first | (refine o_1 ?_; refine o_2 ?_) | (refine o_g ?_; first | refine o_u ?_ | refine o_k ?_ | refine o_n ?_ | refine o_v ?_ | ((first | refine o_G ?_ ?_ | refine o_N ?_ ?_) <;> intro hc)))) | ((fail_if_success (with_reducible refine o_s ?_)); go_step))
                  · have q5 : ¬ lessR m' (recordsS (loadL o m')) = [] := by
                      intro e
                      rw [e] at l6
                      simp at l6
                      have := (by assumption : (0 : Int) < ↑(rcells (lessR m' (recordsS (loadL o m')))).length)
                      rw [e] at this
                      simp [rcells] at this
                    refine wpl_run (v := .agg zzone.toArray) rfl (Runs.build0 (by kernel_rfl)) ?_
                    refine gset ?_
                    refine wpl_storeB (v := .agg zzone.toArray) rfl rfl rfl h26 (by decide +kernel) rfl (by decide +kernel) ?_
                    intro wz pz
                    have xz : Ext w wz := hxw26.move pz.mv (by rintro k ⟨⟩; exact zz)
                    repeat' (first | ((with_reducible refine o_s ?_); (first | (refine o_1 ?_; refine o_2 ?_) | (refine o_g ?_; first | refine o_u ?_ | refine o_k ?_ | refine o_n ?_ | refine o_v ?_ | ((first | refine o_G ?_ ?_ | refine o_N ?_ ?_) <;> intro hc)))) | ((fail_if_success (with_reducible refine o_s ?_)); go_step))
                    refine bodyPost_ret (results_cellT (cs := zzone) rfl rfl pz.this (by decide +kernel)) rfl ⟨_, rfl, xz, ?_⟩
                    exact AppU.bad (by rw [hend, endE, if_pos q2, if_neg (fun h => q5 h.2.2)]) (by decide)
                  · have q5 : lessR m' (recordsS (loadL o m')) = [] := List.eq_nil_of_length_eq_zero (by omega)
                    have hE : appE o l d = 0 := by rw [hend, endE, if_pos q2, if_pos ⟨q3, q4, q5⟩]
                    repeat' (first | ((with_reducible refine o_s ?_); (first | (refine o_1 ?_; refine o_2 ?_) | (refine o_g ?_; first | refine o_u ?_ | refine o_k ?_ | refine o_n ?_ | refine o_v ?_ | ((first | refine o_G ?_ ?_ | refine o_N ?_ ?_) <;> intro hc)))) | ((fail_if_success (with_reducible refine o_s ?_)); go_step))
                    refine wpl_storeB (v := .agg #[str (loadO o m'), y]) rfl rfl rfl h26 (show sizeTy Tryz.prog 25 2 = true by decide +kernel) rfl (zone_one hy1) ?_
                    intro wz pz
                    have xz : Ext w wz := hxw26.move pz.mv (by rintro k ⟨⟩; exact zz)
                    repeat' (first | ((with_reducible refine o_s ?_); (first | (refine o_1 ?_; refine o_2 ?_) | (refine o_g ?_; first | refine o_u ?_ | refine o_k ?_ | refine o_n ?_ | refine o_v ?_ | ((first | refine o_G ?_ ?_ | refine o_N ?_ ?_) <;> intro hc)))) | ((fail_if_success (with_reducible refine o_s ?_)); go_step))
                    refine bodyPost_ret (results_cellT (cs := [str (loadO o m'), y]) rfl rfl pz.this (show aggTy Tryz.prog 25 2 = true by decide +kernel)) rfl ⟨_, rfl, xz, ?_⟩
                    refine ⟨y, ?_, ?_⟩
                    · rw [appO, if_pos hE, hE, hed]; rfl
                    · rw [appL, if_pos hE, hed]
                      exact (sy26.put pz (by omega)).weaken (hx6.trans hx).size
                · have q4 : ¬ (recordsS (loadL o m')).length = m'.length := by
                    have : ¬ (↑(rcells (recordsS (loadL o m'))).length : Int) = ↑(rcells m').length := by simpa using hc
                    omega
                  refine wpl_run (v := .agg zzone.toArray) rfl (Runs.build0 (by kernel_rfl)) ?_
                  refine gset ?_
                  refine wpl_storeB (v := .agg zzone.toArray) rfl rfl rfl h25 (by decide +kernel) rfl (by decide +kernel) ?_
                  intro wz pz
                  have xz : Ext w wz := hxw25.move pz.mv (by rintro k ⟨⟩; exact zz)
                  repeat' (first | ((with_reducible refine o_s ?_); (first | (refine o_1 ?_; refine o_2 ?_) | (refine o_g ?_; first | refine o_u ?_ | refine o_k ?_ | refine o_n ?_ | refine o_v ?_ | ((first | refine o_G ?_ ?_ | refine o_N ?_ ?_) <;> intro hc)))) | ((fail_if_success (with_reducible refine o_s ?_)); go_step))
                  refine bodyPost_ret (results_cellT (cs := zzone) rfl rfl pz.this (by decide +kernel)) rfl ⟨_, rfl, xz, ?_⟩
                  exact AppU.bad (by rw [hend, endE, if_pos q2, if_neg (fun h => q4 h.2.1)]) (by decide)
                · have q3 : ¬ (soaZ (loadO o m') (loadL o m')).serial = d.to := by simpa using hc
                  refine wpl_run (v := .agg zzone.toArray) rfl (Runs.build0 (by kernel_rfl)) ?_
                  refine gset ?_
                  refine wpl_storeB (v := .agg zzone.toArray) rfl rfl rfl h25 (by decide +kernel) rfl (by decide +kernel) ?_
                  intro wz pz
                  have xz : Ext w wz := hxw25.move pz.mv (by rintro k ⟨⟩; exact zz)
                  repeat' (first | ((with_reducible refine o_s ?_); (first | (refine o_1 ?_; refine o_2 ?_) | (refine o_g ?_; first | refine o_u ?_ | refine o_k ?_ | refine o_n ?_ | refine o_v ?_ | ((first | refine o_G ?_ ?_ | refine o_N ?_ ?_) <;> intro hc)))) | ((fail_if_success (with_reducible refine o_s ?_)); go_step))
                  refine bodyPost_ret (results_cellT (cs := zzone) rfl rfl pz.this (by decide +kernel)) rfl ⟨_, rfl, xz, ?_⟩
                  exact AppU.bad (by rw [hend, endE, if_pos q2, if_neg (fun h => q3 h.1)]) (by decide)
end Go.Proofs.X
