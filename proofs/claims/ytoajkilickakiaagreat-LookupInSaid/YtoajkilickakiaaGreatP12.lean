/- Laws and walks that the proof of the statement is made of (part 12). -/
import Derived.Test.YtoajkilickakiaaGreatProg
import Derived.Lib.Hide
import Derived.Test.YtoajkilickakiaaGreatShelf
import Derived.Shelf.SlSortCmp.NoneTotal
import Derived.OwnWalk
import Derived.Shelf.RegionOpenPlain
import Derived.Lib.Strings
import Derived.Lib.Slices
import Derived.Lib.Walk
import Derived.Lib.Builder
import Derived.Lib.AppendStr
import Derived.Lib.UnsafeStr
import Derived.Lib.MakeNoZero
import Derived.WalkKit
import Derived.Laws.Externs
import Derived.Laws.IdiomCopy
import Derived.Laws.BitsLemmas
import GoSem.Claims
import Derived.Test.YtoajkilickakiaaGreatP1
import Derived.Test.YtoajkilickakiaaGreatP2
import Derived.Test.YtoajkilickakiaaGreatP3
import Derived.Test.YtoajkilickakiaaGreatP4
import Derived.Test.YtoajkilickakiaaGreatP5
import Derived.Test.YtoajkilickakiaaGreatP6
import Derived.Test.YtoajkilickakiaaGreatP7
import Derived.Test.YtoajkilickakiaaGreatP8
import Derived.Test.YtoajkilickakiaaGreatP9
import Derived.Test.YtoajkilickakiaaGreatP10
import Derived.Test.YtoajkilickakiaaGreatP11
set_option linter.unusedSimpArgs false
set_option linter.unusedVariables false
namespace Go.Proofs.X
open Go.RowKit
set_option maxRecDepth 100000
theorem rcells_one {l : List Rec} : ∀ f ∈ rcells l, ∀ u ∈ f, u.oneCell' = true := by
  intro f hf u hu
  obtain ⟨r, _, rfl⟩ := List.mem_map.1 hf
  simp only [Rec.cells, List.mem_cons, List.not_mem_nil, or_false] at hu
  rcases hu with rfl | rfl | rfl | rfl <;> rfl
set_option maxHeartbeats 4000000 in
theorem p_Delete {B : Nat} {v : Value} {l : List Rec} {w : World} {i : Nat} (h : Own B 4 75 w v (rcells l)) (hi : i < l.length) (hl : l.length ≤ 1000000) : Calls Tryz.prog 75 #[v, .int .i64 i, .int .i64 (i + 1 : Nat)] w fun e w' => ∃ v', e = .returned v' ∧ Own B 4 75 w' v' (rcells (l.eraseIdx i)) ∧ Mv v.ownBlock w w' ∧ v'.ownBlock = v.ownBlock := by
  have hlen := rcells_length l
  have h1c := rcells_one (l := l)
  rcases h.form with ⟨rfl, hn⟩ | ⟨g, cap, rfl, hg, hb, hc, _⟩
  · exfalso
    rw [hn] at hlen
    simp at hlen; omega
  · have hs := h.sl
    rw [hlen] at hc
    have hs' := hs
    rw [hlen] at hs'
    go_enter Tryz.func75, Tryz.ntmps75
    repeat' (first | ((with_reducible refine o_s ?_); (first | (refine o_1 ?_; refine o_2 ?_) | (refine o_g ?_; first | refine o_u ?_ | refine o_k ?_ | refine o_n ?_ | refine o_v ?_ | ((first | refine o_G ?_ ?_ | refine o_N ?_ ?_) <;> intro hc)))) | ((fail_if_success (with_reducible refine o_s ?_)); go_step))
    refine wpl_run0 (Runs.cut3 (k := 4) (m := i) (n := i + 1) (p := l.length) (l := (rcells l).length) (c := cap) (ad := some ⟨g, 0, none⟩) rfl rfl rfl (by rw [← hlen]; rfl) (by omega) (by omega) hc (by decide +kernel)) ?_
    refine gset ?_
    repeat' (first | ((with_reducible refine o_s ?_); (first | (refine o_1 ?_; refine o_2 ?_) | (refine o_g ?_; first | refine o_u ?_ | refine o_k ?_ | refine o_n ?_ | refine o_v ?_ | ((first | refine o_G ?_ ?_ | refine o_N ?_ ?_) <;> intro hc)))) | ((fail_if_success (with_reducible refine o_s ?_)); go_step))
    refine wpi_region 6 (fun w' => Sl 4 w' (Value.slice (some ⟨g, 0, none⟩) (rcells l).length cap) (rcells l)) (by decide +kernel) ?_
    intro w1 x1 _
    refine ⟨hs.ext x1, ?_⟩
    ((with_reducible apply wpi_take (i := 0)); (rfl); (rfl); (rfl); (decide +kernel); (decide +kernel); (decide +kernel); (decide +kernel); (rfl); (intro _ _; exact rn); (exact fun _ _ _ h => h); (refine gset ?_)); ((with_reducible apply wpi_take (i := 1)); (rfl); (rfl); (rfl); (decide +kernel); (decide +kernel); (decide +kernel); (decide +kernel); (rfl); (intro _ _; exact rn); (exact fun _ _ _ h => h); (refine gset ?_)); ((with_reducible apply wpi_take (i := 2)); (rfl); (rfl); (rfl); (decide +kernel); (decide +kernel); (decide +kernel); (decide +kernel); (rfl); (intro _ _; exact rn); (exact fun _ _ _ h => h); (refine gset ?_)); ((with_reducible apply wpi_take (i := 3)); (rfl); (rfl); (rfl); (decide +kernel); (decide +kernel); (decide +kernel); (decide +kernel); (rfl); (intro _ _; exact rn); (exact fun _ _ _ h => h); (refine gset ?_)); ((with_reducible apply wpi_take (i := 4)); (rfl); (rfl); (rfl); (decide +kernel); (decide +kernel); (decide +kernel); (decide +kernel); (rfl); (intro _ _; exact rn); (exact fun _ _ _ h => h); (refine gset ?_)); ((with_reducible apply wpi_take (i := 5)); (rfl); (rfl); (rfl); (decide +kernel); (decide +kernel); (decide +kernel); (decide +kernel); (rfl); (intro _ _; exact rn); (exact fun _ _ _ h => h); (refine gset ?_))
    have e22 : cutSl (Value.slice (some ⟨g, 0, none⟩) (rcells l).length cap) 4 0 i = .slice (some ⟨g, 0, none⟩) i cap := by simp [cutSl, add_none]
    obtain ⟨ad, e25⟩ : ∃ ad, cutSl (Value.slice (some ⟨g, 0, none⟩) (rcells l).length cap) 4 (i + 1) (rcells l).length = .slice (some ad) ((rcells l).length - (i + 1)) (cap - (i + 1)) := by
      by_cases hq : cap = i + 1
      · exact ⟨⟨g, 0, none⟩, by simp [cutSl, hq]⟩
      · exact ⟨_, by simp only [cutSl, if_neg hq]; rfl⟩
    have hcut := (hs.ext x1).cut (m := i + 1) (n := (rcells l).length) (by omega) (Nat.le_refl _)
    rw [e25, List.take_length] at hcut
    refine wpi_op (i := 6) (by decide +kernel) rfl rfl ?_
    refine wpl_appOver (i := i) (j := i + 1) (h.ext x1) e22 e25 hcut (by omega) (by omega) h1c ?_
    intro w2 o2 m2
    refine gset ?_
    refine wph_nil ⟨till_no rfl, ?_⟩
    ((with_reducible apply wpi_pure (i := 7)); (rfl); (rfl); (rfl); (decide +kernel); (decide +kernel); (decide +kernel); (rfl); (intro _; exact rn); (exact fun _ _ _ h => h); (refine gset ?_))
    refine wpi_done (by decide +kernel) ?_
    obtain ⟨m, hm⟩ : ∃ m, i + ((rcells l).length - (i + 1)) = m := ⟨_, rfl⟩
    rw [hm] at o2 ⊢
    have ee : (rcells l).take i ++ (rcells l).drop (i + 1) = rcells (l.eraseIdx i) := by
      rw [List.eraseIdx_eq_take_drop_succ]; simp [rcells, List.map_take, List.map_drop]
    rw [ee] at o2
    have hml : (rcells (l.eraseIdx i)).length = m := by rw [rcells_length, List.length_eraseIdx_of_lt hi]; omega
    have h2l : (rcells (l.eraseIdx i) ++ (rcells l).drop m).length = (rcells l).length := by rw [List.length_append, hml, List.length_drop]; omega
    have hsh := o2
    rw [← h2l] at hsh
    have hsh := hsh.short (m := m) (by omega)
    rw [List.take_left' hml] at hsh
    have hs2 := hsh.sl
    repeat' (first | ((with_reducible refine o_s ?_); (first | (refine o_1 ?_; refine o_2 ?_) | (refine o_g ?_; first | refine o_u ?_ | refine o_k ?_ | refine o_n ?_ | refine o_v ?_ | ((first | refine o_G ?_ ?_ | refine o_N ?_ ?_) <;> intro hc)))) | ((fail_if_success (with_reducible refine o_s ?_)); go_step))
    refine wpl_run0 (Runs.cutC (k := 4) (m := m) (n := l.length) (l := m) (c := cap) (ad := some ⟨g, 0, none⟩) rfl (by rw [← hml]; rfl) (by rw [← hlen]; rfl) (by omega) hc (by decide +kernel)) ?_
    refine gset ?_
    have e31 : (if cap = m then some (⟨g, 0, none⟩ : Addr) else Option.map (fun x : Addr => x.add (m * 4)) (some (⟨g, 0, none⟩ : Addr))) = some (⟨g, m * 4, none⟩ : Addr) := by
      rw [if_neg (by omega)]; simp [add_none]
    rw [e31]
    rw [← h2l] at o2
    have h2l' : (rcells (l.eraseIdx i) ++ (rcells l).drop m).length = l.length := by omega
    refine wpl_clearO (m := m) (z := zrec) o2 (by rw [h2l']; rfl) (by omega) ?_
    intro w3 o3 m3
    rw [List.take_left' hml] at o3
    repeat' (first | ((with_reducible refine o_s ?_); (first | (refine o_1 ?_; refine o_2 ?_) | (refine o_g ?_; first | refine o_u ?_ | refine o_k ?_ | refine o_n ?_ | refine o_v ?_ | ((first | refine o_G ?_ ?_ | refine o_N ?_ ?_) <;> intro hc)))) | ((fail_if_success (with_reducible refine o_s ?_)); go_step))
    go_ret
    exact ⟨_, rfl, o3, (x1.mv (some g)).trans (m2.trans m3), rfl⟩
def zdel : List Value := [.int .i64 0, .int .i64 0, .slice none 0 0, .slice none 0 0]
def DelA (d : DeltaR) (r : Value) (w : World) : Prop := ∃ g n, r = .agg #[.int .i64 d.fr, .int .i64 d.to, g, n] ∧ Sl 4 w g (rcells d.gone) ∧ Sl 4 w n (rcells d.new)
def DelO (B : Nat) (d : DeltaR) (r : Value) (w : World) : Prop := ∃ g n, r = .agg #[.int .i64 d.fr, .int .i64 d.to, g, n] ∧ Own B 4 75 w g (rcells d.gone) ∧ Own B 4 75 w n (rcells d.new)
theorem DelO.a {B : Nat} {d : DeltaR} {r : Value} {w : World} (h : DelO B d r w) : DelA d r w := let ⟨g, n, e, a, b⟩ := h; ⟨g, n, e, a.sl, b.sl⟩
def DelU (B : Nat) (d : DeltaR) (e : Int) (r : Value) (w : World) : Prop := ∃ y, r = .tuple #[y, .int .i64 e] ∧ DelO B d y w
theorem DelU.bad {B : Nat} {d : DeltaR} {e : Int} {w : World} (h : d = zeroD) : DelU B d e (.tuple #[.agg zdel.toArray, .int .i64 e]) w := by
  subst h
  exact ⟨_, rfl, _, _, rfl, Own.nil _ _ _ _, Own.nil _ _ _ _⟩
theorem mkD_bad {oa ob : List UInt8} {la lb : List RSet} (h : mkE oa la ob lb ≠ 0) : mkD oa la ob lb = zeroD := if_neg h
set_option maxHeartbeats 6000000 in
theorem p_Make (oa : List UInt8) (u : Value) (la : List RSet) (ob : List UInt8) (v : Value) (lb : List RSet) (w : World) (hu : SetsAt w u la) (hv : SetsAt w v lb)
    (ba : ∀ s ∈ la, s.data.length ≤ 1000000) (da : ∀ s ∈ la, ∀ d ∈ s.data, d.length ≤ 4611686018427387904) (bb : ∀ s ∈ lb, s.data.length ≤ 1000000) (db : ∀ s ∈ lb, ∀ d ∈ s.data, d.length ≤ 4611686018427387904)
    (h1 : (recordsS la).length ≤ 100000) (h2 : (recordsS lb).length ≤ 100000) : Calls Tryz.prog 21 #[.agg #[str oa, u], .agg #[str ob, v]] w (Ret w (DelU w.heap.size (mkD oa la ob lb) (mkE oa la ob lb))) := by
  go_enter Tryz.func21, Tryz.ntmps21
  repeat' ((fail_if_success (with_reducible refine o_s ?_)); go_step)
  refine wpl_box (vs := [str oa, u]) rfl rfl ?_
  intro p w1 x1 hp
  refine gset ?_
  refine wpl_box (vs := [str ob, v]) rfl rfl ?_
  intro q w2 x2 hq
  refine gset ?_
  refine wpl_allocB (z := zdel) rfl (by decide +kernel) ?_
  intro w3 x3 s3 h3
  refine gset ?_
  have hx3 := (x1.trans x2).trans x3
  have zz := (x1.trans x2).size
  have hp3 := (hp.ext x2).ext x3
  have hq3 := hq.ext x3
  repeat' (first | ((with_reducible refine o_s ?_); (first | (refine o_1 ?_; refine o_2 ?_) | (refine o_g ?_; first | refine o_u ?_ | refine o_k ?_ | refine o_n ?_ | refine o_v ?_ | ((first | refine o_G ?_ ?_ | refine o_N ?_ ?_) <;> intro hc)))) | ((fail_if_success (with_reducible refine o_s ?_)); go_step))
  refine wpl_callV (enters_of Tryz.func63 rfl rfl) rfl rfl (p_Soa oa u la _ (hu.ext hx3) ba da) ?_; intro w4 x4; refine gset ?_
  have hx4 := hx3.trans x4
  repeat' (first | ((with_reducible refine o_s ?_); (first | (refine o_1 ?_; refine o_2 ?_) | (refine o_g ?_; first | refine o_u ?_ | refine o_k ?_ | refine o_n ?_ | refine o_v ?_ | ((first | refine o_G ?_ ?_ | refine o_N ?_ ?_) <;> intro hc)))) | ((fail_if_success (with_reducible refine o_s ?_)); go_step))
  refine wpl_allocB (z := zeroSoa) rfl (by decide +kernel) ?_
  intro w5 x5 s5 h5
  refine gset ?_
  refine wpl_storeB (v := .agg (soaZ oa la).cells.toArray) rfl rfl rfl h5 (show sizeTy Tryz.prog 103 7 = true by decide +kernel) rfl (soaR_one _) ?_
  intro w6 p6
  have x46 : Ext w4 w6 := x5.move p6.mv (by rintro k ⟨⟩; exact Nat.le_refl _)
  have b6 : w6.heap[w4.heap.size]? = some (.cells (soaZ oa la).cells.toArray 103 (0, 0)) := p6.this
  have x36 := x4.trans x46
  have hx6 := hx3.trans x36
  clear p6 h5 x5
  have h6 := x36.at h3
  have hp6 := hp3.ext x36
  have hq6 := hq3.ext x36
  repeat' (first | ((with_reducible refine o_s ?_); (first | (refine o_1 ?_; refine o_2 ?_) | (refine o_g ?_; first | refine o_u ?_ | refine o_k ?_ | refine o_n ?_ | refine o_v ?_ | ((first | refine o_G ?_ ?_ | refine o_N ?_ ?_) <;> intro hc)))) | ((fail_if_success (with_reducible refine o_s ?_)); go_step))
  · have q0 : ¬ zoneR oa la = 0 := by simpa using (by assumption : (!decide (zoneR oa la = 0)) = true)
    refine wpl_run (v := .agg zdel.toArray) rfl (Runs.build0 (by kernel_rfl)) ?_
    refine gset ?_
    repeat' (first | ((with_reducible refine o_s ?_); (first | (refine o_1 ?_; refine o_2 ?_) | (refine o_g ?_; first | refine o_u ?_ | refine o_k ?_ | refine o_n ?_ | refine o_v ?_ | ((first | refine o_G ?_ ?_ | refine o_N ?_ ?_) <;> intro hc)))) | ((fail_if_success (with_reducible refine o_s ?_)); go_step))
    refine wpl_storeB (v := .agg zdel.toArray) rfl rfl rfl h6 (by decide +kernel) rfl (by decide +kernel) ?_
    intro w7 p7
    have x7 : Ext w w7 := hx6.move p7.mv (by rintro k ⟨⟩; exact zz)
    repeat' (first | ((with_reducible refine o_s ?_); (first | (refine o_1 ?_; refine o_2 ?_) | (refine o_g ?_; first | refine o_u ?_ | refine o_k ?_ | refine o_n ?_ | refine o_v ?_ | ((first | refine o_G ?_ ?_ | refine o_N ?_ ?_) <;> intro hc)))) | ((fail_if_success (with_reducible refine o_s ?_)); go_step))
    refine bodyPost_ret (results_cellT (cs := zdel) rfl rfl p7.this (by decide +kernel)) rfl ⟨_, rfl, x7, ?_⟩
    have he : mkE oa la ob lb = zoneR oa la := by rw [mkE, if_neg q0]
    rw [mkD_bad (by rw [he]; exact q0), he]
    exact DelU.bad rfl
  · have q0 : zoneR oa la = 0 := by simpa using (by assumption : (!decide (zoneR oa la = 0)) = false)
    refine wpl_callV (enters_of Tryz.func63 rfl rfl) rfl rfl (p_Soa ob v lb _ (hv.ext hx6) bb db) ?_; intro w7 x7; refine gset ?_
    have hx7 := hx6.trans x7
    repeat' (first | ((with_reducible refine o_s ?_); (first | (refine o_1 ?_; refine o_2 ?_) | (refine o_g ?_; first | refine o_u ?_ | refine o_k ?_ | refine o_n ?_ | refine o_v ?_ | ((first | refine o_G ?_ ?_ | refine o_N ?_ ?_) <;> intro hc)))) | ((fail_if_success (with_reducible refine o_s ?_)); go_step))
    refine wpl_allocB (z := zeroSoa) rfl (by decide +kernel) ?_
    intro w8 x8 s8 h8
    refine gset ?_
    refine wpl_storeB (v := .agg (soaZ ob lb).cells.toArray) rfl rfl rfl h8 (show sizeTy Tryz.prog 103 7 = true by decide +kernel) rfl (soaR_one _) ?_
    intro w9 p9
    have x79 : Ext w7 w9 := x8.move p9.mv (by rintro k ⟨⟩; exact Nat.le_refl _)
    have c9 : w9.heap[w7.heap.size]? = some (.cells (soaZ ob lb).cells.toArray 103 (0, 0)) := p9.this
    have x69 := x7.trans x79
    have hx9 := hx6.trans x69
    clear p9 h8 x8
    have h9 := x69.at h6
    have b9 := x69.at b6
    have hp9 := hp6.ext x69
    have hq9 := hq6.ext x69
    repeat' (first | ((with_reducible refine o_s ?_); (first | (refine o_1 ?_; refine o_2 ?_) | (refine o_g ?_; first | refine o_u ?_ | refine o_k ?_ | refine o_n ?_ | refine o_v ?_ | ((first | refine o_G ?_ ?_ | refine o_N ?_ ?_) <;> intro hc)))) | ((fail_if_success (with_reducible refine o_s ?_)); go_step))
    · have q1 : ¬ zoneR ob lb = 0 := by simpa using (by assumption : (!decide (zoneR ob lb = 0)) = true)
      refine wpl_run (v := .agg zdel.toArray) rfl (Runs.build0 (by kernel_rfl)) ?_
      refine gset ?_
      repeat' (first | ((with_reducible refine o_s ?_); (first | (refine o_1 ?_; refine o_2 ?_) | (refine o_g ?_; first | refine o_u ?_ | refine o_k ?_ | refine o_n ?_ | refine o_v ?_ | ((first | refine o_G ?_ ?_ | refine o_N ?_ ?_) <;> intro hc)))) | ((fail_if_success (with_reducible refine o_s ?_)); go_step))
      refine wpl_storeB (v := .agg zdel.toArray) rfl rfl rfl h9 (by decide +kernel) rfl (by decide +kernel) ?_
      intro wz pz
      have xz : Ext w wz := hx9.move pz.mv (by rintro k ⟨⟩; exact zz)
      repeat' (first | ((with_reducible refine o_s ?_); (first | (refine o_1 ?_; refine o_2 ?_) | (refine o_g ?_; first | refine o_u ?_ | refine o_k ?_ | refine o_n ?_ | refine o_v ?_ | ((first | refine o_G ?_ ?_ | refine o_N ?_ ?_) <;> intro hc)))) | ((fail_if_success (with_reducible refine o_s ?_)); go_step))
      refine bodyPost_ret (results_cellT (cs := zdel) rfl rfl pz.this (by decide +kernel)) rfl ⟨_, rfl, xz, ?_⟩
      have he : mkE oa la ob lb = zoneR ob lb := by rw [mkE, if_pos q0, if_neg q1]
      rw [mkD_bad (by rw [he]; exact q1), he]
      exact DelU.bad rfl
    · have q1 : zoneR ob lb = 0 := by simpa using (by assumption : (!decide (zoneR ob lb = 0)) = false)
      · have q2 : ¬ oa = ob := by simpa using (by assumption : (!decide (oa = ob)) = true)
        refine wpl_run (v := .agg zdel.toArray) rfl (Runs.build0 (by kernel_rfl)) ?_
        refine gset ?_
        repeat' (first | ((with_reducible refine o_s ?_); (first | (refine o_1 ?_; refine o_2 ?_) | (refine o_g ?_; first | refine o_u ?_ | refine o_k ?_ | refine o_n ?_ | refine o_v ?_ | ((first | refine o_G ?_ ?_ | refine o_N ?_ ?_) <;> intro hc)))) | ((fail_if_success (with_reducible refine o_s ?_)); go_step))
        refine wpl_storeB (v := .agg zdel.toArray) rfl rfl rfl h9 (by decide +kernel) rfl (by decide +kernel) ?_
        intro wz pz
        have xz : Ext w wz := hx9.move pz.mv (by rintro k ⟨⟩; exact zz)
        repeat' (first | ((with_reducible refine o_s ?_); (first | (refine o_1 ?_; refine o_2 ?_) | (refine o_g ?_; first | refine o_u ?_ | refine o_k ?_ | refine o_n ?_ | refine o_v ?_ | ((first | refine o_G ?_ ?_ | refine o_N ?_ ?_) <;> intro hc)))) | ((fail_if_success (with_reducible refine o_s ?_)); go_step))
        refine bodyPost_ret (results_cellT (cs := zdel) rfl rfl pz.this (by decide +kernel)) rfl ⟨_, rfl, xz, ?_⟩
        have he : mkE oa la ob lb = 1 := by rw [mkE, if_pos q0, if_pos q1, if_neg q2]
        rw [mkD_bad (by rw [he]; decide), he]
        exact DelU.bad rfl
    · have q1 : zoneR ob lb = 0 := by simpa using (by assumption : (!decide (zoneR ob lb = 0)) = false)
      have q2 : oa = ob := by simpa using (by assumption : (!decide (oa = ob)) = false)
      have he : mkE oa la ob lb = 0 := by rw [mkE, if_pos q0, if_pos q1, if_pos q2]
      refine wph_region (S := fun w' => Ext w9 w') (by decide +kernel) ?_
      intro w10 x10 hh10
      refine tk 0 ?_; refine gset ?_; refine tk 1 ?_; refine gset ?_; refine tk 3 ?_; refine gset ?_; refine tk 4 ?_; refine gset ?_
      refine wph_one (i := 2) (by decide +kernel) rfl rfl ?_
      refine wpl_callR (enters_of Tryz.func43 rfl rfl) rfl rfl (t10 u la _ (hu.ext (hx9.trans x10)) (by omega)) ?_
      intro r1 w11 x11 o11
      refine gset ?_
      have x911 := x10.trans x11
      refine wph_nil ⟨x911, ?_⟩
      refine wph_one (i := 5) (by decide +kernel) rfl rfl ?_
      refine wpl_callR (enters_of Tryz.func43 rfl rfl) rfl rfl (t10 v lb _ (hv.ext (hx9.trans x911)) (by omega)) ?_
      intro r2 w12 x12 o12
      refine gset ?_
      have x912 := x911.trans x12
      refine wph_nil ⟨x912, ?_⟩
      refine tk 6 ?_; refine gset ?_; refine tk 7 ?_; refine gset ?_
      refine wph_done (by decide +kernel) ?_
      have hx12 := hx9.trans x912
      have h12 := x912.at h9
      have sr1 := (o11.ext x12).sl
      have sr2 := o12.sl
      have pb12 := pts_block (x912.at b9)
      have pc12 := pts_block (x912.at c9)
      repeat' (first | ((with_reducible refine o_s ?_); (first | (refine o_1 ?_; refine o_2 ?_) | (refine o_g ?_; first | refine o_u ?_ | refine o_k ?_ | refine o_n ?_ | refine o_v ?_ | ((first | refine o_G ?_ ?_ | refine o_N ?_ ?_) <;> intro hc)))) | ((fail_if_success (with_reducible refine o_s ?_)); go_step))
      refine wpi_region 11 (Ext w12) (by decide +kernel) ?_
      intro w13 x13 _
      refine ⟨x13, ?_⟩
      ((with_reducible apply wpi_take (i := 0)); (rfl); (rfl); (rfl); (decide +kernel); (decide +kernel); (decide +kernel); (decide +kernel); (rfl); (intro _ _; exact rn); (exact fun _ _ _ h => h); (refine gset ?_)); ((with_reducible apply wpi_take (i := 1)); (rfl); (rfl); (rfl); (decide +kernel); (decide +kernel); (decide +kernel); (decide +kernel); (rfl); (intro _ _; exact rn); (exact fun _ _ _ h => h); (refine gset ?_)); ((with_reducible apply wpi_take (i := 2)); (rfl); (rfl); (rfl); (decide +kernel); (decide +kernel); (decide +kernel); (decide +kernel); (rfl); (intro _ _; exact rn); (exact fun _ _ _ h => h); (refine gset ?_)); ((with_reducible apply wpi_take (i := 3)); (rfl); (rfl); (rfl); (decide +kernel); (decide +kernel); (decide +kernel); (decide +kernel); (rfl); (intro _ _; exact rn); (exact fun _ _ _ h => h); (refine gset ?_)); ((with_reducible apply wpi_take (i := 4)); (rfl); (rfl); (rfl); (decide +kernel); (decide +kernel); (decide +kernel); (decide +kernel); (rfl); (intro _ _; exact rn); (exact fun _ _ _ h => h); (refine gset ?_)); ((with_reducible apply wpi_take (i := 5)); (rfl); (rfl); (rfl); (decide +kernel); (decide +kernel); (decide +kernel); (decide +kernel); (rfl); (intro _ _; exact rn); (exact fun _ _ _ h => h); (refine gset ?_)); ((with_reducible apply wpi_take (i := 7)); (rfl); (rfl); (rfl); (decide +kernel); (decide +kernel); (decide +kernel); (decide +kernel); (rfl); (intro _ _; exact rn); (exact fun _ _ _ h => h); (refine gset ?_)); ((with_reducible apply wpi_take (i := 8)); (rfl); (rfl); (rfl); (decide +kernel); (decide +kernel); (decide +kernel); (decide +kernel); (rfl); (intro _ _; exact rn); (exact fun _ _ _ h => h); (refine gset ?_))
      refine wpi_op (i := 6) (by decide +kernel) rfl rfl ?_
      refine wpl_callR (enters_of Tryz.func67 rfl rfl) rfl rfl (p_less r1 r2 _ _ _ (sr1.ext x13) (sr2.ext x13) (by omega)) ?_
      intro g w14 x14 og
      refine gset ?_
      have x1214 := x13.trans x14
      refine wph_nil ⟨till_yes x1214, ?_⟩
      refine wpi_op (i := 9) (by decide +kernel) rfl rfl ?_
      refine wpl_callR (enters_of Tryz.func67 rfl rfl) rfl rfl (p_less r2 r1 _ _ _ (sr2.ext x1214) (sr1.ext x1214) (by omega)) ?_
      intro n w15 x15 on
      refine gset ?_
      have x1215 := x1214.trans x15
      refine wph_nil ⟨till_yes x1215, ?_⟩
      have sg := (og.ext x15).sl
      have sn := on.sl
      refine wpi_take (i := 10) (v := .agg #[.int .i64 (soaZ oa la).serial, .int .i64 (soaZ ob lb).serial, g, n]) rfl rfl rfl (by decide +kernel) (by decide +kernel) (by decide +kernel) (by decide +kernel) rfl (fun w' _ => Runs.build rfl (by obtain ⟨_, _, _, rfl⟩ := sg.slf; obtain ⟨_, _, _, rfl⟩ := sn.slf; kernel_rfl)) (fun _ _ _ h => h) ?_
      refine gset ?_
      refine wpi_op (i := 11) (by decide +kernel) rfl rfl ?_
      have h15 := x1215.at h12
      refine wpl_storeB (v := .agg #[.int .i64 (soaZ oa la).serial, .int .i64 (soaZ ob lb).serial, g, n]) rfl rfl rfl h15 (show sizeTy Tryz.prog 30 4 = true by decide +kernel) rfl (all4 rfl rfl sg.one sn.one) ?_
      intro w16 p16
      refine wph_nil ⟨till_no rfl, ?_⟩
      ((with_reducible apply wpi_pure (i := 12)); (rfl); (rfl); (rfl); (decide +kernel); (decide +kernel); (decide +kernel); (rfl); (intro _; exact rn); (exact fun _ _ _ h => h); (refine gset ?_))
      refine wpi_done (by decide +kernel) ?_
      have x16 : Ext w w16 := (hx12.trans x1215).move p16.mv (by rintro k ⟨⟩; exact zz)
      repeat' (first | ((with_reducible refine o_s ?_); (first | (refine o_1 ?_; refine o_2 ?_) | (refine o_g ?_; first | refine o_u ?_ | refine o_k ?_ | refine o_n ?_ | refine o_v ?_ | ((first | refine o_G ?_ ?_ | refine o_N ?_ ?_) <;> intro hc)))) | ((fail_if_success (with_reducible refine o_s ?_)); go_step))
      refine bodyPost_ret (results_cellT (cs := [.int .i64 (soaZ oa la).serial, .int .i64 (soaZ ob lb).serial, g, n]) rfl rfl p16.this (show aggTy Tryz.prog 30 4 = true by decide +kernel)) rfl ⟨_, rfl, x16, ?_⟩
      have hd : mkD oa la ob lb = ⟨(soaZ oa la).serial, (soaZ ob lb).serial, lessR (recordsS la) (recordsS lb), lessR (recordsS lb) (recordsS la)⟩ := by rw [mkD, if_pos he]
      rw [hd, he]
      exact ⟨_, rfl, g, n, rfl, (og.ext x15).mv p16.mv (.inr ((og.ext x15).neBlock h15 (by decide))) |>.weaken (hx12.trans x13).size, on.mv p16.mv (.inr (on.neBlock h15 (by decide))) |>.weaken (hx12.trans x1214).size⟩
set_option maxHeartbeats 500000 in
theorem r8_Few (o : List UInt8) (v : Value) (l : List RSet) (w : World) (hv : SetsAt w v l) : Calls Tryz.prog 25 #[.agg #[str o, v]] w (RetV w (.bool (decide ((o.length : Int) ≤ 300) && fewS l))) := by
  go_enter Tryz.func25, Tryz.ntmps25
  repeat' ((fail_if_success (with_reducible refine o_s ?_)); go_step)
  refine wpl_box (vs := [str o, v]) rfl rfl ?_
  intro p w1 x1 hp
  refine gset ?_
  have hv1 := hv.ext x1
  repeat' (first | ((with_reducible refine o_s ?_); (first | (refine o_1 ?_; refine o_2 ?_) | (refine o_g ?_; first | refine o_u ?_ | refine o_k ?_ | refine o_n ?_ | refine o_v ?_ | ((first | refine o_G ?_ ?_ | refine o_N ?_ ?_) <;> intro hc)))) | ((fail_if_success (with_reducible refine o_s ?_)); go_step))
  · refine wpl_callV (enters_of Tryz.func71 rfl rfl) rfl rfl (t14 v l _ hv1) ?_; intro w2 x2; refine gset ?_
    repeat' (first | ((with_reducible refine o_s ?_); (first | (refine o_1 ?_; refine o_2 ?_) | (refine o_g ?_; first | refine o_u ?_ | refine o_k ?_ | refine o_n ?_ | refine o_v ?_ | ((first | refine o_G ?_ ?_ | refine o_N ?_ ?_) <;> intro hc)))) | ((fail_if_success (with_reducible refine o_s ?_)); go_step))
    go_ret
    exact ⟨by rw [decide_eq_true hc]; rfl, x1.trans x2⟩
  · go_ret
    exact ⟨by rw [decide_eq_false hc]; rfl, x1⟩
set_option maxHeartbeats 500000 in
theorem r8_Same (o o' : List UInt8) (u v : Value) (a b : List RSet) (w : World) (hu : SetsAt w u a) (hv : SetsAt w v b) : Calls Tryz.prog 31 #[.agg #[str o, u], .agg #[str o', v]] w (RetV w (.bool (decide (o = o') && decide (a = b)))) := by
  go_enter Tryz.func31, Tryz.ntmps31
  repeat' ((fail_if_success (with_reducible refine o_s ?_)); go_step)
  refine wpl_box (vs := [str o, u]) rfl rfl ?_
  intro p w1 x1 hp
  refine gset ?_
  repeat' ((fail_if_success (with_reducible refine o_s ?_)); go_step)
  refine wpl_box (vs := [str o', v]) rfl rfl ?_
  intro q w2 x2 hq
  refine gset ?_
  have hx2 := x1.trans x2
  have hp2 := hp.ext x2
  repeat' (first | ((with_reducible refine o_s ?_); (first | (refine o_1 ?_; refine o_2 ?_) | (refine o_g ?_; first | refine o_u ?_ | refine o_k ?_ | refine o_n ?_ | refine o_v ?_ | ((first | refine o_G ?_ ?_ | refine o_N ?_ ?_) <;> intro hc)))) | ((fail_if_success (with_reducible refine o_s ?_)); go_step))
  · refine wpl_callV (enters_of Tryz.func80 rfl rfl) rfl rfl (t11 u v a b _ (hu.ext hx2) (hv.ext hx2)) ?_; intro w3 x3; refine gset ?_
    repeat' (first | ((with_reducible refine o_s ?_); (first | (refine o_1 ?_; refine o_2 ?_) | (refine o_g ?_; first | refine o_u ?_ | refine o_k ?_ | refine o_n ?_ | refine o_v ?_ | ((first | refine o_G ?_ ?_ | refine o_N ?_ ?_) <;> intro hc)))) | ((fail_if_success (with_reducible refine o_s ?_)); go_step))
    go_ret
    exact ⟨by rw [decide_eq_true hc]; rfl, hx2.trans x3⟩
  · go_ret
    exact ⟨by rw [decide_eq_false hc]; rfl, hx2⟩
theorem DelA.ext {d : DeltaR} {r : Value} {w w' : World} (h : DelA d r w) (hx : Ext w w') : DelA d r w' := by
  obtain ⟨g, n, e, a, b⟩ := h
  exact ⟨g, n, e, a.ext hx, b.ext hx⟩
theorem l10_Told {d : DeltaR} {r : Value} (w : World) (h : DelA d r w) : Calls Tryz.prog 24 #[r] w (RetV w r) := by
  obtain ⟨g, n, rfl, sg, sn⟩ := h
  go_enter Tryz.func24, Tryz.ntmps24
  repeat' ((fail_if_success (with_reducible refine o_s ?_)); go_step)
  refine wpl_box (vs := [.int .i64 d.fr, .int .i64 d.to, g, n]) rfl rfl ?_
  intro p w1 x1 hp
  refine gset ?_
  refine wpl_allocB (z := zdel) rfl (by decide +kernel) ?_
  intro w2 x2 s2 h2
  refine gset ?_
  have hx2 := x1.trans x2
  have zz := x1.size
  have hp2 := hp.ext x2
  repeat' (first | ((with_reducible refine o_s ?_); (first | (refine o_1 ?_; refine o_2 ?_) | (refine o_g ?_; first | refine o_u ?_ | refine o_k ?_ | refine o_n ?_ | refine o_v ?_ | ((first | refine o_G ?_ ?_ | refine o_N ?_ ?_) <;> intro hc)))) | ((fail_if_success (with_reducible refine o_s ?_)); go_step))
  refine wpl_run (v := .agg #[.int .i64 d.fr, .int .i64 d.to, g, n]) rfl (Runs.build rfl (by obtain ⟨_, _, _, rfl⟩ := sg.slf; obtain ⟨_, _, _, rfl⟩ := sn.slf; kernel_rfl)) ?_
  refine gset ?_
  refine wpl_storeB (v := .agg #[.int .i64 d.fr, .int .i64 d.to, g, n]) rfl rfl rfl h2 (show sizeTy Tryz.prog 34 4 = true by decide +kernel) rfl (all4 rfl rfl sg.one sn.one) ?_
  intro w3 p3
  have x3 : Ext w w3 := hx2.move p3.mv (by rintro k ⟨⟩; exact zz)
  repeat' (first | ((with_reducible refine o_s ?_); (first | (refine o_1 ?_; refine o_2 ?_) | (refine o_g ?_; first | refine o_u ?_ | refine o_k ?_ | refine o_n ?_ | refine o_v ?_ | ((first | refine o_G ?_ ?_ | refine o_N ?_ ?_) <;> intro hc)))) | ((fail_if_success (with_reducible refine o_s ?_)); go_step))
  exact bodyPost_ret (results_cell1 (cs := [.int .i64 d.fr, .int .i64 d.to, g, n]) rfl rfl p3.this (show aggTy Tryz.prog 34 4 = true by decide +kernel)) rfl ⟨rfl, x3⟩
theorem l10_few (oa ob : List UInt8) (u v : Value) (la lb : List RSet) (w : World) (hu : SetsAt w u la) (hv : SetsAt w v lb) : Calls Tryz.prog 19 #[.agg #[str oa, u], .agg #[str ob, v]] w (RetV w (.bool ((decide ((oa.length : Int) ≤ 300) && fewS la) && (decide ((ob.length : Int) ≤ 300) && fewS lb)))) := by
  go_enter Tryz.func19, Tryz.ntmps19
  repeat' ((fail_if_success (with_reducible refine o_s ?_)); go_step)
  refine wpl_box (vs := [str oa, u]) rfl rfl ?_
  intro p w1 x1 hp
  refine gset ?_
  refine wpl_box (vs := [str ob, v]) rfl rfl ?_
  intro q w2 x2 hq
  refine gset ?_
  have hx2 := x1.trans x2
  have hp2 := hp.ext x2
  repeat' (first | ((with_reducible refine o_s ?_); (first | (refine o_1 ?_; refine o_2 ?_) | (refine o_g ?_; first | refine o_u ?_ | refine o_k ?_ | refine o_n ?_ | refine o_v ?_ | ((first | refine o_G ?_ ?_ | refine o_N ?_ ?_) <;> intro hc)))) | ((fail_if_success (with_reducible refine o_s ?_)); go_step))
  refine wpl_callV (enters_of Tryz.func25 rfl rfl) rfl rfl (r8_Few oa u la _ (hu.ext hx2)) ?_; intro w3 x3; refine gset ?_
  have hx3 := hx2.trans x3
  have hq3 := hq.ext x3
  cases hg : (decide ((oa.length : Int) ≤ 300) && fewS la) with
  | false =>
    repeat' (first | ((with_reducible refine o_s ?_); (first | (refine o_1 ?_; refine o_2 ?_) | (refine o_g ?_; first | refine o_u ?_ | refine o_k ?_ | refine o_n ?_ | refine o_v ?_ | ((first | refine o_G ?_ ?_ | refine o_N ?_ ?_) <;> intro hc)))) | ((fail_if_success (with_reducible refine o_s ?_)); go_step))
    go_ret
    exact ⟨by rw [hg]; rfl, hx3⟩
  | true =>
    repeat' (first | ((with_reducible refine o_s ?_); (first | (refine o_1 ?_; refine o_2 ?_) | (refine o_g ?_; first | refine o_u ?_ | refine o_k ?_ | refine o_n ?_ | refine o_v ?_ | ((first | refine o_G ?_ ?_ | refine o_N ?_ ?_) <;> intro hc)))) | ((fail_if_success (with_reducible refine o_s ?_)); go_step))
    refine wpl_callV (enters_of Tryz.func25 rfl rfl) rfl rfl (r8_Few ob v lb _ (hv.ext hx3)) ?_; intro w4 x4; refine gset ?_
    repeat' (first | ((with_reducible refine o_s ?_); (first | (refine o_1 ?_; refine o_2 ?_) | (refine o_g ?_; first | refine o_u ?_ | refine o_k ?_ | refine o_n ?_ | refine o_v ?_ | ((first | refine o_G ?_ ?_ | refine o_N ?_ ?_) <;> intro hc)))) | ((fail_if_success (with_reducible refine o_s ?_)); go_step))
    go_ret
    exact ⟨by rw [hg]; rfl, hx3.trans x4⟩
theorem same_del {a b : DeltaR} : decide (a = b) = (decide (a.fr = b.fr) && decide (a.to = b.to) && decide (a.gone = b.gone) && decide (a.new = b.new)) := by
  rw [Bool.eq_iff_iff]
  cases a; cases b
  simp [and_assoc]
theorem r10_Same {a b : DeltaR} {r q : Value} (w : World) (h : DelA a r w) (k : DelA b q w) : Calls Tryz.prog 23 #[r, q] w (RetV w (.bool (decide (a = b)))) := by
  obtain ⟨g, n, rfl, sg, sn⟩ := h
  obtain ⟨g', n', rfl, sg', sn'⟩ := k
  rw [same_del]
  go_enter Tryz.func23, Tryz.ntmps23
  repeat' ((fail_if_success (with_reducible refine o_s ?_)); go_step)
  refine wpl_box (vs := [.int .i64 a.fr, .int .i64 a.to, g, n]) rfl rfl ?_
  intro p w1 x1 hp
  refine gset ?_
  refine wpl_box (vs := [.int .i64 b.fr, .int .i64 b.to, g', n']) rfl rfl ?_
  intro p' w2 x2 hq
  refine gset ?_
  have hx2 := x1.trans x2
  have hp2 := hp.ext x2
  repeat' (first | ((with_reducible refine o_s ?_); (first | (refine o_1 ?_; refine o_2 ?_) | (refine o_g ?_; first | refine o_u ?_ | refine o_k ?_ | refine o_n ?_ | refine o_v ?_ | ((first | refine o_G ?_ ?_ | refine o_N ?_ ?_) <;> intro hc)))) | ((fail_if_success (with_reducible refine o_s ?_)); go_step))
  · have c1 : a.fr = b.fr := by assumption
    refine wpl_callV (enters_of Tryz.func42 rfl rfl) rfl rfl (r3_Same g g' a.gone b.gone _ (sg.ext hx2) (sg'.ext hx2)) ?_; intro w3 x3; refine gset ?_
    have hx3 := hx2.trans x3
    have hp3 := hp2.ext x3
    have hq3 := hq.ext x3
    cases hg : decide (a.gone = b.gone) with
    | false =>
      repeat' (first | ((with_reducible refine o_s ?_); (first | (refine o_1 ?_; refine o_2 ?_) | (refine o_g ?_; first | refine o_u ?_ | refine o_k ?_ | refine o_n ?_ | refine o_v ?_ | ((first | refine o_G ?_ ?_ | refine o_N ?_ ?_) <;> intro hc)))) | ((fail_if_success (with_reducible refine o_s ?_)); go_step))
      go_ret
      exact ⟨by rw [decide_eq_true c1, decide_eq_true hc, hg]; rfl, hx3⟩
    | true =>
      repeat' (first | ((with_reducible refine o_s ?_); (first | (refine o_1 ?_; refine o_2 ?_) | (refine o_g ?_; first | refine o_u ?_ | refine o_k ?_ | refine o_n ?_ | refine o_v ?_ | ((first | refine o_G ?_ ?_ | refine o_N ?_ ?_) <;> intro hc)))) | ((fail_if_success (with_reducible refine o_s ?_)); go_step))
      refine wpl_callV (enters_of Tryz.func42 rfl rfl) rfl rfl (r3_Same n n' a.new b.new _ (sn.ext hx3) (sn'.ext hx3)) ?_; intro w4 x4; refine gset ?_
      repeat' (first | ((with_reducible refine o_s ?_); (first | (refine o_1 ?_; refine o_2 ?_) | (refine o_g ?_; first | refine o_u ?_ | refine o_k ?_ | refine o_n ?_ | refine o_v ?_ | ((first | refine o_G ?_ ?_ | refine o_N ?_ ?_) <;> intro hc)))) | ((fail_if_success (with_reducible refine o_s ?_)); go_step))
      go_ret
      exact ⟨by rw [decide_eq_true c1, decide_eq_true hc, hg]; rfl, hx3.trans x4⟩
  · have c1 : a.fr = b.fr := by assumption
    go_ret
    exact ⟨by rw [decide_eq_true c1, decide_eq_false hc]; rfl, hx2⟩
  · go_ret
    exact ⟨by rw [decide_eq_false hc]; rfl, hx2⟩
theorem p_Invert {d : DeltaR} {r : Value} (w : World) (h : DelA d r w) (b1 : d.gone.length ≤ 100000) (b2 : d.new.length ≤ 100000) : Calls Tryz.prog 35 #[r] w (Ret w (DelO w.heap.size (invD d))) := by
  obtain ⟨g, n, rfl, sg, sn⟩ := h
  go_enter Tryz.func35, Tryz.ntmps35
  repeat' ((fail_if_success (with_reducible refine o_s ?_)); go_step)
  refine wpl_box (vs := [.int .i64 d.fr, .int .i64 d.to, g, n]) rfl rfl ?_
  intro p w1 x1 hp
  refine gset ?_
  refine wpl_allocB (z := zdel) rfl (by decide +kernel) ?_
  intro w2 x2 s2 h2
  refine gset ?_
  have hx2 := x1.trans x2
  have zz := x1.size
  have hp2 := hp.ext x2
  repeat' (first | ((with_reducible refine o_s ?_); (first | (refine o_1 ?_; refine o_2 ?_) | (refine o_g ?_; first | refine o_u ?_ | refine o_k ?_ | refine o_n ?_ | refine o_v ?_ | ((first | refine o_G ?_ ?_ | refine o_N ?_ ?_) <;> intro hc)))) | ((fail_if_success (with_reducible refine o_s ?_)); go_step))
  refine wpi_region 11 (Ext w2) (by decide +kernel) ?_
  intro w3 x3 _
  refine ⟨x3, ?_⟩
  ((with_reducible apply wpi_take (i := 0)); (rfl); (rfl); (rfl); (decide +kernel); (decide +kernel); (decide +kernel); (decide +kernel); (rfl); (intro _ _; exact rn); (exact fun _ _ _ h => h); (refine gset ?_)); ((with_reducible apply wpi_take (i := 1)); (rfl); (rfl); (rfl); (decide +kernel); (decide +kernel); (decide +kernel); (decide +kernel); (rfl); (intro _ _; exact rn); (exact fun _ _ _ h => h); (refine gset ?_)); ((with_reducible apply wpi_take (i := 2)); (rfl); (rfl); (rfl); (decide +kernel); (decide +kernel); (decide +kernel); (decide +kernel); (rfl); (intro _ _; exact rn); (exact fun _ _ _ h => h); (refine gset ?_)); ((with_reducible apply wpi_take (i := 3)); (rfl); (rfl); (rfl); (decide +kernel); (decide +kernel); (decide +kernel); (decide +kernel); (rfl); (intro _ _; exact rn); (exact fun _ _ _ h => h); (refine gset ?_)); ((with_reducible apply wpi_take (i := 4)); (rfl); (rfl); (rfl); (decide +kernel); (decide +kernel); (decide +kernel); (decide +kernel); (rfl); (intro _ _; exact rn); (exact fun _ _ _ h => h); (refine gset ?_)); ((with_reducible apply wpi_take (i := 5)); (rfl); (rfl); (rfl); (decide +kernel); (decide +kernel); (decide +kernel); (decide +kernel); (rfl); (intro _ _; exact rn); (exact fun _ _ _ h => h); (refine gset ?_)); ((with_reducible apply wpi_take (i := 7)); (rfl); (rfl); (rfl); (decide +kernel); (decide +kernel); (decide +kernel); (decide +kernel); (rfl); (intro _ _; exact rn); (exact fun _ _ _ h => h); (refine gset ?_)); ((with_reducible apply wpi_take (i := 8)); (rfl); (rfl); (rfl); (decide +kernel); (decide +kernel); (decide +kernel); (decide +kernel); (rfl); (intro _ _; exact rn); (exact fun _ _ _ h => h); (refine gset ?_))
  refine wpi_op (i := 6) (by decide +kernel) rfl rfl ?_
  refine wpl_callR (enters_of Tryz.func82 rfl rfl) rfl rfl (p_CloneR n d.new _ (sn.ext (hx2.trans x3)) (by omega)) ?_
  intro n' w4 x4 on
  refine gset ?_
  have x24 := x3.trans x4
  refine wph_nil ⟨till_yes x24, ?_⟩
  refine wpi_op (i := 9) (by decide +kernel) rfl rfl ?_
  refine wpl_callR (enters_of Tryz.func82 rfl rfl) rfl rfl (p_CloneR g d.gone _ (sg.ext (hx2.trans x24)) (by omega)) ?_
  intro g' w5 x5 og
  refine gset ?_
  have x25 := x24.trans x5
  refine wph_nil ⟨till_yes x25, ?_⟩
  have on5 := on.ext x5
  have sg5 := og.sl
  have sn5 := on5.sl
  refine wpi_take (i := 10) (v := .agg #[.int .i64 d.to, .int .i64 d.fr, n', g']) rfl rfl rfl (by decide +kernel) (by decide +kernel) (by decide +kernel) (by decide +kernel) rfl (fun w' _ => Runs.build rfl (by obtain ⟨_, _, _, rfl⟩ := sg5.slf; obtain ⟨_, _, _, rfl⟩ := sn5.slf; kernel_rfl)) (fun _ _ _ h => h) ?_
  refine gset ?_
  refine wpi_op (i := 11) (by decide +kernel) rfl rfl ?_
  have h5 := x25.at h2
  refine wpl_storeB (v := .agg #[.int .i64 d.to, .int .i64 d.fr, n', g']) rfl rfl rfl h5 (show sizeTy Tryz.prog 30 4 = true by decide +kernel) rfl (all4 rfl rfl sn5.one sg5.one) ?_
  intro w6 p6
  refine wph_nil ⟨till_no rfl, ?_⟩
  refine wpi_done (by decide +kernel) ?_
  have x6 : Ext w w6 := (hx2.trans x25).move p6.mv (by rintro k ⟨⟩; exact zz)
  repeat' (first | ((with_reducible refine o_s ?_); (first | (refine o_1 ?_; refine o_2 ?_) | (refine o_g ?_; first | refine o_u ?_ | refine o_k ?_ | refine o_n ?_ | refine o_v ?_ | ((first | refine o_G ?_ ?_ | refine o_N ?_ ?_) <;> intro hc)))) | ((fail_if_success (with_reducible refine o_s ?_)); go_step))
  refine bodyPost_ret (results_cell1 (cs := [.int .i64 d.to, .int .i64 d.fr, n', g']) rfl rfl p6.this (show aggTy Tryz.prog 30 4 = true by decide +kernel)) rfl ⟨_, rfl, x6, ?_⟩
  exact ⟨n', g', rfl, on5.mv p6.mv (.inr (on5.neBlock h5 (by decide))) |>.weaken (hx2.trans x3).size, og.mv p6.mv (.inr (og.neBlock h5 (by decide))) |>.weaken (hx2.trans x24).size⟩
theorem p_exists1 (pn : Value) (n : List UInt8) (s : RSet) (u : Value) (w : World) (hn : Pts w pn [str n]) : Calls Tryz.prog 192 #[.agg #[str s.name, .int .i64 s.kind, .int .i64 s.ttl, u], pn] w (RetV w (.bool (underN s.name n))) := by
  go_enter Tryz.func192, Tryz.ntmps192
  repeat' ((fail_if_success (with_reducible refine o_s ?_)); go_step)
  refine wpl_box (vs := [str s.name, .int .i64 s.kind, .int .i64 s.ttl, u]) rfl rfl ?_
  intro ps w1 x1 hs
  refine gset ?_
  have hn1 := hn.ext x1
  repeat' (first | ((with_reducible refine o_s ?_); (first | (refine o_1 ?_; refine o_2 ?_) | (refine o_g ?_; first | refine o_u ?_ | refine o_k ?_ | refine o_n ?_ | refine o_v ?_ | ((first | refine o_G ?_ ?_ | refine o_N ?_ ?_) <;> intro hc)))) | ((fail_if_success (with_reducible refine o_s ?_)); go_step))
  refine wpl_callV (enters_of Tryz.func98 rfl rfl) rfl rfl (p_Under s.name n _) ?_; intro w2 x2; refine gset ?_
  repeat' (first | ((with_reducible refine o_s ?_); (first | (refine o_1 ?_; refine o_2 ?_) | (refine o_g ?_; first | refine o_u ?_ | refine o_k ?_ | refine o_n ?_ | refine o_v ?_ | ((first | refine o_G ?_ ?_ | refine o_N ?_ ?_) <;> intro hc)))) | ((fail_if_success (with_reducible refine o_s ?_)); go_step))
  go_ret
  exact ⟨rfl, x1.trans x2⟩
theorem p_exists (o : List UInt8) (v : Value) (l : List RSet) (n : List UInt8) (w : World) (hv : SetsAt w v l) : Calls Tryz.prog 166 #[.agg #[str o, v], str n] w (RetV w (.bool (l.any fun s => underN s.name n))) := by
  go_enter Tryz.func166, Tryz.ntmps166
  repeat' ((fail_if_success (with_reducible refine o_s ?_)); go_step)
  refine wpl_box (vs := [str o, v]) rfl rfl ?_
  intro p w1 x1 hp
  refine gset ?_
  repeat' ((fail_if_success (with_reducible refine o_s ?_)); go_step)
  refine wpl_box (vs := [str n]) rfl rfl ?_
  intro pn w2 x2 hn
  refine gset ?_
  have hx2 := x1.trans x2
  have hp2 := hp.ext x2
  have hv2 := hv.ext hx2
  repeat' (first | ((with_reducible refine o_s ?_); (first | (refine o_1 ?_; refine o_2 ?_) | (refine o_g ?_; first | refine o_u ?_ | refine o_k ?_ | refine o_n ?_ | refine o_v ?_ | ((first | refine o_G ?_ ?_ | refine o_N ?_ ?_) <;> intro hc)))) | ((fail_if_success (with_reducible refine o_s ?_)); go_step))
  have hf : SetFn w2 192 #[pn] l (fun s => underN s.name n) := fun s _ x w' hx' _ => p_exists1 pn n s x w' (hn.ext hx')
  refine wpl_callV (enters_of Tryz.func86 rfl rfl) rfl rfl (p_ContainsFunc v l 192 #[pn] (fun s => underN s.name n) _ hv2 (enters_of Tryz.func192 rfl rfl) hf) ?_; intro w3 x3; refine gset ?_
  repeat' (first | ((with_reducible refine o_s ?_); (first | (refine o_1 ?_; refine o_2 ?_) | (refine o_g ?_; first | refine o_u ?_ | refine o_k ?_ | refine o_n ?_ | refine o_v ?_ | ((first | refine o_G ?_ ?_ | refine o_N ?_ ?_) <;> intro hc)))) | ((fail_if_success (with_reducible refine o_s ?_)); go_step))
  go_ret
  exact ⟨rfl, hx2.trans x3⟩
def atS (l : List RSet) (n a : List UInt8) : List RSet := (l.filter fun s => decide (s.name = n)).map fun s => ⟨a, s.kind, s.ttl, s.data⟩
theorem at_take {l : List RSet} {n a : List UInt8} {k : Nat} (h : k < l.length) : atS (l.take (k + 1)) n a = atS (l.take k) n a ++ (if l[k].name = n then [⟨a, l[k].kind, l[k].ttl, l[k].data⟩] else []) := by
  unfold atS
  rw [List.take_succ_eq_append_getElem h, List.filter_append, List.map_append]
  congr 1
  by_cases hm : l[k].name = n <;> simp [hm]
theorem at_len (l : List RSet) (n a : List UInt8) : (atS l n a).length ≤ l.length := by
  unfold atS; rw [List.length_map]; exact List.length_filter_le _ _
set_option maxHeartbeats 3000000 in
theorem p_at (o : List UInt8) (v : Value) (l : List RSet) (n a : List UInt8) (w0 w : World) (hx0 : Ext w0 w) (hv0 : SetsAt w0 v l) (hl : l.length ≤ 100000) :
    Calls Tryz.prog 167 #[.agg #[str o, v], str n, str a] w (Ret w fun r w' => ∃ css, Own w.heap.size 4 55 w' r css ∧ SetsC w0 css (atS l n a)) := by
  have hv := hv0.ext hx0
  obtain ⟨cv, hv1, hvl⟩ := hv.sl
  go_enter Tryz.func167, Tryz.ntmps167
  repeat' ((fail_if_success (with_reducible refine o_s ?_)); go_step)
  refine wpl_box (vs := [str o, v]) rfl rfl ?_
  intro p w1 x1 hp
  refine gset ?_
  have hv2 := hv1.ext x1
  repeat' (first | ((with_reducible refine o_s ?_); (first | (refine o_1 ?_; refine o_2 ?_) | (refine o_g ?_; first | refine o_u ?_ | refine o_k ?_ | refine o_n ?_ | refine o_v ?_ | ((first | refine o_G ?_ ?_ | refine o_N ?_ ?_) <;> intro hc)))) | ((fail_if_success (with_reducible refine o_s ?_)); go_step))
  go_loopw [7, 9, 13] (fun r _ i wr => ∃ (k : Nat) (css : List (List Value)), k ≤ l.length ∧ i = .int .i64 k ∧ Ext w wr ∧ Own w.heap.size 4 55 wr r css ∧ SetsC w0 css (atS (l.take k) n a)) (fun _ _ i _ => l.length - (intOf i).toNat)
  case atStart => exact ⟨0, [], Nat.zero_le _, rfl, x1, Own.nil _ _ _ _, ⟨rfl, by simp [atS]⟩⟩
  case round =>
    obtain ⟨k, css, hk, rfl, hx, ho, hc⟩ := hrel
    have hvr := hv1.ext hx
    by_cases hlt : k < l.length
    · obtain ⟨x, h4w, h4dw⟩ := hv0.elem (List.getElem?_eq_getElem hlt)
      have h4 := h4w.ext (hx0.trans hx)
      have h4d := h4dw.ext (hx0.trans hx)
      have hst := at_take (n := n) (a := a) hlt
      have hcl := hc.len
      have hal := at_len (l.take k) n a
      rw [List.length_take] at hal
      repeat' (first | ((with_reducible refine o_s ?_); (first | (refine o_1 ?_; refine o_2 ?_) | (refine o_g ?_; first | refine o_u ?_ | refine o_k ?_ | refine o_n ?_ | refine o_v ?_ | ((first | refine o_G ?_ ?_ | refine o_N ?_ ?_) <;> intro hc)))) | ((fail_if_success (with_reducible refine o_s ?_)); go_step))
      refine wpl_allocB (z := zset) rfl (by decide +kernel) ?_
      intro w2 x2 s2 h2
      refine gset ?_
      refine wpl_storeB (v := .agg #[str l[k].name, .int .i64 l[k].kind, .int .i64 l[k].ttl, x]) rfl rfl rfl h2 (show sizeTy Tryz.prog 55 4 = true by decide +kernel) rfl (all4 rfl rfl rfl (h4d.ext x2).one) ?_
      intro w3 p3
      have x3 : Ext wr w3 := x2.move p3.mv (by rintro k ⟨⟩; exact Nat.le_refl _)
      have b3 : w3.heap[wr.heap.size]? = some (.cells [str l[k].name, .int .i64 l[k].kind, .int .i64 l[k].ttl, x].toArray 55 (0, 0)) := p3.this
      have h3 := pts_block b3
      have hx3 := hx.trans x3
      have ho3 := ho.ext x3
      clear p3 h2 x2
      repeat' (first | ((with_reducible refine o_s ?_); (first | (refine o_1 ?_; refine o_2 ?_) | (refine o_g ?_; first | refine o_u ?_ | refine o_k ?_ | refine o_n ?_ | refine o_v ?_ | ((first | refine o_G ?_ ?_ | refine o_N ?_ ?_) <;> intro hc)))) | ((fail_if_success (with_reducible refine o_s ?_)); go_step))
      · have hm : l[k].name = n := by assumption
        rw [if_pos hm] at hst
        refine wpl_storeF (n := 0) b3 rfl rfl rfl (by simp) (by decide +kernel) rfl ?_
        intro w4 p4
        have x4 : Ext wr w4 := x3.move p4.mv (by rintro k ⟨⟩; exact Nat.le_refl _)
        have h5 : Pts w4 (.pointer (some ⟨wr.heap.size, 0, none⟩)) [str a, .int .i64 l[k].kind, .int .i64 l[k].ttl, x] := pts_block p4.this
        have hx4 := hx.trans x4
        have ho4 := ho.ext x4
        have hd4 := h4d.ext x4
        clear p4 b3 h3
        repeat' (first | ((with_reducible refine o_s ?_); (first | (refine o_1 ?_; refine o_2 ?_) | (refine o_g ?_; first | refine o_u ?_ | refine o_k ?_ | refine o_n ?_ | refine o_v ?_ | ((first | refine o_G ?_ ?_ | refine o_N ?_ ?_) <;> intro hc)))) | ((fail_if_success (with_reducible refine o_s ?_)); go_step))
        refine ap1 [str a, .int .i64 l[k].kind, .int .i64 l[k].ttl, x] hx4 ho4 (by omega) ?_ ⟨rfl, rfl, rfl, by intro u hu; simp only [List.mem_cons, List.not_mem_nil, or_false] at hu; rcases hu with rfl | rfl | rfl | rfl <;> first | rfl | exact hd4.one⟩
        intro s5 v5 w5 w6 x5 m6 x6 o6
        refine gset ?_
        repeat' (first | ((with_reducible refine o_s ?_); (first | (refine o_1 ?_; refine o_2 ?_) | (refine o_g ?_; first | refine o_u ?_ | refine o_k ?_ | refine o_n ?_ | refine o_v ?_ | ((first | refine o_G ?_ ?_ | refine o_N ?_ ?_) <;> intro hc)))) | ((fail_if_success (with_reducible refine o_s ?_)); go_step))
        exact ⟨⟨k + 1, _, by omega, by go_num, x6, o6, by rw [hst]; exact hc.append (SetsC.one (s := ⟨a, l[k].kind, l[k].ttl, l[k].data⟩) h4dw)⟩, by simp [intOf]; omega⟩
      · have hm : ¬ l[k].name = n := by assumption
        rw [if_neg hm, List.append_nil] at hst
        exact ⟨⟨k + 1, css, by omega, by go_num, hx3, ho3, by rw [hst]; exact hc⟩, by simp [intOf]; omega⟩
    · have : k = l.length := by omega
      subst this
      rw [List.take_length] at hc
      repeat' (first | ((with_reducible refine o_s ?_); (first | (refine o_1 ?_; refine o_2 ?_) | (refine o_g ?_; first | refine o_u ?_ | refine o_k ?_ | refine o_n ?_ | refine o_v ?_ | ((first | refine o_G ?_ ?_ | refine o_N ?_ ?_) <;> intro hc)))) | ((fail_if_success (with_reducible refine o_s ?_)); go_step))
      go_ret
      exact ⟨_, rfl, hx, _, ho, hc⟩
def recOpt (o : Option RSet) : List Rec := match o with | some s => recsOf s | none => []
theorem records_one (s : RSet) : recordsS [s] = recsOf s := by simp [recordsS]
theorem recOpt_getD (o : Option RSet) : recOpt o = recordsS [o.getD zeroS] := by cases o <;> simp [recOpt, records_one, recsOf, zeroS]
def denZ (o : List UInt8) (l : List RSet) : Rec := ⟨o, 6, min ((findS l o 6).getD zeroS).ttl (soaZ o l).minimum, soaD o l⟩
def isIn (l : List RSet) (n : List UInt8) : Bool := l.any fun s => underN s.name n
def aboveL (l : List RSet) : List (List UInt8) → List (List UInt8)
  | [] => []
  | x :: t => if isIn l (enc (x :: t)) = true then x :: t else aboveL l t
def starN (l : List RSet) (n : List UInt8) : List UInt8 := (join ([42] :: aboveL l ((labels n).getD []))).getD []
def setsP (l : List RSet) (n : List UInt8) : List RSet := if isIn l n = true then atS l n n else atS l (starN l n) n
def setsB (l : List RSet) (n : List UInt8) : Bool := isIn l n || decide (0 < (atS l (starN l n) n).length)
def hostK (k : Int) : Bool := decide (k = 2) || decide (k = 15) || decide (k = 33)
def extraStep (l : List RSet) (b : List (List UInt8) × List Rec) (r : Rec) : List (List UInt8) × List Rec :=
  if (parseHost r.kind r.data).2 ≠ 0 ∨ hostK r.kind = false ∨ fold (parseHost r.kind r.data).1 ∈ b.1 then b
  else (b.1 ++ [fold (parseHost r.kind r.data).1], b.2 ++ recOpt (findS l (fold (parseHost r.kind r.data).1) 1) ++ recOpt (findS l (fold (parseHost r.kind r.data).1) 28))
def extraF (l : List RSet) (rs : List Rec) : List (List UInt8) × List Rec := rs.foldl (extraStep l) ([], [])
def extraS (l : List RSet) (rs : List Rec) : List Rec := (extraF l rs).2
structure StepR where
  kind : Int
  ans : List Rec
  auth : List Rec
  next : List UInt8
  more : Bool
  deriving Inhabited
def isAlias (s : RSet) : Bool := decide (s.kind = 5)
def aliasSet (l : List RSet) (n : List UInt8) : RSet := ((setsP l n).find? isAlias).getD zeroS
def ofKind (k : Int) (s : RSet) : Bool := decide (k = 255) || decide (s.kind = k)
def stepP (o : List UInt8) (l : List RSet) (n : List UInt8) (k c : Int) : StepR :=
  if underN n o = false then ⟨if c = 0 then 4 else 0, [], [], [], false⟩
  else if (cutP o l n).2 = true then ⟨3, [], recOpt (findS l (cutP o l n).1 2), [], false⟩
  else if setsB l n = false then ⟨2, [], [denZ o l], [], false⟩
  else if (setsP l n).any isAlias = true ∧ k ≠ 5 ∧ k ≠ 255 then
    if c = 8 then ⟨0, [], [], [], false⟩
    else ⟨0, recsOf (aliasSet l n), [], fold (parseHost 5 ((aliasSet l n).data.getD 0 [])).1, true⟩
  else if (setsP l n).filter (ofKind k) = [] then ⟨1, [], [denZ o l], [], false⟩
  else ⟨0, recordsS ((setsP l n).filter (ofKind k)), [], [], false⟩
def askP (o : List UInt8) (l : List RSet) (k : Int) : Nat → Int → List UInt8 → StepR
  | 0, _, _ => ⟨0, [], [], [], false⟩
  | f + 1, c, n => if (stepP o l n k c).more = true then
      ⟨(askP o l k f (c + 1) (stepP o l n k c).next).kind, (stepP o l n k c).ans ++ (askP o l k f (c + 1) (stepP o l n k c).next).ans, (askP o l k f (c + 1) (stepP o l n k c).next).auth, [], false⟩
    else stepP o l n k c
structure AnsR where
  kind : Int
  ans : List Rec
  auth : List Rec
  extra : List Rec
  deriving DecidableEq, Inhabited
def zeroA : AnsR := ⟨0, [], [], []⟩
def askE (o : List UInt8) (l : List RSet) (q : List UInt8) : Int := if zoneR o l ≠ 0 then zoneR o l else checkE q
def tellsR (r : StepR) : List Rec := r.ans ++ if r.kind = 3 then r.auth else []
def askA (o : List UInt8) (l : List RSet) (q : List UInt8) (k : Int) : AnsR :=
  if askE o l q ≠ 0 then zeroA else
    ⟨(askP o l k 9 0 (fold q)).kind, (askP o l k 9 0 (fold q)).ans, (askP o l k 9 0 (fold q)).auth, extraS l (tellsR (askP o l k 9 0 (fold q)))⟩

theorem fold_fold (n : List UInt8) : fold (fold n) = fold n := by
  cases h : labels n with
  | none =>
    have : fold n = n := by unfold fold; rw [h]
    rw [this, this]
  | some ls => exact (fold_valid h).2.2
theorem labels_fold (n : List UInt8) : (labels (fold n)).isSome = (labels n).isSome := by
  cases h : labels n with
  | none =>
    have : fold n = n := by unfold fold; rw [h]
    rw [this, h]
  | some ls => rw [(fold_valid h).2.1]; rfl
theorem check_fold (n : List UInt8) : checkE (fold n) = checkE n := by unfold checkE; rw [labels_fold]
theorem turned_fold (n : List UInt8) : turned (fold n) = turned n := by unfold turned; rw [fold_fold]
theorem under_foldL (n t : List UInt8) : underN (fold n) t = underN n t := by unfold underN; rw [turned_fold]
theorem under_foldR (n t : List UInt8) : underN n (fold t) = underN n t := by unfold underN; rw [turned_fold]
theorem cutP_fold (o : List UInt8) (l : List RSet) (n : List UInt8) : cutP o l (fold n) = cutP o l n := by
  have : isCut o (fold n) = isCut o n := by funext s; unfold isCut; rw [under_foldL]
  unfold cutP; rw [this]
theorem isIn_fold (l : List RSet) (n : List UInt8) : isIn l (fold n) = isIn l n := by unfold isIn; simp only [under_foldR]
theorem ask_letters (o : List UInt8) (l : List RSet) (q : List UInt8) (k : Int) : askA o l (fold q) k = askA o l q k ∧ askE o l (fold q) = askE o l q := by
  have h : askE o l (fold q) = askE o l q := by unfold askE; rw [check_fold]
  exact ⟨by unfold askA; rw [h, fold_fold], h⟩
theorem step_kinds (o : List UInt8) (l : List RSet) (n : List UInt8) (k c : Int) :
    ((stepP o l n k c).kind = 1 ∨ (stepP o l n k c).kind = 2 → (stepP o l n k c).auth = [denZ o l]) ∧
    ((stepP o l n k c).kind = 3 → (cutP o l n).2 = true ∧ (stepP o l n k c).auth = recOpt (findS l (cutP o l n).1 2)) ∧
    ((stepP o l n k c).kind = 0 ∨ (stepP o l n k c).kind = 4 → (stepP o l n k c).auth = []) ∧
    (0 ≤ (stepP o l n k c).kind ∧ (stepP o l n k c).kind ≤ 4) := by
  unfold stepP
  split
  · split <;> simp
  · split
    · rename_i h; simp [h]
    · split
      · simp
      · split
        · split <;> simp
        · split <;> simp
theorem ask_kinds (o : List UInt8) (l : List RSet) (k : Int) : ∀ (f : Nat) (c : Int) (n : List UInt8),
    ((askP o l k f c n).kind = 1 ∨ (askP o l k f c n).kind = 2 → (askP o l k f c n).auth = [denZ o l]) ∧
    ((askP o l k f c n).kind = 3 → ∃ m, (cutP o l m).2 = true ∧ (askP o l k f c n).auth = recOpt (findS l (cutP o l m).1 2)) ∧
    ((askP o l k f c n).kind = 0 ∨ (askP o l k f c n).kind = 4 → (askP o l k f c n).auth = []) ∧
    (0 ≤ (askP o l k f c n).kind ∧ (askP o l k f c n).kind ≤ 4)
  | 0, c, n => by simp [askP]
  | f + 1, c, n => by
    rw [askP]
    split
    · exact ask_kinds o l k f (c + 1) _
    · have h := step_kinds o l n k c
      exact ⟨h.1, fun e => ⟨n, h.2.1 e⟩, h.2.2.1, h.2.2.2⟩
theorem cutP_set {o : List UInt8} {l : List RSet} {n : List UInt8} (h : (cutP o l n).2 = true) : ∃ s ∈ l, s.kind = 2 ∧ s.name ≠ o ∧ underN n s.name = true ∧ (cutP o l n).1 = s.name := by
  unfold cutP at *
  cases hf : l.find? (isCut o n) with
  | none => rw [hf] at h; cases h
  | some s =>
    have h1 := List.find?_some hf
    have h2 := List.mem_of_find?_eq_some hf
    simp only [isCut, Bool.and_eq_true, decide_eq_true_eq] at h1
    exact ⟨s, h2, h1.1.1, h1.1.2, h1.2, rfl⟩
theorem found_mem {l : List RSet} (h : checkS l = 0) {s : RSet} (hs : s ∈ l) : findS l s.name s.kind = some s := by
  obtain ⟨i, hi, rfl⟩ := List.mem_iff_getElem.1 hs
  exact found_all h hi
theorem may_data {s : RSet} (h : mayS s = true) : 1 ≤ s.data.length ∧ s.data.length ≤ 20 := by
  simp only [mayS, Bool.and_eq_true, decide_eq_true_eq] at h
  exact ⟨h.1.1.2, h.1.2⟩
theorem refer_auth {o : List UInt8} {l : List RSet} (h : ZoneOk o l) {m : List UInt8} (hc : (cutP o l m).2 = true) : ∃ s ∈ l, s.kind = 2 ∧ s.name ≠ o ∧ underN m s.name = true ∧ recOpt (findS l (cutP o l m).1 2) = recsOf s := by
  obtain ⟨s, hs, h1, h2, h3, h4⟩ := cutP_set hc
  have := found_mem h.chk hs
  rw [h1] at this
  exact ⟨s, hs, h1, h2, h3, by rw [h4, this]; rfl⟩
def InZ (l : List RSet) (r : Rec) : Prop := (∃ s ∈ l, ∃ d ∈ s.data, r = recOf s d) ∨ isIn l r.name = false
theorem InZ.opt {l : List RSet} {n : List UInt8} {k : Int} : ∀ r ∈ recOpt (findS l n k), InZ l r := by
  intro r hr
  cases hf : findS l n k with
  | none => rw [hf] at hr; cases hr
  | some s =>
    rw [hf] at hr
    obtain ⟨d, hd, rfl⟩ := List.mem_map.1 hr
    exact .inl ⟨s, (findS_mem hf).1, d, hd, rfl⟩
theorem at_mem {l : List RSet} {m n : List UInt8} {s : RSet} (h : s ∈ atS l m n) : ∃ t ∈ l, t.name = m ∧ s = ⟨n, t.kind, t.ttl, t.data⟩ := by
  unfold atS at h
  obtain ⟨t, ht, rfl⟩ := List.mem_map.1 h
  obtain ⟨h1, h2⟩ := List.mem_filter.1 ht
  exact ⟨t, h1, by simpa using h2, rfl⟩
theorem InZ.at {l : List RSet} {n : List UInt8} {s : RSet} (h : s ∈ setsP l n) : ∀ d ∈ s.data, InZ l (recOf s d) := by
  intro d hd
  unfold setsP at h
  split at h
  · obtain ⟨t, ht, h1, rfl⟩ := at_mem h
    exact .inl ⟨t, ht, d, hd, by simp [recOf, h1]⟩
  · rename_i hn
    obtain ⟨t, ht, h1, rfl⟩ := at_mem h
    exact .inr (by simpa [recOf] using hn)
theorem InZ.recs {l : List RSet} {L : List RSet} (h : ∀ s ∈ L, ∀ d ∈ s.data, InZ l (recOf s d)) : ∀ r ∈ recordsS L, InZ l r := by
  intro r hr
  obtain ⟨s, hs, d, hd, rfl⟩ := mem_records hr
  exact h s hs d hd
theorem alias_mem {l : List RSet} {n : List UInt8} (h : (setsP l n).any isAlias = true) : aliasSet l n ∈ setsP l n ∧ (aliasSet l n).kind = 5 ∧ (setsP l n).find? isAlias = some (aliasSet l n) := by
  unfold aliasSet
  cases hf : (setsP l n).find? isAlias with
  | none =>
    rw [List.find?_eq_none] at hf
    obtain ⟨s, hs, h1⟩ := List.any_eq_true.1 h
    exact absurd h1 (hf s hs)
  | some s =>
    have := List.find?_some hf
    exact ⟨List.mem_of_find?_eq_some hf, by simpa [isAlias] using this, rfl⟩
theorem step_in (o : List UInt8) (l : List RSet) (n : List UInt8) (k c : Int) : (∀ r ∈ (stepP o l n k c).ans, InZ l r) ∧ ∀ r ∈ (stepP o l n k c).auth, r = denZ o l ∨ InZ l r := by
  unfold stepP
  split
  · exact ⟨by simp, by simp⟩
  · split
    · exact ⟨by simp, fun r hr => .inr (InZ.opt r hr)⟩
    · split
      · exact ⟨by simp, by simp⟩
      · split
        · rename_i h4
          split
          · exact ⟨by simp, by simp⟩
          · refine ⟨fun r hr => ?_, by simp⟩
            obtain ⟨d, hd, rfl⟩ := List.mem_map.1 hr
            exact InZ.at (alias_mem h4.1).1 d hd
        · split
          · exact ⟨by simp, by simp⟩
          · exact ⟨InZ.recs fun s hs => InZ.at (List.mem_filter.1 hs).1, by simp⟩
theorem ask_in (o : List UInt8) (l : List RSet) (k : Int) : ∀ (f : Nat) (c : Int) (n : List UInt8), (∀ r ∈ (askP o l k f c n).ans, InZ l r) ∧ ∀ r ∈ (askP o l k f c n).auth, r = denZ o l ∨ InZ l r
  | 0, c, n => by simp [askP]
  | f + 1, c, n => by
    rw [askP]
    split
    · obtain ⟨h1, h2⟩ := ask_in o l k f (c + 1) (stepP o l n k c).next
      refine ⟨fun r hr => ?_, h2⟩
      rcases List.mem_append.1 hr with hr | hr
      · exact (step_in o l n k c).1 r hr
      · exact h1 r hr
    · exact step_in o l n k c
theorem extra_step_in {l : List RSet} {b : List (List UInt8) × List Rec} {r : Rec} (h : ∀ q ∈ b.2, InZ l q) : ∀ q ∈ (extraStep l b r).2, InZ l q := by
  unfold extraStep
  split
  · exact h
  · intro q hq
    simp only [List.mem_append] at hq
    rcases hq with (hq | hq) | hq
    · exact h q hq
    · exact InZ.opt q hq
    · exact InZ.opt q hq
theorem extra_in_aux (l : List RSet) : ∀ (rs : List Rec) (b : List (List UInt8) × List Rec), (∀ q ∈ b.2, InZ l q) → ∀ q ∈ (rs.foldl (extraStep l) b).2, InZ l q
  | [], b, h => h
  | r :: rs, b, h => extra_in_aux l rs _ (extra_step_in h)
theorem extra_in (l : List RSet) (rs : List Rec) : ∀ q ∈ extraS l rs, InZ l q := extra_in_aux l rs _ (by simp)
theorem ask_all {o : List UInt8} {l : List RSet} {q : List UInt8} {k : Int} : ∀ r ∈ (askA o l q k).ans ++ (askA o l q k).auth ++ (askA o l q k).extra, r = denZ o l ∨ InZ l r := by
  unfold askA
  split
  · simp [zeroA]
  · intro r hr
    simp only [List.mem_append] at hr
    obtain ⟨h1, h2⟩ := ask_in o l k 9 0 (fold q)
    rcases hr with (hr | hr) | hr
    · exact .inr (h1 r hr)
    · exact h2 r hr
    · exact .inr (extra_in l _ r hr)
theorem setsP_data {l : List RSet} (h : checkS l = 0) {n : List UInt8} {s : RSet} (hs : s ∈ setsP l n) : ∃ t ∈ l, s.kind = t.kind ∧ s.ttl = t.ttl ∧ s.data = t.data ∧ s.name = n := by
  unfold setsP at hs
  split at hs <;> (obtain ⟨t, ht, h1, rfl⟩ := at_mem hs; exact ⟨t, ht, rfl, rfl, rfl, rfl⟩)
theorem check_mem {l : List RSet} (h : checkS l = 0) {s : RSet} (hs : s ∈ l) : mayS s = true := by
  obtain ⟨i, hi, rfl⟩ := List.mem_iff_getElem.1 hs
  exact check_may h hi
theorem setsP_ne {l : List RSet} (h : checkS l = 0) {n : List UInt8} {s : RSet} (hs : s ∈ setsP l n) : recsOf s ≠ [] ∧ s.data.length ≤ 20 ∧ 1 ≤ s.data.length := by
  obtain ⟨t, ht, _, _, h3, _⟩ := setsP_data h hs
  have := may_data (check_mem h ht)
  have h5 : s.data.length = t.data.length := by rw [h3]
  refine ⟨fun e => ?_, by omega, by omega⟩
  unfold recsOf at e
  rw [List.map_eq_nil_iff] at e
  rw [e] at h3
  have h4 := congrArg List.length h3
  simp at h4
  omega
theorem ask_denies {o : List UInt8} {l : List RSet} (h : ZoneOk o l) (k : Int) (n : List UInt8) (ha : (askP o l k 9 0 n).ans = []) :
    ((askP o l k 9 0 n).kind = 4 ↔ underN n o = false) ∧ ((askP o l k 9 0 n).kind = 3 ↔ underN n o = true ∧ (cutP o l n).2 = true) ∧ ((askP o l k 9 0 n).kind = 2 → isIn l n = false) := by
  by_cases h1 : underN n o = false
  · have e : askP o l k 9 0 n = ⟨4, [], [], [], false⟩ := by simp [askP, stepP, h1]
    simp [e, h1]
  · have h1' : underN n o = true := by simpa using h1
    by_cases h2 : (cutP o l n).2 = true
    · have e : askP o l k 9 0 n = ⟨3, [], recOpt (findS l (cutP o l n).1 2), [], false⟩ := by simp [askP, stepP, h1', h2]
      simp [e, h1', h2]
    · have h2' : (cutP o l n).2 = false := by simpa using h2
      by_cases h3 : setsB l n = false
      · have e : askP o l k 9 0 n = ⟨2, [], [denZ o l], [], false⟩ := by simp [askP, stepP, h1', h2', h3]
        have h3' : isIn l n = false := by simp only [setsB, Bool.or_eq_false_iff] at h3; exact h3.1
        simp [e, h1', h2', h3']
      · have h3' : setsB l n = true := by simpa using h3
        by_cases h4 : (setsP l n).any isAlias = true ∧ k ≠ 5 ∧ k ≠ 255
        · exfalso
          have e : stepP o l n k 0 = ⟨0, recsOf (aliasSet l n), [], fold (parseHost 5 ((aliasSet l n).data.getD 0 [])).1, true⟩ := by
            rw [stepP, if_neg h1, if_neg h2, if_neg h3, if_pos h4, if_neg (by decide)]
          have := (setsP_ne h.chk (alias_mem h4.1).1).1
          rw [askP, e] at ha
          simp [this] at ha
        · by_cases h5 : (setsP l n).filter (ofKind k) = []
          · have e : stepP o l n k 0 = ⟨1, [], [denZ o l], [], false⟩ := by
              rw [stepP, if_neg h1, if_neg h2, if_neg h3, if_neg h4, if_pos h5]
            simp [askP, e, h1', h2']
          · have e : stepP o l n k 0 = ⟨0, recordsS ((setsP l n).filter (ofKind k)), [], [], false⟩ := by
              rw [stepP, if_neg h1, if_neg h2, if_neg h3, if_neg h4, if_neg h5]
            simp [askP, e, h1', h2']
theorem filter_one {α : Type} {p : α → Bool} : ∀ {l : List α} {s : α}, s ∈ l → p s = true → l.Pairwise (fun a b => ¬ (p a = true ∧ p b = true)) → l.filter p = [s]
  | a :: l, s, hs, hp, hw => by
    rw [List.pairwise_cons] at hw
    rcases List.mem_cons.1 hs with rfl | hs
    · rw [List.filter_cons_of_pos hp]
      congr 1
      rw [List.filter_eq_nil_iff]
      intro b hb hpb
      exact hw.1 b hb ⟨hp, hpb⟩
    · have : ¬ p a = true := fun e => hw.1 s hs ⟨e, hp⟩
      rw [List.filter_cons_of_neg this]
      exact filter_one hs hp hw.2
theorem cmpB_self (a : List UInt8) : cmpB a a = 0 := by rw [cmpB_val]; simp
theorem check_apart {l : List RSet} (h : checkS l = 0) : l.Pairwise fun a b => ¬ (a.name = b.name ∧ a.kind = b.kind) := by
  rw [List.pairwise_iff_getElem]
  intro i j hi hj hij hh
  have h1 := found_all h hi
  have h2 := found_all h hj
  rw [hh.1, hh.2, h2] at h1
  have h3 := check_sorted h i j hij hj
  rw [show l[i] = l[j] by simpa using h1.symm] at h3
  unfold cmpSet cmpI at h3
  have h4 : cmpN l[j].name l[j].name = 0 := by
    unfold cmpN
    cases turned l[j].name with
    | none => simp only [cmpB_self]
    | some x =>
      have := cmpL_end (a := x) (b := x) (k := x.length) rfl (Nat.le_refl _) (Nat.le_refl _) (.inl rfl)
      simpa using this
  simp [h4] at h3
theorem ask_sets {o : List UInt8} {l : List RSet} (h : ZoneOk o l) {s : RSet} (hs : s ∈ l) :
    askE o l s.name = 0 ∧ ((cutP o l s.name).2 = true → (askA o l s.name s.kind).kind = 3 ∧ (askA o l s.name s.kind).ans = []) ∧
    ((cutP o l s.name).2 = false → ((findS l s.name 5).isSome = true → s.kind = 5) ∧ (askA o l s.name s.kind).kind = 0 ∧ (askA o l s.name s.kind).ans = recsOf s) := by
  have hsm := h.small hs
  have hE : askE o l s.name = 0 := by rw [askE, zone_ok' h]; simp [checkE, hsm.2]
  have hA : askA o l s.name s.kind = ⟨(askP o l s.kind 9 0 s.name).kind, (askP o l s.kind 9 0 s.name).ans, (askP o l s.kind 9 0 s.name).auth, extraS l (tellsR (askP o l s.kind 9 0 s.name))⟩ := by
    rw [askA, if_neg (by simp [hE]), hsm.1]
  have hu : underN s.name o = true := right_under (h.right s hs)
  have hin : isIn l s.name = true := List.any_eq_true.2 ⟨s, hs, under_refl hsm.2⟩
  refine ⟨hE, fun hc => ?_, fun hc => ?_⟩
  · have : stepP o l s.name s.kind 0 = ⟨3, [], recOpt (findS l (cutP o l s.name).1 2), [], false⟩ := by
      rw [stepP, if_neg (by simp [hu]), if_pos hc]
    rw [hA]; simp [askP, this]
  · have hclash : ∀ t ∈ l, t.name = s.name → t.kind = 5 → s.kind = 5 := by
      intro t ht hn hk
      have := h.right t ht
      simp only [rightR, Bool.and_eq_true, Bool.not_eq_true', Bool.and_eq_false_iff, Bool.or_eq_false_iff, decide_eq_false_iff_not] at this
      rcases this.1.2 with h1 | h1
      · exact absurd hk h1
      · have h2 := List.any_eq_false.1 h1.2 s hs
        simp only [clash, Bool.and_eq_true, decide_eq_true_eq, not_and, Decidable.not_not] at h2
        exact h2 hn.symm
    have hal : (findS l s.name 5).isSome = true → s.kind = 5 := by
      intro hh
      obtain ⟨t, ht⟩ := Option.isSome_iff_exists.1 hh
      obtain ⟨h1, h2, h3⟩ := findS_mem ht
      rw [hsm.1] at h2
      exact hclash t h1 h2 h3
    have hset : setsP l s.name = atS l s.name s.name := by rw [setsP, if_pos hin]
    have h255 : s.kind ≠ 255 := by
      have hm := check_mem h.chk hs
      have hd := (may_data hm).1
      simp only [mayS, Bool.and_eq_true, List.all_eq_true, List.mem_range, Bool.not_eq_true'] at hm
      have hb := hm.2 0 (by omega)
      intro e
      unfold badAt at hb
      simp [checkR, e] at hb
    have hfil : (setsP l s.name).filter (ofKind s.kind) = [s] := by
      rw [hset]
      unfold atS
      rw [List.filter_map, List.filter_filter]
      have e : (fun a : RSet => (ofKind s.kind ∘ fun t : RSet => (⟨s.name, t.kind, t.ttl, t.data⟩ : RSet)) a && decide (a.name = s.name)) = fun a => decide (a.kind = s.kind) && decide (a.name = s.name) := by
        funext a
        simp [ofKind, h255]
      rw [e, filter_one hs (by simp) ((check_apart h.chk).imp fun {a b} hh => by
        simp only [Bool.and_eq_true, decide_eq_true_eq]
        rintro ⟨⟨h1, h2⟩, h3, h4⟩
        exact hh ⟨by rw [h2, h4], by rw [h1, h3]⟩)]
      rfl
    have hst : stepP o l s.name s.kind 0 = ⟨0, recordsS [s], [], [], false⟩ := by
      rw [stepP, if_neg (by simp [hu]), if_neg (by simp [hc]), if_neg (by simp [setsB, hin]), if_neg ?_, hfil, if_neg (by simp)]
      rintro ⟨h1, h2, _⟩
      obtain ⟨t, ht, h3⟩ := List.any_eq_true.1 h1
      rw [hset] at ht
      obtain ⟨u, hu1, hu2, rfl⟩ := at_mem ht
      exact h2 (hclash u hu1 hu2 (by simpa [isAlias] using h3))
    refine ⟨hal, ?_⟩
    rw [hA]
    simp [askP, hst, records_one]
/-! ### name.Labels, name.Parent, lookup.Denial, lookup.sets -/
section
variable {P : Program} {a : Act} {w : World} {d : Option Nat} {ty : TypeId} {ps : String} {af : Array Edge} {g : Option (Nat × Bool)}
theorem Runs.dropSU {t : TypeId} {x lo : Operand} {l : List UInt8} {m : Nat} (hx : a.eval x = str l) (h1 : a.eval lo = .int .u8 (m : Nat)) (hm : m ≤ l.length) (ht : strTy P t = true) :
    Runs P (Oper.mk d (.slice t x (some lo) none none) ty ps af g) a w (str (l.drop m)) := by
  constructor
  simp [execOp, hx, h1, str, Instr.sliceAt, Instr.slice, run_underlying (strTy_spec ht), Instr.sliceBounds, Instr.sliceBound, asIntOf, size_mk, -ByteArray.size_data, hm, extract_mk]
end
theorem p_Labels (nm : List UInt8) (w : World) : Calls Tryz.prog 169 #[str nm] w (Ret w fun v w' => Own w.heap.size 1 9 w' v (tcells ((labels nm).getD []))) := by
  go_enter Tryz.func169, Tryz.ntmps169
  repeat' (first | ((with_reducible refine o_s ?_); (first | (refine o_1 ?_; refine o_2 ?_) | (refine o_g ?_; first | refine o_u ?_ | refine o_k ?_ | refine o_n ?_ | refine o_v ?_ | ((first | refine o_G ?_ ?_ | refine o_N ?_ ?_) <;> intro hc)))) | ((fail_if_success (with_reducible refine o_s ?_)); go_step))
  refine wpl_callR (enters_of Tryz.func114 rfl rfl) rfl rfl (t28 nm _) ?_
  intro v w1 x1 hv
  cases hl : labels nm with
  | none =>
    rw [hl] at hv
    subst hv
    repeat' (first | ((with_reducible refine o_s ?_); (first | (refine o_1 ?_; refine o_2 ?_) | (refine o_g ?_; first | refine o_u ?_ | refine o_k ?_ | refine o_n ?_ | refine o_v ?_ | ((first | refine o_G ?_ ?_ | refine o_N ?_ ?_) <;> intro hc)))) | ((fail_if_success (with_reducible refine o_s ?_)); go_step))
    go_ret
    exact ⟨_, rfl, x1, by rw [hl]; exact Own.nil _ _ _ _⟩
  | some ls =>
    rw [hl] at hv
    obtain ⟨s, rfl, hs⟩ := hv
    repeat' (first | ((with_reducible refine o_s ?_); (first | (refine o_1 ?_; refine o_2 ?_) | (refine o_g ?_; first | refine o_u ?_ | refine o_k ?_ | refine o_n ?_ | refine o_v ?_ | ((first | refine o_G ?_ ?_ | refine o_N ?_ ?_) <;> intro hc)))) | ((fail_if_success (with_reducible refine o_s ?_)); go_step))
    go_ret
    exact ⟨_, rfl, x1, by rw [hl]; exact hs⟩
theorem p_Parent {nm x : List UInt8} {t : List (List UInt8)} (w : World) (h : labels nm = some (x :: t)) : Calls Tryz.prog 168 #[str nm] w (RetV w (.tuple #[str (enc t), .int .i64 0])) := by
  obtain ⟨h1, h2, h3⟩ := labels_fit h
  have hx63 : x.length ≤ 63 := by simp [fitL] at h1; omega
  have e : nm = UInt8.ofNat x.length :: (x ++ enc t) := by rw [← h2]; simp [enc]
  have hlen : 0 < nm.length := by rw [e]; simp
  have h0 : nm.getD 0 0 = UInt8.ofNat x.length := by rw [e]; rfl
  have hne : nm ≠ [] := by intro e0; rw [e0] at hlen; cases hlen
  have hn0 : (nm.getD 0 0).toNat = x.length := by rw [h0]; simp; omega
  have hdr : nm.drop (x.length + 1) = enc t := by rw [e]; simp
  have hl : x.length + 1 ≤ nm.length := by rw [e]; simp
  have hsome : (labels nm).isSome = true := by rw [h]; rfl
  go_enter Tryz.func168, Tryz.ntmps168
  repeat' (first | ((with_reducible refine o_s ?_); (first | (refine o_1 ?_; refine o_2 ?_) | (refine o_g ?_; first | refine o_u ?_ | refine o_k ?_ | refine o_n ?_ | refine o_v ?_ | ((first | refine o_G ?_ ?_ | refine o_N ?_ ?_) <;> intro hc)))) | ((fail_if_success (with_reducible refine o_s ?_)); go_step))
  refine wpl_callV (enters_of Tryz.func83 rfl rfl) rfl rfl (t27 nm _) ?_; intro w1 x1; refine gset ?_
  rw [if_pos hsome]
  repeat' (first | ((with_reducible refine o_s ?_); (first | (refine o_1 ?_; refine o_2 ?_) | (refine o_g ?_; first | refine o_u ?_ | refine o_k ?_ | refine o_n ?_ | refine o_v ?_ | ((first | refine o_G ?_ ?_ | refine o_N ?_ ?_) <;> intro hc)))) | ((fail_if_success (with_reducible refine o_s ?_)); go_step))
  refine wpl_run0 (Runs.dropSU (l := nm) (m := x.length + 1) rfl ?_ hl (by decide +kernel)) ?_
  · show Value.int .u8 (IntKind.wrap .u8 (((nm.getD 0 0).toNat : Nat) + 1)) = _
    rw [hn0]
    congr 1
    simp only [IntKind.wrap, IntKind.bits, IntKind.signed]
    simp
    omega
  · refine gset ?_
    rw [hdr]
    repeat' (first | ((with_reducible refine o_s ?_); (first | (refine o_1 ?_; refine o_2 ?_) | (refine o_g ?_; first | refine o_u ?_ | refine o_k ?_ | refine o_n ?_ | refine o_v ?_ | ((first | refine o_G ?_ ?_ | refine o_N ?_ ?_) <;> intro hc)))) | ((fail_if_success (with_reducible refine o_s ?_)); go_step))
    go_ret2
    exact ⟨rfl, x1⟩
def recV (r : Rec) : Value := .agg #[str r.name, .int .i64 r.kind, .int .i64 r.ttl, str r.data]
theorem zone_data {o : List UInt8} {l : List RSet} (h : ZoneOk o l) : ∀ s ∈ l, s.data.length ≤ 1000000 := fun s hs => by
  have := may_data (h.may hs); omega
theorem zone_datum {o : List UInt8} {l : List RSet} (h : ZoneOk o l) : ∀ s ∈ l, ∀ d ∈ s.data, d.length ≤ 4611686018427387904 := fun s hs d hd => by
  obtain ⟨i, hi, rfl⟩ := List.mem_iff_getElem.1 hd
  have := checkR_data (may_at (h.may hs) hi)
  simp only at this
  omega
theorem zone_len {o : List UInt8} {l : List RSet} (h : ZoneOk o l) : l.length ≤ 200 := by
  have := h.chk
  unfold checkS at this
  split at this
  · cases this
  · omega
set_option maxHeartbeats 3000000 in
theorem p_Denial (o : List UInt8) (v : Value) (l : List RSet) (w : World) (hv : SetsAt w v l) (hz : ZoneOk o l) : Calls Tryz.prog 47 #[.agg #[str o, v]] w (RetV w (.tuple #[recV (denZ o l), .int .i64 0])) := by
  have hb := zone_data hz
  have hd := zone_datum hz
  have hzr := zone_ok' hz
  obtain ⟨s, hf, hs, hn, hk, hdat, hpar, hlen⟩ := hz.soaSet
  have hden : denZ o l = ⟨s.name, s.kind, min s.ttl (soaZ o l).minimum, soaD o l⟩ := by rw [denZ, hf, hn, hk]; rfl
  go_enter Tryz.func47, Tryz.ntmps47
  repeat' ((fail_if_success (with_reducible refine o_s ?_)); go_step)
  refine wpl_box (vs := [str o, v]) rfl rfl ?_
  intro p w1 x1 hp
  refine gset ?_
  refine wpl_allocB (z := zrec) rfl (by decide +kernel) ?_
  intro w2 x2 s2 h2
  refine gset ?_
  have hx2 := x1.trans x2
  have hp2 := hp.ext x2
  have hv2 := hv.ext hx2
  repeat' (first | ((with_reducible refine o_s ?_); (first | (refine o_1 ?_; refine o_2 ?_) | (refine o_g ?_; first | refine o_u ?_ | refine o_k ?_ | refine o_n ?_ | refine o_v ?_ | ((first | refine o_G ?_ ?_ | refine o_N ?_ ?_) <;> intro hc)))) | ((fail_if_success (with_reducible refine o_s ?_)); go_step))
  refine wpl_callV (enters_of Tryz.func63 rfl rfl) rfl rfl (p_Soa o v l _ hv2 hb hd) ?_; intro w3 x3; refine gset ?_
  have h3 := x3.at h2
  have hp3 := hp2.ext x3
  have hv3 := hv2.ext x3
  rw [hzr]
  repeat' (first | ((with_reducible refine o_s ?_); (first | (refine o_1 ?_; refine o_2 ?_) | (refine o_g ?_; first | refine o_u ?_ | refine o_k ?_ | refine o_n ?_ | refine o_v ?_ | ((first | refine o_G ?_ ?_ | refine o_N ?_ ?_) <;> intro hc)))) | ((fail_if_success (with_reducible refine o_s ?_)); go_step))
  refine wpl_allocB (z := zeroSoa) rfl (by decide +kernel) ?_
  intro w4 x4 s4 h4
  refine gset ?_
  refine wpl_storeB (v := .agg (soaZ o l).cells.toArray) rfl rfl rfl h4 (show sizeTy Tryz.prog 103 7 = true by decide +kernel) rfl (soaR_one _) ?_
  intro w5 p5
  have x5 : Ext w3 w5 := x4.move p5.mv (by rintro k ⟨⟩; exact Nat.le_refl _)
  have h5 := x5.at h3
  have hs5 := pts_block (cs := (soaZ o l).cells) p5.this
  have hp5 := hp3.ext x5
  have hv5 := hv3.ext x5
  have hx5 := hx2.trans (x3.trans x5)
  clear p5 h4 x4
  repeat' (first | ((with_reducible refine o_s ?_); (first | (refine o_1 ?_; refine o_2 ?_) | (refine o_g ?_; first | refine o_u ?_ | refine o_k ?_ | refine o_n ?_ | refine o_v ?_ | ((first | refine o_G ?_ ?_ | refine o_N ?_ ?_) <;> intro hc)))) | ((fail_if_success (with_reducible refine o_s ?_)); go_step))
  refine wpl_callR (enters_of Tryz.func40 rfl rfl) rfl rfl (t13 v l o 6 _ hv5 (fun s hs => by have := hb s hs; omega)) ?_
  intro r6 w6 x6 hr6
  rw [hf] at hr6
  obtain ⟨y, rfl, oy⟩ := hr6
  have h6 := x6.at h5
  have hs6 := hs5.ext x6
  repeat' (first | ((with_reducible refine o_s ?_); (first | (refine o_1 ?_; refine o_2 ?_) | (refine o_g ?_; first | refine o_u ?_ | refine o_k ?_ | refine o_n ?_ | refine o_v ?_ | ((first | refine o_G ?_ ?_ | refine o_N ?_ ?_) <;> intro hc)))) | ((fail_if_success (with_reducible refine o_s ?_)); go_step))
  refine wpl_allocB (z := zset) rfl (by decide +kernel) ?_
  intro w7 x7 s7 h7
  refine gset ?_
  refine wpl_storeB (v := .agg #[str s.name, .int .i64 s.kind, .int .i64 s.ttl, y]) rfl rfl rfl h7 (show sizeTy Tryz.prog 55 4 = true by decide +kernel) rfl (all4 rfl rfl rfl oy.one) ?_
  intro w8 p8
  have x8 : Ext w6 w8 := x7.move p8.mv (by rintro k ⟨⟩; exact Nat.le_refl _)
  have b8 : w8.heap[w6.heap.size]? = some (.cells [str s.name, .int .i64 s.kind, .int .i64 s.ttl, y].toArray 55 (0, 0)) := p8.this
  have hp8 := pts_block b8
  have h8 := x8.at h6
  have hs8 := hs6.ext x8
  have hy8 := oy.sl.ext x8
  have hx8 := hx5.trans (x6.trans x8)
  clear p8 h7 x7
  repeat' (first | ((with_reducible refine o_s ?_); (first | (refine o_1 ?_; refine o_2 ?_) | (refine o_g ?_; first | refine o_u ?_ | refine o_k ?_ | refine o_n ?_ | refine o_v ?_ | ((first | refine o_G ?_ ?_ | refine o_N ?_ ?_) <;> intro hc)))) | ((fail_if_success (with_reducible refine o_s ?_)); go_step))
  refine wpl_storeF (n := 2) b8 rfl rfl rfl (by simp) (by decide +kernel) rfl ?_
  intro w9 p9
  have b9 : w9.heap[w6.heap.size]? = some (.cells [str s.name, .int .i64 s.kind, .int .i64 (min s.ttl (soaZ o l).minimum), y].toArray 55 (0, 0)) := p9.this
  have z6 : w.heap.size ≤ w6.heap.size := (hx5.trans x6).size
  have x9 : Ext w w9 := hx8.move p9.mv (by rintro k ⟨⟩; exact z6)
  have zlt : w1.heap.size < w6.heap.size := by
    have a1 := (Array.getElem?_eq_some_iff.1 h6).1
    exact a1
  have h9 : w9.heap[w1.heap.size]? = some (.cells zrec.toArray 75 (0, 0)) := (p9.other _ (by omega)).trans h8
  have hy9 := ((oy.ext x8).mv p9.mv (.inr ((oy.ext x8).neBlock b8 (by decide)))).sl
  have hp9 := pts_block b9
  clear p9 b8 hp8 h8 hy8
  repeat' (first | ((with_reducible refine o_s ?_); (first | (refine o_1 ?_; refine o_2 ?_) | (refine o_g ?_; first | refine o_u ?_ | refine o_k ?_ | refine o_n ?_ | refine o_v ?_ | ((first | refine o_G ?_ ?_ | refine o_N ?_ ?_) <;> intro hc)))) | ((fail_if_success (with_reducible refine o_s ?_)); go_step))
  refine wpl_slice (e := 55) (k := 4) (bytes := 56) (xs := [.agg #[str s.name, .int .i64 s.kind, .int .i64 (min s.ttl (soaZ o l).minimum), y]]) rfl rfl rfl (by simp [Value.cells]) (by decide +kernel) (by simp) ?_
  intro v10 w10 x10 _ sl10 _
  refine gset ?_
  have hs10 : SetsAt w10 v10 [⟨s.name, s.kind, min s.ttl (soaZ o l).minimum, s.data⟩] := (SetsC.one (s := ⟨s.name, s.kind, min s.ttl (soaZ o l).minimum, s.data⟩) (hy9.ext x10)).sets sl10
  repeat' (first | ((with_reducible refine o_s ?_); (first | (refine o_1 ?_; refine o_2 ?_) | (refine o_g ?_; first | refine o_u ?_ | refine o_k ?_ | refine o_n ?_ | refine o_v ?_ | ((first | refine o_G ?_ ?_ | refine o_N ?_ ?_) <;> intro hc)))) | ((fail_if_success (with_reducible refine o_s ?_)); go_step))
  have hrec : recordsS [⟨s.name, s.kind, min s.ttl (soaZ o l).minimum, s.data⟩] = [denZ o l] := by rw [records_one, hden, recsOf, hdat]; rfl
  refine wpl_callR (enters_of Tryz.func43 rfl rfl) rfl rfl (t10 v10 _ _ hs10 (by rw [hrec]; simp)) ?_
  intro r11 w11 x11 o11
  rw [hrec] at o11
  refine gset ?_
  have sl11 := o11.sl
  have el11 := sl11.elem (i := 0) (e := [str (denZ o l).name, .int .i64 (denZ o l).kind, .int .i64 (denZ o l).ttl, str (denZ o l).data]) rfl
  have hl11 : (rcells [denZ o l]).length = 1 := rfl
  have h11 := (x10.trans x11).at h9
  have x911 := x9.trans (x10.trans x11)
  repeat' (first | ((with_reducible refine o_s ?_); (first | (refine o_1 ?_; refine o_2 ?_) | (refine o_g ?_; first | refine o_u ?_ | refine o_k ?_ | refine o_n ?_ | refine o_v ?_ | ((first | refine o_G ?_ ?_ | refine o_N ?_ ?_) <;> intro hc)))) | ((fail_if_success (with_reducible refine o_s ?_)); go_step))
  refine wpl_storeB (v := recV (denZ o l)) rfl rfl rfl h11 (show sizeTy Tryz.prog 75 4 = true by decide +kernel) rfl (all4 rfl rfl rfl rfl) ?_
  intro w12 p12
  have x12 : Ext w w12 := x911.move p12.mv (by rintro k ⟨⟩; exact x1.size)
  repeat' (first | ((with_reducible refine o_s ?_); (first | (refine o_1 ?_; refine o_2 ?_) | (refine o_g ?_; first | refine o_u ?_ | refine o_k ?_ | refine o_n ?_ | refine o_v ?_ | ((first | refine o_G ?_ ?_ | refine o_N ?_ ?_) <;> intro hc)))) | ((fail_if_success (with_reducible refine o_s ?_)); go_step))
  refine bodyPost_ret (results_cellT (cs := [str (denZ o l).name, .int .i64 (denZ o l).kind, .int .i64 (denZ o l).ttl, str (denZ o l).data]) rfl rfl p12.this (show aggTy Tryz.prog 75 4 = true by decide +kernel)) rfl ⟨rfl, x12⟩
end Go.Proofs.X
