/- Laws and walks that the proof of the statement is made of (part 13). -/
import Derived.Test.YtoajkilickakiaaGreatProg
import Derived.Test.YtoajkilickakiaaGreatShelf
import Derived.Shelf.SlSortCmp.NoneTotal
import Derived.Shelf.RegionOpenPlain
import Derived.Lib.Strings
import Derived.Lib.Slices
import Derived.Lib.Walk
import Derived.Lib.Builder
import Derived.Lib.AppendStr
import Derived.Lib.UnsafeStr
import Derived.Lib.MakeNoZero
import Derived.WalkKit
import Derived.Laws.Externs
import Derived.Laws.IdiomCopy
import Derived.Laws.BitsLemmas
import GoSem.Claims
import Derived.Lib.Hide
import Derived.OwnWalk
import Derived.Test.YtoajkilickakiaaGreatP1
import Derived.Test.YtoajkilickakiaaGreatP2
import Derived.Test.YtoajkilickakiaaGreatP3
import Derived.Test.YtoajkilickakiaaGreatP4
import Derived.Test.YtoajkilickakiaaGreatP5
import Derived.Test.YtoajkilickakiaaGreatP6
import Derived.Test.YtoajkilickakiaaGreatP7
import Derived.Test.YtoajkilickakiaaGreatP8
import Derived.Test.YtoajkilickakiaaGreatP9
import Derived.Test.YtoajkilickakiaaGreatP10
import Derived.Test.YtoajkilickakiaaGreatP11
import Derived.Test.YtoajkilickakiaaGreatP12
set_option linter.unusedSimpArgs false
set_option linter.unusedVariables false
namespace Go.Proofs.X
open Go.RowKit
set_option maxRecDepth 100000
set_option maxHeartbeats 2000000 in
theorem p_Grow (n : Nat) (w : World) (hn : n ≤ 1000000) : Calls Tryz.prog 113 #[.slice none 0 0, .int .i64 n] w (Ret w fun r w' => Own w.heap.size 4 75 w' r []) := by
  have hs := Sl.nil 4 w
  go_enter Tryz.func113, Tryz.ntmps113
  repeat' (first | ((with_reducible refine o_s ?_); (first | (refine o_1 ?_; refine o_2 ?_) | (refine o_g ?_; first | refine o_u ?_ | refine o_k ?_ | refine o_n ?_ | refine o_v ?_ | ((first | refine o_G ?_ ?_ | refine o_N ?_ ?_) <;> intro hc)))) | ((fail_if_success (with_reducible refine o_s ?_)); go_step))
  refine wpl_run0 (Runs.capC (k := 4) (l := 0) (c := 0) (ad := none) rfl (by decide +kernel)) ?_
  refine gset ?_
  repeat' (first | ((with_reducible refine o_s ?_); (first | (refine o_1 ?_; refine o_2 ?_) | (refine o_g ?_; first | refine o_u ?_ | refine o_k ?_ | refine o_n ?_ | refine o_v ?_ | ((first | refine o_G ?_ ?_ | refine o_N ?_ ?_) <;> intro hc)))) | ((fail_if_success (with_reducible refine o_s ?_)); go_step))
  rw [show ((0 : Nat) : Int) = 0 from rfl, show ((([] : List (List Value)).length : Nat) : Int) = 0 from rfl]
  repeat' (first | ((with_reducible refine o_s ?_); (first | (refine o_1 ?_; refine o_2 ?_) | (refine o_g ?_; first | refine o_u ?_ | refine o_k ?_ | refine o_n ?_ | refine o_v ?_ | ((first | refine o_G ?_ ?_ | refine o_N ?_ ?_) <;> intro hc)))) | ((fail_if_success (with_reducible refine o_s ?_)); go_step))
  · have h0 : 0 < n := by omega
    repeat' (first | ((with_reducible refine o_s ?_); (first | (refine o_1 ?_; refine o_2 ?_) | (refine o_g ?_; first | refine o_u ?_ | refine o_k ?_ | refine o_n ?_ | refine o_v ?_ | ((first | refine o_G ?_ ?_ | refine o_N ?_ ?_) <;> intro hc)))) | ((fail_if_success (with_reducible refine o_s ?_)); go_step))
    refine wpl_run0 (Runs.capC (k := 4) (l := 0) (c := 0) (ad := none) rfl (by decide +kernel)) ?_
    refine gset ?_
    repeat' (first | ((with_reducible refine o_s ?_); (first | (refine o_1 ?_; refine o_2 ?_) | (refine o_g ?_; first | refine o_u ?_ | refine o_k ?_ | refine o_n ?_ | refine o_v ?_ | ((first | refine o_G ?_ ?_ | refine o_N ?_ ?_) <;> intro hc)))) | ((fail_if_success (with_reducible refine o_s ?_)); go_step))
    refine wpl_appZ (e := 75) (k := 4) (n := n) (z := zrec) rfl (by exact congrArg (Value.int .i64) (show ((n : Int) - (0 - 0)) = (n : Int) by omega)) h0 hn ?_
    intro g cap w1 x1 o1
    refine gset ?_
    have hrl : (List.replicate n zrec).length = n := by simp
    have hs1 := o1.sl
    have hs' := hs.ext x1
    repeat' (first | ((with_reducible refine o_s ?_); (first | (refine o_1 ?_; refine o_2 ?_) | (refine o_g ?_; first | refine o_u ?_ | refine o_k ?_ | refine o_n ?_ | refine o_v ?_ | ((first | refine o_G ?_ ?_ | refine o_N ?_ ?_) <;> intro hc)))) | ((fail_if_success (with_reducible refine o_s ?_)); go_step))
    refine wpl_run0 (Runs.takeC (k := 4) (n := 0) (l := n) (c := cap) (ad := some ⟨g, 0, none⟩) rfl rfl (Nat.zero_le _) (by decide +kernel)) ?_
    refine gset ?_
    repeat' (first | ((with_reducible refine o_s ?_); (first | (refine o_1 ?_; refine o_2 ?_) | (refine o_g ?_; first | refine o_u ?_ | refine o_k ?_ | refine o_n ?_ | refine o_v ?_ | ((first | refine o_G ?_ ?_ | refine o_N ?_ ?_) <;> intro hc)))) | ((fail_if_success (with_reducible refine o_s ?_)); go_step))
    go_ret
    refine ⟨_, rfl, x1, ?_⟩
    have o2 := o1.short (m := 0) (Nat.zero_le _)
    have e : (if cap = 0 then some (⟨g, 0, none⟩ : Addr) else Option.map (fun x : Addr => x.add (0 * 4)) (some (⟨g, 0, none⟩ : Addr))) = some (⟨g, 0, none⟩ : Addr) := by
      by_cases hq : cap = 0
      · rw [if_pos hq]
      · rw [if_neg hq]; simp [add_none]
    rw [e]
    exact o2
  · repeat' (first | ((with_reducible refine o_s ?_); (first | (refine o_1 ?_; refine o_2 ?_) | (refine o_g ?_; first | refine o_u ?_ | refine o_k ?_ | refine o_n ?_ | refine o_v ?_ | ((first | refine o_G ?_ ?_ | refine o_N ?_ ?_) <;> intro hc)))) | ((fail_if_success (with_reducible refine o_s ?_)); go_step))
    go_ret
    exact ⟨_, rfl, Ext.refl _, Own.nil _ _ _ _⟩
theorem vcells_at {us : List Value} {k : Nat} (h : k < us.length) : (us.map fun u => [u])[k]? = some [us[k]] := by simp [h]
set_option maxHeartbeats 2000000 in
theorem p_Concat (v : Value) (us : List Value) (ls : List (List Rec)) (w : World) (hv : Sl 1 w v (us.map fun u => [u])) (hl : us.length = ls.length) (hu : ∀ k (h1 : k < us.length) (h2 : k < ls.length), Sl 4 w us[k] (rcells ls[k])) (hb : ls.flatten.length ≤ 100000) :
    Calls Tryz.prog 81 #[v] w (Ret w fun r w' => Own w.heap.size 4 75 w' r (rcells ls.flatten)) := by
  have hle := hv.le
  have hul : (us.map fun u => [u]).length = us.length := by simp
  go_enter Tryz.func81, Tryz.ntmps81
  repeat' (first | ((with_reducible refine o_s ?_); (first | (refine o_1 ?_; refine o_2 ?_) | (refine o_g ?_; first | refine o_u ?_ | refine o_k ?_ | refine o_n ?_ | refine o_v ?_ | ((first | refine o_G ?_ ?_ | refine o_N ?_ ?_) <;> intro hc)))) | ((fail_if_success (with_reducible refine o_s ?_)); go_step))
  go_loopw [3, 5, 11] (fun sz _ i wr => ∃ k : Nat, k ≤ us.length ∧ i = .int .i64 k ∧ sz = .int .i64 ((ls.take k).flatten.length : Nat) ∧ Ext w wr) (fun _ _ i _ => us.length - (intOf i).toNat)
  case atStart => exact ⟨0, Nat.zero_le _, rfl, rfl, Ext.refl _⟩
  case round =>
    obtain ⟨k, hk, rfl, rfl, hx⟩ := hrel
    have hv2 := hv.ext hx
    have hst : ∀ m, ((ls.take m).flatten.length) ≤ 100000 := by
      intro m
      have : (ls.take m).flatten.length + (ls.drop m).flatten.length = ls.flatten.length := by rw [← List.length_append, ← List.flatten_append, List.take_append_drop]
      omega
    by_cases hlt : k < us.length
    · have hpe := hv2.elem (vcells_at hlt)
      have hue := (hu k hlt (by omega)).ext hx
      have hst1 := hst (k + 1)
      have hst0 := hst k
      have hlt2 : k < ls.length := by omega
      have htk : (ls.take (k + 1)).flatten.length = (ls.take k).flatten.length + ls[k].length := by rw [List.take_succ_eq_append_getElem hlt2, List.flatten_append, List.length_append]; simp
      have hrl := rcells_length ls[k]
      repeat' (first | ((with_reducible refine o_s ?_); (first | (refine o_1 ?_; refine o_2 ?_) | (refine o_g ?_; first | refine o_u ?_ | refine o_k ?_ | refine o_n ?_ | refine o_v ?_ | ((first | refine o_G ?_ ?_ | refine o_N ?_ ?_) <;> intro hc)))) | ((fail_if_success (with_reducible refine o_s ?_)); go_step))
      refine ⟨⟨k + 1, by omega, by go_num, congrArg (Value.int .i64) (by rw [htk, hrl]; omega), hx⟩, by simp [intOf]; omega⟩
    · have : k = us.length := by omega
      subst this
      have hfu : ls.take us.length = ls := by rw [hl, List.take_length]
      rw [hfu]
      repeat' (first | ((with_reducible refine o_s ?_); (first | (refine o_1 ?_; refine o_2 ?_) | (refine o_g ?_; first | refine o_u ?_ | refine o_k ?_ | refine o_n ?_ | refine o_v ?_ | ((first | refine o_G ?_ ?_ | refine o_N ?_ ?_) <;> intro hc)))) | ((fail_if_success (with_reducible refine o_s ?_)); go_step))
      refine wpl_callR (enters_of Tryz.func113 rfl rfl) rfl rfl (p_Grow ls.flatten.length _ (by omega)) ?_
      intro u w1 x1 o1
      refine gset ?_
      have hx1 := hx.trans x1
      have hv3 := hv.ext hx1
      repeat' (first | ((with_reducible refine o_s ?_); (first | (refine o_1 ?_; refine o_2 ?_) | (refine o_g ?_; first | refine o_u ?_ | refine o_k ?_ | refine o_n ?_ | refine o_v ?_ | ((first | refine o_G ?_ ?_ | refine o_N ?_ ?_) <;> intro hc)))) | ((fail_if_success (with_reducible refine o_s ?_)); go_step))
      go_loopw [6, 8, 27] (fun o _ i wr' => ∃ k : Nat, k ≤ us.length ∧ i = .int .i64 k ∧ Ext w wr' ∧ Own w.heap.size 4 75 wr' o (rcells (ls.take k).flatten)) (fun _ _ i _ => us.length - (intOf i).toNat)
      case atStart => exact ⟨0, Nat.zero_le _, rfl, hx1, by simpa [rcells] using o1.weaken hx.size⟩
      case round =>
        obtain ⟨k, hk, rfl, hx4, ho⟩ := hrel
        have hv4 := hv.ext hx4
        by_cases hlt : k < us.length
        · have hpe := hv4.elem (vcells_at hlt)
          have hue := (hu k hlt (by omega)).ext hx4
          have hlt2 : k < ls.length := by omega
          have htk : (ls.take (k + 1)).flatten = (ls.take k).flatten ++ ls[k] := by rw [List.take_succ_eq_append_getElem hlt2, List.flatten_append]; simp
          have hst1 := hst (k + 1)
          rw [htk, List.length_append] at hst1
          repeat' (first | ((with_reducible refine o_s ?_); (first | (refine o_1 ?_; refine o_2 ?_) | (refine o_g ?_; first | refine o_u ?_ | refine o_k ?_ | refine o_n ?_ | refine o_v ?_ | ((first | refine o_G ?_ ?_ | refine o_N ?_ ?_) <;> intro hc)))) | ((fail_if_success (with_reducible refine o_s ?_)); go_step))
          refine wpl_appendO (B := w.heap.size) (e := 75) rfl ho rfl hue rcells_one hx4.size (by rw [rcells_length, rcells_length]; omega) ?_
          intro v5 w5 o5 m5 _
          have x5 := ho.mvx m5 hx4 (Nat.le_refl _)
          refine gset ?_
          repeat' (first | ((with_reducible refine o_s ?_); (first | (refine o_1 ?_; refine o_2 ?_) | (refine o_g ?_; first | refine o_u ?_ | refine o_k ?_ | refine o_n ?_ | refine o_v ?_ | ((first | refine o_G ?_ ?_ | refine o_N ?_ ?_) <;> intro hc)))) | ((fail_if_success (with_reducible refine o_s ?_)); go_step))
          refine ⟨⟨k + 1, by omega, by go_num, x5, ?_⟩, by simp [intOf]; omega⟩
          rw [htk, rcells, List.map_append]
          exact o5
        · have : k = us.length := by omega
          subst this
          rw [hfu] at ho
          repeat' (first | ((with_reducible refine o_s ?_); (first | (refine o_1 ?_; refine o_2 ?_) | (refine o_g ?_; first | refine o_u ?_ | refine o_k ?_ | refine o_n ?_ | refine o_v ?_ | ((first | refine o_G ?_ ?_ | refine o_N ?_ ?_) <;> intro hc)))) | ((fail_if_success (with_reducible refine o_s ?_)); go_step))
          go_ret
          exact ⟨_, rfl, hx4, ho⟩
theorem rows2 {u1 u2 : Value} {w : World} {a b : List Rec} (h1 : Sl 4 w u1 (rcells a)) (h2 : Sl 4 w u2 (rcells b)) :
    ∀ k (h : k < [u1, u2].length) (h' : k < [a, b].length), Sl 4 w [u1, u2][k] (rcells [a, b][k])
  | 0, _, _ => h1
  | 1, _, _ => h2
theorem Sl.cell1 {k : Nat} {w : World} {v : Value} {es : List (List Value)} (h : Sl k w v es) : v.cells.toList = [v] := by obtain ⟨_, _, _, rfl⟩ := h.slf; rfl
theorem rows2c {u1 u2 : Value} (h1 : u1.cells.toList = [u1]) (h2 : u2.cells.toList = [u2]) : ∀ x ∈ [u1, u2], x.cells.size = 1 := by
  intro x hx
  simp only [List.mem_cons, List.not_mem_nil, or_false] at hx
  rcases hx with rfl | rfl
  · rw [← Array.length_toList, h1]; rfl
  · rw [← Array.length_toList, h2]; rfl
theorem rows2e {u1 u2 : Value} (h1 : u1.cells.toList = [u1]) (h2 : u2.cells.toList = [u2]) : [u1, u2].map (·.cells.toList) = [u1, u2].map fun u => [u] := by
  simp [h1, h2]
set_option maxHeartbeats 6000000 in
theorem p_Compose {a b : DeltaR} {r q : Value} (w : World) (h : DelA a r w) (k : DelA b q w) (b1 : a.gone.length ≤ 20000) (b2 : a.new.length ≤ 20000) (b3 : b.gone.length ≤ 20000) (b4 : b.new.length ≤ 20000) :
    Calls Tryz.prog 33 #[r, q] w (Ret w (DelU w.heap.size (comD a b) (comE a b))) := by
  obtain ⟨g, n, rfl, sg, sn⟩ := h
  obtain ⟨g', n', rfl, sg', sn'⟩ := k
  have e1 := less_len b.gone a.new
  have e2 := less_len a.new b.gone
  have lG : (comG a b).length ≤ 40000 := by rw [comG, List.length_append]; omega
  have lN : (comN a b).length ≤ 40000 := by rw [comN, List.length_append]; omega
  go_enter Tryz.func33, Tryz.ntmps33
  repeat' ((fail_if_success (with_reducible refine o_s ?_)); go_step)
  refine wpl_box (vs := [.int .i64 a.fr, .int .i64 a.to, g, n]) rfl rfl ?_
  intro p w1 x1 hp
  refine gset ?_
  refine wpl_box (vs := [.int .i64 b.fr, .int .i64 b.to, g', n']) rfl rfl ?_
  intro p' w2 x2 hq
  refine gset ?_
  refine wpl_allocB (z := zdel) rfl (by decide +kernel) ?_
  intro w3 x3 s3 h3
  refine gset ?_
  have hx3 := (x1.trans x2).trans x3
  have zz := (x1.trans x2).size
  have hp3 := (hp.ext x2).ext x3
  have hq3 := hq.ext x3
  repeat' (first | ((with_reducible refine o_s ?_); (first | (refine o_1 ?_; refine o_2 ?_) | (refine o_g ?_; first | refine o_u ?_ | refine o_k ?_ | refine o_n ?_ | refine o_v ?_ | ((first | refine o_G ?_ ?_ | refine o_N ?_ ?_) <;> intro hc)))) | ((fail_if_success (with_reducible refine o_s ?_)); go_step))
  · have q0 : ¬ a.to = b.fr := by simpa using (by assumption : (!decide (a.to = b.fr)) = true)
    refine wpl_run (v := .agg zdel.toArray) rfl (Runs.build0 (by kernel_rfl)) ?_
    refine gset ?_
    refine wpl_storeB (v := .agg zdel.toArray) rfl rfl rfl h3 (by decide +kernel) rfl (by decide +kernel) ?_
    intro w7 p7
    have x7 : Ext w w7 := hx3.move p7.mv (by rintro k ⟨⟩; exact zz)
    repeat' (first | ((with_reducible refine o_s ?_); (first | (refine o_1 ?_; refine o_2 ?_) | (refine o_g ?_; first | refine o_u ?_ | refine o_k ?_ | refine o_n ?_ | refine o_v ?_ | ((first | refine o_G ?_ ?_ | refine o_N ?_ ?_) <;> intro hc)))) | ((fail_if_success (with_reducible refine o_s ?_)); go_step))
    refine bodyPost_ret (results_cellT (cs := zdel) rfl rfl p7.this (by decide +kernel)) rfl ⟨_, rfl, x7, ?_⟩
    have he : comE a b = 7 := by rw [comE, if_neg q0]
    have hd : comD a b = zeroD := by rw [comD, if_neg (by rw [he]; decide)]
    rw [hd, he]
    exact DelU.bad rfl
  · have q0 : a.to = b.fr := by simpa using (by assumption : (!decide (a.to = b.fr)) = false)
    have he : comE a b = 0 := by rw [comE, if_pos q0]
    refine wph_region (S := fun w' => Ext w3 w') (by decide +kernel) ?_
    intro w4 x4 hh4
    refine tk 0 ?_; refine gset ?_; refine tk 1 ?_; refine gset ?_; refine tk 2 ?_; refine gset ?_; refine tk 3 ?_; refine gset ?_; refine tk 4 ?_; refine gset ?_; refine tk 5 ?_; refine gset ?_
    refine wph_one (i := 6) (by decide +kernel) rfl rfl ?_
    refine wpl_callR (enters_of Tryz.func67 rfl rfl) rfl rfl (p_less g' n b.gone a.new _ (sg'.ext (hx3.trans x4)) (sn.ext (hx3.trans x4)) (by omega)) ?_
    intro u1 w5 x5 o5
    refine gset ?_
    have x35 := x4.trans x5
    refine wph_nil ⟨x35, ?_⟩
    refine wph_one (i := 7) (by decide +kernel) rfl rfl ?_
    have sg5 := sg.ext (hx3.trans x35)
    have su5 := o5.sl
    refine wpl_slice (e := 28) (k := 1) (bytes := 24) (xs := [g, u1]) rfl rfl rfl (rows2c sg5.cell1 su5.cell1) (by decide +kernel) (by simp) ?_
    intro v6 w6 x6 s6 sl6 o6
    refine gset ?_
    have x36 := x35.trans x6
    refine wph_nil ⟨x36, ?_⟩
    refine wph_one (i := 8) (by decide +kernel) rfl rfl ?_
    have es6 : [g, u1].map (·.cells.toList) = [g, u1].map fun u => [u] := rows2e sg5.cell1 su5.cell1
    rw [es6] at sl6
    refine wpl_callR (enters_of Tryz.func81 rfl rfl) rfl rfl (p_Concat v6 [g, u1] [a.gone, lessR b.gone a.new] _ sl6 rfl (rows2 (sg5.ext x6) (su5.ext x6)) (by simp; omega)) ?_
    intro r1 w7 x7 o7
    refine gset ?_
    have x37 := x36.trans x7
    refine wph_nil ⟨x37, ?_⟩
    refine tk 9 ?_; refine gset ?_
    refine wph_done (by decide +kernel) ?_
    have eG : [a.gone, lessR b.gone a.new].flatten = comG a b := by simp [comG]
    rw [eG] at o7
    have hx7 := hx3.trans x37
    have h7 := x37.at h3
    have hp7 := hp3.ext x37
    have hq7 := hq3.ext x37
    repeat' (first | ((with_reducible refine o_s ?_); (first | (refine o_1 ?_; refine o_2 ?_) | (refine o_g ?_; first | refine o_u ?_ | refine o_k ?_ | refine o_n ?_ | refine o_v ?_ | ((first | refine o_G ?_ ?_ | refine o_N ?_ ?_) <;> intro hc)))) | ((fail_if_success (with_reducible refine o_s ?_)); go_step))
    refine wph_region (S := fun w' => Ext w7 w') (by decide +kernel) ?_
    intro w8 x8 hh8
    refine tk 0 ?_; refine gset ?_; refine tk 1 ?_; refine gset ?_; refine tk 2 ?_; refine gset ?_; refine tk 3 ?_; refine gset ?_; refine tk 5 ?_; refine gset ?_; refine tk 6 ?_; refine gset ?_
    refine wph_one (i := 4) (by decide +kernel) rfl rfl ?_
    refine wpl_callR (enters_of Tryz.func67 rfl rfl) rfl rfl (p_less n g' a.new b.gone _ (sn.ext (hx7.trans x8)) (sg'.ext (hx7.trans x8)) (by omega)) ?_
    intro u2 w9 x9 o9
    refine gset ?_
    have x79 := x8.trans x9
    refine wph_nil ⟨x79, ?_⟩
    refine wph_one (i := 7) (by decide +kernel) rfl rfl ?_
    have sn9 := sn'.ext (hx7.trans x79)
    have su9 := o9.sl
    refine wpl_slice (e := 28) (k := 1) (bytes := 24) (xs := [u2, n']) rfl rfl rfl (rows2c su9.cell1 sn9.cell1) (by decide +kernel) (by simp) ?_
    intro v10 w10 x10 s10 sl10 o10
    refine gset ?_
    have x710 := x79.trans x10
    refine wph_nil ⟨x710, ?_⟩
    refine wph_one (i := 8) (by decide +kernel) rfl rfl ?_
    have es10 : [u2, n'].map (·.cells.toList) = [u2, n'].map fun u => [u] := rows2e su9.cell1 sn9.cell1
    rw [es10] at sl10
    refine wpl_callR (enters_of Tryz.func81 rfl rfl) rfl rfl (p_Concat v10 [u2, n'] [lessR a.new b.gone, b.new] _ sl10 rfl (rows2 (su9.ext x10) (sn9.ext x10)) (by simp; omega)) ?_
    intro r2 w11 x11 o11
    refine gset ?_
    have x711 := x710.trans x11
    refine wph_nil ⟨x711, ?_⟩
    refine tk 9 ?_; refine gset ?_
    refine wph_done (by decide +kernel) ?_
    have eN : [lessR a.new b.gone, b.new].flatten = comN a b := by simp [comN]
    rw [eN] at o11
    have hx12 := hx7.trans x711
    have h12 := x711.at h7
    have hp12 := hp7.ext x711
    have hq12 := hq7.ext x711
    have sr1 := (o7.ext x711).sl
    have sr2 := o11.sl
    repeat' (first | ((with_reducible refine o_s ?_); (first | (refine o_1 ?_; refine o_2 ?_) | (refine o_g ?_; first | refine o_u ?_ | refine o_k ?_ | refine o_n ?_ | refine o_v ?_ | ((first | refine o_G ?_ ?_ | refine o_N ?_ ?_) <;> intro hc)))) | ((fail_if_success (with_reducible refine o_s ?_)); go_step))
    refine wpi_region 11 (Ext w11) (by decide +kernel) ?_
    intro w13 x13 _
    refine ⟨x13, ?_⟩
    ((with_reducible apply wpi_take (i := 0)); (rfl); (rfl); (rfl); (decide +kernel); (decide +kernel); (decide +kernel); (decide +kernel); (rfl); (intro _ _; exact rn); (exact fun _ _ _ h => h); (refine gset ?_)); ((with_reducible apply wpi_take (i := 1)); (rfl); (rfl); (rfl); (decide +kernel); (decide +kernel); (decide +kernel); (decide +kernel); (rfl); (intro _ _; exact rn); (exact fun _ _ _ h => h); (refine gset ?_)); ((with_reducible apply wpi_take (i := 2)); (rfl); (rfl); (rfl); (decide +kernel); (decide +kernel); (decide +kernel); (decide +kernel); (rfl); (intro _ _; exact rn); (exact fun _ _ _ h => h); (refine gset ?_)); ((with_reducible apply wpi_take (i := 3)); (rfl); (rfl); (rfl); (decide +kernel); (decide +kernel); (decide +kernel); (decide +kernel); (rfl); (intro _ _; exact rn); (exact fun _ _ _ h => h); (refine gset ?_)); ((with_reducible apply wpi_take (i := 4)); (rfl); (rfl); (rfl); (decide +kernel); (decide +kernel); (decide +kernel); (decide +kernel); (rfl); (intro _ _; exact rn); (exact fun _ _ _ h => h); (refine gset ?_)); ((with_reducible apply wpi_take (i := 5)); (rfl); (rfl); (rfl); (decide +kernel); (decide +kernel); (decide +kernel); (decide +kernel); (rfl); (intro _ _; exact rn); (exact fun _ _ _ h => h); (refine gset ?_)); ((with_reducible apply wpi_take (i := 7)); (rfl); (rfl); (rfl); (decide +kernel); (decide +kernel); (decide +kernel); (decide +kernel); (rfl); (intro _ _; exact rn); (exact fun _ _ _ h => h); (refine gset ?_)); ((with_reducible apply wpi_take (i := 8)); (rfl); (rfl); (rfl); (decide +kernel); (decide +kernel); (decide +kernel); (decide +kernel); (rfl); (intro _ _; exact rn); (exact fun _ _ _ h => h); (refine gset ?_))
    refine wpi_op (i := 6) (by decide +kernel) rfl rfl ?_
    refine wpl_callR (enters_of Tryz.func67 rfl rfl) rfl rfl (p_less r1 r2 _ _ _ (sr1.ext x13) (sr2.ext x13) (by omega)) ?_
    intro y w14 x14 og
    refine gset ?_
    have x1214 := x13.trans x14
    refine wph_nil ⟨till_yes x1214, ?_⟩
    refine wpi_op (i := 9) (by decide +kernel) rfl rfl ?_
    refine wpl_callR (enters_of Tryz.func67 rfl rfl) rfl rfl (p_less r2 r1 _ _ _ (sr2.ext x1214) (sr1.ext x1214) (by omega)) ?_
    intro z w15 x15 on
    refine gset ?_
    have x1215 := x1214.trans x15
    refine wph_nil ⟨till_yes x1215, ?_⟩
    have sy := (og.ext x15).sl
    have sz := on.sl
    refine wpi_take (i := 10) (v := .agg #[.int .i64 a.fr, .int .i64 b.to, y, z]) rfl rfl rfl (by decide +kernel) (by decide +kernel) (by decide +kernel) (by decide +kernel) rfl (fun w' _ => Runs.build rfl (by obtain ⟨_, _, _, rfl⟩ := sy.slf; obtain ⟨_, _, _, rfl⟩ := sz.slf; kernel_rfl)) (fun _ _ _ h => h) ?_
    refine gset ?_
    refine wpi_op (i := 11) (by decide +kernel) rfl rfl ?_
    have h15 := x1215.at h12
    refine wpl_storeB (v := .agg #[.int .i64 a.fr, .int .i64 b.to, y, z]) rfl rfl rfl h15 (show sizeTy Tryz.prog 30 4 = true by decide +kernel) rfl (all4 rfl rfl sy.one sz.one) ?_
    intro w16 p16
    refine wph_nil ⟨till_no rfl, ?_⟩
    ((with_reducible apply wpi_pure (i := 12)); (rfl); (rfl); (rfl); (decide +kernel); (decide +kernel); (decide +kernel); (rfl); (intro _; exact rn); (exact fun _ _ _ h => h); (refine gset ?_))
    refine wpi_done (by decide +kernel) ?_
    have x16 : Ext w w16 := (hx12.trans x1215).move p16.mv (by rintro k ⟨⟩; exact zz)
    repeat' (first | ((with_reducible refine o_s ?_); (first | (refine o_1 ?_; refine o_2 ?_) | (refine o_g ?_; first | refine o_u ?_ | refine o_k ?_ | refine o_n ?_ | refine o_v ?_ | ((first | refine o_G ?_ ?_ | refine o_N ?_ ?_) <;> intro hc)))) | ((fail_if_success (with_reducible refine o_s ?_)); go_step))
    refine bodyPost_ret (results_cellT (cs := [.int .i64 a.fr, .int .i64 b.to, y, z]) rfl rfl p16.this (show aggTy Tryz.prog 30 4 = true by decide +kernel)) rfl ⟨_, rfl, x16, ?_⟩
    have hd : comD a b = ⟨a.fr, b.to, lessR (comG a b) (comN a b), lessR (comN a b) (comG a b)⟩ := by rw [comD, if_pos he]
    rw [hd, he]
    exact ⟨_, rfl, y, z, rfl, (og.ext x15).mv p16.mv (.inr ((og.ext x15).neBlock h15 (by decide))) |>.weaken (hx12.trans x13).size, on.mv p16.mv (.inr (on.neBlock h15 (by decide))) |>.weaken (hx12.trans x1214).size⟩
def simS : List UInt8 := [2, 110, 115, 1, 97, 0, 1, 109, 0, 0, 0, 0, 5, 0, 0, 0, 10, 0, 0, 0, 3, 0, 0, 0, 100, 0, 0, 0, 4]
def simT : List UInt8 := [2, 110, 115, 1, 97, 0, 1, 109, 0, 0, 0, 0, 6, 0, 0, 0, 10, 0, 0, 0, 3, 0, 0, 0, 100, 0, 0, 0, 4]
def simR : List Rec := [⟨[1, 97], 6, 9, simS⟩, ⟨[1, 97], 2, 9, [2, 110, 115, 1, 97, 0]⟩, ⟨[2, 110, 115, 1, 97], 1, 9, [49, 49, 49, 49]⟩]
def simZ : List RSet := [⟨[1, 97], 2, 9, [[2, 110, 115, 1, 97, 0]]⟩, ⟨[1, 97], 6, 9, [simS]⟩, ⟨[2, 110, 115, 1, 97], 1, 9, [[49, 49, 49, 49]]⟩]
def simY : List RSet := [⟨[1, 97], 2, 9, [[2, 110, 115, 1, 97, 0]]⟩, ⟨[1, 97], 6, 9, [simT]⟩, ⟨[2, 110, 115, 1, 97], 1, 9, [[49, 49, 49, 49]]⟩]
theorem sim_renE : renE [1, 97] simZ 6 = 0 := by decide +kernel
theorem sim_renL : renL [1, 97] simZ 6 = simY := by decide +kernel
theorem sim_renO : renO [1, 97] simZ 6 = [1, 97] := by decide +kernel
theorem sim_b : ∀ s ∈ simZ, s.data.length ≤ 1000000 := by decide +kernel
theorem sim_d : ∀ s ∈ simZ, ∀ d ∈ s.data, d.length ≤ 4611686018427387904 := by decide +kernel
theorem sim_b2 : ∀ s ∈ simY, s.data.length ≤ 1000000 := by decide +kernel
theorem sim_d2 : ∀ s ∈ simY, ∀ d ∈ s.data, d.length ≤ 4611686018427387904 := by decide +kernel
theorem sim_r : ∀ r ∈ simR, r.data.length ≤ 4611686018427387904 := by decide +kernel
theorem p_Simple (w : World) : Calls Tryz.prog 65 #[] w (Ret w fun r w' => Sl 4 w' r (rcells simR)) := by
  go_enter Tryz.func65, Tryz.ntmps65
  repeat' ((fail_if_success (with_reducible refine o_s ?_)); go_step)
  repeat' (first | ((with_reducible refine o_s ?_); (first | (refine o_1 ?_; refine o_2 ?_) | (refine o_g ?_; first | refine o_u ?_ | refine o_k ?_ | refine o_n ?_ | refine o_v ?_ | ((first | refine o_G ?_ ?_ | refine o_N ?_ ?_) <;> intro hc)))) | ((fail_if_success (with_reducible refine o_s ?_)); go_step))
  refine wpl_run (v := .agg #[str [1, 97], .int .i64 6, .int .i64 9, str simS]) rfl (Runs.build rfl (by kernel_rfl)) ?_
  refine gset ?_
  refine wpl_run (v := .agg #[str [1, 97], .int .i64 2, .int .i64 9, str [2, 110, 115, 1, 97, 0]]) rfl (Runs.build rfl (by kernel_rfl)) ?_
  refine gset ?_
  refine wpl_run (v := .agg #[str [2, 110, 115, 1, 97], .int .i64 1, .int .i64 9, str [49, 49, 49, 49]]) rfl (Runs.build rfl (by kernel_rfl)) ?_
  refine gset ?_
  refine wpl_slice (e := 75) (k := 4) (bytes := 48) (xs := simR.map fun r => .agg r.cells.toArray) rfl rfl rfl (by intro x hx; obtain ⟨r, _, rfl⟩ := List.mem_map.1 hx; rfl) (by decide +kernel) (by decide +kernel) ?_
  intro v1 w1 x1 s1 sl1 _
  have sl1' : Sl 4 w1 v1 (rcells simR) := by simpa [rcells, Value.cells, List.map_map, Function.comp_def] using sl1
  refine gset ?_
  repeat' (first | ((with_reducible refine o_s ?_); (first | (refine o_1 ?_; refine o_2 ?_) | (refine o_g ?_; first | refine o_u ?_ | refine o_k ?_ | refine o_n ?_ | refine o_v ?_ | ((first | refine o_G ?_ ?_ | refine o_N ?_ ?_) <;> intro hc)))) | ((fail_if_success (with_reducible refine o_s ?_)); go_step))
  go_ret
  exact ⟨_, rfl, x1, sl1'⟩
theorem same_true {o o' : List UInt8} {u v : Value} {a b : List RSet} {w : World} (hu : SetsAt w u a) (hv : SetsAt w v b) (ho : o = o') (hab : a = b) : Calls Tryz.prog 31 #[.agg #[str o, u], .agg #[str o', v]] w (RetV w (.bool true)) := by
  have := r8_Same o o' u v a b w hu hv
  rw [decide_eq_true ho, decide_eq_true hab] at this
  exact this
def Yes (w : World) (e : Ending) (w' : World) : Prop := e = .returned (.bool true) ∧ Ext w w'
def simG : Rec := ⟨[1, 97], 6, 9, simS⟩
def simN : Rec := ⟨[1, 97], 6, 9, simT⟩
def simD : DeltaR := ⟨5, 6, [simG], [simN]⟩
theorem sim_E2 : loadE [1, 97] simR = 0 := by decide +kernel
theorem sim_L2 : loadL [1, 97] simR = simZ := by decide +kernel
theorem sim_O2 : loadO [1, 97] simR = [1, 97] := by decide +kernel
theorem sim_mE : mkE [1, 97] simZ [1, 97] simY = 0 := by decide +kernel
theorem sim_mD : mkD [1, 97] simZ [1, 97] simY = simD := by decide +kernel
theorem sim_aE : appE [1, 97] simZ simD = 0 := by decide +kernel
theorem sim_aL : appL [1, 97] simZ simD = simY := by decide +kernel
theorem sim_aO : appO [1, 97] simZ simD = [1, 97] := by decide +kernel
theorem sim_bE : appE [1, 97] simY simD = 7 := by decide +kernel
theorem sim_iE : appE [1, 97] simY (invD simD) = 0 := by decide +kernel
theorem sim_iL : appL [1, 97] simY (invD simD) = simZ := by decide +kernel
theorem sim_iO : appO [1, 97] simY (invD simD) = [1, 97] := by decide +kernel
theorem sim_cE : comE simD (invD simD) = 0 := by decide +kernel
theorem sim_cD : comD simD (invD simD) = ⟨5, 5, [], []⟩ := by decide +kernel
theorem sim_d3 : ∀ s ∈ simZ, ∀ d ∈ s.data, d.length ≤ 1000000 := by decide +kernel
theorem sim_d4 : ∀ s ∈ simY, ∀ d ∈ s.data, d.length ≤ 1000000 := by decide +kernel
theorem sim_h1 : (recordsS simZ).length ≤ 5000 := by decide +kernel
theorem sim_h2 : (recordsS simY).length ≤ 5000 := by decide +kernel
theorem sim_g : ∀ q ∈ [simG], q.data.length ≤ 1000000 := by decide +kernel
theorem sim_n : ∀ q ∈ [simN], q.data.length ≤ 1000000 := by decide +kernel
theorem Sl.empty {k : Nat} {w : World} {v : Value} (h : Sl k w v []) (w' : World) : Sl k w' v [] := by
  obtain ⟨a, c, h1, h2, h3, h4, h5, h6⟩ := h
  exact ⟨a, c, h1, h2, h3, h4, h5, fun h => absurd rfl h⟩
theorem meet5 {α β γ δ : Type} {F : α → β → γ → δ → World → Prop} {G : α → β → γ → δ → World → Prop} {goal : Prop} (h1 : (∀ x y z u w', F x y z u w' → G x y z u w') → goal) (h2 : ∀ x y z u w', F x y z u w' → G x y z u w') : goal := h1 h2
theorem meet4 {α β γ : Type} {F : α → β → γ → World → Prop} {G : α → β → γ → World → Prop} {goal : Prop} (h1 : (∀ x y z w', F x y z w' → G x y z w') → goal) (h2 : ∀ x y z w', F x y z w' → G x y z w') : goal := h1 h2
set_option maxHeartbeats 8000000 in
theorem d_live (w : World) : Calls Tryz.prog 20 #[] w (Yes w) := by
  go_enter Tryz.func20, Tryz.ntmps20
  repeat' (first | ((with_reducible refine o_s ?_); (first | (refine o_1 ?_; refine o_2 ?_) | (refine o_g ?_; first | refine o_u ?_ | refine o_k ?_ | refine o_n ?_ | refine o_v ?_ | ((first | refine o_G ?_ ?_ | refine o_N ?_ ?_) <;> intro hc)))) | ((fail_if_success (with_reducible refine o_s ?_)); go_step))
  refine wpl_callR (enters_of Tryz.func65 rfl rfl) rfl rfl (p_Simple _) ?_
  intro v1 w1 x1 hv1
  refine gset ?_
  repeat' (first | ((with_reducible refine o_s ?_); (first | (refine o_1 ?_; refine o_2 ?_) | (refine o_g ?_; first | refine o_u ?_ | refine o_k ?_ | refine o_n ?_ | refine o_v ?_ | ((first | refine o_G ?_ ?_ | refine o_N ?_ ?_) <;> intro hc)))) | ((fail_if_success (with_reducible refine o_s ?_)); go_step))
  refine wpl_callR (enters_of Tryz.func64 rfl rfl) rfl rfl (p_Load [1, 97] v1 simR _ hv1 (by decide) sim_r) ?_
  rintro _ w2 x2 ⟨z, rfl, hz⟩
  rw [sim_E2, sim_O2]
  rw [sim_L2] at hz
  have hz := hz.sets
  have hz1 : z.oneCell' = true := by obtain ⟨css, h, _⟩ := hz; exact h.one
  have hx2 := x1.trans x2
  refine gset ?_
  repeat' (first | ((with_reducible refine o_s ?_); (first | (refine o_1 ?_; refine o_2 ?_) | (refine o_g ?_; first | refine o_u ?_ | refine o_k ?_ | refine o_n ?_ | refine o_v ?_ | ((first | refine o_G ?_ ?_ | refine o_N ?_ ?_) <;> intro hc)))) | ((fail_if_success (with_reducible refine o_s ?_)); go_step))
  refine wpl_allocB (z := zzone) rfl (by decide +kernel) ?_
  intro w3 x3 s3 h3
  refine gset ?_
  refine wpl_storeB (v := .agg #[str [1, 97], z]) rfl rfl rfl h3 (show sizeTy Tryz.prog 25 2 = true by decide +kernel) rfl (zone_one hz1) ?_
  intro w4 p4
  have x4 : Ext w2 w4 := x3.move p4.mv (by rintro k ⟨⟩; exact Nat.le_refl _)
  have hp4 := pts_block (cs := [str [1, 97], z]) p4.this
  have hz4 := hz.ext x4
  have hx4 := hx2.trans x4
  clear p4 h3 x3
  repeat' (first | ((with_reducible refine o_s ?_); (first | (refine o_1 ?_; refine o_2 ?_) | (refine o_g ?_; first | refine o_u ?_ | refine o_k ?_ | refine o_n ?_ | refine o_v ?_ | ((first | refine o_G ?_ ?_ | refine o_N ?_ ?_) <;> intro hc)))) | ((fail_if_success (with_reducible refine o_s ?_)); go_step))
  refine wpl_callR (enters_of Tryz.func66 rfl rfl) rfl rfl (p_Renew [1, 97] z simZ 6 _ hz4 (by decide) sim_b sim_d) ?_
  rintro _ w5 x5 ⟨y, rfl, hy⟩
  rw [sim_renE, sim_renO]
  rw [sim_renL] at hy
  have hy := hy.sets
  have hy1 : y.oneCell' = true := by obtain ⟨css, h, _⟩ := hy; exact h.one
  refine gset ?_
  repeat' (first | ((with_reducible refine o_s ?_); (first | (refine o_1 ?_; refine o_2 ?_) | (refine o_g ?_; first | refine o_u ?_ | refine o_k ?_ | refine o_n ?_ | refine o_v ?_ | ((first | refine o_G ?_ ?_ | refine o_N ?_ ?_) <;> intro hc)))) | ((fail_if_success (with_reducible refine o_s ?_)); go_step))
  refine wpl_allocB (z := zzone) rfl (by decide +kernel) ?_
  intro w6 x6 s6 h6
  refine gset ?_
  refine wpl_storeB (v := .agg #[str [1, 97], y]) rfl rfl rfl h6 (show sizeTy Tryz.prog 25 2 = true by decide +kernel) rfl (zone_one hy1) ?_
  intro w7 p7
  have x7 : Ext w5 w7 := x6.move p7.mv (by rintro k ⟨⟩; exact Nat.le_refl _)
  have hq7 := pts_block (cs := [str [1, 97], y]) p7.this
  have x47 := x5.trans x7
  have hy7 := hy.ext x7
  have hz7 := hz4.ext x47
  have hp7 := hp4.ext x47
  have hx7 := hx4.trans x47
  clear p7 h6 x6 hp4 hz4
  repeat' (first | ((with_reducible refine o_s ?_); (first | (refine o_1 ?_; refine o_2 ?_) | (refine o_g ?_; first | refine o_u ?_ | refine o_k ?_ | refine o_n ?_ | refine o_v ?_ | ((first | refine o_G ?_ ?_ | refine o_N ?_ ?_) <;> intro hc)))) | ((fail_if_success (with_reducible refine o_s ?_)); go_step))
  refine wpl_callR (enters_of Tryz.func21 rfl rfl) rfl rfl (p_Make [1, 97] z simZ [1, 97] y simY _ hz7 hy7 sim_b sim_d sim_b2 sim_d2 (by have := sim_h1; omega) (by have := sim_h2; omega)) ?_
  rintro _ w8 x8 ⟨_, rfl, g, n, rfl, og, on⟩
  rw [sim_mE, sim_mD]
  rw [sim_mD] at og on
  have sg := og.sl
  have sn := on.sl
  refine gset ?_
  repeat' (first | ((with_reducible refine o_s ?_); (first | (refine o_1 ?_; refine o_2 ?_) | (refine o_g ?_; first | refine o_u ?_ | refine o_k ?_ | refine o_n ?_ | refine o_v ?_ | ((first | refine o_G ?_ ?_ | refine o_N ?_ ?_) <;> intro hc)))) | ((fail_if_success (with_reducible refine o_s ?_)); go_step))
  refine wpl_allocB (z := zdel) rfl (by decide +kernel) ?_
  intro w9 x9 s9 h9
  refine gset ?_
  refine wpl_storeB (v := .agg #[.int .i64 5, .int .i64 6, g, n]) rfl rfl rfl h9 (show sizeTy Tryz.prog 30 4 = true by decide +kernel) rfl (all4 rfl rfl sg.one sn.one) ?_
  intro w10 p10
  have x10 : Ext w8 w10 := x9.move p10.mv (by rintro k ⟨⟩; exact Nat.le_refl _)
  have hd10 := pts_block (cs := [.int .i64 5, .int .i64 6, g, n]) p10.this
  have x710 := x8.trans x10
  have hy10 := hy7.ext x710
  have hz10 := hz7.ext x710
  have hp10 := hp7.ext x710
  have hq10 := hq7.ext x710
  have hx10 := hx7.trans x710
  have sg10 := sg.ext x10
  have sn10 := sn.ext x10
  have hD10 : DelA simD (.agg #[.int .i64 5, .int .i64 6, g, n]) w10 := ⟨g, n, rfl, sg10, sn10⟩
  clear p10 h9 x9 hp7 hq7 hy7 hz7 sg sn og on
  repeat' (first | ((with_reducible refine o_s ?_); (first | (refine o_1 ?_; refine o_2 ?_) | (refine o_g ?_; first | refine o_u ?_ | refine o_k ?_ | refine o_n ?_ | refine o_v ?_ | ((first | refine o_G ?_ ?_ | refine o_N ?_ ?_) <;> intro hc)))) | ((fail_if_success (with_reducible refine o_s ?_)); go_step))
  refine wpl_callR (enters_of Tryz.func28 rfl rfl) rfl rfl (p_Apply [1, 97] z simZ (d := simD) _ hz10 hD10 sim_b sim_d3 sim_h1 (by decide) sim_n) ?_
  rintro _ w11 x11 ⟨y2, rfl, hy2⟩
  rw [sim_aE, sim_aO]
  rw [sim_aL] at hy2
  have hy2 := hy2.sets
  have hy21 : y2.oneCell' = true := by obtain ⟨css, h, _⟩ := hy2; exact h.one
  refine gset ?_
  repeat' (first | ((with_reducible refine o_s ?_); (first | (refine o_1 ?_; refine o_2 ?_) | (refine o_g ?_; first | refine o_u ?_ | refine o_k ?_ | refine o_n ?_ | refine o_v ?_ | ((first | refine o_G ?_ ?_ | refine o_N ?_ ?_) <;> intro hc)))) | ((fail_if_success (with_reducible refine o_s ?_)); go_step))
  refine wpl_allocB (z := zzone) rfl (by decide +kernel) ?_
  intro w12 x12 s12 h12
  refine gset ?_
  refine wpl_storeB (v := .agg #[str [1, 97], y2]) rfl rfl rfl h12 (show sizeTy Tryz.prog 25 2 = true by decide +kernel) rfl (zone_one hy21) ?_
  intro w13 p13
  have x13 : Ext w11 w13 := x12.move p13.mv (by rintro k ⟨⟩; exact Nat.le_refl _)
  have hr13 := pts_block (cs := [str [1, 97], y2]) p13.this
  have x1013 := x11.trans x13
  have hy13 := hy10.ext x1013
  have hz13 := hz10.ext x1013
  have hp13 := hp10.ext x1013
  have hq13 := hq10.ext x1013
  have hd13 := hd10.ext x1013
  have hx13 := hx10.trans x1013
  have hD13 := hD10.ext x1013
  have hy213 := hy2.ext x13
  have sg13 := sg10.ext x1013
  have sn13 := sn10.ext x1013
  clear p13 h12 x12 hp10 hq10 hy10 hz10 hd10 hD10 sg10 sn10
  repeat' (first | ((with_reducible refine o_s ?_); (first | (refine o_1 ?_; refine o_2 ?_) | (refine o_g ?_; first | refine o_u ?_ | refine o_k ?_ | refine o_n ?_ | refine o_v ?_ | ((first | refine o_G ?_ ?_ | refine o_N ?_ ?_) <;> intro hc)))) | ((fail_if_success (with_reducible refine o_s ?_)); go_step))
  refine wpl_callR (enters_of Tryz.func28 rfl rfl) rfl rfl (p_Apply [1, 97] y simY (d := simD) _ hy13 hD13 sim_b2 sim_d4 sim_h2 (by decide) sim_n) ?_
  rintro _ w14 x14 ⟨y3, rfl, hy3⟩
  rw [sim_bE]
  have hy31 : y3.oneCell' = true := by obtain ⟨css, h, _⟩ := hy3.sets; exact h.one
  refine gset ?_
  repeat' (first | ((with_reducible refine o_s ?_); (first | (refine o_1 ?_; refine o_2 ?_) | (refine o_g ?_; first | refine o_u ?_ | refine o_k ?_ | refine o_n ?_ | refine o_v ?_ | ((first | refine o_G ?_ ?_ | refine o_N ?_ ?_) <;> intro hc)))) | ((fail_if_success (with_reducible refine o_s ?_)); go_step))
  refine wpl_allocB (z := zzone) rfl (by decide +kernel) ?_
  intro w15 x15 s15 h15
  refine gset ?_
  refine wpl_storeB (v := .agg #[str (appO [1, 97] simY simD), y3]) rfl rfl rfl h15 (show sizeTy Tryz.prog 25 2 = true by decide +kernel) rfl (zone_one hy31) ?_
  intro w16 p16
  have x16 : Ext w14 w16 := x15.move p16.mv (by rintro k ⟨⟩; exact Nat.le_refl _)
  have x1316 := x14.trans x16
  have hy16 := hy13.ext x1316
  have hz16 := hz13.ext x1316
  have hp16 := hp13.ext x1316
  have hq16 := hq13.ext x1316
  have hd16 := hd13.ext x1316
  have hr16 := hr13.ext x1316
  have hx16 := hx13.trans x1316
  have hD16 := hD13.ext x1316
  have hy216 := hy213.ext x1316
  have sg16 := sg13.ext x1316
  have sn16 := sn13.ext x1316
  clear p16 h15 x15 hp13 hq13 hy13 hz13 hd13 hD13 hr13 hy213 sg13 sn13
  repeat' (first | ((with_reducible refine o_s ?_); (first | (refine o_1 ?_; refine o_2 ?_) | (refine o_g ?_; first | refine o_u ?_ | refine o_k ?_ | refine o_n ?_ | refine o_v ?_ | ((first | refine o_G ?_ ?_ | refine o_N ?_ ?_) <;> intro hc)))) | ((fail_if_success (with_reducible refine o_s ?_)); go_step))
  refine wph_region (S := fun w' => Ext w16 w') (by decide +kernel) ?_
  intro w17 x17 hh17
  refine tk 0 ?_; refine gset ?_; refine tk 1 ?_; refine gset ?_
  apply meet4 (F := fun (u y : Value) (b : Nat) w' => Ext w16 w' ∧ Pts w' (.pointer (some ⟨b, 0, none⟩)) [str [1, 97], y] ∧ SetsAt w' y simZ)
  · intro hG
    refine wph_two (i := 2) (j := 7) (by decide +kernel) rfl rfl rfl ?_ ?_
    · refine wpl_callR (enters_of Tryz.func35 rfl rfl) rfl rfl (p_Invert (d := simD) _ (hD16.ext x17) (by decide) (by decide)) ?_
      intro u wC xC ou
      refine gset ?_
      have x1 := x17.trans xC
      refine wph_nil ⟨x1, ?_⟩
      refine wph_two (i := 3) (j := 7) (by decide +kernel) rfl rfl rfl ?_ ?_
      · refine wpl_callR (enters_of Tryz.func28 rfl rfl) rfl rfl (p_Apply [1, 97] y simY (d := invD simD) _ (hy16.ext x1) ou.a sim_b2 sim_d4 sim_h2 (by decide) sim_g) ?_
        rintro _ wD xD ⟨y4, rfl, hy4⟩
        rw [sim_iE, sim_iO]
        rw [sim_iL] at hy4
        have hy41 : y4.oneCell' = true := by obtain ⟨css, h, _⟩ := hy4.sets; exact h.one
        refine gset ?_
        have x2 := x1.trans xD
        refine wph_nil ⟨x2, ?_⟩
        refine tk 4 ?_; refine gset ?_; refine tk 5 ?_; refine gset ?_; refine tk 6 ?_; refine gset ?_
        refine wph_one (i := 7) (by decide +kernel) rfl rfl ?_
        refine wpl_allocB (z := zzone) rfl (by decide +kernel) ?_
        intro wE xE sE hE
        refine gset ?_
        have x3 := x2.trans xE
        refine wph_nil ⟨x3, ?_⟩
        refine wph_one (i := 8) (by decide +kernel) rfl rfl ?_
        refine wpl_storeB (v := .agg #[str [1, 97], y4]) rfl rfl rfl hE (show sizeTy Tryz.prog 25 2 = true by decide +kernel) rfl (zone_one hy41) ?_
        intro wF pF
        have xF : Ext wD wF := xE.move pF.mv (by rintro k ⟨⟩; exact Nat.le_refl _)
        have hF := pts_block (cs := [str [1, 97], y4]) pF.this
        refine wph_nil ⟨x2.trans xF, ?_⟩
        refine tk 9 ?_; refine gset ?_
        have x4 := x2.trans xF
        clear pF hE xE sE
        generalize wD.heap.size = b at *
        exact hG u _ b _ ⟨x4, hF, hy4.sets.ext xF⟩
      · refine wpl_allocB (z := zzone) rfl (by decide +kernel) ?_
        intro wD xD sD hD
        refine gset ?_
        have x2 := x1.trans xD
        refine wph_nil ⟨x2, ?_⟩
        refine wph_one (i := 3) (by decide +kernel) rfl rfl ?_
        refine wpl_callR (enters_of Tryz.func28 rfl rfl) rfl rfl (p_Apply [1, 97] y simY (d := invD simD) _ (hy16.ext x2) (ou.a.ext xD) sim_b2 sim_d4 sim_h2 (by decide) sim_g) ?_
        rintro _ wE xE ⟨y4, rfl, hy4⟩
        rw [sim_iE, sim_iO]
        rw [sim_iL] at hy4
        have hy41 : y4.oneCell' = true := by obtain ⟨css, h, _⟩ := hy4.sets; exact h.one
        refine gset ?_
        have x3 := x2.trans xE
        refine wph_nil ⟨x3, ?_⟩
        refine tk 4 ?_; refine gset ?_; refine tk 5 ?_; refine gset ?_; refine tk 6 ?_; refine gset ?_
        have hb := x1.size
        have hE := xE.at hD
        have hlt : wC.heap.size < wD.heap.size := by omega
        refine wph_one (i := 8) (by decide +kernel) rfl rfl ?_
        refine wpl_storeB (v := .agg #[str [1, 97], y4]) rfl rfl rfl hE (show sizeTy Tryz.prog 25 2 = true by decide +kernel) rfl (zone_one hy41) ?_
        intro wF pF
        have xF : Ext w16 wF := x3.move pF.mv (by rintro k ⟨⟩; exact hb)
        have hF := pts_block (cs := [str [1, 97], y4]) pF.this
        refine wph_nil ⟨xF, ?_⟩
        refine tk 9 ?_; refine gset ?_
        have hfin := (hy4.put pF hlt).sets
        clear pF hE hD sD
        generalize wC.heap.size = b at *
        exact hG u _ b _ ⟨xF, hF, hfin⟩
    · refine wpl_allocB (z := zzone) rfl (by decide +kernel) ?_
      intro wC xC sC hC
      refine gset ?_
      have x1 := x17.trans xC
      refine wph_nil ⟨x1, ?_⟩
      refine wph_one (i := 2) (by decide +kernel) rfl rfl ?_
      refine wpl_callR (enters_of Tryz.func35 rfl rfl) rfl rfl (p_Invert (d := simD) _ (hD16.ext x1) (by decide) (by decide)) ?_
      intro u wD xD ou
      refine gset ?_
      have x2 := x1.trans xD
      refine wph_nil ⟨x2, ?_⟩
      refine wph_one (i := 3) (by decide +kernel) rfl rfl ?_
      refine wpl_callR (enters_of Tryz.func28 rfl rfl) rfl rfl (p_Apply [1, 97] y simY (d := invD simD) _ (hy16.ext x2) ou.a sim_b2 sim_d4 sim_h2 (by decide) sim_g) ?_
      rintro _ wE xE ⟨y4, rfl, hy4⟩
      rw [sim_iE, sim_iO]
      rw [sim_iL] at hy4
      have hy41 : y4.oneCell' = true := by obtain ⟨css, h, _⟩ := hy4.sets; exact h.one
      refine gset ?_
      have x3 := x2.trans xE
      refine wph_nil ⟨x3, ?_⟩
      refine tk 4 ?_; refine gset ?_; refine tk 5 ?_; refine gset ?_; refine tk 6 ?_; refine gset ?_
      have hb := x17.size
      have hE := xE.at (xD.at hC)
      have hlt : w17.heap.size < wD.heap.size := by have := xD.size; omega
      refine wph_one (i := 8) (by decide +kernel) rfl rfl ?_
      refine wpl_storeB (v := .agg #[str [1, 97], y4]) rfl rfl rfl hE (show sizeTy Tryz.prog 25 2 = true by decide +kernel) rfl (zone_one hy41) ?_
      intro wF pF
      have xF : Ext w16 wF := x3.move pF.mv (by rintro k ⟨⟩; exact hb)
      have hF := pts_block (cs := [str [1, 97], y4]) pF.this
      refine wph_nil ⟨xF, ?_⟩
      refine tk 9 ?_; refine gset ?_
      have hfin := (hy4.put pF hlt).sets
      clear pF hE hC sC
      generalize w17.heap.size = b at *
      exact hG u _ b _ ⟨xF, hF, hfin⟩
  · rintro u y4 b w20 ⟨x1620, hf20, hy420⟩
    refine wph_done (by decide +kernel) ?_
    have hy20 := hy16.ext x1620
    have hz20 := hz16.ext x1620
    have hp20 := hp16.ext x1620
    have hq20 := hq16.ext x1620
    have hd20 := hd16.ext x1620
    have hr20 := hr16.ext x1620
    have hx20 := hx16.trans x1620
    have hD20 := hD16.ext x1620
    have hy220 := hy216.ext x1620
    have sg20 := sg16.ext x1620
    have sn20 := sn16.ext x1620
    clear hp16 hq16 hy16 hz16 hd16 hD16 hr16 hy216 sg16 sn16
    repeat' (first | ((with_reducible refine o_s ?_); (first | (refine o_1 ?_; refine o_2 ?_) | (refine o_g ?_; first | refine o_u ?_ | refine o_k ?_ | refine o_n ?_ | refine o_v ?_ | ((first | refine o_G ?_ ?_ | refine o_N ?_ ?_) <;> intro hc)))) | ((fail_if_success (with_reducible refine o_s ?_)); go_step))
    refine wph_region (S := fun w' => Ext w20 w') (by decide +kernel) ?_
    intro w21 x21 hh21
    refine tk 0 ?_; refine gset ?_; refine tk 1 ?_; refine gset ?_
    apply meet5 (F := fun (u g' n' : Value) (b : Nat) w' => Ext w20 w' ∧ Pts w' (.pointer (some ⟨b, 0, none⟩)) [.int .i64 5, .int .i64 5, g', n'] ∧ Sl 4 w' g' [] ∧ Sl 4 w' n' [])
    · intro hG
      refine wph_two (i := 2) (j := 7) (by decide +kernel) rfl rfl rfl ?_ ?_
      · refine wpl_callR (enters_of Tryz.func35 rfl rfl) rfl rfl (p_Invert (d := simD) _ (hD20.ext x21) (by decide) (by decide)) ?_
        intro u wC xC ou
        refine gset ?_
        have x1 := x21.trans xC
        refine wph_nil ⟨x1, ?_⟩
        refine wph_two (i := 3) (j := 7) (by decide +kernel) rfl rfl rfl ?_ ?_
        · refine wpl_callR (enters_of Tryz.func33 rfl rfl) rfl rfl (p_Compose (a := simD) (b := invD simD) _ (hD20.ext x1) ou.a (by decide) (by decide) (by decide) (by decide)) ?_
          rintro _ wD xD ⟨_, rfl, g', n', rfl, og', on'⟩
          rw [sim_cE, sim_cD]
          rw [sim_cD] at og' on'
          have sg' := og'.sl; rw [show rcells ([] : List Rec) = [] from rfl] at sg'
          have sn' := on'.sl; rw [show rcells ([] : List Rec) = [] from rfl] at sn'
          refine gset ?_
          have x2 := x1.trans xD
          refine wph_nil ⟨x2, ?_⟩
          refine tk 4 ?_; refine gset ?_; refine tk 5 ?_; refine gset ?_; refine tk 6 ?_; refine gset ?_
          refine wph_one (i := 7) (by decide +kernel) rfl rfl ?_
          refine wpl_allocB (z := zdel) rfl (by decide +kernel) ?_
          intro wE xE sE hE
          refine gset ?_
          have x3 := x2.trans xE
          refine wph_nil ⟨x3, ?_⟩
          refine wph_one (i := 8) (by decide +kernel) rfl rfl ?_
          refine wpl_storeB (v := .agg #[.int .i64 5, .int .i64 5, g', n']) rfl rfl rfl hE (show sizeTy Tryz.prog 30 4 = true by decide +kernel) rfl (all4 rfl rfl sg'.one sn'.one) ?_
          intro wF pF
          have xF : Ext wD wF := xE.move pF.mv (by rintro k ⟨⟩; exact Nat.le_refl _)
          have hF := pts_block (cs := [.int .i64 5, .int .i64 5, g', n']) pF.this
          refine wph_nil ⟨x2.trans xF, ?_⟩
          refine tk 9 ?_; refine gset ?_
          have x4 := x2.trans xF
          clear pF hE xE sE
          generalize wD.heap.size = b at *
          exact hG u g' n' b _ ⟨x4, hF, sg'.empty _, sn'.empty _⟩
        · refine wpl_allocB (z := zdel) rfl (by decide +kernel) ?_
          intro wD xD sD hD
          refine gset ?_
          have x2 := x1.trans xD
          refine wph_nil ⟨x2, ?_⟩
          refine wph_one (i := 3) (by decide +kernel) rfl rfl ?_
          refine wpl_callR (enters_of Tryz.func33 rfl rfl) rfl rfl (p_Compose (a := simD) (b := invD simD) _ (hD20.ext x2) (ou.a.ext xD) (by decide) (by decide) (by decide) (by decide)) ?_
          rintro _ wE xE ⟨_, rfl, g', n', rfl, og', on'⟩
          rw [sim_cE, sim_cD]
          rw [sim_cD] at og' on'
          have sg' := og'.sl; rw [show rcells ([] : List Rec) = [] from rfl] at sg'
          have sn' := on'.sl; rw [show rcells ([] : List Rec) = [] from rfl] at sn'
          refine gset ?_
          have x3 := x2.trans xE
          refine wph_nil ⟨x3, ?_⟩
          refine tk 4 ?_; refine gset ?_; refine tk 5 ?_; refine gset ?_; refine tk 6 ?_; refine gset ?_
          have hb := x1.size
          have hE := xE.at hD
          have hlt : wC.heap.size < wD.heap.size := by omega
          refine wph_one (i := 8) (by decide +kernel) rfl rfl ?_
          refine wpl_storeB (v := .agg #[.int .i64 5, .int .i64 5, g', n']) rfl rfl rfl hE (show sizeTy Tryz.prog 30 4 = true by decide +kernel) rfl (all4 rfl rfl sg'.one sn'.one) ?_
          intro wF pF
          have xF : Ext w20 wF := x3.move pF.mv (by rintro k ⟨⟩; exact hb)
          have hF := pts_block (cs := [.int .i64 5, .int .i64 5, g', n']) pF.this
          refine wph_nil ⟨xF, ?_⟩
          refine tk 9 ?_; refine gset ?_
          clear pF hE hD sD
          generalize wC.heap.size = b at *
          exact hG u g' n' b _ ⟨xF, hF, sg'.empty _, sn'.empty _⟩
      · refine wpl_allocB (z := zdel) rfl (by decide +kernel) ?_
        intro wC xC sC hC
        refine gset ?_
        have x1 := x21.trans xC
        refine wph_nil ⟨x1, ?_⟩
        refine wph_one (i := 2) (by decide +kernel) rfl rfl ?_
        refine wpl_callR (enters_of Tryz.func35 rfl rfl) rfl rfl (p_Invert (d := simD) _ (hD20.ext x1) (by decide) (by decide)) ?_
        intro u wD xD ou
        refine gset ?_
        have x2 := x1.trans xD
        refine wph_nil ⟨x2, ?_⟩
        refine wph_one (i := 3) (by decide +kernel) rfl rfl ?_
        refine wpl_callR (enters_of Tryz.func33 rfl rfl) rfl rfl (p_Compose (a := simD) (b := invD simD) _ (hD20.ext x2) ou.a (by decide) (by decide) (by decide) (by decide)) ?_
        rintro _ wE xE ⟨_, rfl, g', n', rfl, og', on'⟩
        rw [sim_cE, sim_cD]
        rw [sim_cD] at og' on'
        have sg' := og'.sl; rw [show rcells ([] : List Rec) = [] from rfl] at sg'
        have sn' := on'.sl; rw [show rcells ([] : List Rec) = [] from rfl] at sn'
        refine gset ?_
        have x3 := x2.trans xE
        refine wph_nil ⟨x3, ?_⟩
        refine tk 4 ?_; refine gset ?_; refine tk 5 ?_; refine gset ?_; refine tk 6 ?_; refine gset ?_
        have hb := x21.size
        have hE := xE.at (xD.at hC)
        have hlt : w21.heap.size < wD.heap.size := by have := xD.size; omega
        refine wph_one (i := 8) (by decide +kernel) rfl rfl ?_
        refine wpl_storeB (v := .agg #[.int .i64 5, .int .i64 5, g', n']) rfl rfl rfl hE (show sizeTy Tryz.prog 30 4 = true by decide +kernel) rfl (all4 rfl rfl sg'.one sn'.one) ?_
        intro wF pF
        have xF : Ext w20 wF := x3.move pF.mv (by rintro k ⟨⟩; exact hb)
        have hF := pts_block (cs := [.int .i64 5, .int .i64 5, g', n']) pF.this
        refine wph_nil ⟨xF, ?_⟩
        refine tk 9 ?_; refine gset ?_
        clear pF hE hC sC
        generalize w21.heap.size = b at *
        exact hG u g' n' b _ ⟨xF, hF, sg'.empty _, sn'.empty _⟩
    · rintro u g' n' b' w22 ⟨x2022, hc22, sg22, sn22⟩
      refine wph_done (by decide +kernel) ?_
      have hy22 := hy20.ext x2022
      have hz22 := hz20.ext x2022
      have hp22 := hp20.ext x2022
      have hq22 := hq20.ext x2022
      have hd22 := hd20.ext x2022
      have hr22 := hr20.ext x2022
      have hx22 := hx20.trans x2022
      have hy222 := hy220.ext x2022
      have hy422 := hy420.ext x2022
      have hf22 := hf20.ext x2022
      have sgd := sg20.ext x2022
      have snd := sn20.ext x2022
      clear hp20 hq20 hy20 hz20 hd20 hD20 hr20 hy220 hy420 hf20 sg20 sn20
      repeat' (first | ((with_reducible refine o_s ?_); (first | (refine o_1 ?_; refine o_2 ?_) | (refine o_g ?_; first | refine o_u ?_ | refine o_k ?_ | refine o_n ?_ | refine o_v ?_ | ((first | refine o_G ?_ ?_ | refine o_N ?_ ?_) <;> intro hc)))) | ((fail_if_success (with_reducible refine o_s ?_)); go_step))
      · refine wpl_callV (enters_of Tryz.func31 rfl rfl) rfl rfl (same_true hy222 hy22 rfl rfl) ?_; intro w23 x23; refine gset ?_
        have hp23 := hp22.ext x23
        have hf23 := hf22.ext x23
        have hc23 := hc22.ext x23
        repeat' (first | ((with_reducible refine o_s ?_); (first | (refine o_1 ?_; refine o_2 ?_) | (refine o_g ?_; first | refine o_u ?_ | refine o_k ?_ | refine o_n ?_ | refine o_v ?_ | ((first | refine o_G ?_ ?_ | refine o_N ?_ ?_) <;> intro hc)))) | ((fail_if_success (with_reducible refine o_s ?_)); go_step))
        refine wpl_callV (enters_of Tryz.func31 rfl rfl) rfl rfl (same_true (hy422.ext x23) (hz22.ext x23) rfl rfl) ?_; intro w24 x24; refine gset ?_
        have hc24 := hc23.ext x24
        have sg24 := sg22.empty w24
        have sn24 := sn22.empty w24
        repeat' (first | ((with_reducible refine o_s ?_); (first | (refine o_1 ?_; refine o_2 ?_) | (refine o_g ?_; first | refine o_u ?_ | refine o_k ?_ | refine o_n ?_ | refine o_v ?_ | ((first | refine o_G ?_ ?_ | refine o_N ?_ ?_) <;> intro hc)))) | ((fail_if_success (with_reducible refine o_s ?_)); go_step))
        · go_ret
          exact ⟨rfl, (hx22.trans x23).trans x24⟩
        · exact (hc rfl).elim
        · exact (hc rfl).elim
      · exact (hc rfl).elim
      · exact (hc rfl).elim
section
variable {P : Program} {w : World} {ts : List Value} {df : List Deferred} {d : Option Nat} {ty : TypeId} {ps : String} {af : Array Edge} {g : Option (Nat × Bool)}
def boolTy (P : Program) (t : TypeId) : Bool := match P.underlying t with | some .bool => true | _ => false
end
theorem few_bounds {l : List RSet} (h : fewS l = true) : l.length ≤ 25 ∧ (∀ s ∈ l, s.data.length ≤ 12) ∧ (∀ s ∈ l, s.name.length ≤ 300) ∧ ∀ s ∈ l, ∀ d ∈ s.data, d.length ≤ 300 := by
  simp only [fewS, Bool.and_eq_true, decide_eq_true_eq, List.all_eq_true, fewAt] at h
  exact ⟨h.1, fun s hs => (h.2 s hs).1.1, fun s hs => (h.2 s hs).1.2, fun s hs d hd => (h.2 s hs).2 d hd⟩
theorem recs_bound : ∀ {l : List RSet}, (∀ s ∈ l, s.data.length ≤ 12) → (recordsS l).length ≤ 12 * l.length
  | [], _ => by simp [recordsS]
  | s :: l, h => by
    have ih := recs_bound (l := l) fun t ht => h t (List.mem_cons_of_mem _ ht)
    have h1 := h s (by simp)
    have e : recordsS (s :: l) = recsOf s ++ recordsS l := by simp [recordsS]
    rw [e, List.length_append, List.length_cons]
    simp only [recsOf, List.length_map]
    omega
theorem fewz {o : List UInt8} {l : List RSet} (h : (decide ((o.length : Int) ≤ 300) && fewS l) = true) : l.length ≤ 25 ∧ (∀ s ∈ l, s.data.length ≤ 1000000) ∧ (∀ s ∈ l, ∀ d ∈ s.data, d.length ≤ 4611686018427387904) ∧ o.length ≤ 300 ∧ (∀ s ∈ l, s.data.length ≤ 12) ∧ (∀ s ∈ l, ∀ d ∈ s.data, d.length ≤ 300) := by
  simp only [Bool.and_eq_true, decide_eq_true_eq] at h
  obtain ⟨b1, b2, b3, b4⟩ := few_bounds h.2
  exact ⟨b1, fun s hs => by have := b2 s hs; omega, fun s hs d hd => by have := b4 s hs d hd; omega, by omega, b2, b4⟩
theorem d_liveV (w : World) : Calls Tryz.prog 20 #[] w (RetV w (.bool true)) := d_live w
theorem fewd {o : List UInt8} {l : List RSet} (h : (decide ((o.length : Int) ≤ 300) && fewS l) = true) : (recordsS l).length ≤ 300 ∧ (∀ s ∈ l, ∀ d ∈ s.data, d.length ≤ 1000000) ∧ ∀ r ∈ recordsS l, r.data.length ≤ 1000000 := by
  obtain ⟨a, _, _, _, b, c⟩ := fewz h
  have := recs_bound b
  have hd : ∀ s ∈ l, ∀ d ∈ s.data, d.length ≤ 1000000 := fun s hs d hd => by have := c s hs d hd; omega
  exact ⟨by omega, hd, recs_data hd⟩
theorem mkD_bounds {oa ob : List UInt8} {la lb : List RSet} (ha : (recordsS la).length ≤ 300) (hb : (recordsS lb).length ≤ 300) (da : ∀ r ∈ recordsS la, r.data.length ≤ 1000000) (db : ∀ r ∈ recordsS lb, r.data.length ≤ 1000000) :
    ((mkD oa la ob lb).gone.length ≤ 300 ∧ (mkD oa la ob lb).new.length ≤ 300) ∧ (∀ q ∈ (mkD oa la ob lb).gone, q.data.length ≤ 1000000) ∧ ∀ q ∈ (mkD oa la ob lb).new, q.data.length ≤ 1000000 := by
  unfold mkD
  split
  · have h1 := less_len (recordsS la) (recordsS lb)
    have h2 := less_len (recordsS lb) (recordsS la)
    exact ⟨⟨by show (lessR _ _).length ≤ _; omega, by show (lessR _ _).length ≤ _; omega⟩, fun q hq => da q (mem_less.1 hq).1, fun q hq => db q (mem_less.1 hq).1⟩
  · simp [zeroD]
set_option maxHeartbeats 12000000 in
theorem r7_Records (v : Value) (l : List RSet) (w : World) (hv : SetsAt w v l) (hb : (recordsS l).length ≤ 100000) : Calls Tryz.prog 69 #[v] w (Ret w fun r w' => Own w.heap.size 4 75 w' r (rcells (recordsS l))) := by
  obtain ⟨cv, hv1, hvl⟩ := hv.sl
  have hle := hv1.le
  go_enter Tryz.func69, Tryz.ntmps69
  repeat' (first | ((with_reducible refine o_s ?_); (first | (refine o_1 ?_; refine o_2 ?_) | (refine o_g ?_; first | refine o_u ?_ | refine o_k ?_ | refine o_n ?_ | refine o_v ?_ | ((first | refine o_G ?_ ?_ | refine o_N ?_ ?_) <;> intro hc)))) | ((fail_if_success (with_reducible refine o_s ?_)); go_step))
  go_loopw [3, 4, 5] (fun o i _ wr => ∃ k : Nat, k ≤ l.length ∧ i = .int .i64 k ∧ Ext w wr ∧ Own w.heap.size 4 75 wr o (rcells (recsP l k))) (fun _ i _ _ => l.length - (intOf i).toNat)
  case atStart => exact ⟨0, Nat.zero_le _, rfl, Ext.refl _, Own.nil _ _ _ _⟩
  case round =>
    obtain ⟨k, hk, rfl, hx, ho⟩ := hrel
    have hv2 := hv1.ext hx
    by_cases hlt : k < l.length
    · obtain ⟨x, h4, h4d⟩ := hv.elem (List.getElem?_eq_getElem hlt)
      have hdl := tcells_length l[k].data
      have hdle := h4d.le
      repeat' (first | ((with_reducible refine o_s ?_); (first | (refine o_1 ?_; refine o_2 ?_) | (refine o_g ?_; first | refine o_u ?_ | refine o_k ?_ | refine o_n ?_ | refine o_v ?_ | ((first | refine o_G ?_ ?_ | refine o_N ?_ ?_) <;> intro hc)))) | ((fail_if_success (with_reducible refine o_s ?_)); go_step))
      go_loopw [3, 5] (fun o i wq => ∃ j : Nat, j ≤ l[k].data.length ∧ i = .int .i64 j ∧ Ext w wq ∧ Own w.heap.size 4 75 wq o (rcells (recsP l k ++ (l[k].data.take j).map (recOf l[k])))) (fun _ i _ => l[k].data.length - (intOf i).toNat)
      case atStart => exact ⟨0, Nat.zero_le _, rfl, hx, by simpa using ho⟩
      case round =>
        obtain ⟨j, hj, rfl, hxq, hoq⟩ := hrel
        have hv3 := hv1.ext hxq
        have h4q := h4.ext hxq
        have h4dq := h4d.ext hxq
        by_cases hlt2 : j < l[k].data.length
        · have h3 := h4d.elem (tcells_at hlt2)
          have hle1 := recsP_le l (k + 1)
          rw [recsP_succ hlt, List.length_append] at hle1
          have hle2 : (recsOf l[k]).length = l[k].data.length := by simp [recsOf]
          have hcl : (rcells (recsP l k ++ (l[k].data.take j).map (recOf l[k]))).length = (recsP l k).length + j := by simp [rcells]; omega
          repeat' (first | ((with_reducible refine o_s ?_); (first | (refine o_1 ?_; refine o_2 ?_) | (refine o_g ?_; first | refine o_u ?_ | refine o_k ?_ | refine o_n ?_ | refine o_v ?_ | ((first | refine o_G ?_ ?_ | refine o_N ?_ ?_) <;> intro hc)))) | ((fail_if_success (with_reducible refine o_s ?_)); go_step))
          clear hv2 hv3 h4q h4dq
          refine wph_region (S := fun w' => Ext w w') (by decide +kernel) ?_
          intro w5 x5 hh5
          refine tk 0 ?_; refine gset ?_; refine tk 1 ?_; refine gset ?_; refine tk 2 ?_; refine gset ?_; refine tk 3 ?_; refine gset ?_; refine tk 4 ?_; refine gset ?_; refine tk 5 ?_; refine gset ?_; refine tk 6 ?_; refine gset ?_; refine tk 7 ?_; refine gset ?_; refine tk 8 ?_; refine gset ?_; refine tk 9 ?_; refine gset ?_; refine tk 10 ?_; refine gset ?_; refine tk 11 ?_; refine gset ?_; refine tk 12 ?_; refine gset ?_; refine tk 13 ?_; refine gset ?_; refine tk 14 ?_; refine gset ?_; refine tk 15 ?_; refine gset ?_; refine tk 16 ?_; refine gset ?_; refine tk 17 ?_; refine gset ?_; refine tk 18 ?_; refine gset ?_; refine tk 19 ?_; refine gset ?_; refine tk 20 ?_; refine gset ?_; refine tk 21 ?_; refine gset ?_; refine tk 22 ?_; refine gset ?_; refine tk 23 ?_; refine gset ?_
          refine wph_take (i := 24) (v := .agg #[str l[k].name, .int .i64 l[k].kind, .int .i64 l[k].ttl, str l[k].data[j]]) rfl rfl (by decide +kernel) (by decide +kernel) (by decide +kernel) rfl (hxq.trans x5) (fun w' _ => Runs.build rfl (by kernel_rfl)) (fun _ _ _ h => h) ?_
          refine gset ?_
          refine wph_one (i := 25) (by decide +kernel) rfl rfl ?_
          refine wpl_slice (e := 75) (k := 4) (bytes := 48) (xs := [.agg #[str l[k].name, .int .i64 l[k].kind, .int .i64 l[k].ttl, str l[k].data[j]]]) rfl rfl rfl (by simp [Value.cells]) (by decide +kernel) (by simp) ?_
          intro v8 w8 x8 s8 sl8 _
          refine gset ?_
          have hx8 := (hxq.trans x5).trans x8
          refine wph_nil ⟨hx8, ?_⟩
          refine wph_one (i := 26) (by decide +kernel) rfl rfl ?_
          have ho8 := (hoq.ext x5).ext x8
          refine wpl_appendO (B := w.heap.size) (e := 75) (k := 4) rfl ho8 rfl sl8 (by simp [Value.cells, str, Value.oneCell']) hx8.size (by rw [hcl]; simp; omega) ?_
          intro v9 w9 o9 m9 k9
          refine gset ?_
          have x9 : Ext w w9 := ho8.mvx m9 hx8 (Nat.le_refl _)
          have o9 : Own w.heap.size 4 75 w9 v9 (rcells (recsP l k ++ (l[k].data.take (j + 1)).map (recOf l[k]))) := by
            rw [map_take_succ hlt2, ← List.append_assoc]
            simpa [rcells, Rec.cells, recOf, Value.cells] using o9
          refine wph_nil ⟨x9, ?_⟩
          refine wph_one (i := 27) (by decide +kernel) rfl rfl ?_
          repeat' (first | ((with_reducible refine o_s ?_); (first | (refine o_1 ?_; refine o_2 ?_) | (refine o_g ?_; first | refine o_u ?_ | refine o_k ?_ | refine o_n ?_ | refine o_v ?_ | ((first | refine o_G ?_ ?_ | refine o_N ?_ ?_) <;> intro hc)))) | ((fail_if_success (with_reducible refine o_s ?_)); go_step))
          refine ⟨x9, ?_⟩
          refine wph_done (by decide +kernel) ?_
          repeat' (first | ((with_reducible refine o_s ?_); (first | (refine o_1 ?_; refine o_2 ?_) | (refine o_g ?_; first | refine o_u ?_ | refine o_k ?_ | refine o_n ?_ | refine o_v ?_ | ((first | refine o_G ?_ ?_ | refine o_N ?_ ?_) <;> intro hc)))) | ((fail_if_success (with_reducible refine o_s ?_)); go_step))
          exact ⟨⟨j + 1, by omega, by go_num, x9, o9⟩, by simp [intOf]; omega⟩
        · have : j = l[k].data.length := by omega
          subst this
          repeat' (first | ((with_reducible refine o_s ?_); (first | (refine o_1 ?_; refine o_2 ?_) | (refine o_g ?_; first | refine o_u ?_ | refine o_k ?_ | refine o_n ?_ | refine o_v ?_ | ((first | refine o_G ?_ ?_ | refine o_N ?_ ?_) <;> intro hc)))) | ((fail_if_success (with_reducible refine o_s ?_)); go_step))
          refine ⟨⟨k + 1, by omega, by go_num, hxq, ?_⟩, by simp [intOf]; omega⟩
          rw [recsP_succ hlt]
          rw [List.take_length] at hoq
          exact hoq
    · have : k = l.length := by omega
      subst this
      rw [recsP_all] at ho
      repeat' (first | ((with_reducible refine o_s ?_); (first | (refine o_1 ?_; refine o_2 ?_) | (refine o_g ?_; first | refine o_u ?_ | refine o_k ?_ | refine o_n ?_ | refine o_v ?_ | ((first | refine o_G ?_ ?_ | refine o_N ?_ ?_) <;> intro hc)))) | ((fail_if_success (with_reducible refine o_s ?_)); go_step))
      go_ret
      exact ⟨_, rfl, hx, ho⟩
set_option maxHeartbeats 6000000 in
theorem r10_Make (oa : List UInt8) (u : Value) (la : List RSet) (ob : List UInt8) (v : Value) (lb : List RSet) (w : World) (hu : SetsAt w u la) (hv : SetsAt w v lb)
    (ba : ∀ s ∈ la, s.data.length ≤ 1000000) (da : ∀ s ∈ la, ∀ d ∈ s.data, d.length ≤ 4611686018427387904) (bb : ∀ s ∈ lb, s.data.length ≤ 1000000) (db : ∀ s ∈ lb, ∀ d ∈ s.data, d.length ≤ 4611686018427387904)
    (h1 : (recordsS la).length ≤ 100000) (h2 : (recordsS lb).length ≤ 100000) : Calls Tryz.prog 22 #[.agg #[str oa, u], .agg #[str ob, v]] w (Ret w (DelU w.heap.size (mkD oa la ob lb) (mkE oa la ob lb))) := by
  go_enter Tryz.func22, Tryz.ntmps22
  repeat' ((fail_if_success (with_reducible refine o_s ?_)); go_step)
  refine wpl_box (vs := [str oa, u]) rfl rfl ?_
  intro p w1 x1 hp
  refine gset ?_
  refine wpl_box (vs := [str ob, v]) rfl rfl ?_
  intro q w2 x2 hq
  refine gset ?_
  refine wpl_allocB (z := zdel) rfl (by decide +kernel) ?_
  intro w3 x3 s3 h3
  refine gset ?_
  have hx3 := (x1.trans x2).trans x3
  have zz := (x1.trans x2).size
  have hp3 := (hp.ext x2).ext x3
  have hq3 := hq.ext x3
  repeat' (first | ((with_reducible refine o_s ?_); (first | (refine o_1 ?_; refine o_2 ?_) | (refine o_g ?_; first | refine o_u ?_ | refine o_k ?_ | refine o_n ?_ | refine o_v ?_ | ((first | refine o_G ?_ ?_ | refine o_N ?_ ?_) <;> intro hc)))) | ((fail_if_success (with_reducible refine o_s ?_)); go_step))
  refine wpl_callV (enters_of Tryz.func68 rfl rfl) rfl rfl (r8_Soa oa u la _ (hu.ext hx3) ba da) ?_; intro w4 x4; refine gset ?_
  have hx4 := hx3.trans x4
  repeat' (first | ((with_reducible refine o_s ?_); (first | (refine o_1 ?_; refine o_2 ?_) | (refine o_g ?_; first | refine o_u ?_ | refine o_k ?_ | refine o_n ?_ | refine o_v ?_ | ((first | refine o_G ?_ ?_ | refine o_N ?_ ?_) <;> intro hc)))) | ((fail_if_success (with_reducible refine o_s ?_)); go_step))
  refine wpl_allocB (z := zeroSoa) rfl (by decide +kernel) ?_
  intro w5 x5 s5 h5
  refine gset ?_
  refine wpl_storeB (v := .agg (soaZ oa la).cells.toArray) rfl rfl rfl h5 (show sizeTy Tryz.prog 103 7 = true by decide +kernel) rfl (soaR_one _) ?_
  intro w6 p6
  have x46 : Ext w4 w6 := x5.move p6.mv (by rintro k ⟨⟩; exact Nat.le_refl _)
  have b6 : w6.heap[w4.heap.size]? = some (.cells (soaZ oa la).cells.toArray 103 (0, 0)) := p6.this
  have x36 := x4.trans x46
  have hx6 := hx3.trans x36
  clear p6 h5 x5
  have h6 := x36.at h3
  have hp6 := hp3.ext x36
  have hq6 := hq3.ext x36
  repeat' (first | ((with_reducible refine o_s ?_); (first | (refine o_1 ?_; refine o_2 ?_) | (refine o_g ?_; first | refine o_u ?_ | refine o_k ?_ | refine o_n ?_ | refine o_v ?_ | ((first | refine o_G ?_ ?_ | refine o_N ?_ ?_) <;> intro hc)))) | ((fail_if_success (with_reducible refine o_s ?_)); go_step))
  · have q0 : ¬ zoneR oa la = 0 := by simpa using (by assumption : (!decide (zoneR oa la = 0)) = true)
    refine wpl_run (v := .agg zdel.toArray) rfl (Runs.build0 (by kernel_rfl)) ?_
    refine gset ?_
    repeat' (first | ((with_reducible refine o_s ?_); (first | (refine o_1 ?_; refine o_2 ?_) | (refine o_g ?_; first | refine o_u ?_ | refine o_k ?_ | refine o_n ?_ | refine o_v ?_ | ((first | refine o_G ?_ ?_ | refine o_N ?_ ?_) <;> intro hc)))) | ((fail_if_success (with_reducible refine o_s ?_)); go_step))
    refine wpl_storeB (v := .agg zdel.toArray) rfl rfl rfl h6 (by decide +kernel) rfl (by decide +kernel) ?_
    intro w7 p7
    have x7 : Ext w w7 := hx6.move p7.mv (by rintro k ⟨⟩; exact zz)
    repeat' (first | ((with_reducible refine o_s ?_); (first | (refine o_1 ?_; refine o_2 ?_) | (refine o_g ?_; first | refine o_u ?_ | refine o_k ?_ | refine o_n ?_ | refine o_v ?_ | ((first | refine o_G ?_ ?_ | refine o_N ?_ ?_) <;> intro hc)))) | ((fail_if_success (with_reducible refine o_s ?_)); go_step))
    refine bodyPost_ret (results_cellT (cs := zdel) rfl rfl p7.this (by decide +kernel)) rfl ⟨_, rfl, x7, ?_⟩
    have he : mkE oa la ob lb = zoneR oa la := by rw [mkE, if_neg q0]
    rw [mkD_bad (by rw [he]; exact q0), he]
    exact DelU.bad rfl
  · have q0 : zoneR oa la = 0 := by simpa using (by assumption : (!decide (zoneR oa la = 0)) = false)
    refine wpl_callV (enters_of Tryz.func68 rfl rfl) rfl rfl (r8_Soa ob v lb _ (hv.ext hx6) bb db) ?_; intro w7 x7; refine gset ?_
    have hx7 := hx6.trans x7
    repeat' (first | ((with_reducible refine o_s ?_); (first | (refine o_1 ?_; refine o_2 ?_) | (refine o_g ?_; first | refine o_u ?_ | refine o_k ?_ | refine o_n ?_ | refine o_v ?_ | ((first | refine o_G ?_ ?_ | refine o_N ?_ ?_) <;> intro hc)))) | ((fail_if_success (with_reducible refine o_s ?_)); go_step))
    refine wpl_allocB (z := zeroSoa) rfl (by decide +kernel) ?_
    intro w8 x8 s8 h8
    refine gset ?_
    refine wpl_storeB (v := .agg (soaZ ob lb).cells.toArray) rfl rfl rfl h8 (show sizeTy Tryz.prog 103 7 = true by decide +kernel) rfl (soaR_one _) ?_
    intro w9 p9
    have x79 : Ext w7 w9 := x8.move p9.mv (by rintro k ⟨⟩; exact Nat.le_refl _)
    have c9 : w9.heap[w7.heap.size]? = some (.cells (soaZ ob lb).cells.toArray 103 (0, 0)) := p9.this
    have x69 := x7.trans x79
    have hx9 := hx6.trans x69
    clear p9 h8 x8
    have h9 := x69.at h6
    have b9 := x69.at b6
    have hp9 := hp6.ext x69
    have hq9 := hq6.ext x69
    repeat' (first | ((with_reducible refine o_s ?_); (first | (refine o_1 ?_; refine o_2 ?_) | (refine o_g ?_; first | refine o_u ?_ | refine o_k ?_ | refine o_n ?_ | refine o_v ?_ | ((first | refine o_G ?_ ?_ | refine o_N ?_ ?_) <;> intro hc)))) | ((fail_if_success (with_reducible refine o_s ?_)); go_step))
    · have q1 : ¬ zoneR ob lb = 0 := by simpa using (by assumption : (!decide (zoneR ob lb = 0)) = true)
      refine wpl_run (v := .agg zdel.toArray) rfl (Runs.build0 (by kernel_rfl)) ?_
      refine gset ?_
      repeat' (first | ((with_reducible refine o_s ?_); (first | (refine o_1 ?_; refine o_2 ?_) | (refine o_g ?_; first | refine o_u ?_ | refine o_k ?_ | refine o_n ?_ | refine o_v ?_ | ((first | refine o_G ?_ ?_ | refine o_N ?_ ?_) <;> intro hc)))) | ((fail_if_success (with_reducible refine o_s ?_)); go_step))
      refine wpl_storeB (v := .agg zdel.toArray) rfl rfl rfl h9 (by decide +kernel) rfl (by decide +kernel) ?_
      intro wz pz
      have xz : Ext w wz := hx9.move pz.mv (by rintro k ⟨⟩; exact zz)
      repeat' (first | ((with_reducible refine o_s ?_); (first | (refine o_1 ?_; refine o_2 ?_) | (refine o_g ?_; first | refine o_u ?_ | refine o_k ?_ | refine o_n ?_ | refine o_v ?_ | ((first | refine o_G ?_ ?_ | refine o_N ?_ ?_) <;> intro hc)))) | ((fail_if_success (with_reducible refine o_s ?_)); go_step))
      refine bodyPost_ret (results_cellT (cs := zdel) rfl rfl pz.this (by decide +kernel)) rfl ⟨_, rfl, xz, ?_⟩
      have he : mkE oa la ob lb = zoneR ob lb := by rw [mkE, if_pos q0, if_neg q1]
      rw [mkD_bad (by rw [he]; exact q1), he]
      exact DelU.bad rfl
    · have q1 : zoneR ob lb = 0 := by simpa using (by assumption : (!decide (zoneR ob lb = 0)) = false)
      · have q2 : ¬ oa = ob := by simpa using (by assumption : (!decide (oa = ob)) = true)
        refine wpl_run (v := .agg zdel.toArray) rfl (Runs.build0 (by kernel_rfl)) ?_
        refine gset ?_
        repeat' (first | ((with_reducible refine o_s ?_); (first | (refine o_1 ?_; refine o_2 ?_) | (refine o_g ?_; first | refine o_u ?_ | refine o_k ?_ | refine o_n ?_ | refine o_v ?_ | ((first | refine o_G ?_ ?_ | refine o_N ?_ ?_) <;> intro hc)))) | ((fail_if_success (with_reducible refine o_s ?_)); go_step))
        refine wpl_storeB (v := .agg zdel.toArray) rfl rfl rfl h9 (by decide +kernel) rfl (by decide +kernel) ?_
        intro wz pz
        have xz : Ext w wz := hx9.move pz.mv (by rintro k ⟨⟩; exact zz)
        repeat' (first | ((with_reducible refine o_s ?_); (first | (refine o_1 ?_; refine o_2 ?_) | (refine o_g ?_; first | refine o_u ?_ | refine o_k ?_ | refine o_n ?_ | refine o_v ?_ | ((first | refine o_G ?_ ?_ | refine o_N ?_ ?_) <;> intro hc)))) | ((fail_if_success (with_reducible refine o_s ?_)); go_step))
        refine bodyPost_ret (results_cellT (cs := zdel) rfl rfl pz.this (by decide +kernel)) rfl ⟨_, rfl, xz, ?_⟩
        have he : mkE oa la ob lb = 1 := by rw [mkE, if_pos q0, if_pos q1, if_neg q2]
        rw [mkD_bad (by rw [he]; decide), he]
        exact DelU.bad rfl
    · have q1 : zoneR ob lb = 0 := by simpa using (by assumption : (!decide (zoneR ob lb = 0)) = false)
      have q2 : oa = ob := by simpa using (by assumption : (!decide (oa = ob)) = false)
      have he : mkE oa la ob lb = 0 := by rw [mkE, if_pos q0, if_pos q1, if_pos q2]
      repeat' (first | ((with_reducible refine o_s ?_); (first | (refine o_1 ?_; refine o_2 ?_) | (refine o_g ?_; first | refine o_u ?_ | refine o_k ?_ | refine o_n ?_ | refine o_v ?_ | ((first | refine o_G ?_ ?_ | refine o_N ?_ ?_) <;> intro hc)))) | ((fail_if_success (with_reducible refine o_s ?_)); go_step))
      refine wpl_callR (enters_of Tryz.func69 rfl rfl) rfl rfl (r7_Records u la _ (hu.ext hx9) (by omega)) ?_
      intro r1 w11 x911 o11
      refine gset ?_
      have hq11 := hq9.ext x911
      repeat' (first | ((with_reducible refine o_s ?_); (first | (refine o_1 ?_; refine o_2 ?_) | (refine o_g ?_; first | refine o_u ?_ | refine o_k ?_ | refine o_n ?_ | refine o_v ?_ | ((first | refine o_G ?_ ?_ | refine o_N ?_ ?_) <;> intro hc)))) | ((fail_if_success (with_reducible refine o_s ?_)); go_step))
      refine wpl_callR (enters_of Tryz.func69 rfl rfl) rfl rfl (r7_Records v lb _ (hv.ext (hx9.trans x911)) (by omega)) ?_
      intro r2 w12 x12 o12
      refine gset ?_
      have x912 := x911.trans x12
      have hx12 := hx9.trans x912
      have h12 := x912.at h9
      have sr1 := (o11.ext x12).sl
      have sr2 := o12.sl
      have pb12 := pts_block (x912.at b9)
      have pc12 := pts_block (x912.at c9)
      repeat' (first | ((with_reducible refine o_s ?_); (first | (refine o_1 ?_; refine o_2 ?_) | (refine o_g ?_; first | refine o_u ?_ | refine o_k ?_ | refine o_n ?_ | refine o_v ?_ | ((first | refine o_G ?_ ?_ | refine o_N ?_ ?_) <;> intro hc)))) | ((fail_if_success (with_reducible refine o_s ?_)); go_step))
      refine wpi_region 11 (Ext w12) (by decide +kernel) ?_
      intro w13 x13 _
      refine ⟨x13, ?_⟩
      ((with_reducible apply wpi_take (i := 0)); (rfl); (rfl); (rfl); (decide +kernel); (decide +kernel); (decide +kernel); (decide +kernel); (rfl); (intro _ _; exact rn); (exact fun _ _ _ h => h); (refine gset ?_)); ((with_reducible apply wpi_take (i := 1)); (rfl); (rfl); (rfl); (decide +kernel); (decide +kernel); (decide +kernel); (decide +kernel); (rfl); (intro _ _; exact rn); (exact fun _ _ _ h => h); (refine gset ?_)); ((with_reducible apply wpi_take (i := 2)); (rfl); (rfl); (rfl); (decide +kernel); (decide +kernel); (decide +kernel); (decide +kernel); (rfl); (intro _ _; exact rn); (exact fun _ _ _ h => h); (refine gset ?_)); ((with_reducible apply wpi_take (i := 3)); (rfl); (rfl); (rfl); (decide +kernel); (decide +kernel); (decide +kernel); (decide +kernel); (rfl); (intro _ _; exact rn); (exact fun _ _ _ h => h); (refine gset ?_)); ((with_reducible apply wpi_take (i := 4)); (rfl); (rfl); (rfl); (decide +kernel); (decide +kernel); (decide +kernel); (decide +kernel); (rfl); (intro _ _; exact rn); (exact fun _ _ _ h => h); (refine gset ?_)); ((with_reducible apply wpi_take (i := 5)); (rfl); (rfl); (rfl); (decide +kernel); (decide +kernel); (decide +kernel); (decide +kernel); (rfl); (intro _ _; exact rn); (exact fun _ _ _ h => h); (refine gset ?_)); ((with_reducible apply wpi_take (i := 7)); (rfl); (rfl); (rfl); (decide +kernel); (decide +kernel); (decide +kernel); (decide +kernel); (rfl); (intro _ _; exact rn); (exact fun _ _ _ h => h); (refine gset ?_)); ((with_reducible apply wpi_take (i := 8)); (rfl); (rfl); (rfl); (decide +kernel); (decide +kernel); (decide +kernel); (decide +kernel); (rfl); (intro _ _; exact rn); (exact fun _ _ _ h => h); (refine gset ?_))
      refine wpi_op (i := 6) (by decide +kernel) rfl rfl ?_
      refine wpl_callR (enters_of Tryz.func70 rfl rfl) rfl rfl (r10_less r1 r2 _ _ _ (sr1.ext x13) (sr2.ext x13) (by omega)) ?_
      intro g w14 x14 og
      refine gset ?_
      have x1214 := x13.trans x14
      refine wph_nil ⟨till_yes x1214, ?_⟩
      refine wpi_op (i := 9) (by decide +kernel) rfl rfl ?_
      refine wpl_callR (enters_of Tryz.func70 rfl rfl) rfl rfl (r10_less r2 r1 _ _ _ (sr2.ext x1214) (sr1.ext x1214) (by omega)) ?_
      intro n w15 x15 on
      refine gset ?_
      have x1215 := x1214.trans x15
      refine wph_nil ⟨till_yes x1215, ?_⟩
      have sg := (og.ext x15).sl
      have sn := on.sl
      refine wpi_take (i := 10) (v := .agg #[.int .i64 (soaZ oa la).serial, .int .i64 (soaZ ob lb).serial, g, n]) rfl rfl rfl (by decide +kernel) (by decide +kernel) (by decide +kernel) (by decide +kernel) rfl (fun w' _ => Runs.build rfl (by obtain ⟨_, _, _, rfl⟩ := sg.slf; obtain ⟨_, _, _, rfl⟩ := sn.slf; kernel_rfl)) (fun _ _ _ h => h) ?_
      refine gset ?_
      refine wpi_op (i := 11) (by decide +kernel) rfl rfl ?_
      have h15 := x1215.at h12
      refine wpl_storeB (v := .agg #[.int .i64 (soaZ oa la).serial, .int .i64 (soaZ ob lb).serial, g, n]) rfl rfl rfl h15 (show sizeTy Tryz.prog 34 4 = true by decide +kernel) rfl (all4 rfl rfl sg.one sn.one) ?_
      intro w16 p16
      refine wph_nil ⟨till_no rfl, ?_⟩
      ((with_reducible apply wpi_pure (i := 12)); (rfl); (rfl); (rfl); (decide +kernel); (decide +kernel); (decide +kernel); (rfl); (intro _; exact rn); (exact fun _ _ _ h => h); (refine gset ?_))
      refine wpi_done (by decide +kernel) ?_
      have x16 : Ext w w16 := (hx12.trans x1215).move p16.mv (by rintro k ⟨⟩; exact zz)
      repeat' (first | ((with_reducible refine o_s ?_); (first | (refine o_1 ?_; refine o_2 ?_) | (refine o_g ?_; first | refine o_u ?_ | refine o_k ?_ | refine o_n ?_ | refine o_v ?_ | ((first | refine o_G ?_ ?_ | refine o_N ?_ ?_) <;> intro hc)))) | ((fail_if_success (with_reducible refine o_s ?_)); go_step))
      refine bodyPost_ret (results_cellT (cs := [.int .i64 (soaZ oa la).serial, .int .i64 (soaZ ob lb).serial, g, n]) rfl rfl p16.this (show aggTy Tryz.prog 34 4 = true by decide +kernel)) rfl ⟨_, rfl, x16, ?_⟩
      have hd : mkD oa la ob lb = ⟨(soaZ oa la).serial, (soaZ ob lb).serial, lessR (recordsS la) (recordsS lb), lessR (recordsS lb) (recordsS la)⟩ := by rw [mkD, if_pos he]
      rw [hd, he]
      exact ⟨_, rfl, g, n, rfl, (og.ext x15).mv p16.mv (.inr ((og.ext x15).neBlock h15 (by decide))) |>.weaken (hx12.trans x13).size, on.mv p16.mv (.inr (on.neBlock h15 (by decide))) |>.weaken (hx12.trans x1214).size⟩
end Go.Proofs.X
