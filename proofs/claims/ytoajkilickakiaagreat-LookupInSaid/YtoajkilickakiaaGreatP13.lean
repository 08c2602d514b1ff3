/- Laws and walks that the proof of the statement is made of (part 13). -/
import Derived.Test.YtoajkilickakiaaGreatProg
import Derived.Test.YtoajkilickakiaaGreatShelf
import Derived.Shelf.SlSortCmp.NoneTotal
import Derived.Shelf.RegionOpenPlain
import Derived.Lib.Strings
import Derived.Lib.Slices
import Derived.Lib.Walk
import Derived.Lib.Builder
import Derived.Lib.AppendStr
import Derived.Lib.UnsafeStr
import Derived.Lib.MakeNoZero
import Derived.WalkKit
import Derived.Laws.Externs
import Derived.Laws.IdiomCopy
import Derived.Laws.BitsLemmas
import GoSem.Claims
import Derived.Lib.Hide
import Derived.OwnWalk
import Derived.StringKeys
import Derived.Test.YtoajkilickakiaaGreatP1
import Derived.Test.YtoajkilickakiaaGreatP2
import Derived.Test.YtoajkilickakiaaGreatP3
import Derived.Test.YtoajkilickakiaaGreatP4
import Derived.Test.YtoajkilickakiaaGreatP6
import Derived.Test.YtoajkilickakiaaGreatP7
import Derived.Test.YtoajkilickakiaaGreatP9
import Derived.Test.YtoajkilickakiaaGreatP10
import Derived.Test.YtoajkilickakiaaGreatP11
import Derived.Test.YtoajkilickakiaaGreatP12
set_option linter.unusedSimpArgs false
set_option linter.unusedVariables false
namespace Go.Proofs.X
open Go.RowKit
set_option maxRecDepth 100000
theorem host_len (k : Int) (d : List UInt8) : (fold (parseHost k d).1).length ≤ 254 := by
  have h0 : (fold []).length ≤ 254 := fold_len [] rfl
  unfold parseHost
  split
  · exact h0
  · split
    · exact h0
    · split
      · exact h0
      · rename_i n hn
        unfold hostN at hn
        split at hn
        · rename_i hh
          cases hn
          exact fold_len _ hh.2
        · cases hn
theorem extra_take {l : List RSet} {rs : List Rec} {k : Nat} (h : k < rs.length) : extraF l (rs.take (k + 1)) = extraStep l (extraF l (rs.take k)) rs[k] := by
  rw [List.take_succ_eq_append_getElem h, extraF, List.foldl_append]; rfl
theorem recOpt_len {l : List RSet} (hb : ∀ s ∈ l, s.data.length ≤ 20) (n : List UInt8) (k : Int) : (recOpt (findS l n k)).length ≤ 20 := by
  cases hf : findS l n k with
  | none => simp [recOpt]
  | some s => simp only [recOpt, recsOf, List.length_map]; exact hb s (findS_mem hf).1
theorem extra_len {l : List RSet} (hb : ∀ s ∈ l, s.data.length ≤ 20) (rs : List Rec) : ∀ k, k ≤ rs.length → (extraF l (rs.take k)).2.length ≤ 40 * k
  | 0, _ => by simp [extraF]
  | k + 1, h => by
    rw [extra_take h]
    have ih := extra_len hb rs k (by omega)
    unfold extraStep
    split
    · omega
    · have a1 := recOpt_len hb (fold (parseHost rs[k].kind rs[k].data).1) 1
      have a2 := recOpt_len hb (fold (parseHost rs[k].kind rs[k].data).1) 28
      simp only [List.length_append]
      omega
def seenV (ns : List (List UInt8)) : List (Value × Value) := ns.map fun n => (str n, .bool true)
theorem seen_yes {ns : List (List UInt8)} {n : List UInt8} {i : Nat} {v : Value} (h : (seenV ns)[i]? = some (str n, v)) : n ∈ ns ∧ v = .bool true := by
  rw [seenV, List.getElem?_map] at h
  cases hi : ns[i]? with
  | none => rw [hi] at h; cases h
  | some m =>
    rw [hi] at h
    simp only [Option.map_some, Option.some.injEq, Prod.mk.injEq, str, Value.string.injEq, ByteArray.mk.injEq] at h
    have : m = n := by simpa using h.1
    exact ⟨this ▸ List.mem_of_getElem? hi, h.2.symm⟩
theorem seen_no {ns : List (List UInt8)} {n : List UInt8} (h : ∀ (i : Nat) (e : Value × Value), (seenV ns)[i]? = some e → e.1 ≠ str n) : n ∉ ns := by
  intro hm
  obtain ⟨i, hi, rfl⟩ := List.mem_iff_getElem.1 hm
  exact h i (str ns[i], .bool true) (by simp [seenV, hi]) rfl
theorem law22 : WideMaps.KeyLaw Tryz.prog 22 := WideMaps.string_law Tryz.underlying22
theorem keyOf22 (n : List UInt8) (hn : n.length ≤ 1000000) : ∃ l, keyOf Tryz.prog 22 (str n) = some l :=
  ⟨_, WideMaps.keyOf_string_mk Tryz.underlying22 (by rw [size_mk]; unfold maxLen; omega)⟩
def famR (l : List RSet) (n : List UInt8) (j : Nat) : List Rec := ((([1, 28] : List Int).take j).map fun k => recOpt (findS l n k)).flatten
theorem famR_two (l : List RSet) (n : List UInt8) : famR l n 2 = recOpt (findS l n 1) ++ recOpt (findS l n 28) := by simp [famR]
set_option maxHeartbeats 8000000 in
theorem p_extra (o : List UInt8) (v u : Value) (l : List RSet) (rs : List Rec) (w : World) (hv : SetsAt w v l) (hu : Sl 4 w u (rcells rs)) (hz : ZoneOk o l) (hr : rs.length ≤ 10000) (hd : ∀ r ∈ rs, r.data.length ≤ 9223372036854775807) :
    Calls Tryz.prog 92 #[.agg #[str o, v], u] w (Ret w fun r w' => Own w.heap.size 4 75 w' r (rcells (extraS l rs))) := by
  have hb20 : ∀ s ∈ l, s.data.length ≤ 20 := fun s hs => (may_data (hz.may hs)).2
  have hb := zone_data hz
  have hle := rcells_length rs
  go_enter Tryz.func92, Tryz.ntmps92
  repeat' ((fail_if_success (with_reducible refine o_s ?_)); go_step)
  refine wpl_box (vs := [str o, v]) rfl rfl ?_
  intro p w1 x1 hp
  refine gset ?_
  repeat' (first | ((with_reducible refine o_s ?_); (first | (refine o_1 ?_; refine o_2 ?_) | (refine o_g ?_; first | refine o_u ?_ | refine o_k ?_ | refine o_n ?_ | refine o_v ?_ | ((first | refine o_G ?_ ?_ | refine o_N ?_ ?_) <;> intro hc)))) | ((fail_if_success (with_reducible refine o_s ?_)); go_step))
  refine wpl_makeMap (kt := 22) rfl ?_
  intro w2 x2 s2 hm2
  refine gset ?_
  repeat' (first | ((with_reducible refine o_s ?_); (first | (refine o_1 ?_; refine o_2 ?_) | (refine o_g ?_; first | refine o_u ?_ | refine o_k ?_ | refine o_n ?_ | refine o_v ?_ | ((first | refine o_G ?_ ?_ | refine o_N ?_ ?_) <;> intro hc)))) | ((fail_if_success (with_reducible refine o_s ?_)); go_step))
  go_loopw [5, 8, 9, 10, 12, 13, 14, 18] (fun out _ _ _ _ _ _ i wr => ∃ k : Nat, k ≤ rs.length ∧ i = .int .i64 k ∧ Ext w1 wr ∧ MapAt Tryz.prog 22 wr w1.heap.size (seenV (extraF l (rs.take k)).1) ∧ Own w1.heap.size 4 75 wr out (rcells (extraF l (rs.take k)).2)) (fun _ _ _ _ _ _ _ i _ => rs.length - (intOf i).toNat)
  case atStart => exact ⟨0, Nat.zero_le _, rfl, x2, hm2, Own.nil _ _ _ _⟩
  case round =>
    obtain ⟨k, hk, rfl, hx, hm, ho⟩ := hrel
    have hur := (hu.ext x1).ext hx
    by_cases hlt : k < rs.length
    · have h4 := hur.elem (rcells_at hlt)
      repeat' (first | ((with_reducible refine o_s ?_); (first | (refine o_1 ?_; refine o_2 ?_) | (refine o_g ?_; first | refine o_u ?_ | refine o_k ?_ | refine o_n ?_ | refine o_v ?_ | ((first | refine o_G ?_ ?_ | refine o_N ?_ ?_) <;> intro hc)))) | ((fail_if_success (with_reducible refine o_s ?_)); go_step))
      refine wpl_allocB (z := zrec) rfl (by decide +kernel) ?_
      intro w3 x3 s3 h3
      refine gset ?_
      refine wpl_storeB (v := .agg #[str rs[k].name, .int .i64 rs[k].kind, .int .i64 rs[k].ttl, str rs[k].data]) rfl rfl rfl h3 (show sizeTy Tryz.prog 75 4 = true by decide +kernel) rfl (all4 rfl rfl rfl rfl) ?_
      intro w4 p4
      have x4 : Ext wr w4 := x3.move p4.mv (by rintro k ⟨⟩; exact Nat.le_refl _)
      have h4' := pts_block (cs := [str rs[k].name, .int .i64 rs[k].kind, .int .i64 rs[k].ttl, str rs[k].data]) p4.this
      have hx4 := hx.trans x4
      have hm4 := hm.at (fun o ho => x4.at ho)
      have ho4 := ho.ext x4
      clear p4 h3 x3
      repeat' (first | ((with_reducible refine o_s ?_); (first | (refine o_1 ?_; refine o_2 ?_) | (refine o_g ?_; first | refine o_u ?_ | refine o_k ?_ | refine o_n ?_ | refine o_v ?_ | ((first | refine o_G ?_ ?_ | refine o_N ?_ ?_) <;> intro hc)))) | ((fail_if_success (with_reducible refine o_s ?_)); go_step))
      refine wpl_callV (enters_of Tryz.func131 rfl rfl) rfl rfl (t39 rs[k].kind rs[k].data _ (hd _ (List.getElem_mem hlt))) ?_; intro w5 x5; refine gset ?_
      have h5 := h4'.ext x5
      repeat' (first | ((with_reducible refine o_s ?_); (first | (refine o_1 ?_; refine o_2 ?_) | (refine o_g ?_; first | refine o_u ?_ | refine o_k ?_ | refine o_n ?_ | refine o_v ?_ | ((first | refine o_G ?_ ?_ | refine o_N ?_ ?_) <;> intro hc)))) | ((fail_if_success (with_reducible refine o_s ?_)); go_step))
      refine wpl_callV (enters_of Tryz.func84 rfl rfl) rfl rfl (t17 (parseHost rs[k].kind rs[k].data).1 _) ?_; intro w6 x6; refine gset ?_
      have h6 := h5.ext x6
      have x46 := x5.trans x6
      have hx6 := hx4.trans x46
      have hm6 := hm4.at (fun o ho => x46.at ho)
      have ho6 := ho4.ext x46
      have hst := extra_take (l := l) hlt
      have hlen := host_len rs[k].kind rs[k].data
      have hol := extra_len hb20 rs k hk
      generalize hnn : fold (parseHost rs[k].kind rs[k].data).1 = n at *
      by_cases hg : (parseHost rs[k].kind rs[k].data).2 = 0 ∧ hostK rs[k].kind = true
      · repeat' (first | ((with_reducible refine o_s ?_); (first | (refine o_1 ?_; refine o_2 ?_) | (refine o_g ?_; first | refine o_u ?_ | refine o_k ?_ | refine o_n ?_ | refine o_v ?_ | ((first | refine o_G ?_ ?_ | refine o_N ?_ ?_) <;> intro hc)))) | ((fail_if_success (with_reducible refine o_s ?_)); go_step))
        all_goals first
          | (exfalso; clear hx hm ho hur h4 h4' h5 h6 hx4 hm4 ho4 hx6 hm6 ho6 hv hu hp hm2 hb hb20 hd hz hst; simp_all [hostK]; done)
          | skip
        all_goals
          obtain ⟨lx, hlx⟩ := keyOf22 n (by omega)
          have hzv : ∀ w, (zeroValue 4).run Tryz.prog w = .ok (.bool false) w := fun w => by kernel_rfl
          obtain ⟨bv, bb, hrl, hcase⟩ := run_lookup_own law22 (show mapTy Tryz.prog 163 22 4 = true by decide +kernel) hzv hm6 hlx false
          simp only [Bool.false_eq_true, if_false] at hrl
          refine wpl_run rfl (Runs.lookup rfl rfl hrl) ?_
          refine gset ?_
          rcases hcase with ⟨i, hie, rfl⟩ | ⟨hno, rfl, rfl⟩
          · obtain ⟨hin, rfl⟩ := seen_yes hie
            have hst' : extraF l (rs.take (k + 1)) = extraF l (rs.take k) := by rw [hst, extraStep, hnn, if_pos (.inr (.inr hin))]
            repeat' (first | ((with_reducible refine o_s ?_); (first | (refine o_1 ?_; refine o_2 ?_) | (refine o_g ?_; first | refine o_u ?_ | refine o_k ?_ | refine o_n ?_ | refine o_v ?_ | ((first | refine o_G ?_ ?_ | refine o_N ?_ ?_) <;> intro hc)))) | ((fail_if_success (with_reducible refine o_s ?_)); go_step))
            exact ⟨⟨k + 1, by omega, by go_num, hx6, by rw [hst']; exact hm6, by rw [hst']; exact ho6⟩, by simp [intOf]; omega⟩
          · have hni := seen_no hno
            have hst' : extraF l (rs.take (k + 1)) = ((extraF l (rs.take k)).1 ++ [n], (extraF l (rs.take k)).2 ++ famR l n 2) := by
              rw [hst, extraStep, hnn, if_neg (by rintro (h | h | h); exact h hg.1; rw [hg.2] at h; cases h; exact hni h), famR_two, List.append_assoc]
            repeat' (first | ((with_reducible refine o_s ?_); (first | (refine o_1 ?_; refine o_2 ?_) | (refine o_g ?_; first | refine o_u ?_ | refine o_k ?_ | refine o_n ?_ | refine o_v ?_ | ((first | refine o_G ?_ ?_ | refine o_N ?_ ?_) <;> intro hc)))) | ((fail_if_success (with_reducible refine o_s ?_)); go_step))
            obtain ⟨w7, o7, hr7, p7, hm7⟩ := run_update_new law22 (show mapTy Tryz.prog 163 22 4 = true by decide +kernel) hm6 hlx (v := .bool true) hno
            refine wpl_mapUpdate rfl rfl rfl rfl hr7 ?_
            have hx7 : Ext w1 w7 := hx6.move p7.mv (by rintro k ⟨⟩; exact Nat.le_refl _)
            obtain ⟨es, ck, hme, _⟩ := hm6.out
            have ho7 := ho6.mv p7.mv (.inr (ho6.neMap hme))
            have hm7' : MapAt Tryz.prog 22 w7 w1.heap.size (seenV ((extraF l (rs.take k)).1 ++ [n])) := by simpa [seenV] using hm7
            repeat' (first | ((with_reducible refine o_s ?_); (first | (refine o_1 ?_; refine o_2 ?_) | (refine o_g ?_; first | refine o_u ?_ | refine o_k ?_ | refine o_n ?_ | refine o_v ?_ | ((first | refine o_G ?_ ?_ | refine o_N ?_ ?_) <;> intro hc)))) | ((fail_if_success (with_reducible refine o_s ?_)); go_step))
            refine wpl_slice (e := 3) (k := 1) (bytes := 8) (xs := [.int .i64 1, .int .i64 28]) rfl rfl rfl (by simp [Value.cells]) (by decide +kernel) (by simp) ?_
            intro v8 w8 x8 _ sl8 o8
            refine gset ?_
            have o8' : Own w1.heap.size 1 3 w8 v8 [[.int .i64 1], [.int .i64 28]] := (show Own _ 1 3 w8 v8 [[.int .i64 1], [.int .i64 28]] from o8).weaken hx7.size
            have hx8 := hx7.trans x8
            have hm8 := hm7'.at (fun o ho => x8.at ho)
            have ho8 := ho7.ext x8
            have sl8' := o8'.sl
            repeat' (first | ((with_reducible refine o_s ?_); (first | (refine o_1 ?_; refine o_2 ?_) | (refine o_g ?_; first | refine o_u ?_ | refine o_k ?_ | refine o_n ?_ | refine o_v ?_ | ((first | refine o_G ?_ ?_ | refine o_N ?_ ?_) <;> intro hc)))) | ((fail_if_success (with_reducible refine o_s ?_)); go_step))
            clear sl8 sl8' hm7 hme o8 hm6 ho6 hx6 hm4 ho4 hm ho h4 h4' h5 h6 hrl hno
            go_loopw [5, 12, 13, 14, 58] (fun out _ _ _ i wr => ∃ j : Nat, j ≤ 2 ∧ i = .int .i64 j ∧ Ext w1 wr ∧ MapAt Tryz.prog 22 wr w1.heap.size (seenV ((extraF l (rs.take k)).1 ++ [n])) ∧ Own w1.heap.size 4 75 wr out (rcells ((extraF l (rs.take k)).2 ++ famR l n j)) ∧ Own w1.heap.size 1 3 wr v8 [[.int .i64 1], [.int .i64 28]]) (fun _ _ _ _ i _ => 2 - (intOf i).toNat)
            case atStart => exact ⟨0, by omega, rfl, hx8, hm8, by simpa [famR] using ho8, o8'⟩
            case round =>
              obtain ⟨j, hj, rfl, hxr, hmr, hor, h8r⟩ := hrel
              have s8r := h8r.sl
              by_cases hj2 : j < 2
              · obtain ⟨K, hK, hfam⟩ : ∃ K : Int, ([[.int .i64 1], [.int .i64 28]] : List (List Value))[j]? = some [.int .i64 K] ∧ famR l n (j + 1) = famR l n j ++ recOpt (findS l n K) := by
                  rcases (show j = 0 ∨ j = 1 by omega) with rfl | rfl
                  · exact ⟨1, rfl, by simp [famR]⟩
                  · exact ⟨28, rfl, by simp [famR]⟩
                have hel := s8r.elem hK
                have hpr := hp.ext hxr
                have hvr := (hv.ext x1).ext hxr
                have hfl := recOpt_len hb20 n 1
                have hfl2 : (famR l n j).length ≤ 40 := by
                  rcases (show j = 0 ∨ j = 1 by omega) with rfl | rfl
                  · simp [famR]
                  · simp [famR]; omega
                have hfl3 := recOpt_len hb20 n K
                repeat' (first | ((with_reducible refine o_s ?_); (first | (refine o_1 ?_; refine o_2 ?_) | (refine o_g ?_; first | refine o_u ?_ | refine o_k ?_ | refine o_n ?_ | refine o_v ?_ | ((first | refine o_G ?_ ?_ | refine o_N ?_ ?_) <;> intro hc)))) | ((fail_if_success (with_reducible refine o_s ?_)); go_step))
                rotate_left 1
                · exfalso
                  have hq : (([[.int .i64 1], [.int .i64 28]] : List (List Value)).length : Int) ≤ j := by assumption
                  simp at hq
                  omega
                refine wpl_callR (enters_of Tryz.func40 rfl rfl) rfl rfl (t13 v l n K _ hvr (fun s hs => by have := hb s hs; omega)) ?_
                intro r9 w9 x9 hr9
                obtain ⟨y9, rfl, hy9⟩ := find_one hr9
                clear hr9
                repeat' (first | ((with_reducible refine o_s ?_); (first | (refine o_1 ?_; refine o_2 ?_) | (refine o_g ?_; first | refine o_u ?_ | refine o_k ?_ | refine o_n ?_ | refine o_v ?_ | ((first | refine o_G ?_ ?_ | refine o_N ?_ ?_) <;> intro hc)))) | ((fail_if_success (with_reducible refine o_s ?_)); go_step))
                refine wpl_allocB (z := zset) rfl (by decide +kernel) ?_
                intro w10 x10 s10 h10
                refine gset ?_
                refine wpl_storeB (v := .agg #[str ((findS l n K).getD zeroS).name, .int .i64 ((findS l n K).getD zeroS).kind, .int .i64 ((findS l n K).getD zeroS).ttl, y9]) rfl rfl rfl h10 (show sizeTy Tryz.prog 55 4 = true by decide +kernel) rfl (all4 rfl rfl rfl hy9.one) ?_
                intro w11 p11
                have x11 : Ext w9 w11 := x10.move p11.mv (by rintro k ⟨⟩; exact Nat.le_refl _)
                have h11 := pts_block (cs := [str ((findS l n K).getD zeroS).name, .int .i64 ((findS l n K).getD zeroS).kind, .int .i64 ((findS l n K).getD zeroS).ttl, y9]) p11.this
                have y11 := hy9.ext x11
                have xr11 := x9.trans x11
                have hx11 := hxr.trans xr11
                have hm11 := hmr.at (fun o ho => xr11.at ho)
                have ho11 := hor.ext xr11
                have h8_11 := h8r.ext xr11
                clear p11 h10 x10
                cases hfs : (findS l n K).isSome with
                | false =>
                  have e0 : recOpt (findS l n K) = [] := by
                    cases hff : findS l n K with
                    | none => rfl
                    | some s => rw [hff] at hfs; cases hfs
                  repeat' (first | ((with_reducible refine o_s ?_); (first | (refine o_1 ?_; refine o_2 ?_) | (refine o_g ?_; first | refine o_u ?_ | refine o_k ?_ | refine o_n ?_ | refine o_v ?_ | ((first | refine o_G ?_ ?_ | refine o_N ?_ ?_) <;> intro hc)))) | ((fail_if_success (with_reducible refine o_s ?_)); go_step))
                  exact ⟨⟨j + 1, by omega, by go_num, hx11, hm11, by rw [hfam, e0, List.append_nil]; exact ho11, h8_11⟩, by simp [intOf]; omega⟩
                | true =>
                  repeat' (first | ((with_reducible refine o_s ?_); (first | (refine o_1 ?_; refine o_2 ?_) | (refine o_g ?_; first | refine o_u ?_ | refine o_k ?_ | refine o_n ?_ | refine o_v ?_ | ((first | refine o_G ?_ ?_ | refine o_N ?_ ?_) <;> intro hc)))) | ((fail_if_success (with_reducible refine o_s ?_)); go_step))
                  refine wpl_slice (e := 55) (k := 4) (bytes := 56) (xs := [.agg #[str ((findS l n K).getD zeroS).name, .int .i64 ((findS l n K).getD zeroS).kind, .int .i64 ((findS l n K).getD zeroS).ttl, y9]]) rfl rfl rfl (by simp [Value.cells]) (by decide +kernel) (by simp) ?_
                  intro v12 w12 x12 _ sl12 _
                  refine gset ?_
                  have hs12 : SetsAt w12 v12 [(findS l n K).getD zeroS] := (SetsC.one (s := (findS l n K).getD zeroS) (y11.ext x12)).sets sl12
                  repeat' (first | ((with_reducible refine o_s ?_); (first | (refine o_1 ?_; refine o_2 ?_) | (refine o_g ?_; first | refine o_u ?_ | refine o_k ?_ | refine o_n ?_ | refine o_v ?_ | ((first | refine o_G ?_ ?_ | refine o_N ?_ ?_) <;> intro hc)))) | ((fail_if_success (with_reducible refine o_s ?_)); go_step))
                  refine wpl_callR (enters_of Tryz.func43 rfl rfl) rfl rfl (t10 v12 _ _ hs12 (by rw [← recOpt_getD]; omega)) ?_
                  intro r13 w13 x13 o13
                  rw [← recOpt_getD] at o13
                  refine gset ?_
                  have x1113 := x12.trans x13
                  have ho13 := ho11.ext x1113
                  have hx13 := hx11.trans x1113
                  refine wpl_appendO (e := 75) (k := 4) rfl ho13 rfl o13.sl rcells_one hx13.size (by rw [rcells_length, rcells_length, List.length_append]; omega) ?_
                  intro v14 w14 o14 m14 _
                  refine gset ?_
                  have hx14 := ho13.mvx m14 hx13 (Nat.le_refl _)
                  have hm13 := hm11.at (fun o ho => x1113.at ho)
                  obtain ⟨es', ck', hme', _⟩ := hm13.out
                  have hm14 := hm13.at (w' := w14) (fun o ho => m14.at ho (fun e => ho13.neMap hme' e.symm))
                  have h8_13 := h8_11.ext x1113
                  have h8_14 := h8_13.mv m14 (h8_13.ne ho13 (by decide))
                  have hrc : rcells ((extraF l (rs.take k)).2 ++ famR l n j) ++ rcells (recOpt (findS l n K)) = rcells ((extraF l (rs.take k)).2 ++ famR l n (j + 1)) := by
                    rw [hfam]; simp [rcells]
                  rw [hrc] at o14
                  repeat' (first | ((with_reducible refine o_s ?_); (first | (refine o_1 ?_; refine o_2 ?_) | (refine o_g ?_; first | refine o_u ?_ | refine o_k ?_ | refine o_n ?_ | refine o_v ?_ | ((first | refine o_G ?_ ?_ | refine o_N ?_ ?_) <;> intro hc)))) | ((fail_if_success (with_reducible refine o_s ?_)); go_step))
                  exact ⟨⟨j + 1, by omega, by go_num, hx14, hm14, o14, h8_14⟩, by simp [intOf]; omega⟩
              · have : j = 2 := by omega
                subst this
                repeat' (first | ((with_reducible refine o_s ?_); (first | (refine o_1 ?_; refine o_2 ?_) | (refine o_g ?_; first | refine o_u ?_ | refine o_k ?_ | refine o_n ?_ | refine o_v ?_ | ((first | refine o_G ?_ ?_ | refine o_N ?_ ?_) <;> intro hc)))) | ((fail_if_success (with_reducible refine o_s ?_)); go_step))
                exact ⟨⟨k + 1, by omega, by go_num, hxr, by rw [hst']; exact hmr, by rw [hst']; exact hor⟩, by simp [intOf]; omega⟩
      · have hst' : extraF l (rs.take (k + 1)) = extraF l (rs.take k) := by
          rw [hst, extraStep]
          rw [if_pos]
          by_cases h0 : (parseHost rs[k].kind rs[k].data).2 = 0
          · exact .inr (.inl (by simpa [h0] using hg))
          · exact .inl h0
        repeat' (first | ((with_reducible refine o_s ?_); (first | (refine o_1 ?_; refine o_2 ?_) | (refine o_g ?_; first | refine o_u ?_ | refine o_k ?_ | refine o_n ?_ | refine o_v ?_ | ((first | refine o_G ?_ ?_ | refine o_N ?_ ?_) <;> intro hc)))) | ((fail_if_success (with_reducible refine o_s ?_)); go_step))
        all_goals first
          | (exfalso; clear hx hm ho hur h4 h4' h5 h6 hx4 hm4 ho4 hx6 hm6 ho6 hv hu hp hm2 hb hb20 hd hz hst hst'; simp_all [hostK]; done)
          | exact ⟨⟨k + 1, by omega, by go_num, hx6, by rw [hst']; exact hm6, by rw [hst']; exact ho6⟩, by simp [intOf]; omega⟩
    · have : k = rs.length := by omega
      subst this
      rw [List.take_length] at ho
      repeat' (first | ((with_reducible refine o_s ?_); (first | (refine o_1 ?_; refine o_2 ?_) | (refine o_g ?_; first | refine o_u ?_ | refine o_k ?_ | refine o_n ?_ | refine o_v ?_ | ((first | refine o_G ?_ ?_ | refine o_N ?_ ?_) <;> intro hc)))) | ((fail_if_success (with_reducible refine o_s ?_)); go_step))
      go_ret
      exact ⟨_, rfl, x1.trans hx, ho.weaken x1.size⟩
theorem p_step1 (s : RSet) (u : Value) (w : World) : Calls Tryz.prog 130 #[.agg #[str s.name, .int .i64 s.kind, .int .i64 s.ttl, u]] w (RetV w (.bool (isAlias s))) := by
  go_enter Tryz.func130, Tryz.ntmps130
  repeat' ((fail_if_success (with_reducible refine o_s ?_)); go_step)
  refine wpl_box (vs := [str s.name, .int .i64 s.kind, .int .i64 s.ttl, u]) rfl rfl ?_
  intro ps w1 x1 hs
  refine gset ?_
  repeat' (first | ((with_reducible refine o_s ?_); (first | (refine o_1 ?_; refine o_2 ?_) | (refine o_g ?_; first | refine o_u ?_ | refine o_k ?_ | refine o_n ?_ | refine o_v ?_ | ((first | refine o_G ?_ ?_ | refine o_N ?_ ?_) <;> intro hc)))) | ((fail_if_success (with_reducible refine o_s ?_)); go_step))
  go_ret
  exact ⟨rfl, x1⟩
theorem p_step2 (pk : Value) (k : Int) (s : RSet) (u : Value) (w : World) (hk : Pts w pk [.int .i64 k]) : Calls Tryz.prog 133 #[.agg #[str s.name, .int .i64 s.kind, .int .i64 s.ttl, u], pk] w (RetV w (.bool (!ofKind k s))) := by
  go_enter Tryz.func133, Tryz.ntmps133
  repeat' ((fail_if_success (with_reducible refine o_s ?_)); go_step)
  refine wpl_box (vs := [str s.name, .int .i64 s.kind, .int .i64 s.ttl, u]) rfl rfl ?_
  intro ps w1 x1 hs
  refine gset ?_
  repeat' (first | ((with_reducible refine o_s ?_); (first | (refine o_1 ?_; refine o_2 ?_) | (refine o_g ?_; first | refine o_u ?_ | refine o_k ?_ | refine o_n ?_ | refine o_v ?_ | ((first | refine o_G ?_ ?_ | refine o_N ?_ ?_) <;> intro hc)))) | ((fail_if_success (with_reducible refine o_s ?_)); go_step))
  all_goals
    go_ret
    refine ⟨?_, x1⟩
    simp_all [ofKind]
theorem Pts.take {w : World} {p : Value} {vs : List Value} (h : Pts w p vs) (n : Nat) : Pts w p (vs.take n) := by
  obtain ⟨b, o, e, hc⟩ := h
  refine ⟨b, o, e, fun j x hx => hc j x ?_⟩
  rw [List.getElem?_take] at hx
  split at hx
  · exact hx
  · cases hx
def askC (o : List UInt8) (v : Value) (k : Int) (a u e : Value) : List Value := [str o, v, .int .i64 k, a, u, e]
theorem ask_pts {w : World} {b : Nat} {o : List UInt8} {v a u e : Value} {k : Int} (h : w.heap[b]? = some (.cells (askC o v k a u e).toArray 128 (0, 0))) :
    Pts w (.pointer (some ⟨b, 0, none⟩)) (askC o v k a u e) ∧ Pts w (partPtr (.pointer (some ⟨b, 0, none⟩)) 0) [str o, v] ∧ Pts w (partPtr (.pointer (some ⟨b, 0, none⟩)) 2) [.int .i64 k, a, u, e] := by
  have hp := pts_block h
  exact ⟨hp, (hp.part 0).take 2, hp.part 2⟩
section
variable {P : Program} {w : World} {ts : List Value} {df : List Deferred} {d : Option Nat} {ty : TypeId} {ps : String} {af : Array Edge} {g : Option (Nat × Bool)}
theorem Runs.fieldA {s : TypeId} {m n off : Nat} {ad : Addr} (hx : ts.getD m undef = .pointer (some ad)) (hf : fieldIs P s n off = true) :
    Runs P (Oper.mk d (.fieldAddr s (.tmp m) n) ty ps af g) (Act.mk ts.toArray df) w (partPtr (.pointer (some ad)) off) := by
  obtain ⟨fs, f, i, ht, hf, ho, hie, hz⟩ := fieldIs_spec hf
  have hx' : (Act.mk ts.toArray df).eval (.tmp m) = .pointer (some ad) := by rw [evalT]; exact hx
  constructor
  simp [execOp, hx', Instr.fieldAt, Instr.sureAddr, run_underlying ht, hf, fieldPlace, sizeOf, typeInfo, hie, hz, partPtr, ho]
end
set_option maxHeartbeats 3000000 in
theorem p_denies (b : Nat) (o : List UInt8) (v : Value) (l : List RSet) (k0 kind : Int) (a : Value) (w0 w : World) (hx : Ext w0 w) (hv : SetsAt w0 v l) (hz : ZoneOk o l) (hbk : w0.heap.size ≤ b)
    (hb : w.heap[b]? = some (.cells (askC o v k0 a (.slice none 0 0) (.slice none 0 0)).toArray 128 (0, 0))) (ha : a.oneCell' = true) :
    Calls Tryz.prog 129 #[.pointer (some ⟨b, 0, none⟩), .int .i64 kind] w fun e w' => e = .returned (.tuple #[]) ∧ Ext w0 w' ∧ Mv (some b) w w' ∧ ∃ u, w'.heap[b]? = some (.cells (askC o v kind a u (.slice none 0 0)).toArray 128 (0, 0)) ∧ Own w.heap.size 4 75 w' u (rcells [denZ o l]) := by
  obtain ⟨hp, hp0, hp2⟩ := ask_pts hb
  have hvw := hv.ext hx
  have hblt := (Array.getElem?_eq_some_iff.1 hb).1
  go_enter Tryz.func129, Tryz.ntmps129
  repeat' (first | ((with_reducible refine o_s ?_); (first | (refine o_1 ?_; refine o_2 ?_) | (refine o_g ?_; first | refine o_u ?_ | refine o_k ?_ | refine o_n ?_ | refine o_v ?_ | ((first | refine o_G ?_ ?_ | refine o_N ?_ ?_) <;> intro hc)))) | ((fail_if_success (with_reducible refine o_s ?_)); go_step))
  refine wpl_callV (enters_of Tryz.func47 rfl rfl) rfl rfl (p_Denial o v l _ hvw hz) ?_; intro w1 x1; refine gset ?_
  repeat' (first | ((with_reducible refine o_s ?_); (first | (refine o_1 ?_; refine o_2 ?_) | (refine o_g ?_; first | refine o_u ?_ | refine o_k ?_ | refine o_n ?_ | refine o_v ?_ | ((first | refine o_G ?_ ?_ | refine o_N ?_ ?_) <;> intro hc)))) | ((fail_if_success (with_reducible refine o_s ?_)); go_step))
  refine wpl_allocB (z := zrec) rfl (by decide +kernel) ?_
  intro w2 x2 s2 h2
  refine gset ?_
  refine wpl_storeB (v := recV (denZ o l)) rfl rfl rfl h2 (show sizeTy Tryz.prog 75 4 = true by decide +kernel) rfl (all4 rfl rfl rfl rfl) ?_
  intro w3 p3
  have x3 : Ext w1 w3 := x2.move p3.mv (by rintro k ⟨⟩; exact Nat.le_refl _)
  have h3 := pts_block (cs := [str (denZ o l).name, .int .i64 (denZ o l).kind, .int .i64 (denZ o l).ttl, str (denZ o l).data]) p3.this
  have x13 := x1.trans x3
  have hb3 := x13.at hb
  have h3b : w3.heap[w1.heap.size]? = some (.cells [str (denZ o l).name, .int .i64 (denZ o l).kind, .int .i64 (denZ o l).ttl, str (denZ o l).data].toArray 75 (0, 0)) := p3.this
  clear p3 h2 x2
  have hzb : b ≠ w1.heap.size := by have := x1.size; omega
  repeat' (first | ((with_reducible refine o_s ?_); (first | (refine o_1 ?_; refine o_2 ?_) | (refine o_g ?_; first | refine o_u ?_ | refine o_k ?_ | refine o_n ?_ | refine o_v ?_ | ((first | refine o_G ?_ ?_ | refine o_N ?_ ?_) <;> intro hc)))) | ((fail_if_success (with_reducible refine o_s ?_)); go_step))
  refine wpi_region 12 (fun w' => Pts w' (.pointer (some ⟨w1.heap.size, 0, none⟩)) [str (denZ o l).name, .int .i64 (denZ o l).kind, .int .i64 (denZ o l).ttl, str (denZ o l).data]) (by decide +kernel) ?_
  intro w4 x4 _
  refine ⟨h3.ext x4, ?_⟩
  ((with_reducible apply wpi_take (i := 0)); (rfl); (rfl); (rfl); (decide +kernel); (decide +kernel); (decide +kernel); (decide +kernel); (rfl); (intro _ _; exact rn); (exact fun _ _ _ h => h); (refine gset ?_)); ((with_reducible apply wpi_take (i := 1)); (rfl); (rfl); (rfl); (decide +kernel); (decide +kernel); (decide +kernel); (decide +kernel); (rfl); (intro _ _; exact rn); (exact fun _ _ _ h => h); (refine gset ?_)); ((with_reducible apply wpi_take (i := 2)); (rfl); (rfl); (rfl); (decide +kernel); (decide +kernel); (decide +kernel); (decide +kernel); (rfl); (intro _ _; exact rn); (exact fun _ _ _ h => h); (refine gset ?_))
  refine wpi_take (i := 3) (v := recV (denZ o l)) rfl rfl (by decide +kernel) (by decide +kernel) (by decide +kernel) (by decide +kernel) (by decide +kernel) rfl (fun w' hF => by exact rn) (fun _ _ _ h => h) ?_
  refine gset ?_
  ((with_reducible apply wpi_pure (i := 5)); (rfl); (rfl); (rfl); (decide +kernel); (decide +kernel); (decide +kernel); (rfl); (intro _; exact rn); (exact fun _ _ _ h => h); (refine gset ?_))
  refine wpi_pure (i := 6) rfl rfl rfl (by decide +kernel) (by decide +kernel) (by decide +kernel) rfl (fun _ => Runs.fieldA (off := 2) rfl (by decide +kernel)) (fun _ _ _ h => h) ?_
  refine gset ?_
  refine wpi_pure (i := 7) rfl rfl rfl (by decide +kernel) (by decide +kernel) (by decide +kernel) rfl (fun _ => Runs.fieldA (off := 0) rfl (by decide +kernel)) (fun _ _ _ h => h) ?_
  refine gset ?_
  have h4 := x4.at h3b
  have hb4 := x4.at hb3
  have x04 := x13.trans x4
  refine wpi_op2 (i := 4) (j := 8) (by decide +kernel) rfl rfl rfl ?_ ?_
  · refine wpl_slice (e := 75) (k := 4) (bytes := 48) (xs := [recV (denZ o l)]) rfl rfl rfl (by simp [Value.cells, recV]) (by decide +kernel) (by simp) ?_
    intro u5 w5 x5 _ sl5 o5
    refine gset ?_
    have h5 := x5.at h4
    have hb5 := x5.at hb4
    refine wph_nil ⟨till_yes (pts_block h5), ?_⟩
    refine wpi_op (i := 8) (by decide +kernel) rfl rfl ?_
    refine wpl_storeF (n := 2) hb5 rfl rfl rfl (by simp [askC]) (by decide +kernel) rfl ?_
    intro w6 p6
    have h6 := p6.at h5 (fun e => hzb e.symm)
    have hb6 : w6.heap[b]? = some (.cells (askC o v kind a (.slice none 0 0) (.slice none 0 0)).toArray 128 (0, 0)) := p6.this
    have o6 := (show Own _ 4 75 w5 u5 (rcells [denZ o l]) from o5).mv p6.mv (.inr (o5.neBlock hb5 (by decide)))
    have m6 : Mv (some b) w w6 := ((x04.trans x5).mv _).trans p6.mv
    have zz := x04.size
    refine wph_nil ⟨till_yes (pts_block h6), ?_⟩
    ((with_reducible apply wpi_pure (i := 9)); (rfl); (rfl); (rfl); (decide +kernel); (decide +kernel); (decide +kernel); (rfl); (intro _; exact rn); (exact fun _ _ _ h => h); (refine gset ?_))
    refine wpi_pure (i := 10) rfl rfl rfl (by decide +kernel) (by decide +kernel) (by decide +kernel) rfl (fun _ => Runs.fieldA (off := 2) rfl (by decide +kernel)) (fun _ _ _ h => h) ?_
    refine gset ?_
    refine wpi_pure (i := 11) rfl rfl rfl (by decide +kernel) (by decide +kernel) (by decide +kernel) rfl (fun _ => Runs.fieldA (off := 2) rfl (by decide +kernel)) (fun _ _ _ h => h) ?_
    refine gset ?_
    refine wpi_op (i := 12) (by decide +kernel) rfl rfl ?_
    refine wpl_storeF (n := 4) hb6 rfl rfl rfl (by simp [askC]) (by decide +kernel) o6.sl.one ?_
    intro w7 p7
    refine wph_nil ⟨till_no rfl, ?_⟩
    refine wpi_done (by decide +kernel) ?_
    repeat' (first | ((with_reducible refine o_s ?_); (first | (refine o_1 ?_; refine o_2 ?_) | (refine o_g ?_; first | refine o_u ?_ | refine o_k ?_ | refine o_n ?_ | refine o_v ?_ | ((first | refine o_G ?_ ?_ | refine o_N ?_ ?_) <;> intro hc)))) | ((fail_if_success (with_reducible refine o_s ?_)); go_step))
    have m7 : Mv (some b) w w7 := m6.trans p7.mv
    refine bodyPost_end (results_none rfl _ _ _) rfl ?_
    exact ⟨rfl, hx.move m7 (by rintro k ⟨⟩; exact hbk), m7, _, p7.this, (o6.mv p7.mv (.inr (o6.neBlock hb6 (by decide)))).weaken zz⟩
  · refine wpl_storeF (n := 2) hb4 rfl rfl rfl (by simp [askC]) (by decide +kernel) rfl ?_
    intro w5 p5
    have h5 := p5.at h4 (fun e => hzb e.symm)
    have hb5 : w5.heap[b]? = some (.cells (askC o v kind a (.slice none 0 0) (.slice none 0 0)).toArray 128 (0, 0)) := p5.this
    refine wph_nil ⟨till_yes (pts_block h5), ?_⟩
    refine wpi_op (i := 4) (by decide +kernel) rfl rfl ?_
    refine wpl_slice (e := 75) (k := 4) (bytes := 48) (xs := [recV (denZ o l)]) rfl rfl rfl (by simp [Value.cells, recV]) (by decide +kernel) (by simp) ?_
    intro u6 w6 x6 _ sl6 o6'
    refine gset ?_
    have h6 := x6.at h5
    have hb6 := x6.at hb5
    have o6 := (show Own _ 4 75 w6 u6 (rcells [denZ o l]) from o6')
    have m6 : Mv (some b) w w6 := ((x04.mv _).trans p5.mv).trans (x6.mv _)
    have zz : w.heap.size ≤ w5.heap.size := Nat.le_trans x04.size (Nat.le_of_eq p5.size.symm)
    refine wph_nil ⟨till_yes (pts_block h6), ?_⟩
    ((with_reducible apply wpi_pure (i := 9)); (rfl); (rfl); (rfl); (decide +kernel); (decide +kernel); (decide +kernel); (rfl); (intro _; exact rn); (exact fun _ _ _ h => h); (refine gset ?_))
    refine wpi_pure (i := 10) rfl rfl rfl (by decide +kernel) (by decide +kernel) (by decide +kernel) rfl (fun _ => Runs.fieldA (off := 2) rfl (by decide +kernel)) (fun _ _ _ h => h) ?_
    refine gset ?_
    refine wpi_pure (i := 11) rfl rfl rfl (by decide +kernel) (by decide +kernel) (by decide +kernel) rfl (fun _ => Runs.fieldA (off := 2) rfl (by decide +kernel)) (fun _ _ _ h => h) ?_
    refine gset ?_
    refine wpi_op (i := 12) (by decide +kernel) rfl rfl ?_
    refine wpl_storeF (n := 4) hb6 rfl rfl rfl (by simp [askC]) (by decide +kernel) o6.sl.one ?_
    intro w7 p7
    refine wph_nil ⟨till_no rfl, ?_⟩
    refine wpi_done (by decide +kernel) ?_
    repeat' (first | ((with_reducible refine o_s ?_); (first | (refine o_1 ?_; refine o_2 ?_) | (refine o_g ?_; first | refine o_u ?_ | refine o_k ?_ | refine o_n ?_ | refine o_v ?_ | ((first | refine o_G ?_ ?_ | refine o_N ?_ ?_) <;> intro hc)))) | ((fail_if_success (with_reducible refine o_s ?_)); go_step))
    have m7 : Mv (some b) w w7 := m6.trans p7.mv
    refine bodyPost_end (results_none rfl _ _ _) rfl ?_
    exact ⟨rfl, hx.move m7 (by rintro k ⟨⟩; exact hbk), m7, _, p7.this, (o6.mv p7.mv (.inr (o6.neBlock hb6 (by decide)))).weaken zz⟩
theorem isIn_root {o : List UInt8} {l : List RSet} (h : ZoneOk o l) : isIn l [] = true := by
  obtain ⟨s, hs, h1, _⟩ := h.soaSet
  have hm := h.small h1
  refine List.any_eq_true.2 ⟨s, h1, ?_⟩
  have ht := turned_some (n := s.name)
  rw [hm.2] at ht
  obtain ⟨a, ha⟩ := Option.isSome_iff_exists.1 ht
  have hr : turned [] = some [] := rfl
  rw [under_iff ha hr]
  simp
theorem above_here {l : List RSet} {ls : List (List UInt8)} (h : isIn l (enc ls) = true) : aboveL l ls = ls := by
  cases ls with
  | nil => rfl
  | cons x t => rw [aboveL, if_pos h]
theorem above_up {l : List RSet} {x : List UInt8} {t : List (List UInt8)} (h : isIn l (enc (x :: t)) = false) : aboveL l (x :: t) = aboveL l t := by
  rw [aboveL, if_neg (by simp [h])]
theorem tcells_one' {l : List (List UInt8)} : ∀ f ∈ tcells l, ∀ u ∈ f, u.oneCell' = true := by
  intro f hf u hu
  obtain ⟨r, _, rfl⟩ := List.mem_map.1 hf
  simp only [List.mem_cons, List.not_mem_nil, or_false] at hu
  subst hu
  rfl
theorem enc_tail (x : List UInt8) (t : List (List UInt8)) : (enc t).length < (enc (x :: t)).length := by simp [enc]; omega
set_option maxHeartbeats 4000000 in
theorem p_sets (o : List UInt8) (v : Value) (l : List RSet) (n : List UInt8) (w0 w : World) (hx0 : Ext w0 w) (hv0 : SetsAt w0 v l) (hz : ZoneOk o l) (hn : (labels n).isSome = true) :
    Calls Tryz.prog 128 #[.agg #[str o, v], str n] w (Ret w fun r w' => ∃ u css, r = .tuple #[u, .bool (setsB l n)] ∧ Own w.heap.size 4 55 w' u css ∧ SetsC w0 css (setsP l n)) := by
  have hv := hv0.ext hx0
  have hl := zone_len hz
  have hex : ∀ (m : List UInt8) (w' : World), SetsAt w' v l → Calls Tryz.prog 166 #[.agg #[str o, v], str m] w' (RetV w' (.bool (isIn l m))) := fun m w' h => p_exists o v l m w' h
  obtain ⟨ls0, hls0⟩ := Option.isSome_iff_exists.1 hn
  obtain ⟨f1, f2, f3⟩ := labels_fit hls0
  go_enter Tryz.func128, Tryz.ntmps128
  repeat' ((fail_if_success (with_reducible refine o_s ?_)); go_step)
  refine wpl_box (vs := [str o, v]) rfl rfl ?_
  intro p w1 x1 hp
  refine gset ?_
  have hv1 := hv.ext x1
  repeat' (first | ((with_reducible refine o_s ?_); (first | (refine o_1 ?_; refine o_2 ?_) | (refine o_g ?_; first | refine o_u ?_ | refine o_k ?_ | refine o_n ?_ | refine o_v ?_ | ((first | refine o_G ?_ ?_ | refine o_N ?_ ?_) <;> intro hc)))) | ((fail_if_success (with_reducible refine o_s ?_)); go_step))
  refine wpl_callV (enters_of Tryz.func166 rfl rfl) rfl rfl (hex n _ hv1) ?_; intro w2 x2; refine gset ?_
  have hx2 := x1.trans x2
  have hp2 := hp.ext x2
  have hv2 := hv.ext hx2
  cases hi : isIn l n with
  | true =>
    repeat' (first | ((with_reducible refine o_s ?_); (first | (refine o_1 ?_; refine o_2 ?_) | (refine o_g ?_; first | refine o_u ?_ | refine o_k ?_ | refine o_n ?_ | refine o_v ?_ | ((first | refine o_G ?_ ?_ | refine o_N ?_ ?_) <;> intro hc)))) | ((fail_if_success (with_reducible refine o_s ?_)); go_step))
    refine wpl_callR (enters_of Tryz.func167 rfl rfl) rfl rfl (p_at o v l n n w0 _ (hx0.trans hx2) hv0 (by omega)) ?_
    intro u w3 x3 ho
    obtain ⟨css, ho, hc⟩ := ho
    repeat' (first | ((with_reducible refine o_s ?_); (first | (refine o_1 ?_; refine o_2 ?_) | (refine o_g ?_; first | refine o_u ?_ | refine o_k ?_ | refine o_n ?_ | refine o_v ?_ | ((first | refine o_G ?_ ?_ | refine o_N ?_ ?_) <;> intro hc)))) | ((fail_if_success (with_reducible refine o_s ?_)); go_step))
    go_ret2
    exact ⟨_, rfl, hx2.trans x3, u, css, by rw [setsB, hi]; rfl, ho.weaken hx2.size, by rw [setsP, if_pos hi]; exact hc⟩
  | false =>
    repeat' (first | ((with_reducible refine o_s ?_); (first | (refine o_1 ?_; refine o_2 ?_) | (refine o_g ?_; first | refine o_u ?_ | refine o_k ?_ | refine o_n ?_ | refine o_v ?_ | ((first | refine o_G ?_ ?_ | refine o_N ?_ ?_) <;> intro hc)))) | ((fail_if_success (with_reducible refine o_s ?_)); go_step))
    go_loopw [6] (fun a wr => ∃ ls : List (List UInt8), a = str (enc ls) ∧ Ext w2 wr ∧ ls.all fitL = true ∧ (enc ls).length ≤ 254 ∧ aboveL l ls = aboveL l ls0) (fun a _ => strLen a)
    case atStart => exact ⟨ls0, by rw [f2], Ext.refl _, f1, by rw [f2]; exact f3, rfl⟩
    case round =>
      obtain ⟨ls, rfl, hx, g1, g2, g3⟩ := hrel
      have hvr := hv2.ext hx
      have hpr := hp2.ext hx
      repeat' (first | ((with_reducible refine o_s ?_); (first | (refine o_1 ?_; refine o_2 ?_) | (refine o_g ?_; first | refine o_u ?_ | refine o_k ?_ | refine o_n ?_ | refine o_v ?_ | ((first | refine o_G ?_ ?_ | refine o_N ?_ ?_) <;> intro hc)))) | ((fail_if_success (with_reducible refine o_s ?_)); go_step))
      refine wpl_callV (enters_of Tryz.func166 rfl rfl) rfl rfl (hex (enc ls) _ hvr) ?_; intro w4 x4; refine gset ?_
      have hx4 := hx.trans x4
      cases hi4 : isIn l (enc ls) with
      | false =>
        cases ls with
        | nil => rw [show enc [] = [] from rfl, isIn_root hz] at hi4; cases hi4
        | cons x t =>
          repeat' (first | ((with_reducible refine o_s ?_); (first | (refine o_1 ?_; refine o_2 ?_) | (refine o_g ?_; first | refine o_u ?_ | refine o_k ?_ | refine o_n ?_ | refine o_v ?_ | ((first | refine o_G ?_ ?_ | refine o_N ?_ ?_) <;> intro hc)))) | ((fail_if_success (with_reducible refine o_s ?_)); go_step))
          refine wpl_callV (enters_of Tryz.func168 rfl rfl) rfl rfl (p_Parent _ (labels_enc g1 g2)) ?_; intro w5 x5; refine gset ?_
          repeat' (first | ((with_reducible refine o_s ?_); (first | (refine o_1 ?_; refine o_2 ?_) | (refine o_g ?_; first | refine o_u ?_ | refine o_k ?_ | refine o_n ?_ | refine o_v ?_ | ((first | refine o_G ?_ ?_ | refine o_N ?_ ?_) <;> intro hc)))) | ((fail_if_success (with_reducible refine o_s ?_)); go_step))
          have ht := enc_tail x t
          exact ⟨⟨t, rfl, hx4.trans x5, by simp at g1; simp; exact g1.2, by omega, by rw [← g3, above_up hi4]⟩, by simp [strLen_str]; omega⟩
      | true =>
        have hab : aboveL l ls = ls := above_here hi4
        rw [hab] at g3
        have hp4 := hpr.ext x4
        repeat' (first | ((with_reducible refine o_s ?_); (first | (refine o_1 ?_; refine o_2 ?_) | (refine o_g ?_; first | refine o_u ?_ | refine o_k ?_ | refine o_n ?_ | refine o_v ?_ | ((first | refine o_G ?_ ?_ | refine o_N ?_ ?_) <;> intro hc)))) | ((fail_if_success (with_reducible refine o_s ?_)); go_step))
        refine wpl_slice (e := 9) (k := 1) (bytes := 16) (xs := [str [42]]) rfl rfl rfl (by simp [str, Value.cells]) (by decide +kernel) (by simp) ?_
        intro v5 w5 x5 _ sl5 o5
        refine gset ?_
        repeat' (first | ((with_reducible refine o_s ?_); (first | (refine o_1 ?_; refine o_2 ?_) | (refine o_g ?_; first | refine o_u ?_ | refine o_k ?_ | refine o_n ?_ | refine o_v ?_ | ((first | refine o_G ?_ ?_ | refine o_N ?_ ?_) <;> intro hc)))) | ((fail_if_success (with_reducible refine o_s ?_)); go_step))
        refine wpl_callR (enters_of Tryz.func169 rfl rfl) rfl rfl (p_Labels (enc ls) _) ?_
        intro v6 w6 x6 o6
        rw [labels_enc g1 g2] at o6
        refine gset ?_
        have o5' := (show Own _ 1 9 w5 v5 (tcells [[42]]) from o5).ext x6
        have hlen : ls.length ≤ 254 := by have := len_le_enc ls; omega
        refine wpl_appendO (e := 9) (k := 1) rfl o5' rfl o6.sl tcells_one' (Nat.le_trans x5.size x6.size) (by simp [tcells]; omega) ?_
        intro v7 w7 o7 m7 _
        refine gset ?_
        have x7 := o5'.mvx m7 (x5.trans x6) (Nat.le_refl _)
        have hst : starN l n = (join ([42] :: ls)).getD [] := by rw [starN, hls0, Option.getD_some, ← g3]
        have hv7 := (hvr.ext x4).ext x7
        have hp7 := hp4.ext x7
        have hx7 := hx2.trans (hx4.trans x7)
        repeat' (first | ((with_reducible refine o_s ?_); (first | (refine o_1 ?_; refine o_2 ?_) | (refine o_g ?_; first | refine o_u ?_ | refine o_k ?_ | refine o_n ?_ | refine o_v ?_ | ((first | refine o_G ?_ ?_ | refine o_N ?_ ?_) <;> intro hc)))) | ((fail_if_success (with_reducible refine o_s ?_)); go_step))
        obtain ⟨e8, c8⟩ : ∃ e : Int, Calls Tryz.prog 116 #[v7] w7 (RetV w7 (.tuple #[str (starN l n), .int .i64 e])) := by
          have h := t30 v7 ([42] :: ls) w7 o7.sl (by simp; omega)
          rw [hst]
          cases hj : join ([42] :: ls) with
          | none => rw [hj] at h; exact ⟨1, h⟩
          | some m => rw [hj] at h; exact ⟨0, h⟩
        refine wpl_callV (enters_of Tryz.func116 rfl rfl) rfl rfl (c8) ?_; intro w8 x8; refine gset ?_
        have hv8 := hv7.ext x8
        have hp8 := hp7.ext x8
        have hx8 := hx7.trans x8
        repeat' (first | ((with_reducible refine o_s ?_); (first | (refine o_1 ?_; refine o_2 ?_) | (refine o_g ?_; first | refine o_u ?_ | refine o_k ?_ | refine o_n ?_ | refine o_v ?_ | ((first | refine o_G ?_ ?_ | refine o_N ?_ ?_) <;> intro hc)))) | ((fail_if_success (with_reducible refine o_s ?_)); go_step))
        refine wpl_callR (enters_of Tryz.func167 rfl rfl) rfl rfl (p_at o v l (starN l n) n w0 _ (hx0.trans hx8) hv0 (by omega)) ?_
        intro u w9 x9 ho
        obtain ⟨css, ho, hc⟩ := ho
        have su := ho.sl
        have hcl := hc.len
        repeat' (first | ((with_reducible refine o_s ?_); (first | (refine o_1 ?_; refine o_2 ?_) | (refine o_g ?_; first | refine o_u ?_ | refine o_k ?_ | refine o_n ?_ | refine o_v ?_ | ((first | refine o_G ?_ ?_ | refine o_N ?_ ?_) <;> intro hc)))) | ((fail_if_success (with_reducible refine o_s ?_)); go_step))
        go_ret2
        refine ⟨_, rfl, hx8.trans x9, u, css, ?_, ho.weaken hx8.size, by rw [setsP, if_neg (by simp [hi])]; exact hc⟩
        rw [setsB, hi, Bool.false_or, ← hcl]
        congr 4
        simp
theorem idx_first {α : Type} (p : α → Bool) (l : List α) : (∃ (k : Nat) (hk : k < l.length), idxI p l = k ∧ p l[k] = true ∧ (l.take k).filter (fun s => !p s) = l.take k) ∨ (idxI p l = -1 ∧ l.filter (fun s => !p s) = l) := by
  unfold idxI
  cases h : l.findIdx? p with
  | none =>
    rw [List.findIdx?_eq_none_iff] at h
    refine .inr ⟨rfl, ?_⟩
    rw [List.filter_eq_self]
    intro a ha
    simp [h a ha]
  | some k =>
    rw [List.findIdx?_eq_some_iff_getElem] at h
    obtain ⟨hk, h1, h2⟩ := h
    refine .inl ⟨k, hk, rfl, h1, ?_⟩
    rw [List.filter_eq_self]
    intro a ha
    obtain ⟨j, hj, rfl⟩ := List.mem_iff_getElem.1 ha
    have hj' : j < k := by simp at hj; omega
    have := h2 j hj'
    simp only [List.getElem_take]
    simpa using this
theorem SetsC.row {w : World} {css : List (List Value)} {l : List RSet} (h : SetsC w css l) {i : Nat} (hi : i < l.length) : ∃ x, css[i]? = some [str l[i].name, .int .i64 l[i].kind, .int .i64 l[i].ttl, x] ∧ Sl 1 w x (tcells l[i].data) := h.at' i _ (List.getElem?_eq_getElem hi)
set_option maxHeartbeats 4000000 in
theorem p_DeleteFunc {B : Nat} (v : Value) (l : List RSet) (css : List (List Value)) (f : FuncId) (caps : Array Value) (p : RSet → Bool) (w0 w : World) (hx0 : Ext w0 w) (hB : w0.heap.size ≤ B) (ho : Own B 4 55 w v css) (hc : SetsC w0 css l) (he : Enters Tryz.prog f) (hf : SetFn w0 f caps l p) :
    Calls Tryz.prog 132 #[v, .func (.func f) #[] caps] w fun e w' => ∃ v' css', e = .returned v' ∧ Own B 4 55 w' v' css' ∧ SetsC w0 css' (l.filter fun s => !p s) ∧ Ext w0 w' := by
  have hcl := hc.len
  have hsv : SetsAt w v l := (hc.ext hx0).sets ho.sl
  have hidx := p_IndexFunc v l f caps p w hsv he (hf.ext hx0)
  go_enter Tryz.func132, Tryz.ntmps132
  repeat' (first | ((with_reducible refine o_s ?_); (first | (refine o_1 ?_; refine o_2 ?_) | (refine o_g ?_; first | refine o_u ?_ | refine o_k ?_ | refine o_n ?_ | refine o_v ?_ | ((first | refine o_G ?_ ?_ | refine o_N ?_ ?_) <;> intro hc)))) | ((fail_if_success (with_reducible refine o_s ?_)); go_step))
  refine wpl_callV (enters_of Tryz.func119 rfl rfl) rfl rfl (hidx) ?_; intro w1 x1; refine gset ?_
  have ho1 := ho.ext x1
  have hx1 := hx0.trans x1
  rcases idx_first p l with ⟨k, hk, hi, hp, hfil⟩ | ⟨hi, hfil⟩
  · rw [hi]
    rcases ho.form with ⟨rfl, hn⟩ | ⟨g, cap, rfl, hg, hb, hcap, hcm⟩
    · rw [hn] at hcl; simp at hcl; omega
    · repeat' (first | ((with_reducible refine o_s ?_); (first | (refine o_1 ?_; refine o_2 ?_) | (refine o_g ?_; first | refine o_u ?_ | refine o_k ?_ | refine o_n ?_ | refine o_v ?_ | ((first | refine o_G ?_ ?_ | refine o_N ?_ ?_) <;> intro hc)))) | ((fail_if_success (with_reducible refine o_s ?_)); go_step))
      go_loopw [5, 6, 7] (fun i j _ wr => ∃ (m n : Nat) (cs : List (List Value)), i = .int .i64 m ∧ j = .int .i64 n ∧ m < n ∧ n ≤ l.length ∧ cs.length = css.length ∧ Ext w0 wr ∧ Own B 4 55 wr (.slice (some ⟨g, 0, none⟩) css.length cap) cs ∧ SetsC w0 (cs.take m) ((l.take n).filter fun s => !p s) ∧ cs.drop n = css.drop n) (fun _ j _ _ => l.length - (intOf j).toNat)
      case atStart =>
        refine ⟨k, k + 1, css, rfl, by go_num, by omega, by omega, rfl, hx1, ho1, ?_, rfl⟩
        rw [List.take_succ_eq_append_getElem hk, List.filter_append, hfil]
        simp only [hp, Bool.not_true, List.filter_cons, Bool.false_eq_true, if_false, List.filter_nil, List.append_nil]
        exact hc.take k
      case round =>
        obtain ⟨m, n, cs, rfl, rfl, hmn, hnl, hlen, hx, hor, hkept, hrest⟩ := hrel
        have hsl := hor.sl
        by_cases hlt : n < l.length
        · obtain ⟨x, hcx, hdx⟩ := hc.row hlt
          have hcs : cs[n]? = some [str l[n].name, .int .i64 l[n].kind, .int .i64 l[n].ttl, x] := by
            have := congrArg (·[0]?) hrest
            simp only [List.getElem?_drop, Nat.add_zero] at this
            rw [this, hcx]
          have hel := hsl.elem hcs
          repeat' (first | ((with_reducible refine o_s ?_); (first | (refine o_1 ?_; refine o_2 ?_) | (refine o_g ?_; first | refine o_u ?_ | refine o_k ?_ | refine o_n ?_ | refine o_v ?_ | ((first | refine o_G ?_ ?_ | refine o_N ?_ ?_) <;> intro hc)))) | ((fail_if_success (with_reducible refine o_s ?_)); go_step))
          refine wpl_allocB (z := zset) rfl (by decide +kernel) ?_
          intro w2 x2 s2 h2
          refine gset ?_
          refine wpl_storeB (v := .agg #[str l[n].name, .int .i64 l[n].kind, .int .i64 l[n].ttl, x]) rfl rfl rfl h2 (show sizeTy Tryz.prog 55 4 = true by decide +kernel) rfl (all4 rfl rfl rfl hdx.one) ?_
          intro w3 p3
          have x3 : Ext wr w3 := x2.move p3.mv (by rintro k ⟨⟩; exact Nat.le_refl _)
          have h3 := pts_block (cs := [str l[n].name, .int .i64 l[n].kind, .int .i64 l[n].ttl, x]) p3.this
          have hx3 := hx.trans x3
          clear p3 h2 x2
          repeat' (first | ((with_reducible refine o_s ?_); (first | (refine o_1 ?_; refine o_2 ?_) | (refine o_g ?_; first | refine o_u ?_ | refine o_k ?_ | refine o_n ?_ | refine o_v ?_ | ((first | refine o_G ?_ ?_ | refine o_N ?_ ?_) <;> intro hc)))) | ((fail_if_success (with_reducible refine o_s ?_)); go_step))
          refine wpl_callT he rfl rfl rfl (hf _ (List.getElem_mem hlt) x _ hx3 (hdx.ext hx3)) ?_
          rintro e w4 ⟨rfl, x4⟩
          refine ⟨_, rfl, ?_⟩
          refine gset ?_
          have hx4 := hx3.trans x4
          have ho4 := hor.ext (x3.trans x4)
          have hs4 := ho4.sl
          have h4 := h3.ext x4
          have hst : (l.take (n + 1)).filter (fun s => !p s) = (l.take n).filter (fun s => !p s) ++ if p l[n] = true then [] else [l[n]] := by
            rw [List.take_succ_eq_append_getElem hlt, List.filter_append]
            cases hq : p l[n] <;> simp [hq]
          clear hel hsl h3
          cases hpn : p l[n] with
          | true =>
            rw [hpn, if_pos rfl, List.append_nil] at hst
            repeat' (first | ((with_reducible refine o_s ?_); (first | (refine o_1 ?_; refine o_2 ?_) | (refine o_g ?_; first | refine o_u ?_ | refine o_k ?_ | refine o_n ?_ | refine o_v ?_ | ((first | refine o_G ?_ ?_ | refine o_N ?_ ?_) <;> intro hc)))) | ((fail_if_success (with_reducible refine o_s ?_)); go_step))
            exact ⟨⟨m, n + 1, cs, rfl, by go_num, by omega, by omega, hlen, hx4, ho4, by rw [hst]; exact hkept, by rw [← List.drop_drop, hrest, List.drop_drop]⟩, by simp [intOf]; omega⟩
          | false =>
            rw [hpn, if_neg (by simp)] at hst
            repeat' (first | ((with_reducible refine o_s ?_); (first | (refine o_1 ?_; refine o_2 ?_) | (refine o_g ?_; first | refine o_u ?_ | refine o_k ?_ | refine o_n ?_ | refine o_v ?_ | ((first | refine o_G ?_ ?_ | refine o_N ?_ ?_) <;> intro hc)))) | ((fail_if_success (with_reducible refine o_s ?_)); go_step))
            refine wpl_storeE (i := m) (c := .agg #[str l[n].name, .int .i64 l[n].kind, .int .i64 l[n].ttl, x]) rfl rfl rfl ho4 (by omega) (by simp [Value.cells]) (show sizeTy Tryz.prog 55 4 = true by decide +kernel) (all4 rfl rfl rfl hdx.one) ?_
            intro w5 o5 m5
            have x5 : Ext w0 w5 := ho4.mvx m5 hx4 hB
            repeat' (first | ((with_reducible refine o_s ?_); (first | (refine o_1 ?_; refine o_2 ?_) | (refine o_g ?_; first | refine o_u ?_ | refine o_k ?_ | refine o_n ?_ | refine o_v ?_ | ((first | refine o_G ?_ ?_ | refine o_N ?_ ?_) <;> intro hc)))) | ((fail_if_success (with_reducible refine o_s ?_)); go_step))
            refine ⟨⟨m + 1, n + 1, _, by go_num, by go_num, by omega, by omega, by rw [List.length_set]; exact hlen, x5, o5, ?_, ?_⟩, by simp [intOf]; omega⟩
            · rw [hst]
              have e : (cs.set m [str l[n].name, .int .i64 l[n].kind, .int .i64 l[n].ttl, x]).take (m + 1) = cs.take m ++ [[str l[n].name, .int .i64 l[n].kind, .int .i64 l[n].ttl, x]] := by
                rw [List.take_succ_eq_append_getElem (by rw [List.length_set]; omega), List.take_set_of_le (Nat.le_refl _)]
                simp
              exact e ▸ hkept.append (SetsC.one hdx)
            · rw [List.drop_set_of_lt (by omega), ← List.drop_drop, hrest, List.drop_drop]
        · have : n = l.length := by omega
          subst this
          rw [List.take_length] at hkept
          rw [← hlen] at hor
          have hml : (cs.take m).length = m := by rw [List.length_take]; omega
          have hkl := hkept.len
          repeat' (first | ((with_reducible refine o_s ?_); (first | (refine o_1 ?_; refine o_2 ?_) | (refine o_g ?_; first | refine o_u ?_ | refine o_k ?_ | refine o_n ?_ | refine o_v ?_ | ((first | refine o_G ?_ ?_ | refine o_N ?_ ?_) <;> intro hc)))) | ((fail_if_success (with_reducible refine o_s ?_)); go_step))
          have e38 : cutSl (.slice (some ⟨g, 0, none⟩) css.length cap) 4 m cs.length = .slice (some ⟨g, m * 4, none⟩) (cs.length - m) (cap - m) := by
            unfold cutSl
            simp only [if_neg (show ¬ cap = m by omega)]
            simp [add_none]
          refine wpl_clearO (m := m) (z := zset) hor e38 (by omega) ?_
          intro w9 o9 m9
          have x9 : Ext w0 w9 := hor.mvx m9 hx hB
          repeat' (first | ((with_reducible refine o_s ?_); (first | (refine o_1 ?_; refine o_2 ?_) | (refine o_g ?_; first | refine o_u ?_ | refine o_k ?_ | refine o_n ?_ | refine o_v ?_ | ((first | refine o_G ?_ ?_ | refine o_N ?_ ?_) <;> intro hc)))) | ((fail_if_success (with_reducible refine o_s ?_)); go_step))
          refine wpl_run0 (Runs.takeC (k := 4) (n := m) (l := css.length) (c := cap) (ad := some ⟨g, 0, none⟩) rfl rfl (by omega) (by decide +kernel)) ?_
          refine gset ?_
          repeat' (first | ((with_reducible refine o_s ?_); (first | (refine o_1 ?_; refine o_2 ?_) | (refine o_g ?_; first | refine o_u ?_ | refine o_k ?_ | refine o_n ?_ | refine o_v ?_ | ((first | refine o_G ?_ ?_ | refine o_N ?_ ?_) <;> intro hc)))) | ((fail_if_success (with_reducible refine o_s ?_)); go_step))
          go_ret
          have e41 : Value.slice (if cap = 0 then some (⟨g, 0, none⟩ : Addr) else Option.map (fun x : Addr => x.add (0 * 4)) (some (⟨g, 0, none⟩ : Addr))) (m - 0) (cap - 0) = .slice (some ⟨g, 0, none⟩) m cap := by
            simp [add_none]
          exact ⟨_, _, rfl, by rw [e41]; exact o9, hkept, x9⟩
  · rw [hi]
    repeat' (first | ((with_reducible refine o_s ?_); (first | (refine o_1 ?_; refine o_2 ?_) | (refine o_g ?_; first | refine o_u ?_ | refine o_k ?_ | refine o_n ?_ | refine o_v ?_ | ((first | refine o_G ?_ ?_ | refine o_N ?_ ?_) <;> intro hc)))) | ((fail_if_success (with_reducible refine o_s ?_)); go_step))
    go_ret
    exact ⟨_, _, rfl, ho1, by rw [hfil]; exact hc, hx1⟩
end Go.Proofs.X
