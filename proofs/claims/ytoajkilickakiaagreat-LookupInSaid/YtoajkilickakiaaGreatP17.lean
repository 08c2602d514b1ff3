/- Laws and walks that the proof of the statement is made of (part 17). -/
import Derived.Test.YtoajkilickakiaaGreatProg
import Derived.Test.YtoajkilickakiaaGreatShelf
import Derived.Shelf.SlSortCmp.NoneTotal
import Derived.Shelf.RegionOpenPlain
import Derived.Lib.Strings
import Derived.Lib.Slices
import Derived.Lib.Walk
import Derived.Lib.Builder
import Derived.Lib.AppendStr
import Derived.Lib.UnsafeStr
import Derived.Lib.MakeNoZero
import Derived.WalkKit
import Derived.Laws.Externs
import Derived.Laws.IdiomCopy
import Derived.Laws.BitsLemmas
import GoSem.Claims
import Derived.StringKeys
import Derived.Lib.Hide
import Derived.OwnWalk
import Derived.WalkMore
import Derived.Test.YtoajkilickakiaaGreatRows
import Derived.ProofKit
import Derived.OpenShut
import Derived.ShutString
import Derived.ChangeOld
import Derived.Below
import Derived.Test.YtoajkilickakiaaGreatP1
import Derived.Test.YtoajkilickakiaaGreatP2
import Derived.Test.YtoajkilickakiaaGreatP3
import Derived.Test.YtoajkilickakiaaGreatP4
import Derived.Test.YtoajkilickakiaaGreatP5
import Derived.Test.YtoajkilickakiaaGreatP6
import Derived.Test.YtoajkilickakiaaGreatP7
import Derived.Test.YtoajkilickakiaaGreatP9
import Derived.Test.YtoajkilickakiaaGreatP10
import Derived.Test.YtoajkilickakiaaGreatP11
import Derived.Test.YtoajkilickakiaaGreatP12
import Derived.Test.YtoajkilickakiaaGreatP13
import Derived.Test.YtoajkilickakiaaGreatP14
import Derived.Test.YtoajkilickakiaaGreatP15
import Derived.Test.YtoajkilickakiaaGreatP16
set_option linter.unusedSimpArgs false
set_option linter.unusedVariables false
namespace Go.Proofs.X
open Go.RowKit
set_option maxRecDepth 100000
theorem ask_len {o : List UInt8} {l : List RSet} (h : checkS l = 0) (hl : l.length ≤ 200) (k : Int) : ∀ (f : Nat) (c : Int) (n : List UInt8), (askP o l k f c n).ans.length ≤ 4000 + 20 * f ∧ (askP o l k f c n).auth.length ≤ 20
  | 0, c, n => by simp [askP]
  | f + 1, c, n => by
    rw [askP]
    split
    · rename_i hm
      obtain ⟨h1, h2⟩ := ask_len h hl k f (c + 1) (stepP o l n k c).next
      have := (step_more h hm).2.2.2.2
      exact ⟨by rw [List.length_append]; omega, h2⟩
    · have := step_len (o := o) h hl n k c
      exact ⟨by omega, this.2⟩
theorem all_len {o : List UInt8} {l : List RSet} {q : List UInt8} {k : Int} (h : askE o l q = 0) : (askA o l q k).ans.length ≤ 5000 ∧ (askA o l q k).auth.length ≤ 20 ∧ (askA o l q k).extra.length ≤ 400000 := by
  have hz := zone_ok (ask_E h).1
  have e : askA o l q k = ⟨(askP o l k 9 0 (fold q)).kind, (askP o l k 9 0 (fold q)).ans, (askP o l k 9 0 (fold q)).auth, extraS l (tellsR (askP o l k 9 0 (fold q)))⟩ := by rw [askA, if_neg (by simp [h])]
  rw [e]
  obtain ⟨h1, h2⟩ := ask_len (o := o) hz.chk (zone_len hz) k 9 0 (fold q)
  have h3 := extra_len (fun s hs => (may_data (hz.may hs)).2) (tellsR (askP o l k 9 0 (fold q))) _ (Nat.le_refl _)
  rw [List.take_length] at h3
  have h4 : (tellsR (askP o l k 9 0 (fold q))).length ≤ 5000 := by
    unfold tellsR
    rw [List.length_append]
    split <;> first | omega | (simp; omega)
  refine ⟨?_, h2, ?_⟩
  · simp only; omega
  · show (extraF l (tellsR (askP o l k 9 0 (fold q)))).2.length ≤ 400000
    omega
theorem find_own {w w' : World} {r : Value} {o : Option RSet} (h : match o with
    | some s => ∃ x, r = .tuple #[.agg #[str s.name, .int .i64 s.kind, .int .i64 s.ttl, x], .bool true] ∧ Own w.heap.size 1 9 w' x (tcells s.data)
    | none => r = .tuple #[.agg zset.toArray, .bool false]) : ∃ x, r = .tuple #[.agg #[str (o.getD zeroS).name, .int .i64 (o.getD zeroS).kind, .int .i64 (o.getD zeroS).ttl, x], .bool o.isSome] ∧ Own 0 1 9 w' x (tcells (o.getD zeroS).data) := by
  cases o with
  | none => exact ⟨.slice none 0 0, h, Own.nil _ _ _ _⟩
  | some s => obtain ⟨x, h1, h2⟩ := h; exact ⟨x, h1, h2.weaken (Nat.zero_le _)⟩
theorem meetK2 {α β : Type} {F : α → β → World → Prop} {G : α → β → World → Prop} {goal : Prop} (h1 : (∀ x y w', F x y w' → G x y w') → goal) (h2 : ∀ x y w', F x y w' → G x y w') : goal := h1 h2
theorem told_in {o : List UInt8} {l : List RSet} (hz : ZoneOk o l) {r : Rec} (h : r = denZ o l ∨ InZ l r) (hn : r ≠ denZ o l) (ht : thereS o l r.name = true) : ∃ s, findS l r.name r.kind = some s ∧ s.ttl = r.ttl ∧ r.data ∈ s.data ∧ s.data.length ≤ 20 := by
  rcases h with h | h | h
  · exact absurd h hn
  · obtain ⟨s, hs, d, hd, rfl⟩ := h
    exact ⟨s, found_mem hz.chk hs, rfl, hd, (may_data (hz.may hs)).2⟩
  · exfalso
    simp only [thereS, Bool.and_eq_true] at ht
    unfold isIn at h
    rw [h] at ht
    cases ht.2
set_option maxHeartbeats 8000000 in
theorem k13 (o : List UInt8) (v : Value) (l : List RSet) (q : List UInt8) (k : Int) (w : World) (hv : SetsAt w v l) : Calls Tryz.prog 13 #[.agg #[str o, v], .agg #[str q, .int .i64 k]] w (Yes w) := by
  go_enter Tryz.func13, Tryz.ntmps13
  repeat' ((fail_if_success (with_reducible refine o_s ?_)); go_step)
  refine wpl_box (vs := [str o, v]) rfl rfl ?_
  intro p w1 x1 hp
  refine gset ?_
  refine wpl_box (vs := [str q, .int .i64 k]) rfl rfl ?_
  intro pq w2 x2 hq
  refine gset ?_
  have hx2 := x1.trans x2
  have hp2 := hp.ext x2
  have hv2 := hv.ext hx2
  repeat' (first | ((with_reducible refine o_s ?_); (first | (refine o_1 ?_; refine o_2 ?_) | (refine o_g ?_; first | refine o_u ?_ | refine o_k ?_ | refine o_n ?_ | refine o_v ?_ | ((first | refine o_G ?_ ?_ | refine o_N ?_ ?_) <;> intro hc)))) | ((fail_if_success (with_reducible refine o_s ?_)); go_step))
  refine wpl_callV (enters_of Tryz.func25 rfl rfl) rfl rfl (r8_Few o v l _ hv2) ?_; intro w3 x3; refine gset ?_
  have hx3 := hx2.trans x3
  have hp3 := hp2.ext x3
  have hq3 := hq.ext x3
  have hv3 := hv2.ext x3
  cases hF : (decide ((o.length : Int) ≤ 300) && fewS l) with
  | false =>
    repeat' (first | ((with_reducible refine o_s ?_); (first | (refine o_1 ?_; refine o_2 ?_) | (refine o_g ?_; first | refine o_u ?_ | refine o_k ?_ | refine o_n ?_ | refine o_v ?_ | ((first | refine o_G ?_ ?_ | refine o_N ?_ ?_) <;> intro hc)))) | ((fail_if_success (with_reducible refine o_s ?_)); go_step))
    refine wpl_callV (enters_of Tryz.func38 rfl rfl) rfl rfl (l9_live _) ?_; intro w4 x4; refine gset ?_
    repeat' (first | ((with_reducible refine o_s ?_); (first | (refine o_1 ?_; refine o_2 ?_) | (refine o_g ?_; first | refine o_u ?_ | refine o_k ?_ | refine o_n ?_ | refine o_v ?_ | ((first | refine o_G ?_ ?_ | refine o_N ?_ ?_) <;> intro hc)))) | ((fail_if_success (with_reducible refine o_s ?_)); go_step))
    go_ret
    exact ⟨rfl, hx3.trans x4⟩
  | true =>
    have hb := (fewz hF).2.1
    repeat' (first | ((with_reducible refine o_s ?_); (first | (refine o_1 ?_; refine o_2 ?_) | (refine o_g ?_; first | refine o_u ?_ | refine o_k ?_ | refine o_n ?_ | refine o_v ?_ | ((first | refine o_G ?_ ?_ | refine o_N ?_ ?_) <;> intro hc)))) | ((fail_if_success (with_reducible refine o_s ?_)); go_step))
    · refine wpl_callV (enters_of Tryz.func38 rfl rfl) rfl rfl (l9_live _) ?_; intro w4 x4; refine gset ?_
      repeat' (first | ((with_reducible refine o_s ?_); (first | (refine o_1 ?_; refine o_2 ?_) | (refine o_g ?_; first | refine o_u ?_ | refine o_k ?_ | refine o_n ?_ | refine o_v ?_ | ((first | refine o_G ?_ ?_ | refine o_N ?_ ?_) <;> intro hc)))) | ((fail_if_success (with_reducible refine o_s ?_)); go_step))
      go_ret
      exact ⟨rfl, hx3.trans x4⟩
    · refine wpl_callR (enters_of Tryz.func41 rfl rfl) rfl rfl (ask_is rfl rfl _ hv3 hb) ?_
      rintro _ w4 x4 ⟨u1, u2, u3, rfl, s1, s2, s3⟩
      refine gset ?_
      repeat' (first | ((with_reducible refine o_s ?_); (first | (refine o_1 ?_; refine o_2 ?_) | (refine o_g ?_; first | refine o_u ?_ | refine o_k ?_ | refine o_n ?_ | refine o_v ?_ | ((first | refine o_G ?_ ?_ | refine o_N ?_ ?_) <;> intro hc)))) | ((fail_if_success (with_reducible refine o_s ?_)); go_step))
      refine wpl_allocB (z := zans) rfl (by decide +kernel) ?_
      intro w5 x5 s5 h5
      refine gset ?_
      refine wpl_storeB (v := .agg #[.int .i64 (askA o l q k).kind, u1, u2, u3]) rfl rfl rfl h5 (show sizeTy Tryz.prog 61 4 = true by decide +kernel) rfl (all4 rfl s1.one s2.one s3.one) ?_
      intro w6 p6
      have x6 : Ext w4 w6 := x5.move p6.mv (by rintro k ⟨⟩; exact Nat.le_refl _)
      have ha6 := pts_block (cs := [.int .i64 (askA o l q k).kind, u1, u2, u3]) p6.this
      have x36 := x4.trans x6
      have hp6 := hp3.ext x36
      have hq6 := hq3.ext x36
      have hv6 := hv3.ext x36
      have hx6 := hx3.trans x36
      have g1 := s1.ext x6
      have g2 := s2.ext x6
      have g3 := s3.ext x6
      clear p6 h5 x5 s1 s2 s3
      by_cases hE : askE o l q = 0
      · have hall := ask_all (o := o) (l := l) (q := q) (k := k)
        obtain ⟨a1, a2, a3⟩ := all_len (k := k) hE
        obtain ⟨z1, z2⟩ := ask_E hE
        have hz := zone_ok z1
        rw [hE]
        generalize askA o l q k = A at *
        repeat' (first | ((with_reducible refine o_s ?_); (first | (refine o_1 ?_; refine o_2 ?_) | (refine o_g ?_; first | refine o_u ?_ | refine o_k ?_ | refine o_n ?_ | refine o_v ?_ | ((first | refine o_G ?_ ?_ | refine o_N ?_ ?_) <;> intro hc)))) | ((fail_if_success (with_reducible refine o_s ?_)); go_step))
        refine wpl_callV (enters_of Tryz.func47 rfl rfl) rfl rfl (p_Denial o v l _ hv6 hz) ?_; intro w7 x7; refine gset ?_
        have ha7 := ha6.ext x7
        have hp7 := hp6.ext x7
        have hv7 := hv6.ext x7
        have hx7 := hx6.trans x7
        have g1 := g1.ext x7
        have g2 := g2.ext x7
        have g3 := g3.ext x7
        repeat' (first | ((with_reducible refine o_s ?_); (first | (refine o_1 ?_; refine o_2 ?_) | (refine o_g ?_; first | refine o_u ?_ | refine o_k ?_ | refine o_n ?_ | refine o_v ?_ | ((first | refine o_G ?_ ?_ | refine o_N ?_ ?_) <;> intro hc)))) | ((fail_if_success (with_reducible refine o_s ?_)); go_step))
        refine wpl_allocB (z := zrec) rfl (by decide +kernel) ?_
        intro w8 x8 s8 h8
        refine gset ?_
        refine wpl_storeB (v := recV (denZ o l)) rfl rfl rfl h8 (show sizeTy Tryz.prog 75 4 = true by decide +kernel) rfl (all4 rfl rfl rfl rfl) ?_
        intro w9 p9
        have x9 : Ext w7 w9 := x8.move p9.mv (by rintro k ⟨⟩; exact Nat.le_refl _)
        have hd9 := pts_block (cs := [str (denZ o l).name, .int .i64 (denZ o l).kind, .int .i64 (denZ o l).ttl, str (denZ o l).data]) p9.this
        have ha9 := ha7.ext x9
        have hp9 := hp7.ext x9
        have hv9 := hv7.ext x9
        have hx9 := hx7.trans x9
        have g1 := g1.ext x9
        have g2 := g2.ext x9
        have g3 := g3.ext x9
        clear p9 h8 x8
        repeat' (first | ((with_reducible refine o_s ?_); (first | (refine o_1 ?_; refine o_2 ?_) | (refine o_g ?_; first | refine o_u ?_ | refine o_k ?_ | refine o_n ?_ | refine o_v ?_ | ((first | refine o_G ?_ ?_ | refine o_N ?_ ?_) <;> intro hc)))) | ((fail_if_success (with_reducible refine o_s ?_)); go_step))
        refine wpl_appendO (B := w9.heap.size) (e := 75) (k := 4) rfl (Own.nil _ _ _ _) rfl g1 rcells_one (Nat.le_refl _) (by simp [rcells_length]; omega) ?_
        intro v10 w10 o10 m10 _
        refine gset ?_
        have x10 : Ext w9 w10 := (Own.nil w9.heap.size 4 75 w9).mvx m10 (Ext.refl _) (Nat.le_refl _)
        rw [List.nil_append] at o10
        have ha10 := ha9.ext x10
        repeat' (first | ((with_reducible refine o_s ?_); (first | (refine o_1 ?_; refine o_2 ?_) | (refine o_g ?_; first | refine o_u ?_ | refine o_k ?_ | refine o_n ?_ | refine o_v ?_ | ((first | refine o_G ?_ ?_ | refine o_N ?_ ?_) <;> intro hc)))) | ((fail_if_success (with_reducible refine o_s ?_)); go_step))
        refine wpl_appendO (e := 75) (k := 4) rfl o10 rfl (g2.ext x10) rcells_one x10.size (by simp only [rcells_length]; omega) ?_
        intro v11 w11 o11 m11 _
        refine gset ?_
        have x11 : Ext w9 w11 := o10.mvx m11 x10 (Nat.le_refl _)
        have ha11 := ha9.ext x11
        clear ha10
        repeat' (first | ((with_reducible refine o_s ?_); (first | (refine o_1 ?_; refine o_2 ?_) | (refine o_g ?_; first | refine o_u ?_ | refine o_k ?_ | refine o_n ?_ | refine o_v ?_ | ((first | refine o_G ?_ ?_ | refine o_N ?_ ?_) <;> intro hc)))) | ((fail_if_success (with_reducible refine o_s ?_)); go_step))
        refine wpl_appendO (e := 75) (k := 4) rfl o11 rfl (g3.ext x11) rcells_one x11.size (by simp only [List.length_append, rcells_length]; omega) ?_
        intro v12 w12 o12 m12 _
        refine gset ?_
        have x12 : Ext w9 w12 := o11.mvx m12 x11 (Nat.le_refl _)
        have hrc : rcells A.ans ++ rcells A.auth ++ rcells A.extra = rcells (A.ans ++ A.auth ++ A.extra) := by simp [rcells]
        rw [hrc] at o12
        have hRl : (A.ans ++ A.auth ++ A.extra).length ≤ 500000 := by simp only [List.length_append]; omega
        generalize A.ans ++ A.auth ++ A.extra = R at *
        have sR := o12.sl
        have hd12 := hd9.ext x12
        have hp12 := hp9.ext x12
        have hv12 := hv9.ext x12
        have hx12 := hx9.trans x12
        have hrl := rcells_length R
        clear o10 o11 m10 m11 m12 ha11 g1 g2 g3 x10 x11 ha9 ha7 ha6 hp6 hp7 hp9 hv6 hv7 hv9 hd9
        repeat' (first | ((with_reducible refine o_s ?_); (first | (refine o_1 ?_; refine o_2 ?_) | (refine o_g ?_; first | refine o_u ?_ | refine o_k ?_ | refine o_n ?_ | refine o_v ?_ | ((first | refine o_G ?_ ?_ | refine o_N ?_ ?_) <;> intro hc)))) | ((fail_if_success (with_reducible refine o_s ?_)); go_step))
        go_loopw [10, 11, 12, 13, 14] (fun i _ _ _ _ wr => ∃ n : Nat, n ≤ R.length ∧ i = .int .i64 n ∧ Ext w12 wr) (fun i _ _ _ _ _ => R.length - (intOf i).toNat)
        case atStart => exact ⟨0, Nat.zero_le _, rfl, Ext.refl _⟩
        case round =>
          obtain ⟨n, hn, rfl, hx⟩ := hrel
          have sRr := sR.ext hx
          have hdr := hd12.ext hx
          have hpr := hp12.ext hx
          have hvr := hv12.ext hx
          by_cases hlt : n < R.length
          · have el := sRr.elem (rcells_at hlt)
            have hin := hall _ (List.getElem_mem hlt)
            generalize hr : R[n] = r at *
            repeat' (first | ((with_reducible refine o_s ?_); (first | (refine o_1 ?_; refine o_2 ?_) | (refine o_g ?_; first | refine o_u ?_ | refine o_k ?_ | refine o_n ?_ | refine o_v ?_ | ((first | refine o_G ?_ ?_ | refine o_N ?_ ?_) <;> intro hc)))) | ((fail_if_success (with_reducible refine o_s ?_)); go_step))
            have fnd : ∀ w', SetsAt w' v l → Calls Tryz.prog 48 #[v, str r.name, .int .i64 r.kind] w' (Ret w' fun e w'' => ∃ x, e = .tuple #[.agg #[str ((findS l r.name r.kind).getD zeroS).name, .int .i64 ((findS l r.name r.kind).getD zeroS).kind, .int .i64 ((findS l r.name r.kind).getD zeroS).ttl, x], .bool (findS l r.name r.kind).isSome] ∧ Own 0 1 9 w'' x (tcells ((findS l r.name r.kind).getD zeroS).data)) := fun w' h => by
              refine (r7_Find v l r.name r.kind w' h hb).mono ?_
              rintro e w'' ⟨y, rfl, hxx, hy⟩
              obtain ⟨x, rfl, hox⟩ := find_own hy
              exact ⟨_, rfl, hxx, x, rfl, hox⟩
            refine wph_region (S := fun w' => Ext wr w') (by decide +kernel) ?_
            intro wA xA hhA
            refine tk 0 ?_; refine gset ?_; refine tk 1 ?_; refine gset ?_; refine tk 2 ?_; refine gset ?_; refine tk 3 ?_; refine gset ?_; refine tk 4 ?_; refine gset ?_; refine tk 5 ?_; refine gset ?_; refine tk 6 ?_; refine gset ?_; refine tk 7 ?_; refine gset ?_; refine tk 8 ?_; refine gset ?_; refine tk 9 ?_; refine gset ?_; refine tk 10 ?_; refine gset ?_; refine tk 11 ?_; refine gset ?_
            apply meetK2 (F := fun (x : Value) (b : Nat) w' => Ext wr w' ∧ wr.heap.size ≤ b ∧ w'.heap[b]? = some (.cells zset.toArray 55 (0, 0)) ∧ Own 0 1 9 w' x (tcells ((findS l r.name r.kind).getD zeroS).data))
            · intro hG
              have hx := xA
              refine wph_two (i := 12) (j := 16) (by decide +kernel) rfl rfl rfl ?_ ?_
              · refine wpl_callR (enters_of Tryz.func48 rfl rfl) rfl rfl (fnd _ (hvr.ext hx)) ?_
                rintro _ wB xB ⟨x, rfl, ox⟩
                refine gset ?_
                have hx := hx.trans xB
                refine wph_nil ⟨hx, ?_⟩
                refine tk 13 ?_; refine gset ?_; refine tk 14 ?_; refine gset ?_; refine tk 15 ?_; refine gset ?_
                refine wph_one (i := 16) (by decide +kernel) rfl rfl ?_
                refine wpl_allocB (z := zset) rfl (by decide +kernel) ?_
                intro wC xC sC hbb
                have hbs := hx.size
                refine gset ?_
                have hx := hx.trans xC
                have ox := ox.ext xC
                refine wph_nil ⟨hx, ?_⟩
                generalize wB.heap.size = b at *
                exact hG x b _ ⟨hx, hbs, hbb, ox⟩
              · refine wpl_allocB (z := zset) rfl (by decide +kernel) ?_
                intro wB xB sB hbb
                have hbs := hx.size
                refine gset ?_
                have hx := hx.trans xB
                refine wph_nil ⟨hx, ?_⟩
                generalize wA.heap.size = b at *
                refine wph_one (i := 12) (by decide +kernel) rfl rfl ?_
                refine wpl_callR (enters_of Tryz.func48 rfl rfl) rfl rfl (fnd _ (hvr.ext hx)) ?_
                rintro _ wC xC ⟨x, rfl, ox⟩
                refine gset ?_
                have hx := hx.trans xC
                have hbb := xC.at hbb
                refine wph_nil ⟨hx, ?_⟩
                refine tk 13 ?_; refine gset ?_; refine tk 14 ?_; refine gset ?_; refine tk 15 ?_; refine gset ?_
                exact hG x b _ ⟨hx, hbs, hbb, ox⟩
            · rintro x b wE ⟨xE, hbs, hbE, ox⟩
              refine wph_one (i := 17) (by decide +kernel) rfl rfl ?_
              refine wpl_storeB (v := .agg #[str ((findS l r.name r.kind).getD zeroS).name, .int .i64 ((findS l r.name r.kind).getD zeroS).kind, .int .i64 ((findS l r.name r.kind).getD zeroS).ttl, x]) rfl rfl rfl hbE (show sizeTy Tryz.prog 55 4 = true by decide +kernel) rfl (all4 rfl rfl rfl ox.sl.one) ?_
              intro wF pF
              have xF : Ext wr wF := xE.move pF.mv (by rintro k ⟨⟩; exact hbs)
              have hs13 := pts_block (cs := [str ((findS l r.name r.kind).getD zeroS).name, .int .i64 ((findS l r.name r.kind).getD zeroS).kind, .int .i64 ((findS l r.name r.kind).getD zeroS).ttl, x]) pF.this
              have sx13 := (ox.mv pF.mv (.inr (ox.neBlock hbE (by decide)))).sl
              have el13 := el.ext xF
              have hd13 := hdr.ext xF
              have hp13 := hpr.ext xF
              have hv13 := hvr.ext xF
              have s13 := sRr.ext xF
              have hx13 := hx.trans xF
              refine wph_nil ⟨xF, ?_⟩
              refine tk 18 ?_; refine gset ?_
              refine wph_done (by decide +kernel) ?_
              clear el hdr hpr hvr sRr pF hbE ox xE hbs fnd
              repeat' (first | ((with_reducible refine o_s ?_); (first | (refine o_1 ?_; refine o_2 ?_) | (refine o_g ?_; first | refine o_u ?_ | refine o_k ?_ | refine o_n ?_ | refine o_v ?_ | ((first | refine o_G ?_ ?_ | refine o_N ?_ ?_) <;> intro hc)))) | ((fail_if_success (with_reducible refine o_s ?_)); go_step))
              refine wpq_region (by decide +kernel) (by decide +kernel) ?_
              repeat' (first | ((with_reducible refine q_s ?_); (first | (refine q_1 ?_; refine q_2 ?_) | (refine q_g ?_; first | refine q_u ?_ | refine q_k ?_ | refine q_v ?_))) | (with_reducible refine q_n ?_))
              refine wpq_run0 (fun w' _ => Runs.eqlRec (r := r) (q := denZ o l) rfl rfl) ?_
              refine gset ?_
              by_cases hrd : r = denZ o l
              · rw [decide_eq_true hrd]
                repeat' (first | ((with_reducible refine q_s ?_); (first | (refine q_1 ?_; refine q_2 ?_) | (refine q_g ?_; first | refine q_u ?_ | refine q_k ?_ | refine q_v ?_))) | (with_reducible refine q_n ?_))
                intro w14 x14
                repeat' (first | ((with_reducible refine o_s ?_); (first | (refine o_1 ?_; refine o_2 ?_) | (refine o_g ?_; first | refine o_u ?_ | refine o_k ?_ | refine o_n ?_ | refine o_v ?_ | ((first | refine o_G ?_ ?_ | refine o_N ?_ ?_) <;> intro hc)))) | ((fail_if_success (with_reducible refine o_s ?_)); go_step))
                exact ⟨⟨n + 1, by omega, by go_num, hx13.trans x14⟩, by simp [intOf]; omega⟩
              · rw [decide_eq_false hrd]
                repeat' (first | ((with_reducible refine q_s ?_); (first | (refine q_1 ?_; refine q_2 ?_) | (refine q_g ?_; first | refine q_u ?_ | refine q_k ?_ | refine q_v ?_))) | (with_reducible refine q_n ?_))
                refine wpq_call (enters_of Tryz.func49 rfl rfl) rfl rfl (fun w' x' => p_Exists o v l r.name w' (hv13.ext x') hb) ?_
                refine gset ?_
                rw [decide_eq_true z1, Bool.true_and]
                repeat' (first | ((with_reducible refine q_s ?_); (first | (refine q_1 ?_; refine q_2 ?_) | (refine q_g ?_; first | refine q_u ?_ | refine q_k ?_ | refine q_v ?_))) | (with_reducible refine q_n ?_))
                intro w14 x14
                cases hth : thereS o l r.name with
                | false =>
                  repeat' (first | ((with_reducible refine o_s ?_); (first | (refine o_1 ?_; refine o_2 ?_) | (refine o_g ?_; first | refine o_u ?_ | refine o_k ?_ | refine o_n ?_ | refine o_v ?_ | ((first | refine o_G ?_ ?_ | refine o_N ?_ ?_) <;> intro hc)))) | ((fail_if_success (with_reducible refine o_s ?_)); go_step))
                  exact ⟨⟨n + 1, by omega, by go_num, hx13.trans x14⟩, by simp [intOf]; omega⟩
                | true =>
                  obtain ⟨s, hf, ht, hmem, h20⟩ := told_in hz (hin) hrd hth
                  have hgs : (findS l r.name r.kind).getD zeroS = s := by rw [hf]; rfl
                  have hiss : (findS l r.name r.kind).isSome = true := by rw [hf]; rfl
                  rw [hgs] at hs13 sx13
                  rw [hiss]
                  have hs14 := hs13.ext x14
                  have sx14 := sx13.ext x14
                  have el14 := el13.ext x14
                  have s14 := s13.ext x14
                  have hx14 := hx13.trans x14
                  have htl := tcells_length s.data
                  rw [ht] at hs14
                  have hle14 := sx14.le
                  rw [htl] at hle14
                  clear hs13 sx13 el13 hd13 hp13 hv13 s13
                  repeat' (first | ((with_reducible refine o_s ?_); (first | (refine o_1 ?_; refine o_2 ?_) | (refine o_g ?_; first | refine o_u ?_ | refine o_k ?_ | refine o_n ?_ | refine o_v ?_ | ((first | refine o_G ?_ ?_ | refine o_N ?_ ?_) <;> intro hc)))) | ((fail_if_success (with_reducible refine o_s ?_)); go_step))
                  go_loopw [13, 14] (fun bv i wr => ∃ m : Nat, m ≤ s.data.length ∧ i = .int .i64 m ∧ Ext w14 wr ∧ bv = .bool (decide (r.data ∈ s.data.take m))) (fun _ i _ => s.data.length - (intOf i).toNat)
                  case atStart => exact ⟨0, Nat.zero_le _, rfl, Ext.refl _, by simp⟩
                  case round =>
                    obtain ⟨m, hm, rfl, hxm, rfl⟩ := hrel
                    have hsm := hs14.ext hxm
                    have sxm := sx14.ext hxm
                    have elm := el14.ext hxm
                    have sm := s14.ext hxm
                    by_cases hlm : m < s.data.length
                    · have edm := sxm.elem (tcells_get _ _ _ (List.getElem?_eq_getElem hlm))
                      have hstep : (r.data ∈ s.data.take (m + 1)) ↔ r.data ∈ s.data.take m ∨ s.data[m] = r.data := mem_take_succ hlm
                      repeat' (first | ((with_reducible refine o_s ?_); (first | (refine o_1 ?_; refine o_2 ?_) | (refine o_g ?_; first | refine o_u ?_ | refine o_k ?_ | refine o_n ?_ | refine o_v ?_ | ((first | refine o_G ?_ ?_ | refine o_N ?_ ?_) <;> intro hc)))) | ((fail_if_success (with_reducible refine o_s ?_)); go_step))
                      refine wpq_region (by decide +kernel) (by decide +kernel) ?_
                      by_cases hin2 : r.data ∈ s.data.take m
                      · rw [decide_eq_true hin2]
                        repeat' (first | ((with_reducible refine q_s ?_); (first | (refine q_1 ?_; refine q_2 ?_) | (refine q_g ?_; first | refine q_u ?_ | refine q_k ?_ | refine q_v ?_))) | (with_reducible refine q_n ?_))
                        intro w15 x15
                        repeat' (first | ((with_reducible refine o_s ?_); (first | (refine o_1 ?_; refine o_2 ?_) | (refine o_g ?_; first | refine o_u ?_ | refine o_k ?_ | refine o_n ?_ | refine o_v ?_ | ((first | refine o_G ?_ ?_ | refine o_N ?_ ?_) <;> intro hc)))) | ((fail_if_success (with_reducible refine o_s ?_)); go_step))
                        exact ⟨⟨m + 1, by omega, by go_num, hxm.trans x15, by rw [decide_eq_true (hstep.2 (.inl hin2))]⟩, by simp [intOf]; omega⟩
                      · rw [decide_eq_false hin2]
                        repeat' (first | ((with_reducible refine q_s ?_); (first | (refine q_1 ?_; refine q_2 ?_) | (refine q_g ?_; first | refine q_u ?_ | refine q_k ?_ | refine q_v ?_))) | (with_reducible refine q_n ?_))
                        intro w15 x15
                        repeat' (first | ((with_reducible refine o_s ?_); (first | (refine o_1 ?_; refine o_2 ?_) | (refine o_g ?_; first | refine o_u ?_ | refine o_k ?_ | refine o_n ?_ | refine o_v ?_ | ((first | refine o_G ?_ ?_ | refine o_N ?_ ?_) <;> intro hc)))) | ((fail_if_success (with_reducible refine o_s ?_)); go_step))
                        refine ⟨⟨m + 1, by omega, by go_num, hxm.trans x15, ?_⟩, by simp [intOf]; omega⟩
                        congr 1
                        by_cases he : s.data[m] = r.data
                        · rw [decide_eq_true he, decide_eq_true (hstep.2 (.inr he))]
                        · rw [decide_eq_false he, decide_eq_false (fun h => by rcases hstep.1 h with h | h; exact hin2 h; exact he h)]
                    · have : m = s.data.length := by omega
                      subst this
                      rw [List.take_length, decide_eq_true hmem]
                      repeat' (first | ((with_reducible refine o_s ?_); (first | (refine o_1 ?_; refine o_2 ?_) | (refine o_g ?_; first | refine o_u ?_ | refine o_k ?_ | refine o_n ?_ | refine o_v ?_ | ((first | refine o_G ?_ ?_ | refine o_N ?_ ?_) <;> intro hc)))) | ((fail_if_success (with_reducible refine o_s ?_)); go_step))
                      refine wpq_region (by decide +kernel) (by decide +kernel) ?_
                      repeat' (first | ((with_reducible refine q_s ?_); (first | (refine q_1 ?_; refine q_2 ?_) | (refine q_g ?_; first | refine q_u ?_ | refine q_k ?_ | refine q_v ?_))) | (with_reducible refine q_n ?_))
                      intro w15 x15
                      repeat' (first | ((with_reducible refine o_s ?_); (first | (refine o_1 ?_; refine o_2 ?_) | (refine o_g ?_; first | refine o_u ?_ | refine o_k ?_ | refine o_n ?_ | refine o_v ?_ | ((first | refine o_G ?_ ?_ | refine o_N ?_ ?_) <;> intro hc)))) | ((fail_if_success (with_reducible refine o_s ?_)); go_step))
                      exact ⟨⟨n + 1, by omega, by go_num, hx13.trans (x14.trans (hxm.trans x15))⟩, by simp [intOf]; omega⟩
          · repeat' (first | ((with_reducible refine o_s ?_); (first | (refine o_1 ?_; refine o_2 ?_) | (refine o_g ?_; first | refine o_u ?_ | refine o_k ?_ | refine o_n ?_ | refine o_v ?_ | ((first | refine o_G ?_ ?_ | refine o_N ?_ ?_) <;> intro hc)))) | ((fail_if_success (with_reducible refine o_s ?_)); go_step))
            refine wpl_callV (enters_of Tryz.func38 rfl rfl) rfl rfl (l9_live _) ?_; intro w13 x13; refine gset ?_
            repeat' (first | ((with_reducible refine o_s ?_); (first | (refine o_1 ?_; refine o_2 ?_) | (refine o_g ?_; first | refine o_u ?_ | refine o_k ?_ | refine o_n ?_ | refine o_v ?_ | ((first | refine o_G ?_ ?_ | refine o_N ?_ ?_) <;> intro hc)))) | ((fail_if_success (with_reducible refine o_s ?_)); go_step))
            go_ret
            exact ⟨rfl, hx12.trans (hx.trans x13)⟩
      · have hA : askA o l q k = zeroA := by rw [askA, if_pos hE]
        rw [hA] at g1 g2 g3
        repeat' (first | ((with_reducible refine o_s ?_); (first | (refine o_1 ?_; refine o_2 ?_) | (refine o_g ?_; first | refine o_u ?_ | refine o_k ?_ | refine o_n ?_ | refine o_v ?_ | ((first | refine o_G ?_ ?_ | refine o_N ?_ ?_) <;> intro hc)))) | ((fail_if_success (with_reducible refine o_s ?_)); go_step))
        all_goals first
          | (exfalso
             exact (‹¬ ((rcells zeroA.ans).length : Int) = 0›) rfl)
          | (exfalso
             exact (‹¬ ((rcells zeroA.auth).length : Int) = 0›) rfl)
          | (exfalso
             exact (‹¬ ((rcells zeroA.extra).length : Int) = 0›) rfl)
          | (exfalso
             have hh := ‹(!decide (askE o l q = 0)) = false›
             simp [hE] at hh
             done)
          | (refine wpl_callV (enters_of Tryz.func38 rfl rfl) rfl rfl (l9_live _) ?_; intro w7 x7; refine gset ?_
             repeat' (first | ((with_reducible refine o_s ?_); (first | (refine o_1 ?_; refine o_2 ?_) | (refine o_g ?_; first | refine o_u ?_ | refine o_k ?_ | refine o_n ?_ | refine o_v ?_ | ((first | refine o_G ?_ ?_ | refine o_N ?_ ?_) <;> intro hc)))) | ((fail_if_success (with_reducible refine o_s ?_)); go_step))
             go_ret
             exact ⟨rfl, hx6.trans x7⟩)
open Go.ChangeShapes Go.WideShapes Go.ChangeAt Go.RowKit
theorem own : ownKnob Tryz.prog.godebug = none := by kernel_rfl
theorem laidOut : laidOutB Tryz.prog = true := by kernel_rfl
open Go.ChangeShapes Go.WideShapes Go.ChangeAt Go.RowKit
theorem open_texts {H : Type} {enc : TypeId × Value → H} {w : World} {base : Nat} {spare : Nat → Bool} {held : Bool} {fuel : Nat} {v : Value} {x : DataW H × List MemPlace} (h : DataW.trod enc Tryz.prog w base spare held fuel 53 [v] = some x) : ∃ l : List (List UInt8), Sl 1 w v (tcells l) := by
  obtain ⟨es, hs, he⟩ := open_rows Tryz.underlying53 (show Tryz.prog.cellsOf 9 = 1 by kernel_rfl) (by omega) h
  obtain ⟨l, rfl⟩ : ∃ l : List (List UInt8), es = l.map fun s => [str s] := by
    refine all_map fun c hc => ?_
    obtain ⟨n, y, hy⟩ := he c hc
    have hl : c.length = 1 := by
      obtain ⟨_, _, _, _, _, h4, _, _⟩ := hs
      exact h4 c hc
    match c, hl with
    | [a], _ =>
      obtain ⟨s, rfl, _⟩ := trod_str Tryz.underlying9 hy
      exact ⟨s, rfl⟩
  exact ⟨l, hs⟩
theorem open_sets {H : Type} {enc : TypeId × Value → H} {w : World} {base : Nat} {spare : Nat → Bool} {held : Bool} {fuel : Nat} {v : Value} {x : DataW H × List MemPlace} (h : DataW.trod enc Tryz.prog w base spare held fuel 23 [v] = some x) : ∃ l : List RSet, SetsAt w v l := by
  obtain ⟨es, hs, he⟩ := open_rows Tryz.underlying23 (show Tryz.prog.cellsOf 55 = 4 by kernel_rfl) (by omega) h
  obtain ⟨l, rfl⟩ : ∃ l : List {p : RSet × Value // Sl 1 w p.2 (tcells p.1.data)}, es = l.map fun p => [str p.1.1.name, .int .i64 p.1.1.kind, .int .i64 p.1.1.ttl, p.1.2] := by
    refine all_map fun c hc => ?_
    obtain ⟨n, y, hy⟩ := he c hc
    obtain ⟨xs, n', _, _, hl, hxl, hf⟩ := DataW.trod_struct Tryz.underlying55 hy
    have c30 : Tryz.prog.cellsOf 22 = 1 := by kernel_rfl
    have c3 : Tryz.prog.cellsOf 3 = 1 := by kernel_rfl
    have c35 : Tryz.prog.cellsOf 53 = 1 := by kernel_rfl
    have c37 : Tryz.prog.cellsOf 55 = 4 := by kernel_rfl
    rw [c37] at hl
    match c, hl, xs, hxl with
    | [a, b, d, e], _, [y0, y1, y2, y3], _ =>
      have g0 := hf 0 _ rfl
      have g1 := hf 1 _ rfl
      have g2 := hf 2 _ rfl
      have g3 := hf 3 _ rfl
      simp [c30, c3, c35] at g0 g1 g2 g3
      obtain ⟨s0, rfl, _⟩ := trod_str Tryz.underlying22 g0
      obtain ⟨n1, rfl, _⟩ := trod_num Tryz.underlying3 g1
      obtain ⟨n2, rfl, _⟩ := trod_num Tryz.underlying3 g2
      obtain ⟨ts, hts⟩ := open_texts g3
      exact ⟨⟨(⟨s0, n1, n2, ts⟩, e), hts⟩, rfl⟩
  refine ⟨l.map fun p => p.1.1, _, hs, by simp, ?_⟩
  intro i s hi
  rw [List.getElem?_map] at hi
  obtain ⟨p, hp, rfl⟩ := Option.map_eq_some_iff.1 hi
  exact ⟨p.1.2, by rw [List.getElem?_map, hp]; rfl, p.2⟩
open Go.ChangeShapes Go.WideShapes Go.ChangeAt Go.RowKit
theorem open_zone {H : Type} {enc : TypeId × Value → H} {w : World} {base : Nat} {spare : Nat → Bool} {held : Bool} {fuel : Nat} {c : Array Value} {x : DataW H × List MemPlace} (h : DataW.trod enc Tryz.prog w base spare held fuel 25 (Value.agg c).cells.toList = some x) : ∃ (o : List UInt8) (l : List RSet) (u : Value), c = #[str o, u] ∧ SetsAt w u l := by
  have e : (Value.agg c).cells.toList = c.toList := rfl
  rw [e] at h
  obtain ⟨xs, n', _, _, hl, hxl, hf⟩ := DataW.trod_struct Tryz.underlying25 h
  have c30 : Tryz.prog.cellsOf 22 = 1 := by kernel_rfl
  have c25 : Tryz.prog.cellsOf 23 = 1 := by kernel_rfl
  have c43 : Tryz.prog.cellsOf 25 = 2 := by kernel_rfl
  rw [c43] at hl
  obtain ⟨cl⟩ := c
  match cl, hl, xs, hxl with
  | [a, b], _, [y0, y1], _ =>
    have g0 := hf 0 _ rfl
    have g1 := hf 1 _ rfl
    simp [c30, c25] at g0 g1
    obtain ⟨s0, rfl, _⟩ := trod_str Tryz.underlying22 g0
    obtain ⟨l, hls⟩ := open_sets g1
    exact ⟨s0, l, b, rfl, hls⟩
open Go.ChangeShapes Go.WideShapes Go.ChangeAt Go.RowKit
theorem open_quest {H : Type} {enc : TypeId × Value → H} {w : World} {base : Nat} {spare : Nat → Bool} {held : Bool} {fuel : Nat} {c : Array Value} {x : DataW H × List MemPlace} (h : DataW.trod enc Tryz.prog w base spare held fuel 65 (Value.agg c).cells.toList = some x) : ∃ (q : List UInt8) (k : Int), c = #[str q, .int .i64 k] := by
  have e : (Value.agg c).cells.toList = c.toList := rfl
  rw [e] at h
  obtain ⟨xs, n', _, _, hl, hxl, hf⟩ := DataW.trod_struct Tryz.underlying65 h
  have c3 : Tryz.prog.cellsOf 3 = 1 := by kernel_rfl
  have c22 : Tryz.prog.cellsOf 22 = 1 := by kernel_rfl
  have c65 : Tryz.prog.cellsOf 65 = 2 := by kernel_rfl
  rw [c65] at hl
  obtain ⟨cl⟩ := c
  match cl, hl, xs, hxl with
  | [a, b], _, [y0, y1], _ =>
    have g0 := hf 0 _ rfl
    have g1 := hf 1 _ rfl
    simp [c3, c22] at g0 g1
    obtain ⟨s0, rfl, _⟩ := trod_str Tryz.underlying22 g0
    obtain ⟨n1, rfl, _⟩ := trod_num Tryz.underlying3 g1
    exact ⟨s0, n1, rfl⟩
open Go.ChangeShapes Go.WideShapes Go.ChangeAt Go.RowKit
set_option maxRecDepth 100000 in
theorem lookupIn_lifted (os : Os) (started : os.Started) (H : Type) (enc : TypeId × Value → H) :
    ReturnsInHanded {} Tryz.checked os 13 .any (YtoajkilickakiaaGreat.Rows.lookupInSpec.pre6 enc Tryz.prog Tryz.f13 YtoajkilickakiaaGreat.Rows.lookupInRow.domain false) (YtoajkilickakiaaGreat.Rows.lookupInSpec.post enc Tryz.prog Tryz.f13 false true false false) := by
  refine returnsInHanded_of_change (C := Tryz.checked) own started (by kernel_rfl) Tryz.func13
    (ChangeSpec.witness6 (enc := enc) (C := Tryz.checked) false ⟨#[], #[.agg #[str [], .slice none 0 0], .agg #[str [], .int .i64 0]], []⟩ 8 (by kernel_rfl) (by kernel_rfl) (by kernel_rfl) (by kernel_rfl)) ?_
  intro W base args ds gs before hval0 hW hcnd _
  have hW' := hW
  obtain ⟨p, q, hA0, hV, rfl, hfz, hnd⟩ := hW
  have hA : DataW.TrodAll enc Tryz.prog W 0 (fun _ => true) true Tryz.f13.params.toList args.toList ds p := hA0
  have hval : ∀ (j : Nat) t v, Tryz.f13.params[j]? = some t → args[j]? = some v → Value.okWide Tryz.prog W .any base t v := hval0
  rw [Tryz.params13] at hA hval
  obtain ⟨v0, vs0, d0, ds0, p0, q0, hargs, rfl, rfl, h0, r0⟩ := trodAll_cons hA
  obtain ⟨v1, vs1, d1, ds1, p1, q1, rfl, rfl, rfl, h1, r1⟩ := trodAll_cons r0
  obtain ⟨rfl, rfl, rfl⟩ := trodAll_nil r1
  obtain rfl : args = #[v0, v1] := by cases args; simp_all
  obtain ⟨rfl, rfl⟩ := trodVars_none hV
  have k0 := h0
  have k1 := h1
  have lt0 : ∀ x ∈ p0, x.block < W.heap.size := by obtain ⟨m, hm⟩ := k0; exact DataW.trod_lt m _ _ _ hm
  have lt1 : ∀ x ∈ p1, x.block < W.heap.size := by obtain ⟨m, hm⟩ := k1; exact DataW.trod_lt m _ _ _ hm
  obtain ⟨c0, rfl, z0⟩ := okWide_struct Tryz.underlying25 (hval 0 25 v0 rfl rfl)
  obtain ⟨o0, l0, w0, e0, g0⟩ : ∃ (o : List UInt8) (l : List RSet) (u : Value), c0 = #[str o, u] ∧ SetsAt W u l := by
    obtain ⟨fuel, hf⟩ := h0
    exact open_zone hf
  subst e0
  obtain ⟨c1, rfl, z1⟩ := okWide_struct Tryz.underlying65 (hval 1 65 v1 rfl rfl)
  obtain ⟨q1', n1, e1⟩ : ∃ (q : List UInt8) (k : Int), c1 = #[str q, .int .i64 k] := by
    obtain ⟨fuel, hf⟩ := h1
    exact open_quest hf
  subst e1
  clear hA0 hval0
  have h9 := k13 o0 w0 l0 q1' n1 W g0
  refine h9.mono fun e W' ⟨he, hx⟩ => ?_
  subst he
  have bel := hx.below
  exact ⟨_, rfl, _, _, _, [], _, [], hW', trodAll_mk1 (shut_bool Tryz.underlying4 _), (trodAll_cons_mk (Below.trod laidOut (by kernel_rfl) (of_decide_eq_true (by kernel_rfl)) k0 bel lt0) (trodAll_cons_mk (Below.trod laidOut (by kernel_rfl) (of_decide_eq_true (by kernel_rfl)) k1 bel lt1) trodAll_mk0)), rfl, bel.frame _, fun h => by cases h⟩
theorem e_enter : Tryz.checked.prog.mayEnter = true := by kernel_rfl
theorem e_lift : (YtoajkilickakiaaGreat.Rows.lookupInRow.lifted == Tryz.checked.prog.liftsFinal) = true := by kernel_rfl
theorem e_make : (Tryz.checked.prog.make == some YtoajkilickakiaaGreat.Rows.lookupInRow.make) = true := by kernel_rfl
theorem lookupIn_closed : joinedFacts Tryz.checked.prog 13 Tryz.f13 YtoajkilickakiaaGreat.Rows.lookupInSpec YtoajkilickakiaaGreat.Rows.lookupInRow = true := by
  unfold joinedFacts
  simp only [Bool.and_eq_true]
  repeat' (refine And.intro ?_ ?_)
  all_goals first | (with_reducible exact e_enter) | (with_reducible exact e_lift) | (with_reducible exact e_make) | kernel_rfl
theorem lookupIn_holds : YtoajkilickakiaaGreat.Rows.LookupInSaid :=
  OpenClaim.holds_of_wide 13 Tryz.f13 rfl rfl rfl rfl rfl rfl rfl ⟨rfl, rfl, rfl, rfl, rfl⟩ rfl rfl rfl rfl rfl (by kernel_rfl) Tryz.func13 lookupIn_closed
    (of_decide_eq_true (by kernel_rfl)) (by unfold Func.isWrapper; first | (rw [if_pos (by decide +kernel)]; kernel_rfl) | (rw [if_neg (by decide +kernel)]; exact ⟨rfl, rfl⟩))
    (fun os started H enc _ => lookupIn_lifted os started H enc)
end Go.Proofs.X
