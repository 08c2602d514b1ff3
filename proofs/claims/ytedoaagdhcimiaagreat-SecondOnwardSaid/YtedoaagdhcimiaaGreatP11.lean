/- Laws and walks that the proof of the statement is made of (part 11). -/
import Derived.Test.YtedoaagdhcimiaaGreatProg
import Derived.Laws.Pointers
import Derived.OwnWalk
import Derived.Test.YtedoaagdhcimiaaGreatShelf
import Derived.Lib.Hide
import Derived.Shelf.SlSortCmp.NoneTotal
import Derived.Shelf.RegionOpenPlain
import Derived.Lib.Strings
import Derived.Lib.Slices
import Derived.Lib.Walk
import Derived.Lib.Builder
import Derived.Lib.AppendStr
import Derived.Lib.UnsafeStr
import Derived.Lib.MakeNoZero
import Derived.WalkKit
import Derived.Laws.Externs
import Derived.Laws.IdiomCopy
import Derived.Laws.BitsLemmas
import GoSem.Claims
import Derived.OrdersIn
import Derived.LoopIn
import Derived.WalkMore
import Derived.ScopeJumps
import Derived.Test.YtedoaagdhcimiaaGreatP1
import Derived.Test.YtedoaagdhcimiaaGreatP2
import Derived.Test.YtedoaagdhcimiaaGreatP3
import Derived.Test.YtedoaagdhcimiaaGreatP4
import Derived.Test.YtedoaagdhcimiaaGreatP5
import Derived.Test.YtedoaagdhcimiaaGreatP6
import Derived.Test.YtedoaagdhcimiaaGreatP7
import Derived.Test.YtedoaagdhcimiaaGreatP8
import Derived.Test.YtedoaagdhcimiaaGreatP9
import Derived.Test.YtedoaagdhcimiaaGreatP10
set_option linter.unusedSimpArgs false
set_option linter.unusedVariables false
namespace Go.Proofs.X
open Go.RowKit
set_option maxRecDepth 100000
def slLen (v : Value) : Nat := match v with | .slice _ n _ => n | _ => 0
theorem Sl.slLen {k : Nat} {w : World} {v : Value} {es : List (List Value)} (h : Sl k w v es) : slLen v = es.length := by
  obtain ⟨a, cap, rfl, _⟩ := h
  rfl
def ZEU (B : Nat) (q : ZE) (r : Value) (w' : World) : Prop := ∃ y, r = .tuple #[.agg #[str q.o, y], .int .i64 q.e] ∧ SetsO B w' y q.l
theorem ZEU.bad {B : Nat} {e : Int} {w' : World} : ZEU B (ZE.bad e) (.tuple #[.agg zzone.toArray, .int .i64 e]) w' := ⟨.slice none 0 0, rfl, SetsO.nil _ _⟩
theorem headOf_at {l : List Rec} (h : l ≠ []) : (rcells l)[0]? = some [str (headOf l).name, .int .i64 (headOf l).kind, .int .i64 (headOf l).ttl, str (headOf l).data] := by
  cases l with
  | nil => exact absurd rfl h
  | cons r t => rfl
theorem headOf_mem {l : List Rec} (h : l ≠ []) : headOf l ∈ l := by
  cases l with
  | nil => exact absurd rfl h
  | cons r t => exact List.mem_cons_self
section
variable {P : Program} {a : Act} {w : World} {Q : Exit → Act → World → Prop}
theorem wp_scope_back {c body : Code} (l : Nat) (J : Act → World → Prop) (μ : Act → World → Nat) (hf : findLabel c l = some (Code.skip.seq body))
    (pass : ∀ a w, J a w → body.wp P (Exit.jump l (fun a' w' => J a' w' ∧ μ a' w' < μ a w) Q) a w)
    (first : (∀ a w, J a w → body.wp P (Exit.jump l J Q) a w) → c.wp P (Exit.jump l J Q) a w) : (Code.scope c).wp P Q a w :=
  wp_scope_jumps l J μ hf (first fun a w h => wp_mono (pass a w h) (by intro e a' w' hq; cases e <;> first | exact hq | exact ⟨hq.1, hq.2.1⟩)) (fun a w h => by
    have h' := pass a w h
    apply wp_seq_k
    intro K hK
    apply wp_skip
    exact hK _ _ h')
end
set_option maxHeartbeats 8000000 in
theorem p_changed (o : List UInt8) (v : Value) (l : List RSet) (rv : Value) (rs : List Rec) (w : World) (hv : SetsAt w v l) (hr : Sl 4 w rv (rcells rs)) (bl : ∀ s ∈ l, s.data.length ≤ 1000000) (dl : ∀ s ∈ l, ∀ d ∈ s.data, d.length ≤ 1000000) (h1 : (recordsS l).length ≤ 5000) (h2 : rs.length ≤ 5000) (dn : ∀ q ∈ rs, q.data.length ≤ 1000000) (hne : rs ≠ []) :
    Calls Tryz.prog 167 #[.agg #[str o, v], rv] w (Ret w (ZEU w.heap.size (chgZ o l rs))) := by
  go_enter Tryz.func167, Tryz.ntmps167
  repeat' (first | ((with_reducible refine nx0 ?_); go_step) | fail)
  refine wpl_boxB (vs := [str o, v]) rfl rfl ?_
  intro w1 x1 s1 hb1
  refine gset ?_
  refine wpl_allocB (z := zzone) rfl (by decide +kernel) ?_
  intro w2 x2 s2 hb2
  refine gset ?_
  (repeat' first | ((with_reducible refine nx0 ?_); go_step) | ((with_reducible refine o_s ?_); first | refine wk0 ?_ | (refine wg0 ?_ ?_ <;> intro hc)) | fail)
  generalize hb1e : w.heap.size = b1 at *
  generalize hb2e : w1.heap.size = b2 at *
  refine wp_scope_back 0 (fun a' wr => ∃ (rs' : List Rec) (l' : List RSet) (o' : List UInt8) (v' rv' u6 u7 u8 u9 u10 u11 u12 u13 u14 u15 u16 u17 u18 u19 u20 u21 u22 u23 u24 u25 u26 u27 u28 u29 u30 u31 u32 u33 u34 u35 u36 u37 u38 u39 u40 u41 u42 u43 u44 u45 u46 u47 u48 u49 u50 u51 : Value), a' = Act.mk [.agg #[str o, v], rv', .pointer (some ⟨b1, 0, none⟩), undef, .pointer (some ⟨b2, 0, none⟩), .int .i64 0, u6, u7, u8, u9, u10, u11, u12, u13, u14, u15, u16, u17, u18, u19, u20, u21, u22, u23, u24, u25, u26, u27, u28, u29, u30, u31, u32, u33, u34, u35, u36, u37, u38, u39, u40, u41, u42, u43, u44, u45, u46, u47, u48, u49, u50, u51].toArray [] ∧
    Sl 4 w rv' (rcells rs') ∧ wr.heap[b1]? = some (.cells [str o', v'].toArray 34 (0, 0)) ∧ wr.heap[b2]? = some (.cells zzone.toArray 34 (0, 0)) ∧ SetsAt wr v' l' ∧ (rs' ≠ [] ∨ SetsO w2.heap.size wr v' l') ∧ chgZ o l rs = chgZ o' l' rs' ∧ Ext w wr ∧ w2.heap.size ≤ wr.heap.size ∧ (∀ q ∈ rs', q ∈ rs) ∧ rs'.length ≤ 5000 ∧ (∀ s ∈ l', s.data.length ≤ 1000000) ∧ (∀ s ∈ l', ∀ d ∈ s.data, d.length ≤ 1000000) ∧ (recordsS l').length ≤ 5000)
    (fun a' _ => slLen (a'.tmps.getD 1 undef)) rfl ?_ ?_
  · rintro a' wr ⟨rs', l', o', v', rv', u6, u7, u8, u9, u10, u11, u12, u13, u14, u15, u16, u17, u18, u19, u20, u21, u22, u23, u24, u25, u26, u27, u28, u29, u30, u31, u32, u33, u34, u35, u36, u37, u38, u39, u40, u41, u42, u43, u44, u45, u46, u47, u48, u49, u50, u51, rfl, hs0, hz, hy, hv', hown, hch, hx, hsz, hmem, hlen, bl', dl', h1'⟩
    have hpz := pts_block (cs := [str o', v']) hz
    have hrl := rcells_length rs'
    have hs := hs0.ext hx
    by_cases he : rs' = []
    · subst he
      have hO : SetsO w2.heap.size wr v' l' := by
        rcases hown with h | h
        · exact absurd rfl h
        · exact h
      have hv1' : v'.oneCell' = true := by obtain ⟨_, hq, _⟩ := hv'.sl; exact hq.one
      (repeat' first | ((with_reducible refine nx0 ?_); go_step) | ((with_reducible refine o_s ?_); first | refine wk0 ?_ | (refine wg0 ?_ ?_ <;> intro hc)) | fail)
      refine wpl_storeB (v := .agg #[str o', v']) rfl rfl rfl hy (show sizeTy Tryz.prog 34 2 = true by decide +kernel) rfl (zone_one hv1') ?_
      intro w3 p3
      (repeat' first | ((with_reducible refine nx0 ?_); go_step) | ((with_reducible refine o_s ?_); first | refine wk0 ?_ | (refine wg0 ?_ ?_ <;> intro hc)) | fail)
      simp only [Exit.inBlock, Exit.then, Exit.jump]
      have hb2lt : b2 < w2.heap.size := by omega
      have x3 : Ext w w3 := hx.move p3.mv (by rintro k ⟨⟩; omega)
      have hO3 := hO.put p3 hb2lt
      refine bodyPost_ret (results_cellT (cs := [str o', v']) rfl rfl p3.this (show aggTy Tryz.prog 34 2 = true by decide +kernel)) rfl ⟨_, rfl, x3, ?_⟩
      rw [hch, chgZ_nil]
      exact ⟨v', rfl, hO3.weaken (by omega)⟩
    · have he0 : ¬ ((rcells rs').length : Int) = 0 := by
        have := List.length_pos_iff.2 he
        omega
      (repeat' first | ((with_reducible refine nx0 ?_); go_step) | ((with_reducible refine o_s ?_); first | refine wk0 ?_ | (refine wg0 ?_ ?_ <;> intro hc)) | fail)
      all_goals first
        | (exact absurd ‹((rcells rs').length : Int) = 0› he0)
        | skip
      have hpn := partN_le he
      obtain ⟨hg0, hsv0⟩ := parts hs0 hpn.2
      refine wpl_callV (enters_of Tryz.func214 rfl rfl) rfl rfl (p_part rv' rs' _ hs he (by omega)) ?_; intro w3 x3; refine gset ?_
      generalize cutSl rv' 4 0 (partN rs') = gv at *
      generalize cutSl rv' 4 (partN rs') rs'.length = sv at *
      have hg := hg0.ext (hx.trans x3)
      have hsv := hsv0.ext (hx.trans x3)
      (repeat' first | ((with_reducible refine nx0 ?_); go_step) | ((with_reducible refine o_s ?_); first | refine wk0 ?_ | (refine wg0 ?_ ?_ <;> intro hc)) | fail)
      · have hre : rs'.drop (partN rs') = [] := by
          have h0 : ((rcells (rs'.drop (partN rs'))).length : Int) = 0 := by assumption
          rw [rcells_length] at h0
          exact List.eq_nil_of_length_eq_zero (by omega)
        refine wpl_run (v := .agg zzone.toArray) rfl (Runs.build0 (by kernel_rfl)) ?_
        refine gset ?_
        refine wpl_storeB (v := .agg zzone.toArray) rfl rfl rfl (x3.at hy) (show sizeTy Tryz.prog 34 2 = true by decide +kernel) rfl (by decide +kernel) ?_
        intro w4 p4
        (repeat' first | ((with_reducible refine nx0 ?_); go_step) | ((with_reducible refine o_s ?_); first | refine wk0 ?_ | (refine wg0 ?_ ?_ <;> intro hc)) | fail)
        simp only [Exit.inBlock, Exit.then, Exit.jump]
        have x4 : Ext w w4 := (hx.trans x3).move p4.mv (by rintro k ⟨⟩; omega)
        refine bodyPost_ret (results_cellT (cs := zzone) rfl rfl p4.this (by decide +kernel)) rfl ⟨_, rfl, x4, ?_⟩
        rw [hch, chgZ_cons _ _ he, if_pos hre]
        exact ZEU.bad
      · have hre : rs'.drop (partN rs') ≠ [] := by
          intro e
          have h0 : ¬ ((rcells (rs'.drop (partN rs'))).length : Int) = 0 := by assumption
          rw [e] at h0
          exact h0 rfl
        obtain ⟨hc0, htv0⟩ := parts hsv0 (partN_le hre).2
        refine wpl_callV (enters_of Tryz.func214 rfl rfl) rfl rfl (p_part sv _ _ hsv hre (by rw [List.length_drop]; omega)) ?_; intro w4 x4; refine gset ?_
        generalize cutSl sv 4 0 (partN (rs'.drop (partN rs'))) = cv at *
        generalize cutSl sv 4 (partN (rs'.drop (partN rs'))) (rs'.drop (partN rs')).length = tv at *
        have hc := hc0.ext (hx.trans (x3.trans x4))
        have htv := htv0
        (repeat' first | ((with_reducible refine nx0 ?_); go_step) | ((with_reducible refine o_s ?_); first | refine wk0 ?_ | (refine wg0 ?_ ?_ <;> intro hc)) | fail)
        have hy4 := (x3.trans x4).at hy
        have hz4 := (x3.trans x4).at hz
        have hv4 := hv'.ext (x3.trans x4)
        have hg4 := hg.ext x4
        have hx4 := hx.trans (x3.trans x4)
        have hpz4 := pts_block (cs := [str o', v']) hz4
        obtain ⟨gone, hgone⟩ : ∃ gone, gone = rs'.take (partN rs') := ⟨_, rfl⟩
        obtain ⟨rest, hrest⟩ : ∃ rest, rest = rs'.drop (partN rs') := ⟨_, rfl⟩
        obtain ⟨come, hcome⟩ : ∃ come, come = rest.take (partN rest) := ⟨_, rfl⟩
        obtain ⟨tail, htail⟩ : ∃ tail, tail = rest.drop (partN rest) := ⟨_, rfl⟩
        have hstep := chgZ_cons o' l' he
        rw [← hgone, ← hrest] at hstep
        rw [← hcome, ← htail] at hstep
        rw [← hgone] at hg4
        rw [← hrest, ← hcome] at hc
        rw [← hrest, ← htail] at htv
        rw [← hrest] at hre
        have hgne : gone ≠ [] := by
          intro e
          have h0 := congrArg List.length e
          have := partN_le he
          rw [hgone, List.length_take, List.length_nil] at h0
          omega
        have hcne : come ≠ [] := by
          intro e
          have h0 := congrArg List.length e
          have := partN_le hre
          rw [hcome, List.length_take, List.length_nil] at h0
          omega
        have hmg : ∀ q ∈ gone, q ∈ rs := fun q hq => hmem q (List.mem_of_mem_take (hgone ▸ hq))
        have hmr : ∀ q ∈ rest, q ∈ rs := fun q hq => hmem q (List.mem_of_mem_drop (hrest ▸ hq))
        have hmc : ∀ q ∈ come, q ∈ rs := fun q hq => hmr q (List.mem_of_mem_take (hcome ▸ hq))
        have hmt : ∀ q ∈ tail, q ∈ rs := fun q hq => hmr q (List.mem_of_mem_drop (htail ▸ hq))
        have hln : rest.length ≤ rs'.length ∧ come.length ≤ rest.length ∧ tail.length < rest.length := by
          have h3 := partN_le hre
          rw [hcome, htail, List.length_take, List.length_drop]
          refine ⟨?_, by omega, by omega⟩
          rw [hrest, List.length_drop]; omega
        have hgd := dn _ (hmg _ (headOf_mem hgne))
        have hcd := dn _ (hmc _ (headOf_mem hcne))
        have pg : Pts w4 (elemPtr gv (0 * 4)) _ := hg4.elem (headOf_at hgne)
        have pc : Pts w4 (elemPtr cv (0 * 4)) _ := hc.elem (headOf_at hcne)
        have hgl : 0 < (rcells gone).length := by rw [rcells_length]; exact List.length_pos_iff.2 hgne
        have hcl : 0 < (rcells come).length := by rw [rcells_length]; exact List.length_pos_iff.2 hcne
        refine wpi_region 16 (Ext w4) (by decide +kernel) ?_
        intro w5 x5 _
        refine ⟨x5, ?_⟩
        refine it0 0 ?_
        refine ip0 1 ?_
        refine ipr0 2 rfl (fun _ => Runs.idxW (n := 0) rfl hg4 hgl (by decide +kernel)) ?_; refine gset ?_
        refine it0 3 ?_
        refine ip0 5 ?_
        refine ipr0 6 rfl (fun _ => Runs.idxW (n := 0) rfl hc hcl (by decide +kernel)) ?_; refine gset ?_
        refine it0 7 ?_
        refine ip0 9 ?_; refine ip0 10 ?_
        refine wpi_op (i := 4) (by decide +kernel) rfl rfl ?_
        refine wpl_callV (enters_of Tryz.func111 rfl rfl) rfl rfl (p_serialOf (headOf gone) _ (by omega)) ?_; intro w6 x6; refine gset ?_
        have x56 := x5.trans x6
        refine wph_nil ⟨till_yes x56, ?_⟩
        refine wpi_op (i := 8) (by decide +kernel) rfl rfl ?_
        refine wpl_callV (enters_of Tryz.func111 rfl rfl) rfl rfl (p_serialOf (headOf come) _ (by omega)) ?_; intro w7 x7; refine gset ?_
        have x7 := x56.trans x7
        refine wph_nil ⟨till_yes x7, ?_⟩
        refine ipr0 11 (v := .agg #[.int .i64 (serOf (headOf gone)), .int .i64 (serOf (headOf come)), gv, cv]) rfl (fun _ => Runs.build rfl (by obtain ⟨_, _, _, rfl⟩ := hg4.slf; obtain ⟨_, _, _, rfl⟩ := hc.slf; kernel_rfl)) ?_; refine gset ?_
        refine wpi_op (i := 12) (by decide +kernel) rfl rfl ?_
        have hD : DelA (dltOf gone come) (.agg #[.int .i64 (serOf (headOf gone)), .int .i64 (serOf (headOf come)), gv, cv]) w7 := ⟨gv, cv, rfl, hg4.ext x7, hc.ext x7⟩
        refine wpl_callR (enters_of Tryz.func215 rfl rfl) rfl rfl (p_Apply o' v' l' w7 (hv4.ext x7) hD bl' dl' h1' (by show come.length ≤ 5000; omega) (fun q hq => dn q (hmc q hq))) ?_
        rintro _ w8 x8 ⟨y, rfl, hO⟩
        refine gset ?_
        refine wph_nil ⟨till_yes (x7.trans x8), ?_⟩
        refine ip0 13 ?_; refine ip0 14 ?_; refine ip0 15 ?_
        refine wpi_op (i := 16) (by decide +kernel) rfl rfl ?_
        have hy1 : y.oneCell' = true := by obtain ⟨_, hq, _⟩ := hO.sets.sl; exact hq.one
        have hx8 := hx4.trans (x7.trans x8)
        have hz8 := (x7.trans x8).at hz4
        have hy8 := (x7.trans x8).at hy4
        have hsz8 := hx8.size
        have hsz7 := (hx4.trans x7).size
        have hw7 : w2.heap.size ≤ w7.heap.size := Nat.le_trans hsz ((x3.trans x4).trans x7).size
        refine wpl_storeB (v := .agg #[str (appO o' l' (dltOf gone come)), y]) rfl rfl rfl hz8 (show sizeTy Tryz.prog 34 2 = true by decide +kernel) rfl (zone_one hy1) ?_
        intro w9 p9
        refine wph_nil ⟨till_no rfl, ?_⟩
        refine ip0 17 ?_
        refine wpi_done (by decide +kernel) ?_
        have x9 : Ext w w9 := hx8.move p9.mv (by rintro k ⟨⟩; omega)
        have hO9 := hO.put p9 (by omega)
        have hy9 := p9.mv.at hy8 (by rintro ⟨⟩; omega)
        by_cases e0 : appE o' l' (dltOf gone come) = 0
        · rw [if_neg hre, if_pos e0] at hstep
          obtain ⟨z1, z2⟩ := app_zone e0
          obtain ⟨j1, j2, j3, j4⟩ := zoneJ z1
          (repeat' first | ((with_reducible refine nx0 ?_); go_step) | ((with_reducible refine o_s ?_); first | refine wk0 ?_ | (refine wg0 ?_ ?_ <;> intro hc)) | fail)
          go_step3
          simp only [Exit.inBlock, Exit.then, Exit.jump]
          refine ⟨rfl, ⟨tail, _, _, y, tv, _, _, _, _, _, _, _, _, _, _, _, _, _, _, _, _, _, _, _, _, _, _, _, _, _, _, _, _, _, _, _, _, _, _, _, _, _, _, _, _, _, _, _, _, _, _, rfl, htv, p9.this, hy9, hO9.sets, .inr (hO9.weaken hw7), hch.trans hstep, x9, by have := p9.size; have := x8.size; omega, hmt, by omega, fun s hs => by have := j2 s hs; omega, fun s hs d hd => by have := j3 s hs d hd; omega, by omega⟩, ?_⟩
          show slLen tv < slLen rv'
          rw [htv.slLen, hs0.slLen, rcells_length, rcells_length]
          omega
        · rw [if_neg hre, if_neg e0] at hstep
          (repeat' first | ((with_reducible refine nx0 ?_); go_step) | ((with_reducible refine o_s ?_); first | refine wk0 ?_ | (refine wg0 ?_ ?_ <;> intro hc)) | fail)
          all_goals
            refine wpl_run (v := .agg zzone.toArray) rfl (Runs.build0 (by kernel_rfl)) ?_
            refine gset ?_
            (repeat' first | ((with_reducible refine nx0 ?_); go_step) | ((with_reducible refine o_s ?_); first | refine wk0 ?_ | (refine wg0 ?_ ?_ <;> intro hc)) | fail)
            refine wpl_storeB (v := .agg zzone.toArray) rfl rfl rfl hy9 (show sizeTy Tryz.prog 34 2 = true by decide +kernel) rfl (by decide +kernel) ?_
            intro w10 p10
            (repeat' first | ((with_reducible refine nx0 ?_); go_step) | ((with_reducible refine o_s ?_); first | refine wk0 ?_ | (refine wg0 ?_ ?_ <;> intro hc)) | fail)
            simp only [Exit.inBlock, Exit.then, Exit.jump]
            have x10 : Ext w w10 := x9.move p10.mv (by rintro k ⟨⟩; omega)
            refine bodyPost_ret (results_cellT (cs := zzone) rfl rfl p10.this (by decide +kernel)) rfl ⟨_, rfl, x10, ?_⟩
            rw [hch, hstep]
          · rw [if_pos (by assumption)]; exact ZEU.bad
          · rw [if_neg (by assumption)]; exact ZEU.bad
  · intro hp
    (repeat' first | ((with_reducible refine nx0 ?_); go_step) | ((with_reducible refine o_s ?_); first | refine wk0 ?_ | (refine wg0 ?_ ?_ <;> intro hc)) | fail)
    go_step3
    (first | ((with_reducible refine nx0 ?_); go_step) | fail)
    (first | ((with_reducible refine nx0 ?_); go_step) | fail)
    refine hp _ _ ?_
    exact ⟨rs, l, o, v, rv, _, _, _, _, _, _, _, _, _, _, _, _, _, _, _, _, _, _, _, _, _, _, _, _, _, _, _, _, _, _, _, _, _, _, _, _, _, _, _, _, _, _, _, _, _, _, rfl, hr, x2.at hb1, hb2, hv.ext (x1.trans x2), .inl hne, rfl, x1.trans x2, Nat.le_refl _, fun q hq => hq, h2, bl, dl, h1⟩
section
variable {P : Program} {w w' : World} {d : Option Nat} {ty : TypeId} {ps : String} {af : Array Edge} {g : Option (Nat × Bool)} {a : Act}
theorem Runs.toU {s t : TypeId} {x : Operand} {n : Nat} (hx : a.eval x = .int .i64 (n : Nat)) (hu : intTy P s .i64 = true) (ht : intTy P t .u64 = true) (h : n < 4611686018427387904) :
    Runs P (Oper.mk d (.convert s t x) ty ps af g) a w (.int .u64 (n : Nat)) := Runs.convI hx hu ht (IntWalk.u64_in _ (by omega))
theorem Runs.ofU {s t : TypeId} {x : Operand} {n : Nat} (hx : a.eval x = .int .u64 (n : Nat)) (hu : intTy P s .u64 = true) (ht : intTy P t .i64 = true) (h : n < 4611686018427387904) :
    Runs P (Oper.mk d (.convert s t x) ty ps af g) a w (.int .i64 (n : Nat)) := Runs.convI hx hu ht (IntWalk.i64_in _ (by omega))
theorem Runs.shrU {t u : TypeId} {x y : Operand} {m : Nat} (hx : a.eval x = .int .u64 (m : Nat)) (hy : a.eval y = .int .u64 1) :
    Runs P (Oper.mk d (.binOp .shr t x y u) ty ps af g) a w (.int .u64 ((m / 2 : Nat) : Int)) := by
  have e : min (1 : Int).toNat IntKind.u64.bits = 1 := by decide
  constructor; simp only [execOp, hx, hy, eqGuard, binOp, shift_shr_any _ _ _ _ (by decide : (0 : Int) ≤ 1), e, Int.pow_one]; simp
theorem Runs.subE {t u : TypeId} {x y : Operand} {m n : Nat} (k : Nat) (hx : a.eval x = .int .i64 (m : Nat)) (hy : a.eval y = .int .i64 (n : Nat)) (h : m = n + k) (hm : m < 4611686018427387904) :
    Runs P (Oper.mk d (.binOp .sub t x y u) ty ps af g) a w (.int .i64 (k : Nat)) := by
  have h1 := Runs.sub (P := P) (w := w) (d := d) (ty := ty) (ps := ps) (af := af) (g := g) (t := t) (u := u) hx hy (by omega)
  rwa [show (m : Int) - (n : Int) = (k : Int) by omega] at h1
end
set_option maxHeartbeats 4000000 in
theorem p_rotate {B : Nat} (v : Value) (x : Option Rec) (os : List Rec) (s m : Nat) (f : Value) (w : World) (h : Sx x os m) (ho : Own B 4 81 w v (rcells (stR x os m))) (hs : s < m) (hm : m < stN x os) (hl : stN x os ≤ 1000000) :
    Calls Tryz.prog 271 #[v, .int .i64 s, .int .i64 m, .int .i64 (m + 1 : Nat), f] w fun e w' => e = .returned (.tuple #[]) ∧ Own B 4 81 w' v (rcells (stR x os s)) ∧ Mv v.ownBlock w w' := by
  have hD := stR_len h
  have hrot := rotR_all h hm hs
  generalize hDe : stR x os m = D at *
  go_enter Tryz.func271, Tryz.ntmps271
  repeat' (first | ((with_reducible refine nx0 ?_); go_step) | fail)
  ((with_reducible refine o_s ?_); (first | (refine o_1 ?_; refine o_2 ?_) | (refine o_g ?_; refine o_u ?_; (with_reducible refine o_s ?_); refine o_1 ?_; refine o_2 ?_)))
  ((with_reducible refine o_s ?_); (first | (refine o_1 ?_; refine o_2 ?_) | (refine o_g ?_; refine o_u ?_; (with_reducible refine o_s ?_); refine o_1 ?_; refine o_2 ?_)))
  refine wpl_run0 (Runs.subE (m - s) rfl rfl (by omega) (by omega)) ?_
  refine gset ?_
  ((with_reducible refine o_s ?_); (first | (refine o_1 ?_; refine o_2 ?_) | (refine o_g ?_; refine o_u ?_; (with_reducible refine o_s ?_); refine o_1 ?_; refine o_2 ?_)))
  repeat' (first | ((with_reducible refine nx0 ?_); go_step) | fail)
  ((with_reducible refine o_s ?_); (first | (refine o_1 ?_; refine o_2 ?_) | (refine o_g ?_; refine o_u ?_; (with_reducible refine o_s ?_); refine o_1 ?_; refine o_2 ?_)))
  ((with_reducible refine o_s ?_); (first | (refine o_1 ?_; refine o_2 ?_) | (refine o_g ?_; refine o_u ?_; (with_reducible refine o_s ?_); refine o_1 ?_; refine o_2 ?_)))
  refine wpl_run0 (Runs.subE 1 rfl rfl (by omega) (by omega)) ?_
  refine gset ?_
  repeat' (first | ((with_reducible refine nx0 ?_); go_step) | ((with_reducible refine o_s ?_); refine wk0 ?_) | fail)
  go_loopw [10, 11] (fun i j wr => ∃ t : Nat, t < m - s ∧ i = .int .i64 ((m - s - t : Nat) : Int) ∧ j = .int .i64 ((1 : Nat) : Int) ∧ Own B 4 81 wr v (rcells (rotR D s m t)) ∧ Mv v.ownBlock w wr) (fun i _ _ => (intOf i).toNat)
  case atStart => exact ⟨0, by omega, rfl, rfl, ho, Mv.refl _ _⟩
  case round =>
    obtain ⟨t, ht, rfl, rfl, ho1, m1⟩ := hrel
    have hrl := rotR_len D s m t
    obtain ⟨i, hi⟩ : ∃ i, i = m - s - t := ⟨_, rfl⟩
    rw [← hi]
    by_cases h1 : i = 1
    · subst h1
      repeat' (first | ((with_reducible refine nx0 ?_); go_step) | ((with_reducible refine o_s ?_); first | refine wk0 ?_ | (refine wg0 ?_ ?_ <;> intro hc)) | fail)
      rw [show (m : Int) - ((1 : Nat) : Int) = ((s + t : Nat) : Int) by omega]
      refine wpl_callG (enters_of Tryz.func276 rfl rfl) rfl rfl (p_swap1 v _ (s + t) m f wr ho1 (by omega) (by omega) (by omega)) ?_
      rintro e w4 ⟨rfl, o4, m4⟩
      refine ⟨_, rfl, ?_⟩
      refine gset ?_
      repeat' (first | ((with_reducible refine nx0 ?_); go_step) | ((with_reducible refine o_s ?_); first | refine wk0 ?_ | (refine wg0 ?_ ?_ <;> intro hc)) | fail)
      go_end0
      have e : swR (rotR D s m t) (s + t) m = rotR D s m (m - s) := by
        rw [show m - s = t + 1 by omega]; rfl
      rw [e, hrot] at o4
      exact ⟨rfl, o4, m1.trans m4⟩
    · have e1 : (!decide ((i : Int) = ((1 : Nat) : Int))) = true := by simp; omega
      repeat' (first | ((with_reducible refine nx0 ?_); go_step) | ((with_reducible refine o_s ?_); first | refine wk0 ?_ | (refine wg0 ?_ ?_ <;> intro hc)) | fail)
      all_goals first
        | (exfalso
           have hh := ‹(!decide ((i : Int) = ((1 : Nat) : Int))) = false›
           rw [e1] at hh
           cases hh
           done)
        | skip
      rw [show (m : Int) - (i : Int) = ((s + t : Nat) : Int) by omega]
      refine wpl_callG (enters_of Tryz.func276 rfl rfl) rfl rfl (p_swap1 v _ (s + t) m f wr ho1 (by omega) (by omega) (by omega)) ?_
      rintro e w4 ⟨rfl, o4, m4⟩
      refine ⟨_, rfl, ?_⟩
      refine gset ?_
      repeat' (first | ((with_reducible refine nx0 ?_); go_step) | ((with_reducible refine o_s ?_); first | refine wk0 ?_ | (refine wg0 ?_ ?_ <;> intro hc)) | fail)
      refine ⟨⟨t + 1, by omega, by rw [show ((m - s - (t + 1) : Nat) : Int) = (i : Int) - 1 by omega]; rfl, rfl, o4, m1.trans m4⟩, by simp [intOf]; omega⟩
theorem mem_dropLast' {α : Type} {l : List α} {x : α} (h : x ∈ l.dropLast) : x ∈ l := by rw [List.dropLast_eq_take] at h; exact List.mem_of_mem_take h
theorem ZEU.cell {B : Nat} {q : ZE} {r : Value} {w : World} (h : ZEU B q r w) : ∃ y, r = .tuple #[.agg #[str q.o, y], .int .i64 q.e] ∧ SetsO B w y q.l ∧ y.oneCell' = true := by
  obtain ⟨y, rfl, hy⟩ := h
  obtain ⟨_, hq, _⟩ := hy.sets.sl
  exact ⟨y, rfl, hy, hq.one⟩
theorem rc_at {l : List Rec} {i : Nat} (h : i < l.length) : (rcells l)[i]? = some [str (l.getD i zeroRec).name, .int .i64 (l.getD i zeroRec).kind, .int .i64 (l.getD i zeroRec).ttl, str (l.getD i zeroRec).data] := getD_at h
set_option maxHeartbeats 8000000 in
theorem p_told (oo : List UInt8) (v : Value) (lo : List RSet) (og : List UInt8) (lv : Value) (l : List Rec) (w : World) (hv : SetsAt w v lo) (hl : Sl 4 w lv (rcells l)) (bl : ∀ s ∈ lo, s.data.length ≤ 1000000) (dl : ∀ s ∈ lo, ∀ d ∈ s.data, d.length ≤ 1000000) (h1 : (recordsS lo).length ≤ 5000) (h2 : l.length ≤ 5000) (h3 : 3 ≤ l.length) (dn : ∀ q ∈ l, q.data.length ≤ 1000000) :
    Calls Tryz.prog 110 #[.agg #[str oo, v], str og, lv] w (Ret w (ZEU w.heap.size (toldZ oo lo og l))) := by
  have hrl := rcells_length l
  have hpe : Pts w (elemPtr lv (1 * 4)) _ := hl.elem (rc_at (i := 1) (by omega))
  go_enter Tryz.func110, Tryz.ntmps110
  repeat' (first | ((with_reducible refine nx0 ?_); go_step) | fail)
  refine wpl_box (vs := [str oo, v]) rfl rfl ?_
  intro p w1 x1 hp
  refine gset ?_
  refine wpl_allocB (z := zzone) rfl (by decide +kernel) ?_
  intro w2 x2 s2 hb2
  have hx2 := x1.trans x2
  have hsz2 := x1.size
  generalize hbe : w1.heap.size = b at *
  refine gset ?_
  ((with_reducible refine o_s ?_); (first | (refine o_1 ?_; refine o_2 ?_) | (refine o_g ?_; refine o_u ?_; (with_reducible refine o_s ?_); refine o_1 ?_; refine o_2 ?_)))
  repeat' (first | ((with_reducible refine nx0 ?_); go_step) | fail)
  ((with_reducible refine o_s ?_); (first | (refine o_1 ?_; refine o_2 ?_) | (refine o_g ?_; refine o_u ?_; (with_reducible refine o_s ?_); refine o_1 ?_; refine o_2 ?_)))
  ((with_reducible refine o_s ?_); (first | (refine o_1 ?_; refine o_2 ?_) | (refine o_g ?_; refine o_u ?_; (with_reducible refine o_s ?_); refine o_1 ?_; refine o_2 ?_)))
  rw [hrl]
  refine wpl_run0 (Runs.subE (m := l.length) (n := 1) (l.length - 1) rfl rfl (by omega) (by omega)) ?_
  refine gset ?_
  (repeat' first | ((with_reducible refine nx0 ?_); go_step) | ((with_reducible refine o_s ?_); first | refine wk0 ?_ | (refine wg0 ?_ ?_ <;> intro hc)) | fail)
  refine wpl_callV (enters_of Tryz.func109 rfl rfl) rfl rfl (p_isSoa (l.getD 1 zeroRec) _) ?_; intro w3 x3; refine gset ?_
  have hx3 := hx2.trans x3
  have hp3 := hp.ext (x2.trans x3)
  obtain ⟨hq1, hq2⟩ := parts hl (n := l.length - 1) (by omega)
  have hdl : l.take (l.length - 1) = l.dropLast := (List.dropLast_eq_take ..).symm
  cases hs : isSoaR (l.getD 1 zeroRec) with
  | false =>
    have ht : toldZ oo lo og l = ⟨loadE og l.dropLast, loadO og l.dropLast, loadL og l.dropLast⟩ := by rw [toldZ, if_pos hs]
    have hl3 := hl.ext hx3
    (repeat' first | ((with_reducible refine nx0 ?_); go_step) | ((with_reducible refine o_s ?_); first | refine wk0 ?_ | (refine wg0 ?_ ?_ <;> intro hc)) | fail)
    rw [hdl] at hq1
    refine wpl_callR (enters_of Tryz.func21 rfl rfl) rfl rfl (p_Load og _ l.dropLast _ (hq1.ext hx3) (by rw [List.length_dropLast]; omega) (fun r hr => by have := dn r (mem_dropLast' hr); omega)) ?_
    rintro _ w4 x4 hU
    obtain ⟨y, rfl, hO, hy1⟩ := ZEU.cell (q := ⟨loadE og l.dropLast, loadO og l.dropLast, loadL og l.dropLast⟩) hU
    refine gset ?_
    (repeat' first | ((with_reducible refine nx0 ?_); go_step) | ((with_reducible refine o_s ?_); first | refine wk0 ?_ | (refine wg0 ?_ ?_ <;> intro hc)) | fail)
    refine wpl_storeB (v := .agg #[str (loadO og l.dropLast), y]) rfl rfl rfl ((x3.trans x4).at hb2) (show sizeTy Tryz.prog 34 2 = true by decide +kernel) rfl (zone_one hy1) ?_
    intro w5 p5
    have hx4 := hx3.trans x4
    have x5 : Ext w w5 := hx4.move p5.mv (by rintro k ⟨⟩; omega)
    have hs3 := x3.size
    have hO5 := hO.put p5 (by omega)
    (repeat' first | ((with_reducible refine nx0 ?_); go_step) | ((with_reducible refine o_s ?_); first | refine wk0 ?_ | (refine wg0 ?_ ?_ <;> intro hc)) | fail)
    refine bodyPost_ret (results_cellT (cs := [str (loadO og l.dropLast), y]) rfl rfl p5.this (show aggTy Tryz.prog 34 2 = true by decide +kernel)) rfl ⟨_, rfl, x5, ?_⟩
    rw [ht]
    exact ⟨y, rfl, hO5.weaken (by have := hx3.size; omega)⟩
  | true =>
    have ht : toldZ oo lo og l = if lo = [] then ZE.bad 5 else chgZ oo lo (l.dropLast.drop 1) := by rw [toldZ, if_neg (by rw [hs]; exact fun e => Bool.noConfusion e)]
    obtain ⟨cv, hcv, hcl⟩ := (hv.ext hx3).sl
    have hb3 := x3.at hb2
    have hs3 := x3.size
    (repeat' first | ((with_reducible refine nx0 ?_); go_step) | ((with_reducible refine o_s ?_); first | refine wk0 ?_ | (refine wg0 ?_ ?_ <;> intro hc)) | fail)
    · have hlo : lo = [] := by
        have h0 : (cv.length : Int) = 0 := by assumption
        exact List.eq_nil_of_length_eq_zero (by omega)
      refine wpl_run (v := .agg zzone.toArray) rfl (Runs.build0 (by kernel_rfl)) ?_
      refine gset ?_
      refine wpl_storeB (v := .agg zzone.toArray) rfl rfl rfl hb3 (show sizeTy Tryz.prog 34 2 = true by decide +kernel) rfl (by decide +kernel) ?_
      intro w4 p4
      (repeat' first | ((with_reducible refine nx0 ?_); go_step) | ((with_reducible refine o_s ?_); first | refine wk0 ?_ | (refine wg0 ?_ ?_ <;> intro hc)) | fail)
      have x4 : Ext w w4 := hx3.move p4.mv (by rintro k ⟨⟩; omega)
      refine bodyPost_ret (results_cellT (cs := zzone) rfl rfl p4.this (by decide +kernel)) rfl ⟨_, rfl, x4, ?_⟩
      rw [ht, if_pos hlo]
      exact ZEU.bad
    · have hlo : lo ≠ [] := by
        rintro rfl
        have h0 : ¬ (cv.length : Int) = 0 := by assumption
        exact h0 (by rw [hcl]; rfl)
      have hcut := hl.cut (m := 1) (n := l.length - 1) (by omega) (by omega)
      have e1 : ((rcells l).take (l.length - 1)).drop 1 = rcells (l.dropLast.drop 1) := by rw [← hdl]; simp [rcells, List.map_take, List.map_drop]
      rw [e1] at hcut
      refine wpi_region 7 (Ext w3) (by decide +kernel) ?_
      intro w4 x4 _
      refine ⟨x4, ?_⟩
      have hl3 := hl.ext hx3
      refine it0 0 ?_
      refine ip0 1 ?_; refine ip0 2 ?_
      refine it0 3 ?_
      refine wpi_op (i := 4) (by decide +kernel) rfl rfl ?_
      refine wpl_callR (enters_of Tryz.func167 rfl rfl) rfl rfl (p_changed oo v lo _ (l.dropLast.drop 1) w4 (hv.ext (hx3.trans x4)) (hcut.ext (hx3.trans x4)) bl dl h1 (by rw [List.length_drop, List.length_dropLast]; omega) (fun q hq => dn q (mem_dropLast' (List.mem_of_mem_drop hq))) (by
        intro e
        have := congrArg List.length e
        rw [List.length_drop, List.length_dropLast, List.length_nil] at this
        omega)) ?_
      rintro _ w5 x5 hU
      obtain ⟨y, rfl, hO, hy1⟩ := hU.cell
      refine gset ?_
      refine wph_nil ⟨till_yes (x4.trans x5), ?_⟩
      refine ip0 5 ?_; refine ip0 6 ?_
      refine wpi_op (i := 7) (by decide +kernel) rfl rfl ?_
      have hx5 := hx3.trans (x4.trans x5)
      have hs5 := hx3.size
      have hs6 := x4.size
      refine wpl_storeB (v := .agg #[str (chgZ oo lo (l.dropLast.drop 1)).o, y]) rfl rfl rfl ((x4.trans x5).at hb3) (show sizeTy Tryz.prog 34 2 = true by decide +kernel) rfl (zone_one hy1) ?_
      intro w6 p6
      refine wph_nil ⟨till_no rfl, ?_⟩
      refine ip0 8 ?_
      refine wpi_done (by decide +kernel) ?_
      have x6 : Ext w w6 := hx5.move p6.mv (by rintro k ⟨⟩; omega)
      have hO6 := hO.put p6 (by omega)
      (repeat' first | ((with_reducible refine nx0 ?_); go_step) | ((with_reducible refine o_s ?_); first | refine wk0 ?_ | (refine wg0 ?_ ?_ <;> intro hc)) | fail)
      refine bodyPost_ret (results_cellT (cs := [str (chgZ oo lo (l.dropLast.drop 1)).o, y]) rfl rfl p6.this (show aggTy Tryz.prog 34 2 = true by decide +kernel)) rfl ⟨_, rfl, x6, ?_⟩
      rw [ht, if_neg hlo]
      exact ⟨y, rfl, hO6.weaken (by omega)⟩
def secPE (og : List UInt8) (retry : Int) (w' : World) (p : Value) (B : Nat) : Prop := if secE og retry = 0 then ∃ b, p = .pointer (some ⟨b, 0, none⟩) ∧ b < w'.heap.size ∧ B ≤ b ∧ SAt w'.heap.size w' b (secNew og retry) else p = .pointer none
set_option maxHeartbeats 4000000 in
theorem p_SecNew (og : List UInt8) (retry : Int) (w : World) : Calls Tryz.prog 16 #[str og, .int .i64 retry] w (Ret w fun r w' => ∃ p, r = .tuple #[p, .int .i64 (secE og retry)] ∧ secPE og retry w' p w.heap.size) := by
  go_enter Tryz.func16, Tryz.ntmps16
  (repeat' first | ((with_reducible refine nx0 ?_); go_step) | ((with_reducible refine o_s ?_); first | refine wk1 ?_ | (refine wg0 ?_ ?_ <;> intro hc)) | fail)
  refine wpl_callV (enters_of Tryz.func63 rfl rfl) rfl rfl ((show Calls Tryz.prog 63 #[str og] w (RetV w (.int .i64 (checkE og))) from t27 og w)) ?_; intro w1 x1; refine gset ?_
  by_cases hE : secE og retry = 0
  · have h0 := hE
    unfold secE at h0
    split at h0
    · cases h0
    · rename_i c
      have c1 : checkE og = 0 := Decidable.byContradiction fun e => c (.inl e)
      rw [c1]
      (repeat' first | ((with_reducible refine nx0 ?_); go_step) | ((with_reducible refine o_s ?_); first | refine wk1 ?_ | (refine wg0 ?_ ?_ <;> intro hc)) | fail)
      all_goals first
        | (exfalso; omega)
        | skip
      refine wpl_run (v := .agg (secNew og retry).soa.cells.toArray) rfl (Runs.build rfl (by kernel_rfl)) ?_
      refine gset ?_
      refine wpl_run (v := .agg (secC (secNew og retry) (.pointer none)).toArray) rfl (Runs.build rfl (by kernel_rfl)) ?_
      refine gset ?_
      refine wpl_boxB (vs := secC (secNew og retry) (.pointer none)) rfl rfl ?_
      intro w2 x2 s2 h2
      refine gset ?_
      (repeat' first | ((with_reducible refine nx0 ?_); go_step) | ((with_reducible refine o_s ?_); first | refine wk1 ?_ | (refine wg0 ?_ ?_ <;> intro hc)) | fail)
      go_ret2
      refine ⟨_, rfl, x1.trans x2, _, by rw [hE]; rfl, ?_⟩
      unfold secPE
      rw [if_pos hE]
      exact ⟨_, rfl, by omega, x1.size, by omega, .pointer none, h2, fun _ => rfl, fun o l e => by cases e⟩
  · have hE1 : secE og retry = 1 := by
      unfold secE at hE ⊢
      split at hE
      · rename_i c; rw [if_pos c]
      · exact absurd rfl hE
    have hnE : ¬ (checkE og = 0 ∧ 1 ≤ retry ∧ retry ≤ 2147483647) := by
      intro hh
      apply hE
      unfold secE
      rw [if_neg (by rintro (e | e | e) <;> omega)]
    (repeat' first | ((with_reducible refine nx0 ?_); go_step) | ((with_reducible refine o_s ?_); first | refine wk1 ?_ | (refine wg0 ?_ ?_ <;> intro hc)) | fail)
    all_goals first
      | (exfalso
         refine hnE ⟨?_, by omega, by omega⟩
         have hh := ‹(!decide (checkE og = 0)) = false›
         simpa using hh)
      | (go_ret2
         exact ⟨_, rfl, x1, .pointer none, by rw [hE1]; rfl, by unfold secPE; rw [if_neg hE]⟩)
set_option maxHeartbeats 4000000 in
theorem p_Up {B : Nat} {w : World} {b : Nat} {s : SecR} (h : SAt B w b s) (now : Int) : Calls Tryz.prog 36 #[.pointer (some ⟨b, 0, none⟩), .int .i64 now] w (RetV w (.bool (s.up now))) := by
  obtain ⟨pz, hb, hp, hps, h8, h9, h10, h11, hn, hz⟩ := h.pts
  go_enter Tryz.func36, Tryz.ntmps36
  cases hq : s.z with
  | none =>
    have := hn hq
    subst this
    (repeat' first | ((with_reducible refine nx0 ?_); go_step) | ((with_reducible refine o_s ?_); first | refine wk1 ?_ | (refine wg0 ?_ ?_ <;> intro hc)) | fail)
    go_ret
    exact ⟨by simp [SecR.up, hq], Ext.refl _⟩
  | some q =>
    obtain ⟨c, v, rfl, _⟩ := hz q.1 q.2 hq
    (repeat' first | ((with_reducible refine nx0 ?_); go_step) | ((with_reducible refine o_s ?_); first | refine wk1 ?_ | (refine wg0 ?_ ?_ <;> intro hc)) | fail)
    refine wpl_callV (enters_of Tryz.func64 rfl rfl) rfl rfl (p_isTime now _) ?_; intro w1 x1; refine gset ?_
    have g10 := h10.ext x1
    cases ht : okTime now with
    | false =>
      (repeat' first | ((with_reducible refine nx0 ?_); go_step) | ((with_reducible refine o_s ?_); first | refine wk1 ?_ | (refine wg0 ?_ ?_ <;> intro hc)) | fail)
      go_ret
      exact ⟨by simp [SecR.up, ht], x1⟩
    | true =>
      (repeat' first | ((with_reducible refine nx0 ?_); go_step) | ((with_reducible refine o_s ?_); first | refine wk1 ?_ | (refine wg0 ?_ ?_ <;> intro hc)) | fail)
      go_ret
      exact ⟨by simp [SecR.up, ht, hq], x1⟩
set_option maxHeartbeats 8000000 in
theorem p_SecZone {B : Nat} {w : World} {b : Nat} {s : SecR} (h : SAt B w b s) (hs : SecOk s) : Calls Tryz.prog 34 #[.pointer (some ⟨b, 0, none⟩)] w (Ret w fun r w' => ∃ y, r = .tuple #[.agg #[str s.o, y], .bool s.z.isSome] ∧ SetsV w.heap.size w' y s.l) := by
  obtain ⟨pz, hb, -, -, -, -, -, -, hn, hzz⟩ := h.pts
  go_enter Tryz.func34, Tryz.ntmps34
  repeat' (first | ((with_reducible refine nx0 ?_); go_step) | fail)
  refine wpl_allocB (z := zzone) rfl (by decide +kernel) ?_
  intro w1 x1 s1 h1
  refine gset ?_
  have hb1 := x1.at hb
  have hp1 := pts_block (cs := secC s pz) hb1
  have h81 : Pts w1 (partPtr (.pointer (some ⟨b, 0, none⟩)) 8) [pz, .int .i64 s.next, .int .i64 s.til, .bool s.take] := hp1.part 8
  generalize hrb : w.heap.size = rb at *
  cases hq : s.z with
  | none =>
    have := hn hq
    subst this
    have e1 : s.o = [] := by simp [SecR.o, hq]
    have e2 : s.l = [] := by simp [SecR.l, hq]
    (repeat' first | ((with_reducible refine nx0 ?_); go_step) | ((with_reducible refine o_s ?_); first | refine wk1 ?_ | (refine wg0 ?_ ?_ <;> intro hc)) | fail)
    refine wpl_run (v := .agg zzone.toArray) rfl (Runs.build0 (by kernel_rfl)) ?_
    refine gset ?_
    refine wpl_storeB (v := .agg zzone.toArray) rfl rfl rfl h1 (show sizeTy Tryz.prog 34 2 = true by decide +kernel) rfl (by decide +kernel) ?_
    intro w2 p2
    (repeat' first | ((with_reducible refine nx0 ?_); go_step) | ((with_reducible refine o_s ?_); first | refine wk1 ?_ | (refine wg0 ?_ ?_ <;> intro hc)) | fail)
    refine bodyPost_ret (results_cellT (cs := zzone) rfl rfl p2.this (by decide +kernel)) rfl ⟨_, rfl, Ext.move x1 p2.mv (by rintro k ⟨⟩; omega), .slice none 0 0, ?_, ?_⟩
    · rw [e1, hq]; rfl
    · rw [e2]; exact ⟨[], Own.nil _ _ _ _, rfl, by simp⟩
  | some q =>
    obtain ⟨c, v, rfl, hBc, hc, hO⟩ := hzz q.1 q.2 hq
    have e1 : s.o = q.1 := by simp [SecR.o, hq]
    have e2 : s.l = q.2 := by simp [SecR.l, hq]
    have hzk := (hs.zone q.1 q.2 hq).1
    obtain ⟨zl, zb, zd, zr⟩ := zoneJ hzk
    generalize q.1 = o at *
    generalize q.2 = l at *
    have hc1 := x1.at hc
    have hpc := pts_block (cs := [str o, v]) hc1
    obtain ⟨css0, hv0, hvs⟩ := (hO.ext x1).sets.rows
    have hlen0 := hvs.len
    (repeat' first | ((with_reducible refine nx0 ?_); go_step) | ((with_reducible refine o_s ?_); first | refine wk1 ?_ | (refine wg0 ?_ ?_ <;> intro hc)) | fail)
    refine wph_region (S := fun w' => Ext w1 w') (by decide +kernel) ?_
    intro w21 x21 hh21
    refine tk1 0 ?_; refine gset ?_; refine tk1 1 ?_; refine gset ?_; refine tk1 2 ?_; refine gset ?_; refine tk1 3 ?_; refine gset ?_; refine tk1 4 ?_; refine gset ?_; refine tk1 5 ?_; refine gset ?_; refine tk1 6 ?_; refine gset ?_; refine tk1 7 ?_; refine gset ?_; refine tk1 8 ?_; refine gset ?_; refine tk1 9 ?_; refine gset ?_; refine tk1 10 ?_; refine gset ?_; refine tk1 11 ?_; refine gset ?_; refine tk1 12 ?_; refine gset ?_; refine tk1 13 ?_; refine gset ?_
    have hcl : ∀ w', Ext w1 w' → Calls Tryz.prog 80 #[v] w' (Ret w' fun r w'' => Own w'.heap.size 4 115 w'' r css0) := fun w' x' => p_CloneS v css0 _ (hv0.ext x') (hvs.ext x').cell (by rw [hlen0]; omega)
    apply meetJ (F := fun (y : Value) (zk : Nat) (_ : Nat) w' => Ext w1 w' ∧ w1.heap.size ≤ zk ∧ w'.heap[zk]? = some (.cells [str o, y].toArray 34 (0, 0)) ∧ Own w1.heap.size 4 115 w' y css0)
    · intro hG
      obtain ⟨u0, -⟩ : ∃ u0 : Nat, u0 = u0 := ⟨0, rfl⟩
      refine wph_two (i := 14) (j := 16) (by decide +kernel) rfl rfl rfl ?_ ?_
      · refine wpl_callR (enters_of Tryz.func80 rfl rfl) rfl rfl (hcl _ x21) ?_
        intro y wC xC oy
        refine gset ?_
        have x3 := x21.trans xC
        have hsC := x21.size
        have oy' := oy.weaken hsC
        have hy1 := oy.one
        refine wph_nil ⟨x3, ?_⟩
        refine wph_take (i := 15) (v := .agg #[str o, y]) rfl rfl (by decide +kernel) (by decide +kernel) (by decide +kernel) rfl x3 (fun w' _ => Runs.build rfl (by obtain ⟨_, _, _, rfl⟩ := oy.sl.slf; kernel_rfl)) (fun _ _ _ h => h) ?_
        refine gset ?_
        refine wph_one (i := 16) (by decide +kernel) rfl rfl ?_
        refine wpl_allocB (z := zzone) rfl (by decide +kernel) ?_
        intro wE xE sE hE
        refine gset ?_
        have x4 := x3.trans xE
        refine wph_nil ⟨x4, ?_⟩
        refine wph_one (i := 17) (by decide +kernel) rfl rfl ?_
        refine wpl_storeB (v := .agg #[str o, y]) rfl rfl rfl hE (show sizeTy Tryz.prog 34 2 = true by decide +kernel) rfl (zone_one hy1) ?_
        intro wF pF
        have xF : Ext wC wF := xE.move pF.mv (by rintro k ⟨⟩; exact Nat.le_refl _)
        have hF := pF.this
        have hle : w1.heap.size ≤ wC.heap.size := x3.size
        refine wph_nil ⟨x3.trans xF, ?_⟩
        have oyF := oy'.ext xF
        have x3F := x3.trans xF
        clear pF hE xE sE
        generalize wC.heap.size = zk at *
        exact hG y zk u0 _ ⟨x3F, hle, hF, oyF⟩
      · refine wpl_allocB (z := zzone) rfl (by decide +kernel) ?_
        intro wD xD sD hD
        refine gset ?_
        have x2 := x21.trans xD
        have hle := x21.size
        refine wph_nil ⟨x2, ?_⟩
        refine wph_one (i := 14) (by decide +kernel) rfl rfl ?_
        refine wpl_callR (enters_of Tryz.func80 rfl rfl) rfl rfl (hcl _ x2) ?_
        intro y wC xC oy
        refine gset ?_
        have x3 := x2.trans xC
        have hsC := x2.size
        have oy' := oy.weaken hsC
        have hy1 := oy.one
        have hC := xC.at hD
        refine wph_nil ⟨x3, ?_⟩
        refine wph_take (i := 15) (v := .agg #[str o, y]) rfl rfl (by decide +kernel) (by decide +kernel) (by decide +kernel) rfl x3 (fun w' _ => Runs.build rfl (by obtain ⟨_, _, _, rfl⟩ := oy.sl.slf; kernel_rfl)) (fun _ _ _ h => h) ?_
        refine gset ?_
        refine wph_one (i := 17) (by decide +kernel) rfl rfl ?_
        refine wpl_storeB (v := .agg #[str o, y]) rfl rfl rfl hC (show sizeTy Tryz.prog 34 2 = true by decide +kernel) rfl (zone_one hy1) ?_
        intro wF pF
        have xF : Ext w1 wF := x3.move pF.mv (by rintro k ⟨⟩; exact hle)
        have hF := pF.this
        have oyF := oy'.mv pF.mv (.inr (oy'.neBlock hC (by decide)))
        refine wph_nil ⟨xF, ?_⟩
        clear pF hC hD xD sD
        generalize w21.heap.size = zk at *
        exact hG y zk u0 _ ⟨xF, hle, hF, oyF⟩
    · rintro y zk _ w9 ⟨x9, hzk9, hz9, ho9⟩
      refine wph_done (by decide +kernel) ?_
      have h9 := x9.at h1
      have hpz9 := pts_block (cs := [str o, y]) hz9
      have hsl9 := ho9.sl
      have hx9 := x1.trans x9
      have hB9 := x9.size
      have hzW := x1.size
      have hrz : rb ≠ zk := by omega
      clear hh21 h81 hp1 hpc
      (repeat' first | ((with_reducible refine nx0 ?_); go_step) | ((with_reducible refine o_s ?_); first | refine wk1 ?_ | (refine wg0 ?_ ?_ <;> intro hc)) | fail)
      generalize hBe : w1.heap.size = B1 at *
      go_loopw [5, 6, 36] (fun _ _ i wr => ∃ (k : Nat) (css : List (List Value)), k ≤ l.length ∧ i = .int .i64 k ∧ Ext w1 wr ∧ B1 ≤ wr.heap.size ∧ wr.heap[zk]? = some (.cells [str o, y].toArray 34 (0, 0)) ∧ wr.heap[rb]? = some (.cells zzone.toArray 34 (0, 0)) ∧ Own B1 4 115 wr y css ∧ SetsN B1 wr css0 css l k) (fun _ _ i _ => l.length - (intOf i).toNat)
      case atStart => exact ⟨0, css0, Nat.zero_le _, rfl, x9, hB9, hz9, h9, ho9, ⟨hlen0, by omega, fun i _ => rfl⟩⟩
      case round =>
        obtain ⟨k, css, hk, rfl, hx, hBr, hbz, hbr, ho, hsn⟩ := hrel
        have hpz := pts_block hbz
        have hsl := ho.sl
        have hlen := hsn.len
        by_cases hlt : k < l.length
        · obtain ⟨x, hc0, hxd0⟩ := hvs.at' k _ (List.getElem?_eq_getElem hlt)
          have hc : css[k]? = some [str l[k].name, .int .i64 l[k].kind, .int .i64 l[k].ttl, x] := by rw [hsn.old k (Nat.le_refl _)]; exact hc0
          have hxd := hxd0.ext hx
          have hpe := hsl.elem hc
          have hbk := zb _ (List.getElem_mem hlt)
          (repeat' first | ((with_reducible refine nx0 ?_); go_step) | ((with_reducible refine o_s ?_); first | refine wk1 ?_ | (refine wg0 ?_ ?_ <;> intro hc)) | fail)
          refine wpl_allocB (z := zset) rfl (by decide +kernel) ?_
          intro w10 x10 s10 h10
          refine gset ?_
          (repeat' first | ((with_reducible refine nx0 ?_); go_step) | ((with_reducible refine o_s ?_); first | refine wk1 ?_ | (refine wg0 ?_ ?_ <;> intro hc)) | fail)
          refine wpl_storeB (v := .agg #[str l[k].name, .int .i64 l[k].kind, .int .i64 l[k].ttl, x]) rfl rfl rfl h10 (show sizeTy Tryz.prog 115 4 = true by decide +kernel) rfl (all4 rfl rfl rfl hxd.one) ?_
          intro w11 p11
          have x11 : Ext wr w11 := x10.move p11.mv (by rintro k ⟨⟩; exact Nat.le_refl _)
          have hbs : w11.heap[wr.heap.size]? = some (.cells [str l[k].name, .int .i64 l[k].kind, .int .i64 l[k].ttl, x].toArray 115 (0, 0)) := p11.this
          have hx11 := hx.trans x11
          have hbz11 := x11.at hbz
          have hbr11 := x11.at hbr
          have ho11 := ho.ext x11
          have hs11 := hsn.ext x11
          have hps := pts_block hbs
          have hpz11 := pts_block hbz11
          have hsl11 := ho11.sl
          have hpe11 := hsl11.elem hc
          have hxd11 := hxd.ext x11
          clear p11 h10 x10 hpe hpz hsl
          (repeat' first | ((with_reducible refine nx0 ?_); go_step) | ((with_reducible refine o_s ?_); first | refine wk1 ?_ | (refine wg0 ?_ ?_ <;> intro hc)) | fail)
          refine wpi_region 8 (Ext w11) (by decide +kernel) ?_
          intro w12 x12 _
          refine ⟨x12, ?_⟩
          refine it1 0 ?_; refine it1 1 ?_; refine it1 2 ?_; refine it1 3 ?_; refine it1 4 ?_
          refine wpi_op (i := 5) (by decide +kernel) rfl rfl ?_
          refine wpl_callR (enters_of Tryz.func81 rfl rfl) rfl rfl (t24 x l[k].data _ (hxd11.ext x12) (by omega)) ?_
          intro u w13 x13 ou
          refine gset ?_
          have x1113 := x12.trans x13
          refine wph_nil ⟨till_yes x1113, ?_⟩
          refine it1 6 ?_; refine it1 7 ?_
          refine wpi_op (i := 8) (by decide +kernel) rfl rfl ?_
          have ho13 := ho11.ext x1113
          refine wpl_storeEF (i := k) (j := 3) rfl rfl rfl ho13 hc (by decide) (by decide +kernel) ou.one ?_
          intro w14 o14 m14
          refine wph_nil ⟨till_no rfl, ?_⟩
          refine wpi_done (by decide +kernel) ?_
          have hx13 := hx11.trans x1113
          have x14 : Ext w1 w14 := ho13.mvx m14 hx13 (by omega)
          have hbz14 := m14.at (x1113.at hbz11) (fun e => ho13.neBlock (x1113.at hbz11) (by decide) e.symm)
          have hbr14 := m14.at (x1113.at hbr11) (fun e => ho13.neBlock (x1113.at hbr11) (by decide) e.symm)
          have ou14 := ou.mv m14 (ou.ne ho13 (by decide))
          have hs14 := (hs11.ext x1113).mv m14 (fun x es hx => hx.ne ho13 (by decide))
          have hB14 : B1 ≤ w14.heap.size := by have a1 := x1113.size; have a2 := m14.size; have a3 := x11.size; omega
          have ouk : Own B1 1 9 w14 u (tcells l[k].data) := ou14.weaken (by have a1 := x12.size; have a2 := x11.size; omega)
          clear hps hpz11 hsl11 hpe11 hbs hbz11 hbr11 hs11 ho13 ho11 hxd11
          (repeat' first | ((with_reducible refine nx0 ?_); go_step) | ((with_reducible refine o_s ?_); first | refine wk1 ?_ | (refine wg0 ?_ ?_ <;> intro hc)) | fail)
          exact ⟨⟨k + 1, _, by omega, by go_num, x14, hB14, hbz14, hbr14, o14, hs14.step hlt ouk⟩, by simp [intOf]; omega⟩
        · have : k = l.length := by omega
          subst this
          (repeat' first | ((with_reducible refine nx0 ?_); go_step) | ((with_reducible refine o_s ?_); first | refine wk1 ?_ | (refine wg0 ?_ ?_ <;> intro hc)) | fail)
          refine wpl_storeB (v := .agg #[str o, y]) rfl rfl rfl hbr (show sizeTy Tryz.prog 34 2 = true by decide +kernel) rfl (zone_one ho.one) ?_
          intro w11 p11
          have x11 : Ext w w11 := (x1.trans hx).move p11.mv (by rintro k ⟨⟩; omega)
          have hfin : SetsV w.heap.size w11 y l := by
            have : SetsV B1 wr y l := ⟨css, ho, hsn.done⟩
            exact (this.put hbr (by decide) (by decide) p11).weaken hzW
          (repeat' first | ((with_reducible refine nx0 ?_); go_step) | ((with_reducible refine o_s ?_); first | refine wk1 ?_ | (refine wg0 ?_ ?_ <;> intro hc)) | fail)
          refine bodyPost_ret (results_cellT (cs := [str o, y]) rfl rfl p11.this (show aggTy Tryz.prog 34 2 = true by decide +kernel)) rfl ⟨_, rfl, x11, y, ?_, ?_⟩
          · rw [e1, hq]; rfl
          · rw [e2]; exact hfin
def simS : List UInt8 := [2, 110, 115, 1, 97, 0, 1, 109, 0, 0, 0, 0, 5, 0, 0, 0, 10, 0, 0, 0, 3, 0, 0, 0, 100, 0, 0, 0, 4]
def simR : List Rec := [⟨[1, 97], 6, 9, simS⟩, ⟨[1, 97], 2, 9, [2, 110, 115, 1, 97, 0]⟩, ⟨[2, 110, 115, 1, 97], 1, 9, [49, 49, 49, 49]⟩]
def simZ : List RSet := [⟨[1, 97], 2, 9, [[2, 110, 115, 1, 97, 0]]⟩, ⟨[1, 97], 6, 9, [simS]⟩, ⟨[2, 110, 115, 1, 97], 1, 9, [[49, 49, 49, 49]]⟩]
theorem sim_b : ∀ s ∈ simZ, s.data.length ≤ 1000000 := by decide +kernel
theorem sim_r : ∀ r ∈ simR, r.data.length ≤ 4611686018427387904 := by decide +kernel
theorem p_Simple (w : World) : Calls Tryz.prog 22 #[] w (Ret w fun r w' => Sl 4 w' r (rcells simR)) := by
  go_enter Tryz.func22, Tryz.ntmps22
  repeat' (first | ((with_reducible refine nx0 ?_); go_step) | fail)
  repeat' (first | ((with_reducible refine nx0 ?_); go_step) | ((with_reducible refine o_s ?_); first | refine wk0 ?_ | (refine wg0 ?_ ?_ <;> intro hc)) | fail)
  refine wpl_run (v := .agg #[str [1, 97], .int .i64 6, .int .i64 9, str simS]) rfl (Runs.build rfl (by kernel_rfl)) ?_
  refine gset ?_
  refine wpl_run (v := .agg #[str [1, 97], .int .i64 2, .int .i64 9, str [2, 110, 115, 1, 97, 0]]) rfl (Runs.build rfl (by kernel_rfl)) ?_
  refine gset ?_
  refine wpl_run (v := .agg #[str [2, 110, 115, 1, 97], .int .i64 1, .int .i64 9, str [49, 49, 49, 49]]) rfl (Runs.build rfl (by kernel_rfl)) ?_
  refine gset ?_
  refine wpl_slice (e := 81) (k := 4) (bytes := 48) (xs := simR.map fun r => .agg r.cells.toArray) rfl rfl rfl (by intro x hx; obtain ⟨r, _, rfl⟩ := List.mem_map.1 hx; rfl) (by decide +kernel) (by decide +kernel) ?_
  intro v1 w1 x1 s1 sl1 _
  have sl1' : Sl 4 w1 v1 (rcells simR) := by simpa [rcells, Value.cells, List.map_map, Function.comp_def] using sl1
  refine gset ?_
  repeat' (first | ((with_reducible refine nx0 ?_); go_step) | ((with_reducible refine o_s ?_); first | refine wk0 ?_ | (refine wg0 ?_ ?_ <;> intro hc)) | fail)
  go_ret
  exact ⟨_, rfl, x1, sl1'⟩
theorem same_true {o o' : List UInt8} {u v : Value} {a b : List RSet} {w : World} (hu : SetsAt w u a) (hv : SetsAt w v b) (ho : o = o') (hab : a = b) : Calls Tryz.prog 38 #[.agg #[str o, u], .agg #[str o', v]] w (RetV w (.bool true)) := by
  have := r8_Same o o' u v a b w hu hv
  rw [decide_eq_true ho, decide_eq_true hab] at this
  exact this
theorem jl_E2 : loadE [1, 97] simR = 0 := by decide +kernel
theorem jl_L2 : loadL [1, 97] simR = simZ := by decide +kernel
theorem jl_O2 : loadO [1, 97] simR = [1, 97] := by decide +kernel
end Go.Proofs.X
