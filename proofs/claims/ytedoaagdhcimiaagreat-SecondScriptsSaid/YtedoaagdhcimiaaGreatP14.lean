/- Laws and walks that the proof of the statement is made of (part 14). -/
import Derived.Test.YtedoaagdhcimiaaGreatProg
import Derived.OrdersIn
import Derived.LoopIn
import Derived.Test.YtedoaagdhcimiaaGreatShelf
import Derived.Shelf.RegionOpenPlain
import Derived.Lib.Strings
import Derived.Lib.Slices
import Derived.Lib.Walk
import Derived.Lib.Builder
import Derived.Lib.AppendStr
import Derived.Lib.UnsafeStr
import Derived.Lib.MakeNoZero
import Derived.WalkKit
import Derived.Laws.Externs
import Derived.Laws.IdiomCopy
import Derived.Laws.BitsLemmas
import GoSem.Claims
import Derived.Shelf.SlSortCmp.NoneTotal
import Derived.OwnWalk
import Derived.Laws.Pointers
import Derived.WalkMore
import Derived.ScopeJumps
import Derived.Lib.Hide
import Derived.Test.YtedoaagdhcimiaaGreatP1
import Derived.Test.YtedoaagdhcimiaaGreatP2
import Derived.Test.YtedoaagdhcimiaaGreatP3
import Derived.Test.YtedoaagdhcimiaaGreatP4
import Derived.Test.YtedoaagdhcimiaaGreatP5
import Derived.Test.YtedoaagdhcimiaaGreatP7
import Derived.Test.YtedoaagdhcimiaaGreatP8
import Derived.Test.YtedoaagdhcimiaaGreatP9
import Derived.Test.YtedoaagdhcimiaaGreatP10
import Derived.Test.YtedoaagdhcimiaaGreatP11
import Derived.Test.YtedoaagdhcimiaaGreatP12
import Derived.Test.YtedoaagdhcimiaaGreatP13
set_option linter.unusedSimpArgs false
set_option linter.unusedVariables false
namespace Go.Proofs.X
open Go.RowKit
set_option maxRecDepth 100000
def secPE (og : List UInt8) (retry : Int) (w' : World) (p : Value) (B : Nat) : Prop := if secE og retry = 0 then ∃ b, p = .pointer (some ⟨b, 0, none⟩) ∧ b < w'.heap.size ∧ B ≤ b ∧ SAt w'.heap.size w' b (secNew og retry) else p = .pointer none
set_option maxHeartbeats 4000000 in
theorem p_SecNew (og : List UInt8) (retry : Int) (w : World) : Calls Tryz.prog 16 #[str og, .int .i64 retry] w (Ret w fun r w' => ∃ p, r = .tuple #[p, .int .i64 (secE og retry)] ∧ secPE og retry w' p w.heap.size) := by
 go_enter Tryz.func16, Tryz.ntmps16
 (repeat' first | ((with_reducible refine nx0 ?_); go_step) | ((with_reducible refine o_s ?_); first | refine wk1 ?_ | (refine wg0 ?_ ?_ <;> intro hc)) | fail)
 refine wpl_callV (enters_of Tryz.func63 rfl rfl) rfl rfl ((show Calls Tryz.prog 63 #[str og] w (RetV w (.int .i64 (checkE og))) from t27 og w)) ?_; intro w1 x1; refine gset ?_
 by_cases hE : secE og retry = 0
 ·have h0 := hE
  unfold secE at h0
  split at h0
  ·cases h0
  ·rename_i c
   have c1 : checkE og = 0 := Decidable.byContradiction fun e => c (.inl e)
   rw [c1]
   (repeat' first | ((with_reducible refine nx0 ?_); go_step) | ((with_reducible refine o_s ?_); first | refine wk1 ?_ | (refine wg0 ?_ ?_ <;> intro hc)) | fail)
   all_goals first
    | (exfalso; omega)
    | skip
   refine wpl_run (v := .agg (secNew og retry).soa.cells.toArray) rfl (Runs.build rfl (by kernel_rfl)) ?_
   refine gset ?_
   refine wpl_run (v := .agg (secC (secNew og retry) (.pointer none)).toArray) rfl (Runs.build rfl (by kernel_rfl)) ?_
   refine gset ?_
   refine wpl_boxB (vs := secC (secNew og retry) (.pointer none)) rfl rfl ?_
   intro w2 x2 s2 h2
   refine gset ?_
   (repeat' first | ((with_reducible refine nx0 ?_); go_step) | ((with_reducible refine o_s ?_); first | refine wk1 ?_ | (refine wg0 ?_ ?_ <;> intro hc)) | fail)
   go_ret2
   refine ⟨_, rfl, x1.trans x2, _, by rw [hE]; rfl, ?_⟩
   unfold secPE
   rw [if_pos hE]
   exact ⟨_, rfl, by omega, x1.size, by omega, .pointer none, h2, fun _ => rfl, fun o l e => by cases e⟩
 ·have hE1 : secE og retry = 1 := by
   unfold secE at hE ⊢
   split at hE
   ·rename_i c; rw [if_pos c]
   ·exact absurd rfl hE
  have hnE : ¬ (checkE og = 0 ∧ 1 ≤ retry ∧ retry ≤ 2147483647) := by
   intro hh
   apply hE
   unfold secE
   rw [if_neg (by rintro (e | e | e) <;> omega)]
  (repeat' first | ((with_reducible refine nx0 ?_); go_step) | ((with_reducible refine o_s ?_); first | refine wk1 ?_ | (refine wg0 ?_ ?_ <;> intro hc)) | fail)
  all_goals first
   | (exfalso
      refine hnE ⟨?_, by omega, by omega⟩
      have hh := ‹(!decide (checkE og = 0)) = false›
      simpa using hh)
   | (go_ret2
      exact ⟨_, rfl, x1, .pointer none, by rw [hE1]; rfl, by unfold secPE; rw [if_neg hE]⟩)
set_option maxHeartbeats 4000000 in
theorem p_Up {B : Nat} {w : World} {b : Nat} {s : SecR} (h : SAt B w b s) (now : Int) : Calls Tryz.prog 36 #[.pointer (some ⟨b, 0, none⟩), .int .i64 now] w (RetV w (.bool (s.up now))) := by
 obtain ⟨pz, hb, hp, hps, h8, h9, h10, h11, hn, hz⟩ := h.pts
 go_enter Tryz.func36, Tryz.ntmps36
 cases hq : s.z with
 | none =>
  have := hn hq
  subst this
  (repeat' first | ((with_reducible refine nx0 ?_); go_step) | ((with_reducible refine o_s ?_); first | refine wk1 ?_ | (refine wg0 ?_ ?_ <;> intro hc)) | fail)
  go_ret
  exact ⟨by simp [SecR.up, hq], Ext.refl _⟩
 | some q =>
  obtain ⟨c, v, rfl, _⟩ := hz q.1 q.2 hq
  (repeat' first | ((with_reducible refine nx0 ?_); go_step) | ((with_reducible refine o_s ?_); first | refine wk1 ?_ | (refine wg0 ?_ ?_ <;> intro hc)) | fail)
  refine wpl_callV (enters_of Tryz.func64 rfl rfl) rfl rfl (p_isTime now _) ?_; intro w1 x1; refine gset ?_
  have g10 := h10.ext x1
  cases ht : okTime now with
  | false =>
   (repeat' first | ((with_reducible refine nx0 ?_); go_step) | ((with_reducible refine o_s ?_); first | refine wk1 ?_ | (refine wg0 ?_ ?_ <;> intro hc)) | fail)
   go_ret
   exact ⟨by simp [SecR.up, ht], x1⟩
  | true =>
   (repeat' first | ((with_reducible refine nx0 ?_); go_step) | ((with_reducible refine o_s ?_); first | refine wk1 ?_ | (refine wg0 ?_ ?_ <;> intro hc)) | fail)
   go_ret
   exact ⟨by simp [SecR.up, ht, hq], x1⟩
set_option maxHeartbeats 8000000 in
theorem p_SecZone {B : Nat} {w : World} {b : Nat} {s : SecR} (h : SAt B w b s) (hs : SecOk s) : Calls Tryz.prog 34 #[.pointer (some ⟨b, 0, none⟩)] w (Ret w fun r w' => ∃ y, r = .tuple #[.agg #[str s.o, y], .bool s.z.isSome] ∧ SetsV w.heap.size w' y s.l) := by
 obtain ⟨pz, hb, -, -, -, -, -, -, hn, hzz⟩ := h.pts
 go_enter Tryz.func34, Tryz.ntmps34
 repeat' (first | ((with_reducible refine nx0 ?_); go_step) | fail)
 refine wpl_allocB (z := zzone) rfl (by decide +kernel) ?_
 intro w1 x1 s1 h1
 refine gset ?_
 have hb1 := x1.at hb
 have hp1 := pts_block (cs := secC s pz) hb1
 have h81 : Pts w1 (partPtr (.pointer (some ⟨b, 0, none⟩)) 8) [pz, .int .i64 s.next, .int .i64 s.til, .bool s.take] := hp1.part 8
 generalize hrb : w.heap.size = rb at *
 cases hq : s.z with
 | none =>
  have := hn hq
  subst this
  have e1 : s.o = [] := by simp [SecR.o, hq]
  have e2 : s.l = [] := by simp [SecR.l, hq]
  (repeat' first | ((with_reducible refine nx0 ?_); go_step) | ((with_reducible refine o_s ?_); first | refine wk1 ?_ | (refine wg0 ?_ ?_ <;> intro hc)) | fail)
  refine wpl_run (v := .agg zzone.toArray) rfl (Runs.build0 (by kernel_rfl)) ?_
  refine gset ?_
  refine wpl_storeB (v := .agg zzone.toArray) rfl rfl rfl h1 (show sizeTy Tryz.prog 34 2 = true by decide +kernel) rfl (by decide +kernel) ?_
  intro w2 p2
  (repeat' first | ((with_reducible refine nx0 ?_); go_step) | ((with_reducible refine o_s ?_); first | refine wk1 ?_ | (refine wg0 ?_ ?_ <;> intro hc)) | fail)
  refine bodyPost_ret (results_cellT (cs := zzone) rfl rfl p2.this (by decide +kernel)) rfl ⟨_, rfl, Ext.move x1 p2.mv (by rintro k ⟨⟩; omega), .slice none 0 0, ?_, ?_⟩
  ·rw [e1, hq]; rfl
  ·rw [e2]; exact ⟨[], Own.nil _ _ _ _, rfl, by simp⟩
 | some q =>
  obtain ⟨c, v, rfl, hBc, hc, hO⟩ := hzz q.1 q.2 hq
  have e1 : s.o = q.1 := by simp [SecR.o, hq]
  have e2 : s.l = q.2 := by simp [SecR.l, hq]
  have hzk := (hs.zone q.1 q.2 hq).1
  obtain ⟨zl, zb, zd, zr⟩ := zoneJ hzk
  generalize q.1 = o at *
  generalize q.2 = l at *
  have hc1 := x1.at hc
  have hpc := pts_block (cs := [str o, v]) hc1
  obtain ⟨css0, hv0, hvs⟩ := (hO.ext x1).sets.rows
  have hlen0 := hvs.len
  (repeat' first | ((with_reducible refine nx0 ?_); go_step) | ((with_reducible refine o_s ?_); first | refine wk1 ?_ | (refine wg0 ?_ ?_ <;> intro hc)) | fail)
  refine wph_region (S := fun w' => Ext w1 w') (by decide +kernel) ?_
  intro w21 x21 hh21
  refine tk1 0 ?_; refine gset ?_; refine tk1 1 ?_; refine gset ?_; refine tk1 2 ?_; refine gset ?_; refine tk1 3 ?_; refine gset ?_; refine tk1 4 ?_; refine gset ?_; refine tk1 5 ?_; refine gset ?_; refine tk1 6 ?_; refine gset ?_; refine tk1 7 ?_; refine gset ?_; refine tk1 8 ?_; refine gset ?_; refine tk1 9 ?_; refine gset ?_; refine tk1 10 ?_; refine gset ?_; refine tk1 11 ?_; refine gset ?_; refine tk1 12 ?_; refine gset ?_; refine tk1 13 ?_; refine gset ?_
  have hcl : ∀ w', Ext w1 w' → Calls Tryz.prog 80 #[v] w' (Ret w' fun r w'' => Own w'.heap.size 4 115 w'' r css0) := fun w' x' => p_CloneS v css0 _ (hv0.ext x') (hvs.ext x').cell (by rw [hlen0]; omega)
  apply meetJ (F := fun (y : Value) (zk : Nat) (_ : Nat) w' => Ext w1 w' ∧ w1.heap.size ≤ zk ∧ w'.heap[zk]? = some (.cells [str o, y].toArray 34 (0, 0)) ∧ Own w1.heap.size 4 115 w' y css0)
  ·intro hG
   obtain ⟨u0, -⟩ : ∃ u0 : Nat, u0 = u0 := ⟨0, rfl⟩
   refine wph_two (i := 14) (j := 16) (by decide +kernel) rfl rfl rfl ?_ ?_
   ·refine wpl_callR (enters_of Tryz.func80 rfl rfl) rfl rfl (hcl _ x21) ?_
    intro y wC xC oy
    refine gset ?_
    have x3 := x21.trans xC
    have hsC := x21.size
    have oy' := oy.weaken hsC
    have hy1 := oy.one
    refine wph_nil ⟨x3, ?_⟩
    refine wph_take (i := 15) (v := .agg #[str o, y]) rfl rfl (by decide +kernel) (by decide +kernel) (by decide +kernel) rfl x3 (fun w' _ => Runs.build rfl (by obtain ⟨_, _, _, rfl⟩ := oy.sl.slf; kernel_rfl)) (fun _ _ _ h => h) ?_
    refine gset ?_
    refine wph_one (i := 16) (by decide +kernel) rfl rfl ?_
    refine wpl_allocB (z := zzone) rfl (by decide +kernel) ?_
    intro wE xE sE hE
    refine gset ?_
    have x4 := x3.trans xE
    refine wph_nil ⟨x4, ?_⟩
    refine wph_one (i := 17) (by decide +kernel) rfl rfl ?_
    refine wpl_storeB (v := .agg #[str o, y]) rfl rfl rfl hE (show sizeTy Tryz.prog 34 2 = true by decide +kernel) rfl (zone_one hy1) ?_
    intro wF pF
    have xF : Ext wC wF := xE.move pF.mv (by rintro k ⟨⟩; exact Nat.le_refl _)
    have hF := pF.this
    have hle : w1.heap.size ≤ wC.heap.size := x3.size
    refine wph_nil ⟨x3.trans xF, ?_⟩
    have oyF := oy'.ext xF
    have x3F := x3.trans xF
    clear pF hE xE sE
    generalize wC.heap.size = zk at *
    exact hG y zk u0 _ ⟨x3F, hle, hF, oyF⟩
   ·refine wpl_allocB (z := zzone) rfl (by decide +kernel) ?_
    intro wD xD sD hD
    refine gset ?_
    have x2 := x21.trans xD
    have hle := x21.size
    refine wph_nil ⟨x2, ?_⟩
    refine wph_one (i := 14) (by decide +kernel) rfl rfl ?_
    refine wpl_callR (enters_of Tryz.func80 rfl rfl) rfl rfl (hcl _ x2) ?_
    intro y wC xC oy
    refine gset ?_
    have x3 := x2.trans xC
    have hsC := x2.size
    have oy' := oy.weaken hsC
    have hy1 := oy.one
    have hC := xC.at hD
    refine wph_nil ⟨x3, ?_⟩
    refine wph_take (i := 15) (v := .agg #[str o, y]) rfl rfl (by decide +kernel) (by decide +kernel) (by decide +kernel) rfl x3 (fun w' _ => Runs.build rfl (by obtain ⟨_, _, _, rfl⟩ := oy.sl.slf; kernel_rfl)) (fun _ _ _ h => h) ?_
    refine gset ?_
    refine wph_one (i := 17) (by decide +kernel) rfl rfl ?_
    refine wpl_storeB (v := .agg #[str o, y]) rfl rfl rfl hC (show sizeTy Tryz.prog 34 2 = true by decide +kernel) rfl (zone_one hy1) ?_
    intro wF pF
    have xF : Ext w1 wF := x3.move pF.mv (by rintro k ⟨⟩; exact hle)
    have hF := pF.this
    have oyF := oy'.mv pF.mv (.inr (oy'.neBlock hC (by decide)))
    refine wph_nil ⟨xF, ?_⟩
    clear pF hC hD xD sD
    generalize w21.heap.size = zk at *
    exact hG y zk u0 _ ⟨xF, hle, hF, oyF⟩
  ·rintro y zk _ w9 ⟨x9, hzk9, hz9, ho9⟩
   refine wph_done (by decide +kernel) ?_
   have h9 := x9.at h1
   have hpz9 := pts_block (cs := [str o, y]) hz9
   have hsl9 := ho9.sl
   have hx9 := x1.trans x9
   have hB9 := x9.size
   have hzW := x1.size
   have hrz : rb ≠ zk := by omega
   clear hh21 h81 hp1 hpc
   (repeat' first | ((with_reducible refine nx0 ?_); go_step) | ((with_reducible refine o_s ?_); first | refine wk1 ?_ | (refine wg0 ?_ ?_ <;> intro hc)) | fail)
   generalize hBe : w1.heap.size = B1 at *
   go_loopw [5, 6, 36] (fun _ _ i wr => ∃ (k : Nat) (css : List (List Value)), k ≤ l.length ∧ i = .int .i64 k ∧ Ext w1 wr ∧ B1 ≤ wr.heap.size ∧ wr.heap[zk]? = some (.cells [str o, y].toArray 34 (0, 0)) ∧ wr.heap[rb]? = some (.cells zzone.toArray 34 (0, 0)) ∧ Own B1 4 115 wr y css ∧ SetsN B1 wr css0 css l k) (fun _ _ i _ => l.length - (intOf i).toNat)
   case atStart => exact ⟨0, css0, Nat.zero_le _, rfl, x9, hB9, hz9, h9, ho9, ⟨hlen0, by omega, fun i _ => rfl⟩⟩
   case round =>
    obtain ⟨k, css, hk, rfl, hx, hBr, hbz, hbr, ho, hsn⟩ := hrel
    have hpz := pts_block hbz
    have hsl := ho.sl
    have hlen := hsn.len
    by_cases hlt : k < l.length
    ·obtain ⟨x, hc0, hxd0⟩ := hvs.at' k _ (List.getElem?_eq_getElem hlt)
     have hc : css[k]? = some [str l[k].name, .int .i64 l[k].kind, .int .i64 l[k].ttl, x] := by rw [hsn.old k (Nat.le_refl _)]; exact hc0
     have hxd := hxd0.ext hx
     have hpe := hsl.elem hc
     have hbk := zb _ (List.getElem_mem hlt)
     (repeat' first | ((with_reducible refine nx0 ?_); go_step) | ((with_reducible refine o_s ?_); first | refine wk1 ?_ | (refine wg0 ?_ ?_ <;> intro hc)) | fail)
     refine wpl_allocB (z := zset) rfl (by decide +kernel) ?_
     intro w10 x10 s10 h10
     refine gset ?_
     (repeat' first | ((with_reducible refine nx0 ?_); go_step) | ((with_reducible refine o_s ?_); first | refine wk1 ?_ | (refine wg0 ?_ ?_ <;> intro hc)) | fail)
     refine wpl_storeB (v := .agg #[str l[k].name, .int .i64 l[k].kind, .int .i64 l[k].ttl, x]) rfl rfl rfl h10 (show sizeTy Tryz.prog 115 4 = true by decide +kernel) rfl (all4 rfl rfl rfl hxd.one) ?_
     intro w11 p11
     have x11 : Ext wr w11 := x10.move p11.mv (by rintro k ⟨⟩; exact Nat.le_refl _)
     have hbs : w11.heap[wr.heap.size]? = some (.cells [str l[k].name, .int .i64 l[k].kind, .int .i64 l[k].ttl, x].toArray 115 (0, 0)) := p11.this
     have hx11 := hx.trans x11
     have hbz11 := x11.at hbz
     have hbr11 := x11.at hbr
     have ho11 := ho.ext x11
     have hs11 := hsn.ext x11
     have hps := pts_block hbs
     have hpz11 := pts_block hbz11
     have hsl11 := ho11.sl
     have hpe11 := hsl11.elem hc
     have hxd11 := hxd.ext x11
     clear p11 h10 x10 hpe hpz hsl
     (repeat' first | ((with_reducible refine nx0 ?_); go_step) | ((with_reducible refine o_s ?_); first | refine wk1 ?_ | (refine wg0 ?_ ?_ <;> intro hc)) | fail)
     refine wpi_region 8 (Ext w11) (by decide +kernel) ?_
     intro w12 x12 _
     refine ⟨x12, ?_⟩
     refine it1 0 ?_; refine it1 1 ?_; refine it1 2 ?_; refine it1 3 ?_; refine it1 4 ?_
     refine wpi_op (i := 5) (by decide +kernel) rfl rfl ?_
     refine wpl_callR (enters_of Tryz.func81 rfl rfl) rfl rfl (t24 x l[k].data _ (hxd11.ext x12) (by omega)) ?_
     intro u w13 x13 ou
     refine gset ?_
     have x1113 := x12.trans x13
     refine wph_nil ⟨till_yes x1113, ?_⟩
     refine it1 6 ?_; refine it1 7 ?_
     refine wpi_op (i := 8) (by decide +kernel) rfl rfl ?_
     have ho13 := ho11.ext x1113
     refine wpl_storeEF (i := k) (j := 3) rfl rfl rfl ho13 hc (by decide) (by decide +kernel) ou.one ?_
     intro w14 o14 m14
     refine wph_nil ⟨till_no rfl, ?_⟩
     refine wpi_done (by decide +kernel) ?_
     have hx13 := hx11.trans x1113
     have x14 : Ext w1 w14 := ho13.mvx m14 hx13 (by omega)
     have hbz14 := m14.at (x1113.at hbz11) (fun e => ho13.neBlock (x1113.at hbz11) (by decide) e.symm)
     have hbr14 := m14.at (x1113.at hbr11) (fun e => ho13.neBlock (x1113.at hbr11) (by decide) e.symm)
     have ou14 := ou.mv m14 (ou.ne ho13 (by decide))
     have hs14 := (hs11.ext x1113).mv m14 (fun x es hx => hx.ne ho13 (by decide))
     have hB14 : B1 ≤ w14.heap.size := by have a1 := x1113.size; have a2 := m14.size; have a3 := x11.size; omega
     have ouk : Own B1 1 9 w14 u (tcells l[k].data) := ou14.weaken (by have a1 := x12.size; have a2 := x11.size; omega)
     clear hps hpz11 hsl11 hpe11 hbs hbz11 hbr11 hs11 ho13 ho11 hxd11
     (repeat' first | ((with_reducible refine nx0 ?_); go_step) | ((with_reducible refine o_s ?_); first | refine wk1 ?_ | (refine wg0 ?_ ?_ <;> intro hc)) | fail)
     exact ⟨⟨k + 1, _, by omega, by go_num, x14, hB14, hbz14, hbr14, o14, hs14.step hlt ouk⟩, by simp [intOf]; omega⟩
    ·have : k = l.length := by omega
     subst this
     (repeat' first | ((with_reducible refine nx0 ?_); go_step) | ((with_reducible refine o_s ?_); first | refine wk1 ?_ | (refine wg0 ?_ ?_ <;> intro hc)) | fail)
     refine wpl_storeB (v := .agg #[str o, y]) rfl rfl rfl hbr (show sizeTy Tryz.prog 34 2 = true by decide +kernel) rfl (zone_one ho.one) ?_
     intro w11 p11
     have x11 : Ext w w11 := (x1.trans hx).move p11.mv (by rintro k ⟨⟩; omega)
     have hfin : SetsV w.heap.size w11 y l := by
      have : SetsV B1 wr y l := ⟨css, ho, hsn.done⟩
      exact (this.put hbr (by decide) (by decide) p11).weaken hzW
     (repeat' first | ((with_reducible refine nx0 ?_); go_step) | ((with_reducible refine o_s ?_); first | refine wk1 ?_ | (refine wg0 ?_ ?_ <;> intro hc)) | fail)
     refine bodyPost_ret (results_cellT (cs := [str o, y]) rfl rfl p11.this (show aggTy Tryz.prog 34 2 = true by decide +kernel)) rfl ⟨_, rfl, x11, y, ?_, ?_⟩
     ·rw [e1, hq]; rfl
     ·rw [e2]; exact hfin
theorem told_ok {oo : List UInt8} {lo : List RSet} {og : List UInt8} {l : List Rec} (h : (toldZ oo lo og l).e = 0) (hl : 2 < l.length) : ZoneOk (toldZ oo lo og l).o (toldZ oo lo og l).l := by
 unfold toldZ at h ⊢
 split at h
 ·rename_i d1
  rw [if_pos d1]
  exact load_zone h
 ·rename_i d1
  rw [if_neg d1]
  split at h
  ·cases h
  ·rename_i d2
   rw [if_neg d2]
   exact (chg_zone _ _ (Nat.le_refl _) oo lo h (by
    intro e
    have := congrArg List.length e
    simp at this
    omega)).1
set_option maxHeartbeats 16000000 in
theorem p_Install (oo : List UInt8) (v : Value) (lo : List RSet) (og : List UInt8) (lv : Value) (l : List Rec) (w : World) (hv : SetsAt w v lo) (hl : Sl 4 w lv (rcells l)) (bl : ∀ s ∈ lo, s.data.length ≤ 1000000) (dl : ∀ s ∈ lo, ∀ d ∈ s.data, d.length ≤ 1000000) (h1 : (recordsS lo).length ≤ 5000) (h2 : l.length ≤ 5000) (dn : ∀ q ∈ l, q.data.length ≤ 1000000) :
 Calls Tryz.prog 52 #[.agg #[str oo, v], str og, lv] w (Ret w (ZEU w.heap.size (instZ oo lo og l))) := by
 have hrl := rcells_length l
 go_enter Tryz.func52, Tryz.ntmps52
 repeat' (first | ((with_reducible refine nx0 ?_); go_step) | fail)
 refine wpl_box (vs := [str oo, v]) rfl rfl ?_
 intro p w1 x1 hp
 refine gset ?_
 refine wpl_allocB (z := zzone) rfl (by decide +kernel) ?_
 intro w2 x2 s2 hb2
 have hx2 := x1.trans x2
 have hsz2 := x1.size
 generalize hbe : w1.heap.size = b at *
 refine gset ?_
 (repeat' first | ((with_reducible refine nx0 ?_); go_step) | ((with_reducible refine o_s ?_); first | refine wk0 ?_ | (refine wg0 ?_ ?_ <;> intro hc)) | fail)
 rw [hrl]
 refine wpl_callV (enters_of Tryz.func63 rfl rfl) rfl rfl ((show Calls Tryz.prog 63 #[str og] w2 (RetV w2 (.int .i64 (checkE og))) from t27 og w2)) ?_; intro w3 x3; refine gset ?_
 have hx3 := hx2.trans x3
 have hb3 := x3.at hb2
 have hs3 := x3.size
 have hl3 := hl.ext hx3
 have hp3 := hp.ext (x2.trans x3)
 by_cases c1 : checkE og = 0
 ·rw [c1]
  (repeat' first | ((with_reducible refine nx0 ?_); go_step) | ((with_reducible refine o_s ?_); first | refine wk0 ?_ | (refine wg0 ?_ ?_ <;> intro hc)) | fail)
  refine wpl_callV (enters_of Tryz.func106 rfl rfl) rfl rfl (p_ContainsFuncR lv l _ (fun r => !decide (checkR r = 0)) _ hl3 (enters_of Tryz.func107 rfl rfl) (fun r _ w' => p_Install1 r w')) ?_; intro w4 x4; refine gset ?_
  have hx4 := hx3.trans x4
  have hb4 := x4.at hb3
  have hs4 := x4.size
  have hp4 := hp3.ext x4
  cases hany : l.any (fun r => !decide (checkR r = 0)) with
  | true =>
   have hE : instZ oo lo og l = ZE.bad 1 := by rw [instZ, if_pos (.inr hany)]
   (repeat' first | ((with_reducible refine nx0 ?_); go_step) | ((with_reducible refine o_s ?_); first | refine wk0 ?_ | (refine wg0 ?_ ?_ <;> intro hc)) | fail)
   refine wpl_run (v := .agg zzone.toArray) rfl (Runs.build0 (by kernel_rfl)) ?_; refine gset ?_; (repeat' first | ((with_reducible refine nx0 ?_); go_step) | ((with_reducible refine o_s ?_); first | refine wk0 ?_ | (refine wg0 ?_ ?_ <;> intro hc)) | fail); refine wpl_storeB (v := .agg zzone.toArray) rfl rfl rfl (hb4) (show sizeTy Tryz.prog 34 2 = true by decide +kernel) rfl (by decide +kernel) ?_; intro wz pz; (repeat' first | ((with_reducible refine nx0 ?_); go_step) | ((with_reducible refine o_s ?_); first | refine wk0 ?_ | (refine wg0 ?_ ?_ <;> intro hc)) | fail); refine bodyPost_ret (results_cellT (cs := zzone) rfl rfl pz.this (by decide +kernel)) rfl ⟨_, rfl, Ext.move (hx4) pz.mv (by rintro k ⟨⟩; omega), ?_⟩; rw [hE]
   exact ZEU.bad
  | false =>
   have q1 : ¬ (checkE og ≠ 0 ∨ l.any (fun r => !decide (checkR r = 0)) = true) := by
    rintro (e | e)
    ·exact e c1
    ·rw [hany] at e; cases e
   by_cases hl0 : l = []
   ·have hE : instZ oo lo og l = ZE.bad 2 := by rw [instZ, if_neg q1, if_pos hl0]
    have hn0 : l.length = 0 := by rw [hl0]; rfl
    rw [hn0]
    (repeat' first | ((with_reducible refine nx0 ?_); go_step) | ((with_reducible refine o_s ?_); first | refine wk0 ?_ | (refine wg0 ?_ ?_ <;> intro hc)) | fail)
    all_goals first
     | (exfalso; omega)
     | skip
    refine wpl_run (v := .agg zzone.toArray) rfl (Runs.build0 (by kernel_rfl)) ?_; refine gset ?_; (repeat' first | ((with_reducible refine nx0 ?_); go_step) | ((with_reducible refine o_s ?_); first | refine wk0 ?_ | (refine wg0 ?_ ?_ <;> intro hc)) | fail); refine wpl_storeB (v := .agg zzone.toArray) rfl rfl rfl (hb4) (show sizeTy Tryz.prog 34 2 = true by decide +kernel) rfl (by decide +kernel) ?_; intro wz pz; (repeat' first | ((with_reducible refine nx0 ?_); go_step) | ((with_reducible refine o_s ?_); first | refine wk0 ?_ | (refine wg0 ?_ ?_ <;> intro hc)) | fail); refine bodyPost_ret (results_cellT (cs := zzone) rfl rfl pz.this (by decide +kernel)) rfl ⟨_, rfl, Ext.move (hx4) pz.mv (by rintro k ⟨⟩; omega), ?_⟩; rw [hE]
    exact ZEU.bad
   ·have hln : 1 ≤ l.length := List.length_pos_iff.2 hl0
    have hh0 : l.getD 0 zeroRec = headOf l := by
     cases l with
     | nil => exact absurd rfl hl0
     | cons r t => rfl
    have hl4 := hl3.ext x4
    have hpt : Pts w (elemPtr lv (0 * 4)) _ := hl.elem (rc_at (i := 0) (by omega))
    rw [hh0, Nat.zero_mul] at hpt
    have hpt4 := hpt.ext hx4
    rw [show (l.length : Int) - 1 = ((l.length - 1 : Nat) : Int) by omega]
    obtain ⟨last, hlast⟩ : ∃ n, n = l.length - 1 := ⟨_, rfl⟩
    rw [← hlast]
    (repeat' first | ((with_reducible refine nx0 ?_); go_step) | ((with_reducible refine o_s ?_); first | refine wk0 ?_ | (refine wg0 ?_ ?_ <;> intro hc)) | fail)
    all_goals first
     | (exfalso; omega)
     | skip
    refine wpl_callV (enters_of Tryz.func109 rfl rfl) rfl rfl (p_isSoa (headOf l) _) ?_; intro w5 x5; refine gset ?_
    have hx5 := hx4.trans x5
    have hb5 := x5.at hb4
    have hs5 := x5.size
    have hp5 := hp4.ext x5
    have hpt5 := hpt4.ext x5
    cases hsoa : isSoaR (headOf l) with
    | false =>
     have hE : instZ oo lo og l = ZE.bad 2 := by rw [instZ, if_neg q1, if_neg hl0, if_pos (.inl hsoa)]
     (repeat' first | ((with_reducible refine nx0 ?_); go_step) | ((with_reducible refine o_s ?_); first | refine wk0 ?_ | (refine wg0 ?_ ?_ <;> intro hc)) | fail)
     refine wpl_run (v := .agg zzone.toArray) rfl (Runs.build0 (by kernel_rfl)) ?_; refine gset ?_; (repeat' first | ((with_reducible refine nx0 ?_); go_step) | ((with_reducible refine o_s ?_); first | refine wk0 ?_ | (refine wg0 ?_ ?_ <;> intro hc)) | fail); refine wpl_storeB (v := .agg zzone.toArray) rfl rfl rfl (hb5) (show sizeTy Tryz.prog 34 2 = true by decide +kernel) rfl (by decide +kernel) ?_; intro wz pz; (repeat' first | ((with_reducible refine nx0 ?_); go_step) | ((with_reducible refine o_s ?_); first | refine wk0 ?_ | (refine wg0 ?_ ?_ <;> intro hc)) | fail); refine bodyPost_ret (results_cellT (cs := zzone) rfl rfl pz.this (by decide +kernel)) rfl ⟨_, rfl, Ext.move (hx5) pz.mv (by rintro k ⟨⟩; omega), ?_⟩; rw [hE]
     exact ZEU.bad
    | true =>
     have hl5 := hl4.ext x5
     (repeat' first | ((with_reducible refine nx0 ?_); go_step) | ((with_reducible refine o_s ?_); first | refine wk0 ?_ | (refine wg0 ?_ ?_ <;> intro hc)) | fail)
     refine wpl_callV (enters_of Tryz.func69 rfl rfl) rfl rfl (t17 (headOf l).name _) ?_; intro w6 x6; refine gset ?_
     (repeat' first | ((with_reducible refine nx0 ?_); go_step) | ((with_reducible refine o_s ?_); first | refine wk0 ?_ | (refine wg0 ?_ ?_ <;> intro hc)) | fail)
     refine wpl_callV (enters_of Tryz.func69 rfl rfl) rfl rfl (t17 og _) ?_; intro w7 x7; refine gset ?_
     have x57 := x6.trans x7
     have hx7 := hx5.trans x57
     have hb7 := x57.at hb5
     have hs7 := x57.size
     have hp7 := hp5.ext x57
     have hpt7 := hpt5.ext x57
     have hl7 := hl5.ext x57
     clear hpt hpt4 hpt5 hl3 hl4 hl5 hp3 hp4 hp5 hp
     by_cases hfo : fold (headOf l).name = fold og
     ·have q2 : ¬ (isSoaR (headOf l) = false ∨ fold (headOf l).name ≠ fold og) := by
       rintro (e | e)
       ·rw [hsoa] at e; cases e
       ·exact e hfo
      have hfo' : (!decide (fold (headOf l).name = fold og)) = false := by simp [hfo]
      (repeat' first | ((with_reducible refine nx0 ?_); go_step) | ((with_reducible refine o_s ?_); first | refine wk0 ?_ | (refine wg0 ?_ ?_ <;> intro hc)) | fail)
      ·exfalso
       have hh := ‹(!decide (fold (headOf l).name = fold og)) = true›
       rw [hfo'] at hh
       cases hh
      ·have hl1 : l.length = 1 := by
        have : (last : Int) = 0 := by assumption
        omega
       have hE : instZ oo lo og l = ZE.bad 5 := by rw [instZ, if_neg q1, if_neg hl0, if_neg q2, if_pos hl1]
       refine wpl_run (v := .agg zzone.toArray) rfl (Runs.build0 (by kernel_rfl)) ?_; refine gset ?_; (repeat' first | ((with_reducible refine nx0 ?_); go_step) | ((with_reducible refine o_s ?_); first | refine wk0 ?_ | (refine wg0 ?_ ?_ <;> intro hc)) | fail); refine wpl_storeB (v := .agg zzone.toArray) rfl rfl rfl (hb7) (show sizeTy Tryz.prog 34 2 = true by decide +kernel) rfl (by decide +kernel) ?_; intro wz pz; (repeat' first | ((with_reducible refine nx0 ?_); go_step) | ((with_reducible refine o_s ?_); first | refine wk0 ?_ | (refine wg0 ?_ ?_ <;> intro hc)) | fail); refine bodyPost_ret (results_cellT (cs := zzone) rfl rfl pz.this (by decide +kernel)) rfl ⟨_, rfl, Ext.move (hx7) pz.mv (by rintro k ⟨⟩; omega), ?_⟩; rw [hE]
       exact ZEU.bad
      ·have hl1 : ¬ l.length = 1 := by
        have : ¬ (last : Int) = 0 := by assumption
        omega
       have hpl : Pts w (elemPtr lv (last * 4)) _ := hl.elem (rc_at (i := last) (by omega))
       have hpl7 := hpl.ext hx7
       refine wpq_region (by decide +kernel) (by decide +kernel) ?_
       by_cases hl2 : last = 1
       ·have hE : instZ oo lo og l = ZE.bad 3 := by rw [instZ, if_neg q1, if_neg hl0, if_neg q2, if_neg hl1, if_pos (.inl (by omega))]
        (try ((with_reducible refine qh0 ?_); refine qk0 ?_))
        rw [decide_eq_true (by omega : (last : Int) = 1)]
        (try ((with_reducible refine qh0 ?_); refine qk0 ?_))
        intro w8 x8
        have hb8 := x8.at hb7
        have hs8 := x8.size
        (repeat' first | ((with_reducible refine nx0 ?_); go_step) | ((with_reducible refine o_s ?_); first | refine wk0 ?_ | (refine wg0 ?_ ?_ <;> intro hc)) | fail)
        refine wpl_run (v := .agg zzone.toArray) rfl (Runs.build0 (by kernel_rfl)) ?_; refine gset ?_; (repeat' first | ((with_reducible refine nx0 ?_); go_step) | ((with_reducible refine o_s ?_); first | refine wk0 ?_ | (refine wg0 ?_ ?_ <;> intro hc)) | fail); refine wpl_storeB (v := .agg zzone.toArray) rfl rfl rfl (hb8) (show sizeTy Tryz.prog 34 2 = true by decide +kernel) rfl (by decide +kernel) ?_; intro wz pz; (repeat' first | ((with_reducible refine nx0 ?_); go_step) | ((with_reducible refine o_s ?_); first | refine wk0 ?_ | (refine wg0 ?_ ?_ <;> intro hc)) | fail); refine bodyPost_ret (results_cellT (cs := zzone) rfl rfl pz.this (by decide +kernel)) rfl ⟨_, rfl, Ext.move (hx7.trans x8) pz.mv (by rintro k ⟨⟩; omega), ?_⟩; rw [hE]
        exact ZEU.bad
       ·(try ((with_reducible refine qh0 ?_); refine qk0 ?_))
        rw [decide_eq_false (by omega : ¬ (last : Int) = 1)]
        (try ((with_reducible refine qh0 ?_); refine qk0 ?_))
        refine wpq_run0 (fun w' _ => by exact Runs.neqRec (r := l.getD last zeroRec) (q := headOf l) rfl rfl) ?_
        refine gset ?_
        (try ((with_reducible refine qh0 ?_); refine qk0 ?_))
        intro w8 x8
        have hx8 := hx7.trans x8
        have hb8 := x8.at hb7
        have hs8 := x8.size
        have hp8 := hp7.ext x8
        have hpt8 := hpt7.ext x8
        clear hpl hpl7 hpt7 hp7
        by_cases heq : l.getD last zeroRec = headOf l
        ·have q3 : ¬ (l.length = 2 ∨ l.getD (l.length - 1) zeroRec ≠ headOf l) := by
          rw [← hlast]
          rintro (e | e)
          ·omega
          ·exact e heq
         have heq' : (!decide (l.getD last zeroRec = headOf l)) = false := by rw [decide_eq_true heq]; rfl
         rw [heq']
         (repeat' first | ((with_reducible refine nx0 ?_); go_step) | ((with_reducible refine o_s ?_); first | refine wk0 ?_ | (refine wg0 ?_ ?_ <;> intro hc)) | fail)
         refine wpl_callR (enters_of Tryz.func110 rfl rfl) rfl rfl (p_told oo v lo og lv l w8 (hv.ext hx8) (hl.ext hx8) bl dl h1 h2 (by omega) dn) ?_
         rintro _ w9 x9 hU
         obtain ⟨y, rfl, hO, hy1⟩ := hU.cell
         have hok := told_ok (oo := oo) (lo := lo) (og := og) (l := l)
         have hI : instZ oo lo og l = (let q := toldZ oo lo og l
          if q.e ≠ 0 then ZE.bad q.e else if (soaZ q.o q.l).serial ≠ serOf (headOf l) then ZE.bad 2 else if lo ≠ [] ∧ laterB (soaZ q.o q.l).serial (soaZ oo lo).serial = false then ZE.bad 7 else q) := by
          rw [instZ, if_neg q1, if_neg hl0, if_neg q2, if_neg hl1, if_neg q3]
         generalize toldZ oo lo og l = q at *
         simp only at hI
         refine gset ?_
         (repeat' first | ((with_reducible refine nx0 ?_); go_step) | ((with_reducible refine o_s ?_); first | refine wk0 ?_ | (refine wg0 ?_ ?_ <;> intro hc)) | fail)
         refine wpl_allocB (z := zzone) rfl (by decide +kernel) ?_
         intro w10 x10 s10 hb10
         refine gset ?_
         refine wpl_storeB (v := .agg #[str q.o, y]) rfl rfl rfl hb10 (show sizeTy Tryz.prog 34 2 = true by decide +kernel) rfl (zone_one hy1) ?_
         intro w11 p11
         have x11 : Ext w9 w11 := x10.move p11.mv (by rintro k ⟨⟩; omega)
         have hpz := pts_block (cs := [str q.o, y]) p11.this
         have x8b := x9.trans x11
         have hx11 := hx8.trans x8b
         have hb11 := x8b.at hb8
         have hs11 := x8b.size
         have hp11 := hp8.ext x8b
         have hpt11 := hpt8.ext x8b
         clear hb10 x10 hp8 hpt8
         by_cases he : q.e = 0
         ·have he' : (!decide (q.e = 0)) = false := by simp [he]
          have hz := hok he (by omega)
          obtain ⟨zl, zb, zd, zr⟩ := zoneJ hz
          rw [if_neg (by simp [he])] at hI
          (repeat' first | ((with_reducible refine nx0 ?_); go_step) | ((with_reducible refine o_s ?_); first | refine wk0 ?_ | (refine wg0 ?_ ?_ <;> intro hc)) | fail)
          ·exfalso
           have hh := ‹(!decide (q.e = 0)) = true›
           rw [he'] at hh
           cases hh
          have hO11 := hO.ext x11
          refine wpl_callV (enters_of Tryz.func40 rfl rfl) rfl rfl (p_Soa q.o y q.l _ hO11.sets (fun s hs => by have := zb s hs; omega) (fun s hs d hd => by have := zd s hs d hd; omega)) ?_; intro w12 x12; refine gset ?_
          (repeat' first | ((with_reducible refine nx0 ?_); go_step) | ((with_reducible refine o_s ?_); first | refine wk0 ?_ | (refine wg0 ?_ ?_ <;> intro hc)) | fail)
          refine wpl_allocB (z := zeroSoa) rfl (by decide +kernel) ?_
          intro w13 x13 s13 h13
          refine gset ?_
          refine wpl_storeB (v := .agg (soaZ q.o q.l).cells.toArray) rfl rfl rfl h13 (show sizeTy Tryz.prog 61 7 = true by decide +kernel) rfl (soaR_one _) ?_
          intro w14 p14
          have x14 : Ext w12 w14 := x13.move p14.mv (by rintro k ⟨⟩; exact Nat.le_refl _)
          have ha14 := pts_block (cs := (soaZ q.o q.l).cells) p14.this
          have x1114 := x12.trans x14
          have hp14 := hp11.ext x1114
          clear h13 x13
          (repeat' first | ((with_reducible refine nx0 ?_); go_step) | ((with_reducible refine o_s ?_); first | refine wk0 ?_ | (refine wg0 ?_ ?_ <;> intro hc)) | fail)
          refine wpl_callV (enters_of Tryz.func40 rfl rfl) rfl rfl (p_Soa oo v lo _ (hv.ext (hx11.trans x1114)) bl (fun s hs d hd => by have := dl s hs d hd; omega)) ?_; intro w15 x15; refine gset ?_
          (repeat' first | ((with_reducible refine nx0 ?_); go_step) | ((with_reducible refine o_s ?_); first | refine wk0 ?_ | (refine wg0 ?_ ?_ <;> intro hc)) | fail)
          refine wpl_allocB (z := zeroSoa) rfl (by decide +kernel) ?_
          intro w16 x16 s16 h16
          refine gset ?_
          refine wpl_storeB (v := .agg (soaZ oo lo).cells.toArray) rfl rfl rfl h16 (show sizeTy Tryz.prog 61 7 = true by decide +kernel) rfl (soaR_one _) ?_
          intro w17 p17
          have x17 : Ext w15 w17 := x16.move p17.mv (by rintro k ⟨⟩; exact Nat.le_refl _)
          have hb17 := pts_block (cs := (soaZ oo lo).cells) p17.this
          have x1417 := x15.trans x17
          have x1117 := x1114.trans x1417
          have ha17 := ha14.ext x1417
          have hx17 := hx11.trans x1117
          have hb17' := x1117.at hb11
          have hs17 := x1117.size
          have hp17 := hp14.ext x1417
          have hpz17 := hpz.ext x1117
          have hpt17 := hpt11.ext x1117
          have hO17 := hO11.ext x1117
          have hl17 := hl.ext hx17
          clear h16 x16 hp11 hp14 hpz hpt11 ha14
          have qa : Pts w17 (partPtr (.pointer (some ⟨w12.heap.size, 0, none⟩)) 2) [.int .i64 (soaZ q.o q.l).serial, .int .i64 (soaZ q.o q.l).refresh, .int .i64 (soaZ q.o q.l).retry, .int .i64 (soaZ q.o q.l).expire, .int .i64 (soaZ q.o q.l).minimum] := ha17.part 2
          have qb : Pts w17 (partPtr (.pointer (some ⟨w15.heap.size, 0, none⟩)) 2) [.int .i64 (soaZ oo lo).serial, .int .i64 (soaZ oo lo).refresh, .int .i64 (soaZ oo lo).retry, .int .i64 (soaZ oo lo).expire, .int .i64 (soaZ oo lo).minimum] := hb17.part 2
          have hgd := dn _ (headOf_mem hl0)
          (repeat' first | ((with_reducible refine nx0 ?_); go_step) | ((with_reducible refine o_s ?_); first | refine wk0 ?_ | (refine wg0 ?_ ?_ <;> intro hc)) | fail)
          refine wpq_region (by decide +kernel) (by decide +kernel) ?_
          (try ((with_reducible refine qh0 ?_); refine qk0 ?_))
          refine wpq_call (enters_of Tryz.func111 rfl rfl) rfl rfl (fun w' _ => p_serialOf (headOf l) w' (by omega)) ?_
          refine gset ?_
          (try ((with_reducible refine qh0 ?_); refine qk0 ?_))
          intro w18 x18
          have hx18 := hx17.trans x18
          have hb18 := x18.at hb17'
          have hs18 := x18.size
          by_cases hser : (soaZ q.o q.l).serial = serOf (headOf l)
          ·have hser' : (!decide ((soaZ q.o q.l).serial = serOf (headOf l))) = false := by simp [hser]
           rw [if_neg (by simp [hser])] at hI
           rw [hser']
           have qa18 := qa.ext x18
           have qb18 := qb.ext x18
           have hp18 := hp17.ext x18
           have hpz18 := hpz17.ext x18
           obtain ⟨cv, hcv, hcl⟩ := (hv.ext hx18).sl
           clear qa qb hp17 hpz17 hpt17 ha17 hb17
           (repeat' first | ((with_reducible refine nx0 ?_); go_step) | ((with_reducible refine o_s ?_); first | refine wk0 ?_ | (refine wg0 ?_ ?_ <;> intro hc)) | fail)
           ·have hlo : lo ≠ [] := by
             rintro rfl
             have h0 : 0 < (cv.length : Int) := by assumption
             rw [hcl] at h0
             simp at h0
            refine wpl_callV (enters_of Tryz.func25 rfl rfl) rfl rfl (p_Later _ _ _) ?_; intro w19 x19; refine gset ?_
            have hb19 := x19.at hb18
            have hs19 := x19.size
            have hpz19 := hpz18.ext x19
            cases hlt : laterB (soaZ q.o q.l).serial (soaZ oo lo).serial with
            | false =>
             rw [if_pos ⟨hlo, hlt⟩] at hI
             (repeat' first | ((with_reducible refine nx0 ?_); go_step) | ((with_reducible refine o_s ?_); first | refine wk0 ?_ | (refine wg0 ?_ ?_ <;> intro hc)) | fail)
             refine wpl_run (v := .agg zzone.toArray) rfl (Runs.build0 (by kernel_rfl)) ?_; refine gset ?_; (repeat' first | ((with_reducible refine nx0 ?_); go_step) | ((with_reducible refine o_s ?_); first | refine wk0 ?_ | (refine wg0 ?_ ?_ <;> intro hc)) | fail); refine wpl_storeB (v := .agg zzone.toArray) rfl rfl rfl (hb19) (show sizeTy Tryz.prog 34 2 = true by decide +kernel) rfl (by decide +kernel) ?_; intro wz pz; (repeat' first | ((with_reducible refine nx0 ?_); go_step) | ((with_reducible refine o_s ?_); first | refine wk0 ?_ | (refine wg0 ?_ ?_ <;> intro hc)) | fail); refine bodyPost_ret (results_cellT (cs := zzone) rfl rfl pz.this (by decide +kernel)) rfl ⟨_, rfl, Ext.move (hx18.trans x19) pz.mv (by rintro k ⟨⟩; omega), ?_⟩; rw [hI]
             exact ZEU.bad
            | true =>
             rw [if_neg (by rintro ⟨_, e⟩; rw [hlt] at e; cases e)] at hI
             (repeat' first | ((with_reducible refine nx0 ?_); go_step) | ((with_reducible refine o_s ?_); first | refine wk0 ?_ | (refine wg0 ?_ ?_ <;> intro hc)) | fail)
             refine wpl_storeB (v := .agg #[str q.o, y]) rfl rfl rfl (hb19) (show sizeTy Tryz.prog 34 2 = true by decide +kernel) rfl (zone_one hy1) ?_
             intro wz pz
             (repeat' first | ((with_reducible refine nx0 ?_); go_step) | ((with_reducible refine o_s ?_); first | refine wk0 ?_ | (refine wg0 ?_ ?_ <;> intro hc)) | fail)
             have xz : Ext w wz := Ext.move (hx18.trans x19) pz.mv (by rintro k ⟨⟩; omega)
             have hOz := (hO17.ext (x18.trans x19)).put pz (by omega)
             refine bodyPost_ret (results_cellT (cs := [str q.o, y]) rfl rfl pz.this (show aggTy Tryz.prog 34 2 = true by decide +kernel)) rfl ⟨_, rfl, xz, ?_⟩
             rw [hI]
             exact ⟨y, by rw [he]; rfl, hOz.weaken (by have := hx8.size; omega)⟩
           ·have hlo : lo = [] := by
             have h0 : ¬ 0 < (cv.length : Int) := by assumption
             exact List.eq_nil_of_length_eq_zero (by omega)
            rw [if_neg (by rintro ⟨e, _⟩; exact e hlo)] at hI
            refine wpl_storeB (v := .agg #[str q.o, y]) rfl rfl rfl (hb18) (show sizeTy Tryz.prog 34 2 = true by decide +kernel) rfl (zone_one hy1) ?_
            intro wz pz
            (repeat' first | ((with_reducible refine nx0 ?_); go_step) | ((with_reducible refine o_s ?_); first | refine wk0 ?_ | (refine wg0 ?_ ?_ <;> intro hc)) | fail)
            have xz : Ext w wz := Ext.move (hx18) pz.mv (by rintro k ⟨⟩; omega)
            have hOz := (hO17.ext x18).put pz (by omega)
            refine bodyPost_ret (results_cellT (cs := [str q.o, y]) rfl rfl pz.this (show aggTy Tryz.prog 34 2 = true by decide +kernel)) rfl ⟨_, rfl, xz, ?_⟩
            rw [hI]
            exact ⟨y, by rw [he]; rfl, hOz.weaken (by have := hx8.size; omega)⟩
          ·have hser' : (!decide ((soaZ q.o q.l).serial = serOf (headOf l))) = true := by simp [hser]
           rw [if_pos hser] at hI
           rw [hser']
           (repeat' first | ((with_reducible refine nx0 ?_); go_step) | ((with_reducible refine o_s ?_); first | refine wk0 ?_ | (refine wg0 ?_ ?_ <;> intro hc)) | fail)
           refine wpl_run (v := .agg zzone.toArray) rfl (Runs.build0 (by kernel_rfl)) ?_; refine gset ?_; (repeat' first | ((with_reducible refine nx0 ?_); go_step) | ((with_reducible refine o_s ?_); first | refine wk0 ?_ | (refine wg0 ?_ ?_ <;> intro hc)) | fail); refine wpl_storeB (v := .agg zzone.toArray) rfl rfl rfl (hb18) (show sizeTy Tryz.prog 34 2 = true by decide +kernel) rfl (by decide +kernel) ?_; intro wz pz; (repeat' first | ((with_reducible refine nx0 ?_); go_step) | ((with_reducible refine o_s ?_); first | refine wk0 ?_ | (refine wg0 ?_ ?_ <;> intro hc)) | fail); refine bodyPost_ret (results_cellT (cs := zzone) rfl rfl pz.this (by decide +kernel)) rfl ⟨_, rfl, Ext.move (hx18) pz.mv (by rintro k ⟨⟩; omega), ?_⟩; rw [hI]
           exact ZEU.bad
         ·have he' : (!decide (q.e = 0)) = true := by simp [he]
          rw [if_pos he] at hI
          (repeat' first | ((with_reducible refine nx0 ?_); go_step) | ((with_reducible refine o_s ?_); first | refine wk0 ?_ | (refine wg0 ?_ ?_ <;> intro hc)) | fail)
          all_goals first
           | (exfalso
              have hh := ‹(!decide (q.e = 0)) = false›
              rw [he'] at hh
              cases hh
              done)
           | skip
          refine wpl_run (v := .agg zzone.toArray) rfl (Runs.build0 (by kernel_rfl)) ?_; refine gset ?_; (repeat' first | ((with_reducible refine nx0 ?_); go_step) | ((with_reducible refine o_s ?_); first | refine wk0 ?_ | (refine wg0 ?_ ?_ <;> intro hc)) | fail); refine wpl_storeB (v := .agg zzone.toArray) rfl rfl rfl (hb11) (show sizeTy Tryz.prog 34 2 = true by decide +kernel) rfl (by decide +kernel) ?_; intro wz pz; (repeat' first | ((with_reducible refine nx0 ?_); go_step) | ((with_reducible refine o_s ?_); first | refine wk0 ?_ | (refine wg0 ?_ ?_ <;> intro hc)) | fail); refine bodyPost_ret (results_cellT (cs := zzone) rfl rfl pz.this (by decide +kernel)) rfl ⟨_, rfl, Ext.move (hx11) pz.mv (by rintro k ⟨⟩; omega), ?_⟩; rw [hI]
          exact ZEU.bad
        ·have hE : instZ oo lo og l = ZE.bad 3 := by rw [instZ, if_neg q1, if_neg hl0, if_neg q2, if_neg hl1, if_pos (.inr (by rw [← hlast]; exact heq))]
         have heq' : (!decide (l.getD last zeroRec = headOf l)) = true := by rw [decide_eq_false heq]; rfl
         rw [heq']
         (repeat' first | ((with_reducible refine nx0 ?_); go_step) | ((with_reducible refine o_s ?_); first | refine wk0 ?_ | (refine wg0 ?_ ?_ <;> intro hc)) | fail)
         refine wpl_run (v := .agg zzone.toArray) rfl (Runs.build0 (by kernel_rfl)) ?_; refine gset ?_; (repeat' first | ((with_reducible refine nx0 ?_); go_step) | ((with_reducible refine o_s ?_); first | refine wk0 ?_ | (refine wg0 ?_ ?_ <;> intro hc)) | fail); refine wpl_storeB (v := .agg zzone.toArray) rfl rfl rfl (hb8) (show sizeTy Tryz.prog 34 2 = true by decide +kernel) rfl (by decide +kernel) ?_; intro wz pz; (repeat' first | ((with_reducible refine nx0 ?_); go_step) | ((with_reducible refine o_s ?_); first | refine wk0 ?_ | (refine wg0 ?_ ?_ <;> intro hc)) | fail); refine bodyPost_ret (results_cellT (cs := zzone) rfl rfl pz.this (by decide +kernel)) rfl ⟨_, rfl, Ext.move (hx8) pz.mv (by rintro k ⟨⟩; omega), ?_⟩; rw [hE]
         exact ZEU.bad
     ·have hE : instZ oo lo og l = ZE.bad 2 := by rw [instZ, if_neg q1, if_neg hl0, if_pos (.inr hfo)]
      have hfo' : (!decide (fold (headOf l).name = fold og)) = true := by simp [hfo]
      (repeat' first | ((with_reducible refine nx0 ?_); go_step) | ((with_reducible refine o_s ?_); first | refine wk0 ?_ | (refine wg0 ?_ ?_ <;> intro hc)) | fail)
      all_goals first
       | (exfalso
          have hh := ‹(!decide (fold (headOf l).name = fold og)) = false›
          rw [hfo'] at hh
          cases hh
          done)
       | skip
      refine wpl_run (v := .agg zzone.toArray) rfl (Runs.build0 (by kernel_rfl)) ?_; refine gset ?_; (repeat' first | ((with_reducible refine nx0 ?_); go_step) | ((with_reducible refine o_s ?_); first | refine wk0 ?_ | (refine wg0 ?_ ?_ <;> intro hc)) | fail); refine wpl_storeB (v := .agg zzone.toArray) rfl rfl rfl (hb7) (show sizeTy Tryz.prog 34 2 = true by decide +kernel) rfl (by decide +kernel) ?_; intro wz pz; (repeat' first | ((with_reducible refine nx0 ?_); go_step) | ((with_reducible refine o_s ?_); first | refine wk0 ?_ | (refine wg0 ?_ ?_ <;> intro hc)) | fail); refine bodyPost_ret (results_cellT (cs := zzone) rfl rfl pz.this (by decide +kernel)) rfl ⟨_, rfl, Ext.move (hx7) pz.mv (by rintro k ⟨⟩; omega), ?_⟩; rw [hE]
      exact ZEU.bad
 ·have hE : instZ oo lo og l = ZE.bad 1 := by rw [instZ, if_pos (.inl c1)]
  have c1' : (!decide (checkE og = 0)) = true := by simp [c1]
  (repeat' first | ((with_reducible refine nx0 ?_); go_step) | ((with_reducible refine o_s ?_); first | refine wk0 ?_ | (refine wg0 ?_ ?_ <;> intro hc)) | fail)
  all_goals first
   | (exfalso
      have hh := ‹(!decide (checkE og = 0)) = false›
      rw [c1'] at hh
      cases hh
      done)
   | skip
  refine wpl_run (v := .agg zzone.toArray) rfl (Runs.build0 (by kernel_rfl)) ?_; refine gset ?_; (repeat' first | ((with_reducible refine nx0 ?_); go_step) | ((with_reducible refine o_s ?_); first | refine wk0 ?_ | (refine wg0 ?_ ?_ <;> intro hc)) | fail); refine wpl_storeB (v := .agg zzone.toArray) rfl rfl rfl (hb3) (show sizeTy Tryz.prog 34 2 = true by decide +kernel) rfl (by decide +kernel) ?_; intro wz pz; (repeat' first | ((with_reducible refine nx0 ?_); go_step) | ((with_reducible refine o_s ?_); first | refine wk0 ?_ | (refine wg0 ?_ ?_ <;> intro hc)) | fail); refine bodyPost_ret (results_cellT (cs := zzone) rfl rfl pz.this (by decide +kernel)) rfl ⟨_, rfl, Ext.move (hx3) pz.mv (by rintro k ⟨⟩; omega), ?_⟩; rw [hE]
  exact ZEU.bad
theorem SecOk.withZ {s : SecR} (h : SecOk s) {l : List Rec} (he : (s.inst l).e = 0) : SecOk (s.withZ (s.inst l)) := by
 obtain ⟨a, b, _⟩ := h.inst (l := l) he
 refine ⟨h.og, h.retry, ?_⟩
 intro o l' e
 simp only [SecR.withZ, Option.some.injEq, Prod.mk.injEq] at e
 obtain ⟨rfl, rfl⟩ := e
 exact ⟨a, b⟩
theorem SecOk.bounds {s : SecR} (h : SecOk s) : (∀ t ∈ s.l, t.data.length ≤ 1000000) ∧ (∀ t ∈ s.l, ∀ d ∈ t.data, d.length ≤ 1000000) ∧ (recordsS s.l).length ≤ 5000 := by
 unfold SecR.l
 split
 ·exact ⟨by simp, by simp, by simp [recordsS]⟩
 ·rename_i z hz
  obtain ⟨a, b, c, d⟩ := zoneJ (h.zone z.1 z.2 hz).1
  exact ⟨fun t ht => by have := b t ht; omega, fun t ht d hd => by have := c t ht d hd; omega, by omega⟩
set_option maxHeartbeats 8000000 in
theorem p_Got {B : Nat} {w : World} {b : Nat} {s : SecR} (h : SAt B w b s) (hs : SecOk s) (hB : B ≤ w.heap.size) (lv : Value) (l : List Rec) (now : Int) (hl : Sl 4 w lv (rcells l)) (h2 : l.length ≤ 5000) (dn : ∀ q ∈ l, q.data.length ≤ 1000000) :
 Calls Tryz.prog 24 #[.pointer (some ⟨b, 0, none⟩), lv, .int .i64 now] w fun e w' => e = .returned (.int .i64 (s.gotE l now)) ∧ SAt B w' b (s.got l now) ∧ Mv (some b) w w' := by
 obtain ⟨pz, hb, hp, -, -, -, -, -, hn, hzz⟩ := h.pts
 obtain ⟨bl, dl, br⟩ := hs.bounds
 go_enter Tryz.func24, Tryz.ntmps24
 (repeat' first | ((with_reducible refine nx0 ?_); go_step) | ((with_reducible refine o_s ?_); first | refine wk1 ?_ | (refine wg0 ?_ ?_ <;> intro hc)) | fail)
 refine wpl_callV (enters_of Tryz.func64 rfl rfl) rfl rfl (p_isTime now _) ?_; intro w1 x1; refine gset ?_
 cases ht : okTime now with
 | false =>
  (repeat' first | ((with_reducible refine nx0 ?_); go_step) | ((with_reducible refine o_s ?_); first | refine wk1 ?_ | (refine wg0 ?_ ?_ <;> intro hc)) | fail)
  go_ret
  refine ⟨by rw [SecR.gotE, if_pos ht]; rfl, ?_, x1.mv _⟩
  rw [SecR.got, if_pos ht]
  exact h.grow x1
 | true =>
  have q1 : ¬ okTime now = false := by simp [ht]
  have hE : s.gotE l now = (s.inst l).e := by rw [SecR.gotE, if_neg q1]
  have hG : s.got l now = if (s.inst l).e = 5 ∧ s.z.isSome = true then s.fresh now else if (s.inst l).e ≠ 0 then s.failed now else (s.withZ (s.inst l)).fresh now := by rw [SecR.got, if_neg q1]
  have hwz := hs.withZ (l := l)
  (repeat' first | ((with_reducible refine nx0 ?_); go_step) | ((with_reducible refine o_s ?_); first | refine wk1 ?_ | (refine wg0 ?_ ?_ <;> intro hc)) | fail)
  refine wpl_callR (enters_of Tryz.func34 rfl rfl) rfl rfl (p_SecZone (h.grow x1) hs) ?_
  rintro _ w2 x2 ⟨y, rfl, hy⟩
  have hy1 : y.oneCell' = true := by obtain ⟨_, hq, _⟩ := hy.sets.sl; exact hq.one
  refine gset ?_
  (repeat' first | ((with_reducible refine nx0 ?_); go_step) | ((with_reducible refine o_s ?_); first | refine wk1 ?_ | (refine wg0 ?_ ?_ <;> intro hc)) | fail)
  refine wpl_allocB (z := zzone) rfl (by decide +kernel) ?_
  intro w3 x3 s3 h3
  refine gset ?_
  refine wpl_storeB (v := .agg #[str s.o, y]) rfl rfl rfl h3 (show sizeTy Tryz.prog 34 2 = true by decide +kernel) rfl (zone_one hy1) ?_
  intro w4 p4
  have x4 : Ext w2 w4 := x3.move p4.mv (by rintro k ⟨⟩; exact Nat.le_refl _)
  have hpz := pts_block (cs := [str s.o, y]) p4.this
  have hx4 := (x1.trans x2).trans x4
  have hA4 := h.grow hx4
  have hb4 := hx4.at hb
  have hpb := pts_block (cs := secC s pz) hb4
  have hpb0 : Pts w4 (partPtr (.pointer (some ⟨b, 0, none⟩)) 0) (secC s pz) := hpb.part 0
  have hy4 := hy.sets.ext x4
  have hl4 := hl.ext hx4
  clear h3 x3 hp
  (repeat' first | ((with_reducible refine nx0 ?_); go_step) | ((with_reducible refine o_s ?_); first | refine wk1 ?_ | (refine wg0 ?_ ?_ <;> intro hc)) | fail)
  have hcI : ∀ w', Ext w4 w' → Calls Tryz.prog 52 #[.agg #[str s.o, y], str s.og, lv] w' (Ret w' (ZEU w'.heap.size (s.inst l))) := fun w' x' => p_Install s.o y s.l s.og lv l w' (hy4.ext x') (hl4.ext x') bl dl br h2 dn
  generalize s.inst l = q at *
  refine wph_region (S := fun w' => Ext w4 w') (by decide +kernel) ?_
  intro w21 x21 hh21
  refine tk1 0 ?_; refine gset ?_; refine tk1 1 ?_; refine gset ?_; refine tk1 2 ?_; refine gset ?_; refine tk1 3 ?_; refine gset ?_; refine tk1 4 ?_; refine gset ?_; refine tk1 5 ?_; refine gset ?_
  apply meetJ (F := fun (y2 : Value) (zk : Nat) (_ : Nat) w' => Ext w4 w' ∧ w4.heap.size ≤ zk ∧ w'.heap[zk]? = some (.cells [str q.o, y2].toArray 34 (0, 0)) ∧ SetsO w4.heap.size w' y2 q.l)
  ·intro hG2
   obtain ⟨u0, -⟩ : ∃ u0 : Nat, u0 = u0 := ⟨0, rfl⟩
   refine wph_two (i := 6) (j := 10) (by decide +kernel) rfl rfl rfl ?_ ?_
   ·refine wpl_callR (enters_of Tryz.func52 rfl rfl) rfl rfl (hcI _ x21) ?_
    rintro _ wC xC hU
    obtain ⟨y2, rfl, hO, hy21⟩ := hU.cell
    refine gset ?_
    have x3 := x21.trans xC
    have hsC := x21.size
    have oy' := hO.weaken hsC
    refine wph_nil ⟨x3, ?_⟩
    refine tk1 7 ?_; refine gset ?_; refine tk1 8 ?_; refine gset ?_; refine tk1 9 ?_; refine gset ?_
    refine wph_one (i := 10) (by decide +kernel) rfl rfl ?_
    refine wpl_allocB (z := zzone) rfl (by decide +kernel) ?_
    intro wE xE sE hE
    refine gset ?_
    have x5 := x3.trans xE
    refine wph_nil ⟨x5, ?_⟩
    refine wph_one (i := 11) (by decide +kernel) rfl rfl ?_
    refine wpl_storeB (v := .agg #[str q.o, y2]) rfl rfl rfl hE (show sizeTy Tryz.prog 34 2 = true by decide +kernel) rfl (zone_one hy21) ?_
    intro wF pF
    have xF : Ext wC wF := xE.move pF.mv (by rintro k ⟨⟩; exact Nat.le_refl _)
    have hF := pF.this
    have hle : w4.heap.size ≤ wC.heap.size := x3.size
    have oyF := oy'.ext xF
    have x3F := x3.trans xF
    refine wph_nil ⟨x3F, ?_⟩
    clear pF hE xE sE
    generalize wC.heap.size = zk at *
    exact hG2 y2 zk u0 _ ⟨x3F, hle, hF, oyF⟩
   ·refine wpl_allocB (z := zzone) rfl (by decide +kernel) ?_
    intro wD xD sD hD
    refine gset ?_
    have x2' := x21.trans xD
    have hle := x21.size
    refine wph_nil ⟨x2', ?_⟩
    refine wph_one (i := 6) (by decide +kernel) rfl rfl ?_
    refine wpl_callR (enters_of Tryz.func52 rfl rfl) rfl rfl (hcI _ x2') ?_
    rintro _ wC xC hU
    obtain ⟨y2, rfl, hO, hy21⟩ := hU.cell
    refine gset ?_
    have x3 := x2'.trans xC
    have hsC := x2'.size
    have hC := xC.at hD
    refine wph_nil ⟨x3, ?_⟩
    refine tk1 7 ?_; refine gset ?_; refine tk1 8 ?_; refine gset ?_; refine tk1 9 ?_; refine gset ?_
    refine wph_one (i := 11) (by decide +kernel) rfl rfl ?_
    refine wpl_storeB (v := .agg #[str q.o, y2]) rfl rfl rfl hC (show sizeTy Tryz.prog 34 2 = true by decide +kernel) rfl (zone_one hy21) ?_
    intro wF pF
    have xF : Ext w4 wF := x3.move pF.mv (by rintro k ⟨⟩; exact hle)
    have hF := pF.this
    have oyF := (hO.mvb pF.mv (by omega)).weaken hsC
    refine wph_nil ⟨xF, ?_⟩
    clear pF hC hD xD sD
    generalize w21.heap.size = zk at *
    exact hG2 y2 zk u0 _ ⟨xF, hle, hF, oyF⟩
  ·rintro y2 zk _ w9 ⟨x9, hzk9, hz9, ho9⟩
   refine tk1 12 ?_; refine gset ?_
   refine wph_done (by decide +kernel) ?_
   have hx9 := hx4.trans x9
   have hA9 := h.grow hx9
   have hb9 := x9.at hb4
   have hsz := hx4.size
   clear hcI hl4 hpz hpb hh21
   have kE : s.gotE l now = q.e := hE
   by_cases c5 : q.e = 5 ∧ s.z.isSome = true
   ·have hg : s.got l now = s.fresh now := by rw [hG, if_pos c5]
    obtain ⟨c5a, c5b⟩ := c5
    (repeat' first | ((with_reducible refine nx0 ?_); go_step) | ((with_reducible refine o_s ?_); first | refine wk1 ?_ | (refine wg0 ?_ ?_ <;> intro hc)) | fail)
    all_goals first
     | (exfalso; have hh := ‹s.z.isSome = false›; rw [c5b] at hh; cases hh; done)
     | (exfalso; omega)
     | (refine wpl_callG (enters_of Tryz.func67 rfl rfl) rfl rfl (p_fresh hA9 hs now ht) ?_; rintro _ w10 ⟨rfl, o10, m10⟩; refine ⟨_, rfl, ?_⟩; refine gset ?_
        (repeat' first | ((with_reducible refine nx0 ?_); go_step) | ((with_reducible refine o_s ?_); first | refine wk1 ?_ | (refine wg0 ?_ ?_ <;> intro hc)) | fail)
        go_ret
        exact ⟨by rw [kE]; rfl, by rw [hg]; exact o10, (hx9.mv _).trans m10⟩)
   ·by_cases c0 : q.e = 0
    ·have hg : s.got l now = (s.withZ q).fresh now := by rw [hG, if_neg c5, if_neg (by omega)]
     (repeat' first | ((with_reducible refine nx0 ?_); go_step) | ((with_reducible refine o_s ?_); first | refine wk1 ?_ | (refine wg0 ?_ ?_ <;> intro hc)) | fail)
     all_goals first
      | (exfalso; omega)
      | (exfalso; have hh := ‹(!decide (q.e = 0)) = true›; rw [c0] at hh; cases hh; done)
      | skip
     refine wpl_storeF (n := 8) (v := .pointer (some ⟨zk, 0, none⟩)) hb9 rfl rfl rfl (by simp [secC, SoaR.cells]) (by decide +kernel) rfl ?_
     intro w10 p10
     have hb10 := p10.this
     have hbB := h.lt
     have hz10 := p10.at hz9 (by omega)
     have ho10 := ho9.mvb p10.mv (show b < w4.heap.size by omega)
     have hpz10 := pts_block (cs := [str q.o, y2]) hz10
     have hwz1 := hwz c0
     obtain ⟨_, zb, zd, _⟩ := zoneJ (hwz1.zone q.o q.l rfl).1
     (repeat' first | ((with_reducible refine nx0 ?_); go_step) | ((with_reducible refine o_s ?_); first | refine wk1 ?_ | (refine wg0 ?_ ?_ <;> intro hc)) | fail)
     refine wpl_callV (enters_of Tryz.func40 rfl rfl) rfl rfl (p_Soa q.o y2 q.l _ ho10.sets (fun s hs => by have := zb s hs; omega) (fun s hs d hd => by have := zd s hs d hd; omega)) ?_; intro w11 x11; refine gset ?_
     have hb11 := x11.at hb10
     (repeat' first | ((with_reducible refine nx0 ?_); go_step) | ((with_reducible refine o_s ?_); first | refine wk1 ?_ | (refine wg0 ?_ ?_ <;> intro hc)) | fail)
     refine wpl_storeS (n := 1) (vs := (soaZ q.o q.l).cells) hb11 rfl rfl rfl rfl (by simp [secC, SoaR.cells]) (show sizeTy Tryz.prog 61 7 = true by decide +kernel) (by intro u hu; simp only [SoaR.cells, List.mem_cons, List.not_mem_nil, or_false] at hu; rcases hu with rfl | rfl | rfl | rfl | rfl | rfl | rfl <;> rfl) ?_
     intro w12 p12
     have hb12 : w12.heap[b]? = some (.cells (secC (s.withZ q) (.pointer (some ⟨zk, 0, none⟩))).toArray 103 (0, 0)) := p12.this
     have hs12 : SAt B w12 b (s.withZ q) := by
      refine ⟨hbB, _, hb12, (by intro e; cases e), ?_⟩
      intro o l e
      obtain ⟨rfl, rfl⟩ : q.o = o ∧ q.l = l := by simpa [SecR.withZ] using e
      exact ⟨zk, y2, rfl, by omega, p12.at (x11.at hz10) (by omega), ((ho10.ext x11).weaken (by omega)).mvb p12.mv hbB⟩
     (repeat' first | ((with_reducible refine nx0 ?_); go_step) | ((with_reducible refine o_s ?_); first | refine wk1 ?_ | (refine wg0 ?_ ?_ <;> intro hc)) | fail)
     refine wpl_callG (enters_of Tryz.func67 rfl rfl) rfl rfl (p_fresh hs12 hwz1 now ht) ?_; rintro _ w13 ⟨rfl, o13, m13⟩; refine ⟨_, rfl, ?_⟩; refine gset ?_
     (repeat' first | ((with_reducible refine nx0 ?_); go_step) | ((with_reducible refine o_s ?_); first | refine wk1 ?_ | (refine wg0 ?_ ?_ <;> intro hc)) | fail)
     go_ret
     exact ⟨by rw [kE, c0]; rfl, by rw [hg]; exact o13, ((((hx9.mv _).trans p10.mv).trans (x11.mv _)).trans p12.mv).trans m13⟩
    ·have hg : s.got l now = s.failed now := by rw [hG, if_neg c5, if_pos c0]
     (repeat' first | ((with_reducible refine nx0 ?_); go_step) | ((with_reducible refine o_s ?_); first | refine wk1 ?_ | (refine wg0 ?_ ?_ <;> intro hc)) | fail)
     all_goals first
      | (exfalso; exact c5 ⟨by assumption, by assumption⟩)
      | (exfalso; have hh := ‹(!decide (q.e = 0)) = false›; simp [c0] at hh; done)
      | (refine wpl_callG (enters_of Tryz.func19 rfl rfl) rfl rfl (p_Failed hA9 hs now) ?_; rintro _ w10 ⟨rfl, o10, m10⟩; refine ⟨_, rfl, ?_⟩; refine gset ?_
         (repeat' first | ((with_reducible refine nx0 ?_); go_step) | ((with_reducible refine o_s ?_); first | refine wk1 ?_ | (refine wg0 ?_ ?_ <;> intro hc)) | fail)
         go_ret
         exact ⟨by rw [kE]; rfl, by rw [hg]; exact o10, (hx9.mv _).trans m10⟩)
structure OpR where
 op : Int
 n : Int
 now : Int
 l : List Rec
def SecR.does (s : SecR) (p : OpR) : SecR :=
 if p.op = 0 then s.notify p.n p.now else if p.op = 1 then s.heard p.n p.now else if p.op = 2 then s.failed p.now else if p.op = 3 then s.got p.l p.now else if p.op = 4 then s.crash else s
def SecR.doesE (s : SecR) (p : OpR) : Int := if p.op = 3 then s.gotE p.l p.now else 0
theorem SecOk.does {s : SecR} (h : SecOk s) (p : OpR) : SecOk (s.does p) := by
 unfold SecR.does
 split; exact h.notify _ _
 split; exact h.heard _ _
 split; exact h.failed _
 split; exact h.got _ _
 split; exact h.crash
 exact h
def shortS (l : List Rec) : Bool := decide (l.length ≤ 60) && l.all shortAt
theorem shortS_bounds {l : List Rec} (h : shortS l = true) : l.length ≤ 60 ∧ ∀ r ∈ l, r.name.length ≤ 300 ∧ r.data.length ≤ 300 := by
 simp only [shortS, Bool.and_eq_true, decide_eq_true_eq, List.all_eq_true, shortAt] at h
 exact h
set_option maxHeartbeats 1000000 in
theorem l17_short (v : Value) (l : List Rec) (w : World) (hv : Sl 4 w v (rcells l)) : Calls Tryz.prog 27 #[v] w (RetV w (.bool (shortS l))) := by
 have hl := rcells_length l
 have hle := hv.le
 go_enter Tryz.func27, Tryz.ntmps27
 (repeat' first | ((with_reducible refine nx0 ?_); go_step) | ((with_reducible refine o_s ?_); first | refine wk1 ?_ | (refine wg0 ?_ ?_ <;> intro hc)) | fail)
 ·have hne := ‹60 < ((rcells l).length : Int)›
  go_ret
  refine ⟨?_, Ext.refl _⟩
  have : decide (l.length ≤ 60) = false := decide_eq_false (by omega)
  simp [shortS, this]
 ·have h25 : decide (l.length ≤ 60) = true := decide_eq_true (by omega)
  go_loopw [3] (fun i wr => ∃ k : Nat, k ≤ l.length ∧ i = .int .i64 k ∧ Ext w wr ∧ (l.take k).all shortAt = true) (fun i _ => l.length - (intOf i).toNat)
  case atStart => exact ⟨0, Nat.zero_le _, rfl, Ext.refl _, rfl⟩
  case round =>
   obtain ⟨k, hk, rfl, hx, hall⟩ := hrel
   have hv2 := hv.ext hx
   by_cases hlt : k < l.length
   ·have h1 := hv2.elem (rcells_at hlt)
    (repeat' first | ((with_reducible refine nx0 ?_); go_step) | ((with_reducible refine o_s ?_); first | refine wk1 ?_ | (refine wg0 ?_ ?_ <;> intro hc)) | fail)
    ·go_ret
     refine ⟨?_, by exact extc⟩
     have : shortAt l[k] = false := by have : decide (l[k].data.length ≤ 300) = false := decide_eq_false (by omega)
                                       simp [shortAt, this]
     simp [shortS, all_no hlt this]
    ·have ha : shortAt l[k] = true := by
      have e1 : decide (l[k].data.length ≤ 300) = true := decide_eq_true (by omega)
      have e2 : decide (l[k].name.length ≤ 300) = true := decide_eq_true (by omega)
      rw [shortAt, e1, e2]; rfl
     exact ⟨⟨k + 1, by omega, rfl, by exact extc, all_take hlt hall ha⟩, by simp [intOf]; omega⟩
    ·go_ret
     refine ⟨?_, by exact extc⟩
     have : shortAt l[k] = false := by have : decide (l[k].name.length ≤ 300) = false := decide_eq_false (by omega)
                                       simp [shortAt, this]
     simp [shortS, all_no hlt this]
   ·have hk2 : k = l.length := by omega
    subst hk2
    (repeat' first | ((with_reducible refine nx0 ?_); go_step) | ((with_reducible refine o_s ?_); first | refine wk1 ?_ | (refine wg0 ?_ ?_ <;> intro hc)) | fail)
    go_ret
    refine ⟨?_, by exact extc⟩
    rw [List.take_length] at hall
    rw [shortS, h25, hall]
    rfl
def opv (p : OpR) (lv : Value) : Value := .agg #[.int .i64 p.op, .int .i64 p.n, .int .i64 p.now, lv]
set_option maxHeartbeats 4000000 in
theorem l17_does {B : Nat} {w : World} {b : Nat} {s : SecR} (h : SAt B w b s) (hs : SecOk s) (hB : B ≤ w.heap.size) (p : OpR) (lv : Value) (hl : Sl 4 w lv (rcells p.l)) (hsh : p.op = 3 → shortS p.l = true) :
 Calls Tryz.prog 33 #[.pointer (some ⟨b, 0, none⟩), opv p lv] w fun e w' => e = .returned (.int .i64 (s.doesE p)) ∧ SAt B w' b (s.does p) ∧ Mv (some b) w w' := by
 unfold opv
 obtain ⟨op, n, now, l⟩ := p
 simp only at hsh hl ⊢
 go_enter Tryz.func33, Tryz.ntmps33
 have hl1 := hl.one
 (repeat' first | ((with_reducible refine nx0 ?_); go_step) | ((with_reducible refine o_s ?_); first | refine wk1 ?_ | (refine wg0 ?_ ?_ <;> intro hc)) | fail)
 refine wpl_boxB (vs := [.int .i64 op, .int .i64 n, .int .i64 now, lv]) rfl rfl ?_
 intro w1 x1 s1 h1
 refine gset ?_
 have hp := pts_block (cs := [.int .i64 op, .int .i64 n, .int .i64 now, lv]) h1
 have hA := h.grow x1
 have hl2 := hl.ext x1
 have hB1 := x1.size
 by_cases c0 : op = 0
 ·subst c0
  (repeat' first | ((with_reducible refine nx0 ?_); go_step) | ((with_reducible refine o_s ?_); first | refine wk1 ?_ | (refine wg0 ?_ ?_ <;> intro hc)) | fail)
  refine wpl_callG (enters_of Tryz.func20 rfl rfl) rfl rfl (p_Notify hA hs n now) ?_; rintro _ w2 ⟨rfl, o2, m2⟩; refine ⟨_, rfl, ?_⟩; refine gset ?_
  (repeat' first | ((with_reducible refine nx0 ?_); go_step) | ((with_reducible refine o_s ?_); first | refine wk1 ?_ | (refine wg0 ?_ ?_ <;> intro hc)) | fail)
  go_ret
  exact ⟨rfl, o2, (x1.mv _).trans m2⟩
 by_cases c1 : op = 1
 ·subst c1
  (repeat' first | ((with_reducible refine nx0 ?_); go_step) | ((with_reducible refine o_s ?_); first | refine wk1 ?_ | (refine wg0 ?_ ?_ <;> intro hc)) | fail)
  refine wpl_callG (enters_of Tryz.func18 rfl rfl) rfl rfl (p_Heard hA hs n now) ?_; rintro _ w2 ⟨rfl, o2, m2⟩; refine ⟨_, rfl, ?_⟩; refine gset ?_
  (repeat' first | ((with_reducible refine nx0 ?_); go_step) | ((with_reducible refine o_s ?_); first | refine wk1 ?_ | (refine wg0 ?_ ?_ <;> intro hc)) | fail)
  go_ret
  exact ⟨rfl, o2, (x1.mv _).trans m2⟩
 by_cases c2 : op = 2
 ·subst c2
  (repeat' first | ((with_reducible refine nx0 ?_); go_step) | ((with_reducible refine o_s ?_); first | refine wk1 ?_ | (refine wg0 ?_ ?_ <;> intro hc)) | fail)
  refine wpl_callG (enters_of Tryz.func19 rfl rfl) rfl rfl (p_Failed hA hs now) ?_; rintro _ w2 ⟨rfl, o2, m2⟩; refine ⟨_, rfl, ?_⟩; refine gset ?_
  (repeat' first | ((with_reducible refine nx0 ?_); go_step) | ((with_reducible refine o_s ?_); first | refine wk1 ?_ | (refine wg0 ?_ ?_ <;> intro hc)) | fail)
  go_ret
  exact ⟨rfl, o2, (x1.mv _).trans m2⟩
 by_cases c3 : op = 3
 ·subst c3
  obtain ⟨q1, q2⟩ := shortS_bounds (hsh rfl)
  (repeat' first | ((with_reducible refine nx0 ?_); go_step) | ((with_reducible refine o_s ?_); first | refine wk1 ?_ | (refine wg0 ?_ ?_ <;> intro hc)) | fail)
  refine wpl_callG (enters_of Tryz.func24 rfl rfl) rfl rfl (p_Got hA hs (by omega) lv l now hl2 (by omega) (fun q hq => by have := (q2 q hq).2; omega)) ?_
  rintro _ w2 ⟨rfl, o2, m2⟩
  refine ⟨_, rfl, ?_⟩
  refine gset ?_
  (repeat' first | ((with_reducible refine nx0 ?_); go_step) | ((with_reducible refine o_s ?_); first | refine wk1 ?_ | (refine wg0 ?_ ?_ <;> intro hc)) | fail)
  go_ret
  exact ⟨rfl, o2, (x1.mv _).trans m2⟩
 have e1 : SecR.doesE s ⟨op, n, now, l⟩ = 0 := by simp [SecR.doesE, c3]
 by_cases c4 : op = 4
 ·subst c4
  (repeat' first | ((with_reducible refine nx0 ?_); go_step) | ((with_reducible refine o_s ?_); first | refine wk1 ?_ | (refine wg0 ?_ ?_ <;> intro hc)) | fail)
  refine wpl_callG (enters_of Tryz.func79 rfl rfl) rfl rfl (p_Crash hA) ?_; rintro _ w2 ⟨rfl, o2, m2⟩; refine ⟨_, rfl, ?_⟩; refine gset ?_
  (repeat' first | ((with_reducible refine nx0 ?_); go_step) | ((with_reducible refine o_s ?_); first | refine wk1 ?_ | (refine wg0 ?_ ?_ <;> intro hc)) | fail)
  go_ret
  exact ⟨rfl, o2, (x1.mv _).trans m2⟩
 have e2 : SecR.does s ⟨op, n, now, l⟩ = s := by simp [SecR.does, c0, c1, c2, c3, c4]
 (repeat' first | ((with_reducible refine nx0 ?_); go_step) | ((with_reducible refine o_s ?_); first | refine wk1 ?_ | (refine wg0 ?_ ?_ <;> intro hc)) | fail)
 all_goals first
  | (exfalso; omega)
  | (go_ret
     exact ⟨by rw [e1]; rfl, by rw [e2]; exact hA, x1.mv _⟩)
def simS : List UInt8 := [2, 110, 115, 1, 97, 0, 1, 109, 0, 0, 0, 0, 5, 0, 0, 0, 10, 0, 0, 0, 3, 0, 0, 0, 100, 0, 0, 0, 4]
def simR : List Rec := [⟨[1, 97], 6, 9, simS⟩, ⟨[1, 97], 2, 9, [2, 110, 115, 1, 97, 0]⟩, ⟨[2, 110, 115, 1, 97], 1, 9, [49, 49, 49, 49]⟩]
def simZ : List RSet := [⟨[1, 97], 2, 9, [[2, 110, 115, 1, 97, 0]]⟩, ⟨[1, 97], 6, 9, [simS]⟩, ⟨[2, 110, 115, 1, 97], 1, 9, [[49, 49, 49, 49]]⟩]
theorem sim_b : ∀ s ∈ simZ, s.data.length ≤ 1000000 := by decide +kernel
theorem sim_r : ∀ r ∈ simR, r.data.length ≤ 4611686018427387904 := by decide +kernel
theorem p_Simple (w : World) : Calls Tryz.prog 22 #[] w (Ret w fun r w' => Sl 4 w' r (rcells simR)) := by
 go_enter Tryz.func22, Tryz.ntmps22
 repeat' (first | ((with_reducible refine nx0 ?_); go_step) | fail)
 (repeat' first | ((with_reducible refine nx0 ?_); go_step) | ((with_reducible refine o_s ?_); first | refine wk0 ?_ | (refine wg0 ?_ ?_ <;> intro hc)) | fail)
 refine wpl_run (v := .agg #[str [1, 97], .int .i64 6, .int .i64 9, str simS]) rfl (Runs.build rfl (by kernel_rfl)) ?_
 refine gset ?_
 refine wpl_run (v := .agg #[str [1, 97], .int .i64 2, .int .i64 9, str [2, 110, 115, 1, 97, 0]]) rfl (Runs.build rfl (by kernel_rfl)) ?_
 refine gset ?_
 refine wpl_run (v := .agg #[str [2, 110, 115, 1, 97], .int .i64 1, .int .i64 9, str [49, 49, 49, 49]]) rfl (Runs.build rfl (by kernel_rfl)) ?_
 refine gset ?_
 refine wpl_slice (e := 81) (k := 4) (bytes := 48) (xs := simR.map fun r => .agg r.cells.toArray) rfl rfl rfl (by intro x hx; obtain ⟨r, _, rfl⟩ := List.mem_map.1 hx; rfl) (by decide +kernel) (by decide +kernel) ?_
 intro v1 w1 x1 s1 sl1 _
 have sl1' : Sl 4 w1 v1 (rcells simR) := by simpa [rcells, Value.cells, List.map_map, Function.comp_def] using sl1
 refine gset ?_
 (repeat' first | ((with_reducible refine nx0 ?_); go_step) | ((with_reducible refine o_s ?_); first | refine wk0 ?_ | (refine wg0 ?_ ?_ <;> intro hc)) | fail)
 go_ret
 exact ⟨_, rfl, x1, sl1'⟩
theorem same_true {o o' : List UInt8} {u v : Value} {a b : List RSet} {w : World} (hu : SetsAt w u a) (hv : SetsAt w v b) (ho : o = o') (hab : a = b) : Calls Tryz.prog 38 #[.agg #[str o, u], .agg #[str o', v]] w (RetV w (.bool true)) := by
 have := r8_Same o o' u v a b w hu hv
 rw [decide_eq_true ho, decide_eq_true hab] at this
 exact this
theorem jl_E2 : loadE [1, 97] simR = 0 := by decide +kernel
theorem jl_L2 : loadL [1, 97] simR = simZ := by decide +kernel
theorem jl_O2 : loadO [1, 97] simR = [1, 97] := by decide +kernel
theorem set_found {l : List RSet} (h : checkS l = 0) {s : RSet} (hs : s ∈ l) : findS l s.name s.kind = some s := by
 obtain ⟨i, hi, rfl⟩ := List.mem_iff_getElem.1 hs
 exact found_all h hi
theorem set_data {s : RSet} (h : mayS s = true) : 1 ≤ s.data.length ∧ s.data.length ≤ 20 := by
 simp only [mayS, Bool.and_eq_true, decide_eq_true_eq] at h
 exact ⟨h.1.1.2, h.1.2⟩
def soaRec (o : List UInt8) (l : List RSet) : Rec := recOf ((findS l o 6).getD zeroS) (soaD o l)
structure Recs (o : List UInt8) (l : List RSet) (os : List Rec) (q : Nat) : Prop where
 le : q ≤ os.length
 eq : recordsS l = insAt os q (soaRec o l)
 non : ∀ r ∈ os, isSoaR r = false
 two : 1 ≤ os.length
theorem soaRec_is {o : List UInt8} {l : List RSet} (h : ZoneOk o l) : soaRec o l ∈ recordsS l ∧ isSoaR (soaRec o l) = true ∧ (soaRec o l).name = o ∧ serOf (soaRec o l) = (soaZ o l).serial := by
 obtain ⟨s, hf, hs, hn, hk, hd, hp, hl⟩ := h.soaSet
 have e : soaRec o l = recOf s (soaD o l) := by rw [soaRec, hf]; rfl
 rw [e]
 refine ⟨?_, by simp [isSoaR, recOf, hk], hn, ?_⟩
 ·unfold recordsS
  refine List.mem_flatten.2 ⟨recsOf s, List.mem_map_of_mem hs, ?_⟩
  unfold recsOf
  exact List.mem_map.2 ⟨soaD o l, by rw [hd]; simp, rfl⟩
 ·unfold serOf soaT recOf
  rw [hp, soaZ, if_pos (zone_ok' h)]
theorem soa_only {o : List UInt8} {l : List RSet} (h : ZoneOk o l) {r : Rec} (hr : r ∈ recordsS l) (hk : isSoaR r = true) : r = soaRec o l := by
 obtain ⟨s, hs, d, hd, rfl⟩ := mem_records hr
 have h6 : s.kind = 6 := by
  unfold isSoaR at hk
  exact of_decide_eq_true hk
 have hn := (h.one6 hs h6).1
 have hf : findS l o 6 = some s := by rw [← hn, ← h6]; exact set_found h.chk hs
 rw [h.only hs h6] at hd
 rw [soaRec, hf, List.mem_singleton.1 hd]
 rfl
theorem insAt_mem {α : Type} {os : List α} {q : Nat} {x y : α} (h : q ≤ os.length) : y ∈ insAt os q x ↔ y = x ∨ y ∈ os := by
 unfold insAt
 rw [List.mem_append, List.mem_cons]
 constructor
 ·rintro (h1 | h1 | h1)
  ·exact .inr (List.mem_of_mem_take h1)
  ·exact .inl h1
  ·exact .inr (List.mem_of_mem_drop h1)
 ·rintro (h1 | h1)
  ·exact .inr (.inl h1)
  ·rw [← List.take_append_drop q os] at h1
   rcases List.mem_append.1 h1 with h1 | h1
   ·exact .inl h1
   ·exact .inr (.inr h1)
theorem ZoneOk.recs {o : List UInt8} {l : List RSet} (h : ZoneOk o l) : ∃ os q, Recs o l os q := by
 obtain ⟨h1, h2, h3, _⟩ := soaRec_is h
 have hnd := h.nodup
 have hle : ((recordsS l).filter isSoaR).length ≤ 1 := by
  have hall : ∀ x ∈ (recordsS l).filter isSoaR, x = soaRec o l := fun x hx => by
   obtain ⟨a, b⟩ := List.mem_filter.1 hx
   exact soa_only h a b
  have hn2 := hnd.filter (p := isSoaR)
  match hm : (recordsS l).filter isSoaR with
  | [] => simp
  | [a] => simp
  | a :: b :: t =>
   exfalso
   rw [hm] at hall hn2
   have e1 := hall a (by simp)
   have e2 := hall b (by simp)
   rw [e1, e2] at hn2
   simp at hn2
 rcases one_soa (recordsS l) hle with h4 | ⟨os, q, x, k1, k2, k3, k4⟩
 ·exact absurd (h4 _ h1) (by simp [h2])
 ·have hx : x = soaRec o l := soa_only h (by rw [k2]; exact (insAt_mem k1).2 (.inl rfl)) k3
  subst hx
  refine ⟨os, q, k1, k2, k4, ?_⟩
  obtain ⟨s, hs⟩ := Option.isSome_iff_exists.1 h.ns
  have hsf : s ∈ l ∧ s.kind = 2 := by
   unfold findS at hs
   have a := List.mem_of_find?_eq_some hs
   have b := List.find?_some hs
   refine ⟨a, ?_⟩
   simp only [hit, Bool.and_eq_true, decide_eq_true_eq] at b
   exact b.2
  obtain ⟨d1, d2⟩ := set_data (h.may hsf.1)
  have hr : recOf s (s.data[0]) ∈ recordsS l := by
   unfold recordsS
   refine List.mem_flatten.2 ⟨recsOf s, List.mem_map_of_mem hsf.1, ?_⟩
   unfold recsOf
   exact List.mem_map.2 ⟨s.data[0], List.getElem_mem _, rfl⟩
  rw [k2] at hr
  rcases (insAt_mem k1).1 hr with hr | hr
  ·exfalso
   have : isSoaR (recOf s s.data[0]) = true := by rw [hr]; exact h2
   simp [isSoaR, recOf, hsf.2] at this
  ·exact List.length_pos_of_mem hr
theorem Recs.head {o : List UInt8} {l : List RSet} {os : List Rec} {q : Nat} (h : Recs o l os q) (hz : ZoneOk o l) : headR (recordsS l) = soaRec o l :: os := by
 rw [h.eq, headR_one h.non (soaRec_is hz).2.1]
 rfl
theorem headR_perm {l : List Rec} (h : (l.filter isSoaR).length ≤ 1) : (headR l).Perm l := by
 rcases one_soa l h with h1 | ⟨os, q, x, h1, h2, h3, h4⟩
 ·rw [headR_none h1]
 ·rw [h2, headR_one h4 h3]
  unfold insAt
  simp only [List.take_zero, List.nil_append, List.drop_zero]
  exact (List.perm_middle.trans (by rw [List.take_append_drop])).symm
theorem filter_le {o : List UInt8} {l : List RSet} (h : ZoneOk o l) (p : Rec → Bool) : (((recordsS l).filter p).filter isSoaR).length ≤ 1 := by
 obtain ⟨os, q, hr⟩ := h.recs
 have h1 : ((recordsS l).filter isSoaR).length ≤ 1 := by
  have := hr.head h
  unfold headR at this
  rw [hr.eq]
  have e : (insAt os q (soaRec o l)).filter isSoaR = [soaRec o l] := by
   unfold insAt
   have a1 : (os.take q).filter isSoaR = [] := List.filter_eq_nil_iff.2 fun r hm => by simp [hr.non r (List.mem_of_mem_take hm)]
   have a2 : (os.drop q).filter isSoaR = [] := List.filter_eq_nil_iff.2 fun r hm => by simp [hr.non r (List.mem_of_mem_drop hm)]
   rw [List.filter_append, List.filter_cons, if_pos (soaRec_is h).2.1, a1, a2]
   rfl
  rw [e]
  simp
 refine Nat.le_trans ?_ h1
 rw [List.filter_filter, ← List.countP_eq_length_filter, ← List.countP_eq_length_filter]
 exact List.countP_mono_left fun r _ hr => by simp at hr; exact hr.1
end Go.Proofs.X
