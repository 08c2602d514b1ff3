/- Laws and walks that the proof of the statement is made of (part 15). -/
import Derived.Test.YtedoaagdhcimiaaGreatProg
import Derived.OrdersIn
import Derived.LoopIn
import Derived.Test.YtedoaagdhcimiaaGreatShelf
import Derived.Shelf.RegionOpenPlain
import Derived.Lib.Strings
import Derived.Lib.Slices
import Derived.Lib.Walk
import Derived.Lib.Builder
import Derived.Lib.AppendStr
import Derived.Lib.UnsafeStr
import Derived.Lib.MakeNoZero
import Derived.WalkKit
import Derived.Laws.Externs
import Derived.Laws.IdiomCopy
import Derived.Laws.BitsLemmas
import GoSem.Claims
import Derived.Shelf.SlSortCmp.NoneTotal
import Derived.OwnWalk
import Derived.Laws.Pointers
import Derived.Lib.Hide
import Derived.WalkMore
import Derived.ScopeJumps
import Derived.Test.YtedoaagdhcimiaaGreatP1
import Derived.Test.YtedoaagdhcimiaaGreatP2
import Derived.Test.YtedoaagdhcimiaaGreatP3
import Derived.Test.YtedoaagdhcimiaaGreatP4
import Derived.Test.YtedoaagdhcimiaaGreatP5
import Derived.Test.YtedoaagdhcimiaaGreatP8
import Derived.Test.YtedoaagdhcimiaaGreatP9
import Derived.Test.YtedoaagdhcimiaaGreatP10
import Derived.Test.YtedoaagdhcimiaaGreatP11
import Derived.Test.YtedoaagdhcimiaaGreatP12
import Derived.Test.YtedoaagdhcimiaaGreatP13
import Derived.Test.YtedoaagdhcimiaaGreatP14
set_option linter.unusedSimpArgs false
set_option linter.unusedVariables false
namespace Go.Proofs.X
open Go.RowKit
set_option maxRecDepth 100000
def symQ (a m q : Nat) : Nat := if q = m then a else q
def cmpV : Value := .func (.func 133) #[] #[]
def SymDoes (B : Nat) (v : Value) (x : Option Rec) (os : List Rec) (K : Nat) : Prop := ∀ (a m b q : Nat) (w : World), a < m → m < b → b ≤ stN x os → b - a ≤ K → Sx x os q → (a ≤ q → q < b → q = a ∨ q = m) → Own B 4 81 w v (rcells (stR x os q)) →
 Calls Tryz.prog 248 #[v, .int .i64 a, .int .i64 m, .int .i64 b, cmpV] w fun e w' => e = .returned (.tuple #[]) ∧ Own B 4 81 w' v (rcells (stR x os (symQ a m q))) ∧ Mv v.ownBlock w w'
theorem ptsAt {w : World} {v : Value} {D : List Rec} {i : Nat} (hs : Sl 4 w v (rcells D)) (hi : i < D.length) : Pts w (elemPtr v (i * 4)) [str (D.getD i zeroRec).name, .int .i64 (D.getD i zeroRec).kind, .int .i64 (D.getD i zeroRec).ttl, str (D.getD i zeroRec).data] := hs.elem (getD_at hi)
set_option maxHeartbeats 8000000 in
theorem p_sym {B : Nat} (v : Value) (x : Option Rec) (os : List Rec) (hl : stN x os ≤ 1000000) : ∀ K, SymDoes B v x os K := by
 intro K
 induction K with
 | zero => intro a m b q w h1 h2 h3 h4; omega
 | succ K ih =>
  intro a m b q w ham hmb hb hK hS hq ho
  have hDl := stR_len hS
  have hrl := rcells_length (stR x os q)
  have hsl := ho.sl
  have hq' : q < a ∨ b ≤ q ∨ q = a ∨ q = m := by
   by_cases e1 : a ≤ q
   ·by_cases e2 : q < b
    ·exact .inr (.inr (hq e1 e2))
    ·omega
   ·omega
  unfold cmpV
  go_enter Tryz.func248, Tryz.ntmps248
  repeat' (first | ((with_reducible refine nx0 ?_); go_step) | fail)
  ((with_reducible refine o_s ?_); (first | (refine o_1 ?_; refine o_2 ?_) | (refine o_g ?_; refine o_u ?_; (with_reducible refine o_s ?_); refine o_1 ?_; refine o_2 ?_)))
  ((with_reducible refine o_s ?_); (first | (refine o_1 ?_; refine o_2 ?_) | (refine o_g ?_; refine o_u ?_; (with_reducible refine o_s ?_); refine o_1 ?_; refine o_2 ?_)))
  refine wpl_run0 (Runs.subE (m - a) rfl rfl (by omega) (by omega)) ?_
  refine gset ?_
  by_cases h1 : m - a = 1
  ·((with_reducible refine o_s ?_); (first | (refine o_1 ?_; refine o_2 ?_) | (refine o_g ?_; refine o_u ?_; (with_reducible refine o_s ?_); refine o_1 ?_; refine o_2 ?_)))
   rw [decide_eq_true (by omega : ((m - a : Nat) : Int) = 1)]
   (repeat' first | ((with_reducible refine nx0 ?_); go_step) | ((with_reducible refine o_s ?_); first | refine wk0 ?_ | (refine wg0 ?_ ?_ <;> intro hc)) | fail)
   go_loopw [10, 11, 12] (fun i j _ wr => ∃ i' j' : Nat, m ≤ i' ∧ i' ≤ j' ∧ j' ≤ b ∧ (q = m → i' ≤ m + 1 ∧ m + 1 ≤ j') ∧ (q ≠ m → i' = m) ∧ i = .int .i64 i' ∧ j = .int .i64 j' ∧ Ext w wr) (fun i j _ _ => (intOf j - intOf i).toNat)
   case atStart => exact ⟨m, b, by omega, by omega, by omega, fun _ => by omega, fun _ => rfl, rfl, rfl, Ext.refl _⟩
   case round =>
    obtain ⟨i, j, hi, hij, hj, hqy, hqn, rfl, rfl, hx⟩ := hrel
    by_cases hlt : i < j
    ·(repeat' first | ((with_reducible refine nx0 ?_); go_step) | ((with_reducible refine o_s ?_); first | refine wk0 ?_ | (refine wg0 ?_ ?_ <;> intro hc)) | fail)
     refine wpl_run0 (Runs.toU (n := i + j) rfl (by decide +kernel) (by decide +kernel) (by omega)) ?_; refine gset ?_; refine wpl_run0 (Runs.shrU (m := i + j) rfl rfl) ?_; refine gset ?_; refine wpl_run0 (Runs.ofU (n := (i + j) / 2) rfl (by decide +kernel) (by decide +kernel) (by omega)) ?_; refine gset ?_
     (repeat' first | ((with_reducible refine nx0 ?_); go_step) | ((with_reducible refine o_s ?_); first | refine wk0 ?_ | (refine wg0 ?_ ?_ <;> intro hc)) | fail)
     obtain ⟨c, hc⟩ : ∃ c, c = (i + j) / 2 := ⟨_, rfl⟩
     rw [← hc]
     have hsx := hsl.ext hx
     have hc1 : i ≤ c ∧ c < j := by omega
     have hA := ptsAt hsx (i := c) (by omega)
     have hC := ptsAt hsx (i := a) (by omega)
     refine wpq_region (by decide +kernel) (by decide +kernel) ?_
     (try ((with_reducible refine qh0 ?_); refine qk0 ?_))
     refine wpq_callT (enters_of Tryz.func133 rfl rfl) rfl rfl rfl (fun w' _ => p_cmpH _ _ w') ?_
     refine gset ?_
     (try ((with_reducible refine qh0 ?_); refine qk0 ?_))
     rw [stR_lt hS (by omega) (by omega)]
     (try ((with_reducible refine qh0 ?_); refine qk0 ?_))
     intro w3 x3
     have hx3 := hx.trans x3
     clear hA hC hsx
     by_cases hcq : c = q
     ·have hqm : q = m := by
       rcases hq (by omega) (by omega) with e | e <;> omega
      rw [decide_eq_true hcq, decide_eq_false (by omega : ¬ a = q)]
      simp only [Bool.not_false, Bool.and_true]
      (repeat' first | ((with_reducible refine nx0 ?_); go_step) | ((with_reducible refine o_s ?_); first | refine wk0 ?_ | (refine wg0 ?_ ?_ <;> intro hc)) | fail)
      exact ⟨⟨c + 1, j, by omega, by omega, hj, fun e => by have := hqy e; omega, fun e => absurd hqm e, by go_num, rfl, hx3⟩, by simp [intOf]; omega⟩
     ·rw [decide_eq_false hcq]
      simp only [Bool.false_and]
      (repeat' first | ((with_reducible refine nx0 ?_); go_step) | ((with_reducible refine o_s ?_); first | refine wk0 ?_ | (refine wg0 ?_ ?_ <;> intro hc)) | fail)
      exact ⟨⟨i, c, by omega, by omega, by omega, fun e => by have := hqy e; omega, hqn, rfl, rfl, hx3⟩, by simp [intOf]; omega⟩
    ·have hij2 : j = i := by omega
     subst hij2
     (repeat' first | ((with_reducible refine nx0 ?_); go_step) | ((with_reducible refine o_s ?_); first | refine wk0 ?_ | (refine wg0 ?_ ?_ <;> intro hc)) | fail)
     have hox := ho.ext hx
     go_loopw [13] (fun k w2 => ∃ kk p : Nat, (kk = a ∧ p = q ∨ kk = a + 1 ∧ q = m ∧ p = a) ∧ k = .int .i64 kk ∧ Own B 4 81 w2 v (rcells (stR x os p)) ∧ Mv v.ownBlock w w2) (fun k _ => m - (intOf k).toNat)
     case atStart => exact ⟨a, q, .inl ⟨rfl, rfl⟩, rfl, hox, hx.mv _⟩
     case round =>
      obtain ⟨kk, p, hkp, rfl, ho2, m2⟩ := hrel
      (repeat' first | ((with_reducible refine nx0 ?_); go_step) | ((with_reducible refine o_s ?_); first | refine wk0 ?_ | (refine wg0 ?_ ?_ <;> intro hc)) | fail)
      ·obtain ⟨rfl, rfl⟩ : kk = a ∧ p = q := by
        rcases hkp with e | ⟨e1, e2, e3⟩
        ·exact e
        ·have := hqy e2; omega
       have hqm : p = m := by
        by_cases e : p = m
        ·exact e
        ·have := hqn e; omega
       obtain rfl : p = kk + 1 := by omega
       refine wpi_region 15 (Ext wr) (by decide +kernel) ?_; intro w4 x4 _; refine ⟨x4, ?_⟩; have hsl3 := ho2.sl; have hpI := ptsAt hsl3 (i := kk) (by omega); have hpJ := ptsAt hsl3 (i := kk + 1) (by omega); refine ip0 0 ?_; refine ip0 1 ?_; refine ip0 2 ?_; refine ip0 3 ?_; refine ipr0 4 rfl (fun _ => Runs.inc rfl rfl (by omega)) ?_; refine gset ?_; refine ip0 5 ?_; refine ip0 6 ?_; refine ipr0 7 rfl (fun _ => Runs.inc rfl rfl (by omega)) ?_; refine gset ?_; refine it0 8 ?_; refine it0 9 ?_; refine ip0 10 ?_; refine ip0 11 ?_; refine it0 12 ?_; refine it0 13 ?_; refine ipr0 14 rfl (fun _ => Runs.idxW (n := kk) rfl hsl3 (by omega) (by decide +kernel)) ?_; refine gset ?_; refine wpi_op (i := 15) (by decide +kernel) rfl rfl ?_; refine wpl_storeEk (i := kk) (f := ((stR x os (kk + 1)).getD (kk + 1) zeroRec).cells) rfl rfl rfl (ho2.ext x4) (by omega) rfl rfl (Rec.cells1 _) (by decide +kernel) ?_; intro w5 o5 m5; refine wph_nil ⟨till_no rfl, ?_⟩; refine ipr0 16 rfl (fun _ => Runs.idxW (n := kk + 1) rfl hsl3 (by omega) (by decide +kernel)) ?_; refine gset ?_; refine wpi_op (i := 17) (by decide +kernel) rfl rfl ?_; refine wpl_storeEk (i := kk + 1) (f := ((stR x os (kk + 1)).getD (kk) zeroRec).cells) rfl rfl rfl o5 (by rw [List.length_set]; omega) rfl rfl (Rec.cells1 _) (by decide +kernel) ?_; intro w6 o6 m6; refine wph_nil ⟨till_no rfl, ?_⟩; refine wpi_done (by decide +kernel) ?_; rw [rcells_set, rcells_set] at o6; clear hpI hpJ hsl3
       have hsw := (stR_sw hS (by omega)).2
       unfold swR at hsw
       rw [hsw] at o6
       (repeat' first | ((with_reducible refine nx0 ?_); go_step) | ((with_reducible refine o_s ?_); first | refine wk0 ?_ | (refine wg0 ?_ ?_ <;> intro hc)) | fail)
       exact ⟨⟨kk + 1, kk, .inr ⟨rfl, hqm, rfl⟩, by go_num, o6, ((m2.trans (x4.mv _)).trans m5).trans m6⟩, by simp [intOf]; omega⟩
      ·((try simp only [Exit.inBlock, Exit.then]); refine bodyPost_ret (results_none rfl _ _ _) rfl ?_)
       have e : p = symQ a m q := by
        unfold symQ
        rcases hkp with ⟨e1, e2⟩ | ⟨e1, e2, e3⟩
        ·by_cases e : q = m
         ·have := hqy e; omega
         ·rw [if_neg e, e2]
        ·rw [if_pos e2, e3]
       exact ⟨rfl, by rw [← e]; exact ho2, m2⟩
  ·((with_reducible refine o_s ?_); (first | (refine o_1 ?_; refine o_2 ?_) | (refine o_g ?_; refine o_u ?_; (with_reducible refine o_s ?_); refine o_1 ?_; refine o_2 ?_)))
   rw [decide_eq_false (by omega : ¬ ((m - a : Nat) : Int) = 1)]
   (repeat' first | ((with_reducible refine nx0 ?_); go_step) | ((with_reducible refine o_s ?_); first | refine wk0 ?_ | (refine wg0 ?_ ?_ <;> intro hc)) | fail)
   ·have h2 : b = m + 1 := by
     have := ‹(b : Int) - (m : Int) = 1›
     omega
    go_loopw [14, 15, 16] (fun i j _ wr => ∃ i' j' : Nat, a ≤ i' ∧ i' ≤ j' ∧ j' ≤ m ∧ (q = m → i' = a) ∧ (q ≠ m → j' = m) ∧ i = .int .i64 i' ∧ j = .int .i64 j' ∧ Ext w wr) (fun i j _ _ => (intOf j - intOf i).toNat)
    case atStart => exact ⟨a, m, by omega, by omega, by omega, fun _ => rfl, fun _ => rfl, rfl, rfl, Ext.refl _⟩
    case round =>
     obtain ⟨i, j, hi, hij, hj, hqy, hqn, rfl, rfl, hx⟩ := hrel
     by_cases hlt : i < j
     ·(repeat' first | ((with_reducible refine nx0 ?_); go_step) | ((with_reducible refine o_s ?_); first | refine wk0 ?_ | (refine wg0 ?_ ?_ <;> intro hc)) | fail)
      refine wpl_run0 (Runs.toU (n := i + j) rfl (by decide +kernel) (by decide +kernel) (by omega)) ?_; refine gset ?_; refine wpl_run0 (Runs.shrU (m := i + j) rfl rfl) ?_; refine gset ?_; refine wpl_run0 (Runs.ofU (n := (i + j) / 2) rfl (by decide +kernel) (by decide +kernel) (by omega)) ?_; refine gset ?_
      (repeat' first | ((with_reducible refine nx0 ?_); go_step) | ((with_reducible refine o_s ?_); first | refine wk0 ?_ | (refine wg0 ?_ ?_ <;> intro hc)) | fail)
      obtain ⟨c, hc⟩ : ∃ c, c = (i + j) / 2 := ⟨_, rfl⟩
      rw [← hc]
      have hsx := hsl.ext hx
      have hc1 : i ≤ c ∧ c < j := by omega
      have hA := ptsAt hsx (i := c) (by omega)
      have hC := ptsAt hsx (i := m) (by omega)
      refine wpq_region (by decide +kernel) (by decide +kernel) ?_
      (try ((with_reducible refine qh0 ?_); refine qk0 ?_))
      refine wpq_callT (enters_of Tryz.func133 rfl rfl) rfl rfl rfl (fun w' _ => p_cmpH _ _ w') ?_
      refine gset ?_
      (try ((with_reducible refine qh0 ?_); refine qk0 ?_))
      rw [stR_lt hS (by omega) (by omega)]
      (try ((with_reducible refine qh0 ?_); refine qk0 ?_))
      intro w3 x3
      have hx3 := hx.trans x3
      clear hA hC hsx
      by_cases hqm : q = m
      ·rw [decide_eq_true hqm.symm, decide_eq_false (by omega : ¬ c = q)]
       simp only [Bool.not_false, Bool.and_true, Bool.not_true]
       (repeat' first | ((with_reducible refine nx0 ?_); go_step) | ((with_reducible refine o_s ?_); first | refine wk0 ?_ | (refine wg0 ?_ ?_ <;> intro hc)) | fail)
       exact ⟨⟨i, c, by omega, by omega, by omega, hqy, fun e => absurd hqm e, rfl, rfl, hx3⟩, by simp [intOf]; omega⟩
      ·rw [decide_eq_false (fun e => hqm e.symm : ¬ m = q)]
       simp only [Bool.false_and, Bool.not_false]
       (repeat' first | ((with_reducible refine nx0 ?_); go_step) | ((with_reducible refine o_s ?_); first | refine wk0 ?_ | (refine wg0 ?_ ?_ <;> intro hc)) | fail)
       exact ⟨⟨c + 1, j, by omega, by omega, by omega, fun e => absurd e hqm, hqn, by go_num, rfl, hx3⟩, by simp [intOf]; omega⟩
     ·have hij2 : j = i := by omega
      subst hij2
      (repeat' first | ((with_reducible refine nx0 ?_); go_step) | ((with_reducible refine o_s ?_); first | refine wk0 ?_ | (refine wg0 ?_ ?_ <;> intro hc)) | fail)
      have hox := ho.ext hx
      go_loopw [17] (fun k w2 => ∃ kk p : Nat, (q = m ∧ a ≤ kk ∧ p = kk ∨ q ≠ m ∧ p = q) ∧ kk ≤ m ∧ (q ≠ m → kk = m) ∧ k = .int .i64 kk ∧ Own B 4 81 w2 v (rcells (stR x os p)) ∧ Mv v.ownBlock w w2) (fun k _ => (intOf k).toNat)
      case atStart =>
       refine ⟨m, q, ?_, Nat.le_refl _, fun _ => rfl, rfl, hox, hx.mv _⟩
       by_cases e : q = m
       ·exact .inl ⟨e, by omega, e⟩
       ·exact .inr ⟨e, rfl⟩
      case round =>
       obtain ⟨kk, p, hkp, hkm, hkn, rfl, ho2, m2⟩ := hrel
       (repeat' first | ((with_reducible refine nx0 ?_); go_step) | ((with_reducible refine o_s ?_); first | refine wk0 ?_ | (refine wg0 ?_ ?_ <;> intro hc)) | fail)
       ·have hk2 : j < kk := by
         have := ‹(j : Int) < (kk : Int)›
         omega
        have hqm : q = m := by
         by_cases e : q = m
         ·exact e
         ·have := hqn e; have := hkn e; omega
        have hp : p = kk := by
         rcases hkp with ⟨_, _, e⟩ | ⟨e, _⟩
         ·exact e
         ·exact absurd hqm e
        have hja := hqy hqm
        obtain ⟨n, rfl⟩ : ∃ n, kk = n + 1 := ⟨kk - 1, by omega⟩
        subst hp
        have hSp : Sx x os (n + 1) := hS.to (by omega) (by omega)
        have hDp := stR_len hSp
        have hrp := rcells_length (stR x os (n + 1))
        refine wpi_region 15 (Ext wr) (by decide +kernel) ?_; intro w4 x4 _; refine ⟨x4, ?_⟩; have hsl3 := ho2.sl; have hpI := ptsAt hsl3 (i := n + 1) (by omega); have hpJ := ptsAt hsl3 (i := n) (by omega); refine ip0 0 ?_; refine ip0 1 ?_; refine ip0 2 ?_; refine ip0 3 ?_; refine ipr0 4 rfl (fun _ => Runs.pred (m := n) rfl rfl (by omega)) ?_; refine gset ?_; refine ip0 5 ?_; refine ip0 6 ?_; refine ipr0 7 rfl (fun _ => Runs.pred (m := n) rfl rfl (by omega)) ?_; refine gset ?_; refine it0 8 ?_; refine it0 9 ?_; refine ip0 10 ?_; refine ip0 11 ?_; refine it0 12 ?_; refine it0 13 ?_; refine ipr0 14 rfl (fun _ => Runs.idxW (n := n + 1) rfl hsl3 (by omega) (by decide +kernel)) ?_; refine gset ?_; refine wpi_op (i := 15) (by decide +kernel) rfl rfl ?_; refine wpl_storeEk (i := n + 1) (f := ((stR x os (n + 1)).getD (n) zeroRec).cells) rfl rfl rfl (ho2.ext x4) (by omega) rfl rfl (Rec.cells1 _) (by decide +kernel) ?_; intro w5 o5 m5; refine wph_nil ⟨till_no rfl, ?_⟩; refine ipr0 16 rfl (fun _ => Runs.idxW (n := n) rfl hsl3 (by omega) (by decide +kernel)) ?_; refine gset ?_; refine wpi_op (i := 17) (by decide +kernel) rfl rfl ?_; refine wpl_storeEk (i := n) (f := ((stR x os (n + 1)).getD (n + 1) zeroRec).cells) rfl rfl rfl o5 (by rw [List.length_set]; omega) rfl rfl (Rec.cells1 _) (by decide +kernel) ?_; intro w6 o6 m6; refine wph_nil ⟨till_no rfl, ?_⟩; refine wpi_done (by decide +kernel) ?_; rw [rcells_set, rcells_set] at o6; clear hpI hpJ hsl3
        have hsw := (stR_sw hSp (by omega)).1
        unfold swR at hsw
        rw [hsw] at o6
        (repeat' first | ((with_reducible refine nx0 ?_); go_step) | ((with_reducible refine o_s ?_); first | refine wk0 ?_ | (refine wg0 ?_ ?_ <;> intro hc)) | fail)
        exact ⟨⟨n, n, .inl ⟨hqm, by omega, rfl⟩, by omega, fun e => absurd hqm e, by go_num, o6, ((m2.trans (x4.mv _)).trans m5).trans m6⟩, by simp [intOf]⟩
       ·((try simp only [Exit.inBlock, Exit.then]); refine bodyPost_ret (results_none rfl _ _ _) rfl ?_)
        have hk2 : kk ≤ j := by
         have := ‹(kk : Int) ≤ (j : Int)›
         omega
        have e : p = symQ a m q := by
         unfold symQ
         rcases hkp with ⟨e1, e2, e3⟩ | ⟨e1, e2⟩
         ·have := hqy e1
          rw [if_pos e1]; omega
         ·rw [if_neg e1, e2]
        exact ⟨rfl, by rw [← e]; exact ho2, m2⟩
   ·have h2 : ¬ b = m + 1 := by
     have := ‹¬ (b : Int) - (m : Int) = 1›
     omega
    refine wpl_run0 (Runs.toU (n := a + b) rfl (by decide +kernel) (by decide +kernel) (by omega)) ?_; refine gset ?_; refine wpl_run0 (Runs.shrU (m := a + b) rfl rfl) ?_; refine gset ?_; refine wpl_run0 (Runs.ofU (n := (a + b) / 2) rfl (by decide +kernel) (by decide +kernel) (by omega)) ?_; refine gset ?_
    obtain ⟨d, hd⟩ : ∃ d, d = (a + b) / 2 := ⟨_, rfl⟩
    rw [← hd]
    have hd1 : a < d ∧ d < b := by omega
    obtain ⟨t, hT⟩ : ∃ t, (q = m ∧ d ≤ m ∧ t + 1 = d) ∨ (q ≠ m ∧ d < m ∧ t = d) ∨ (q ≠ m ∧ m ≤ d ∧ t = m) ∨ (q = m ∧ m < d ∧ t = m) := by
     by_cases e1 : q = m <;> by_cases e2 : d ≤ m <;> by_cases e3 : d < m
     all_goals first
      | exact ⟨d - 1, .inl ⟨e1, e2, by omega⟩⟩
      | exact ⟨d, .inr (.inl ⟨e1, e3, rfl⟩)⟩
      | exact ⟨m, .inr (.inr (.inl ⟨e1, by omega, rfl⟩))⟩
      | exact ⟨m, .inr (.inr (.inr ⟨e1, by omega, rfl⟩))⟩
    (repeat' first | ((with_reducible refine nx0 ?_); go_step) | ((with_reducible refine o_s ?_); first | refine wk0 ?_ | (refine wg0 ?_ ?_ <;> intro hc)) | fail)
    all_goals
     go_loopw [20, 21, 23] (fun i j _ wr => ∃ i' j' : Nat, a ≤ i' ∧ d + m ≤ i' + b ∧ i' ≤ t ∧ t ≤ j' ∧ (j' = t ∨ d < m ∧ j' = d ∨ m ≤ d ∧ j' = m) ∧ i = .int .i64 i' ∧ j = .int .i64 j' ∧ Ext w wr) (fun i j _ _ => (intOf j - intOf i).toNat)
     case atStart =>
      first
       | exact ⟨a, m, by omega, by omega, by omega, by omega, by omega, rfl, rfl, Ext.refl _⟩
       | exact ⟨d + m - b, d, by omega, by omega, by omega, by omega, by omega, by rw [show (d : Int) + (m : Int) - (b : Int) = ((d + m - b : Nat) : Int) by omega], rfl, Ext.refl _⟩
     case round =>
      obtain ⟨i, j, hi, hib, hit, htj, hj, rfl, rfl, hx⟩ := hrel
      by_cases hlt : i < j
      ·(repeat' first | ((with_reducible refine nx0 ?_); go_step) | ((with_reducible refine o_s ?_); first | refine wk0 ?_ | (refine wg0 ?_ ?_ <;> intro hc)) | fail)
       refine wpl_run0 (Runs.toU (n := i + j) rfl (by decide +kernel) (by decide +kernel) (by omega)) ?_; refine gset ?_; refine wpl_run0 (Runs.shrU (m := i + j) rfl rfl) ?_; refine gset ?_; refine wpl_run0 (Runs.ofU (n := (i + j) / 2) rfl (by decide +kernel) (by decide +kernel) (by omega)) ?_; refine gset ?_
       (repeat' first | ((with_reducible refine nx0 ?_); go_step) | ((with_reducible refine o_s ?_); first | refine wk0 ?_ | (refine wg0 ?_ ?_ <;> intro hc)) | fail)
       obtain ⟨c, hc⟩ : ∃ c, c = (i + j) / 2 := ⟨_, rfl⟩
       rw [← hc]
       have hsx := hsl.ext hx
       have hc1 : i ≤ c ∧ c < j := by omega
       have hA := ptsAt hsx (i := d + m - 1 - c) (by omega)
       have hC := ptsAt hsx (i := c) (by omega)
       rw [show d + m - 1 - c = ((d : Int) + (m : Int) - 1 - (c : Int)).toNat by omega] at hA
       refine wpq_region (by decide +kernel) (by decide +kernel) ?_
       (try ((with_reducible refine qh0 ?_); refine qk0 ?_))
       refine wpq_callT (enters_of Tryz.func133 rfl rfl) rfl rfl rfl (fun w' _ => p_cmpH _ _ w') ?_
       refine gset ?_
       (try ((with_reducible refine qh0 ?_); refine qk0 ?_))
       rw [show ((d : Int) + (m : Int) - 1 - (c : Int)).toNat = d + m - 1 - c by omega]
       rw [stR_lt hS (by omega) (by omega)]
       (try ((with_reducible refine qh0 ?_); refine qk0 ?_))
       intro w3 x3
       have hx3 := hx.trans x3
       clear hA hC hsx
       by_cases hct : c = t
       ·rw [decide_eq_true (by omega : d + m - 1 - c = q), decide_eq_false (by omega : ¬ c = q)]
        simp only [Bool.not_false, Bool.and_true, Bool.not_true]
        (repeat' first | ((with_reducible refine nx0 ?_); go_step) | ((with_reducible refine o_s ?_); first | refine wk0 ?_ | (refine wg0 ?_ ?_ <;> intro hc)) | fail)
        exact ⟨⟨i, c, by omega, by omega, by omega, by omega, by omega, rfl, rfl, hx3⟩, by simp [intOf]; omega⟩
       ·have hct2 : c < t := by omega
        rw [decide_eq_false (by omega : ¬ d + m - 1 - c = q)]
        simp only [Bool.false_and, Bool.not_false]
        (repeat' first | ((with_reducible refine nx0 ?_); go_step) | ((with_reducible refine o_s ?_); first | refine wk0 ?_ | (refine wg0 ?_ ?_ <;> intro hc)) | fail)
        exact ⟨⟨c + 1, j, by omega, by omega, by omega, by omega, by omega, by go_num, rfl, hx3⟩, by simp [intOf]; omega⟩
      ·have hjt : j = t := by omega
       have hi2 : i = t := by omega
       subst hjt
       subst hi2
       have hox := ho.ext hx
       have hmx := hx.mv v.ownBlock
       clear hlt hib hi htj hj hit
       rcases hT with ⟨hqm, hdm, ht1⟩ | ⟨hqm, hdm, ht1⟩ | ⟨hqm, hdm, ht1⟩ | ⟨hqm, hdm, ht1⟩
       ·have hsa : symQ a m q = a := if_pos hqm
        subst hqm
        (repeat' first | ((with_reducible refine nx0 ?_); go_step) | ((with_reducible refine o_s ?_); refine wk0 ?_) | fail)
        rw [decide_eq_true (by omega : (i : Int) < (q : Int)), show (d : Int) + (q : Int) - (i : Int) = ((q + 1 : Nat) : Int) by omega]
        (repeat' first | ((with_reducible refine nx0 ?_); go_step) | ((with_reducible refine o_s ?_); refine wk0 ?_) | fail)
        rw [decide_eq_true (by omega : (q : Int) < ((q + 1 : Nat) : Int))]
        (repeat' first | ((with_reducible refine nx0 ?_); go_step) | ((with_reducible refine o_s ?_); refine wk0 ?_) | fail)
        refine wpl_callG (enters_of Tryz.func271 rfl rfl) rfl rfl (p_rotate v x os i q _ wr hS hox (by omega) (by omega) hl) ?_; rintro _ w5 ⟨rfl, o5, m5⟩; refine ⟨_, rfl, ?_⟩; refine gset ?_
        have hSi : Sx x os i := hS.to (by omega) (by omega)
        have hSa : Sx x os a := hS.to (by omega) (by omega)
        (repeat' first | ((with_reducible refine nx0 ?_); go_step) | ((with_reducible refine o_s ?_); refine wk0 ?_) | fail)
        by_cases hai : a < i
        ·rw [decide_eq_true (by omega : (a : Int) < (i : Int))]
         (repeat' first | ((with_reducible refine nx0 ?_); go_step) | ((with_reducible refine o_s ?_); refine wk0 ?_) | fail)
         rw [decide_eq_true (by omega : (i : Int) < (d : Int))]
         (repeat' first | ((with_reducible refine nx0 ?_); go_step) | ((with_reducible refine o_s ?_); refine wk0 ?_) | fail)
         refine wpl_callG (enters_of Tryz.func248 rfl rfl) rfl rfl (ih a i d i w5 hai (by omega) (by omega) (by omega) hSi (fun _ _ => .inr rfl) o5) ?_; rintro _ w6 ⟨rfl, o6, m6⟩; refine ⟨_, rfl, ?_⟩; refine gset ?_
         have hs2 : symQ a i i = a := if_pos rfl
         rw [hs2] at o6
         (repeat' first | ((with_reducible refine nx0 ?_); go_step) | ((with_reducible refine o_s ?_); refine wk0 ?_) | fail)
         rw [decide_eq_true (by omega : (d : Int) < ((q + 1 : Nat) : Int))]
         (repeat' first | ((with_reducible refine nx0 ?_); go_step) | ((with_reducible refine o_s ?_); refine wk0 ?_) | fail)
         rw [decide_eq_true (by omega : ((q + 1 : Nat) : Int) < (b : Int))]
         (repeat' first | ((with_reducible refine nx0 ?_); go_step) | ((with_reducible refine o_s ?_); refine wk0 ?_) | fail)
         refine wpl_callG (enters_of Tryz.func248 rfl rfl) rfl rfl (ih d (q + 1) b a w6 (by omega) (by omega) (by omega) (by omega) hSa (fun e _ => by omega) o6) ?_; rintro _ w7 ⟨rfl, o7, m7⟩; refine ⟨_, rfl, ?_⟩; refine gset ?_
         have hs3 : symQ d (q + 1) a = a := if_neg (by omega)
         rw [hs3] at o7
         (repeat' first | ((with_reducible refine nx0 ?_); go_step) | ((with_reducible refine o_s ?_); refine wk0 ?_) | fail)
         go_end0
         exact ⟨rfl, by rw [hsa]; exact o7, ((hmx.trans m5).trans m6).trans m7⟩
        ·first
          | (exfalso; omega)
          | (obtain rfl : i = a := by omega
             rw [decide_eq_false (by omega : ¬ (i : Int) < (i : Int))]
             (repeat' first | ((with_reducible refine nx0 ?_); go_step) | ((with_reducible refine o_s ?_); refine wk0 ?_) | fail)
             rw [decide_eq_true (by omega : (d : Int) < ((q + 1 : Nat) : Int))]
             (repeat' first | ((with_reducible refine nx0 ?_); go_step) | ((with_reducible refine o_s ?_); refine wk0 ?_) | fail)
             rw [decide_eq_true (by omega : ((q + 1 : Nat) : Int) < (b : Int))]
             (repeat' first | ((with_reducible refine nx0 ?_); go_step) | ((with_reducible refine o_s ?_); refine wk0 ?_) | fail)
             refine wpl_callG (enters_of Tryz.func248 rfl rfl) rfl rfl (ih d (q + 1) b i w5 (by omega) (by omega) (by omega) (by omega) hSa (fun e _ => by omega) o5) ?_; rintro _ w7 ⟨rfl, o7, m7⟩; refine ⟨_, rfl, ?_⟩; refine gset ?_
             have hs3 : symQ d (q + 1) i = i := if_neg (by omega)
             rw [hs3] at o7
             (repeat' first | ((with_reducible refine nx0 ?_); go_step) | ((with_reducible refine o_s ?_); refine wk0 ?_) | fail)
             go_end0
             exact ⟨rfl, by rw [hsa]; exact o7, (hmx.trans m5).trans m7⟩)
       ·first
         | (exfalso; omega)
         | (have hsa : symQ a m q = q := if_neg hqm
            (repeat' first | ((with_reducible refine nx0 ?_); go_step) | ((with_reducible refine o_s ?_); refine wk0 ?_) | fail)
            rw [decide_eq_true (by omega : (i : Int) < (m : Int)), show (d : Int) + (m : Int) - (i : Int) = ((m : Nat) : Int) by omega]
            (repeat' first | ((with_reducible refine nx0 ?_); go_step) | ((with_reducible refine o_s ?_); refine wk0 ?_) | fail)
            rw [decide_eq_false (by omega : ¬ (m : Int) < (m : Int))]
            (repeat' first | ((with_reducible refine nx0 ?_); go_step) | ((with_reducible refine o_s ?_); refine wk0 ?_) | fail)
            rw [decide_eq_true (by omega : (a : Int) < (i : Int))]
            (repeat' first | ((with_reducible refine nx0 ?_); go_step) | ((with_reducible refine o_s ?_); refine wk0 ?_) | fail)
            rw [decide_eq_false (by omega : ¬ (i : Int) < (d : Int))]
            (repeat' first | ((with_reducible refine nx0 ?_); go_step) | ((with_reducible refine o_s ?_); refine wk0 ?_) | fail)
            rw [decide_eq_true (by omega : (d : Int) < (m : Int))]
            (repeat' first | ((with_reducible refine nx0 ?_); go_step) | ((with_reducible refine o_s ?_); refine wk0 ?_) | fail)
            rw [decide_eq_true (by omega : (m : Int) < (b : Int))]
            (repeat' first | ((with_reducible refine nx0 ?_); go_step) | ((with_reducible refine o_s ?_); refine wk0 ?_) | fail)
            refine wpl_callG (enters_of Tryz.func248 rfl rfl) rfl rfl (ih d m b q wr hdm hmb hb (by omega) hS (fun e e2 => by omega) hox) ?_; rintro _ w7 ⟨rfl, o7, m7⟩; refine ⟨_, rfl, ?_⟩; refine gset ?_
            have hs3 : symQ d m q = q := if_neg hqm
            rw [hs3] at o7
            (repeat' first | ((with_reducible refine nx0 ?_); go_step) | ((with_reducible refine o_s ?_); refine wk0 ?_) | fail)
            go_end0
            exact ⟨rfl, by rw [hsa]; exact o7, hmx.trans m7⟩)
       ·first
         | (exfalso; omega)
         | (have hsa : symQ a m q = q := if_neg hqm
            by_cases hid : i < d
            ·(repeat' first | ((with_reducible refine nx0 ?_); go_step) | ((with_reducible refine o_s ?_); refine wk0 ?_) | fail)
             rw [decide_eq_false (by omega : ¬ (i : Int) < (m : Int)), show (d : Int) + (m : Int) - (i : Int) = (d : Int) by omega]
             (repeat' first | ((with_reducible refine nx0 ?_); go_step) | ((with_reducible refine o_s ?_); refine wk0 ?_) | fail)
             rw [decide_eq_true (by omega : (a : Int) < (i : Int))]
             (repeat' first | ((with_reducible refine nx0 ?_); go_step) | ((with_reducible refine o_s ?_); refine wk0 ?_) | fail)
             refine wpl_callG (enters_of Tryz.func248 rfl rfl) rfl rfl (ih a i d q wr (by omega) hid (by omega) (by omega) hS (fun e e2 => by omega) hox) ?_; rintro _ w7 ⟨rfl, o7, m7⟩; refine ⟨_, rfl, ?_⟩; refine gset ?_
             have hs3 : symQ a i q = q := if_neg (by omega)
             rw [hs3] at o7
             (repeat' first | ((with_reducible refine nx0 ?_); go_step) | ((with_reducible refine o_s ?_); refine wk0 ?_) | fail)
             rw [decide_eq_false (by omega : ¬ (d : Int) < (d : Int))]
             (repeat' first | ((with_reducible refine nx0 ?_); go_step) | ((with_reducible refine o_s ?_); refine wk0 ?_) | fail)
             go_end0
             exact ⟨rfl, by rw [hsa]; exact o7, hmx.trans m7⟩
            ·(repeat' first | ((with_reducible refine nx0 ?_); go_step) | ((with_reducible refine o_s ?_); refine wk0 ?_) | fail)
             rw [decide_eq_false (by omega : ¬ (i : Int) < (m : Int)), show (d : Int) + (m : Int) - (i : Int) = (d : Int) by omega]
             (repeat' first | ((with_reducible refine nx0 ?_); go_step) | ((with_reducible refine o_s ?_); refine wk0 ?_) | fail)
             rw [decide_eq_true (by omega : (a : Int) < (i : Int))]
             (repeat' first | ((with_reducible refine nx0 ?_); go_step) | ((with_reducible refine o_s ?_); refine wk0 ?_) | fail)
             rw [decide_eq_false (by omega : ¬ (d : Int) < (d : Int))]
             (repeat' first | ((with_reducible refine nx0 ?_); go_step) | ((with_reducible refine o_s ?_); refine wk0 ?_) | fail)
             go_end0
             exact ⟨rfl, by rw [hsa]; exact hox, hmx⟩)
       ·first
         | (exfalso; omega)
         | (have hsa : symQ a m q = a := if_pos hqm
            (repeat' first | ((with_reducible refine nx0 ?_); go_step) | ((with_reducible refine o_s ?_); refine wk0 ?_) | fail)
            rw [decide_eq_false (by omega : ¬ (i : Int) < (m : Int)), show (d : Int) + (m : Int) - (i : Int) = (d : Int) by omega]
            (repeat' first | ((with_reducible refine nx0 ?_); go_step) | ((with_reducible refine o_s ?_); refine wk0 ?_) | fail)
            rw [decide_eq_true (by omega : (a : Int) < (i : Int))]
            (repeat' first | ((with_reducible refine nx0 ?_); go_step) | ((with_reducible refine o_s ?_); refine wk0 ?_) | fail)
            rw [decide_eq_true (by omega : (i : Int) < (d : Int))]
            (repeat' first | ((with_reducible refine nx0 ?_); go_step) | ((with_reducible refine o_s ?_); refine wk0 ?_) | fail)
            refine wpl_callG (enters_of Tryz.func248 rfl rfl) rfl rfl (ih a i d q wr (by omega) (by omega) (by omega) (by omega) hS (fun e e2 => by omega) hox) ?_; rintro _ w7 ⟨rfl, o7, m7⟩; refine ⟨_, rfl, ?_⟩; refine gset ?_
            have hs3 : symQ a i q = a := if_pos (by omega)
            rw [hs3] at o7
            (repeat' first | ((with_reducible refine nx0 ?_); go_step) | ((with_reducible refine o_s ?_); refine wk0 ?_) | fail)
            rw [decide_eq_false (by omega : ¬ (d : Int) < (d : Int))]
            (repeat' first | ((with_reducible refine nx0 ?_); go_step) | ((with_reducible refine o_s ?_); refine wk0 ?_) | fail)
            go_end0
            exact ⟨rfl, by rw [hsa]; exact o7, hmx.trans m7⟩)
def flo (s q : Nat) : Nat := s * (q / s)
theorem flo_le (s q : Nat) : flo s q ≤ q := Nat.mul_div_le q s
theorem flo_at {s q k : Nat} (hs : 0 < s) (h1 : s * k ≤ q) (h2 : q < s * k + s) : flo s q = s * k := by
 have : q / s = k := by
  refine Nat.div_eq_of_lt_le ?_ ?_
  ·rw [Nat.mul_comm]; exact h1
  ·rw [Nat.mul_comm, Nat.mul_succ]; exact h2
 rw [flo, this]
theorem flo_two {s q a k : Nat} (hs : 0 < s) (ha : a = 2 * s * k) (h1 : a ≤ q) (h2 : q < a + 2 * s) : flo (2 * s) q = a ∧ (q < a + s → flo s q = a) ∧ (a + s ≤ q → flo s q = a + s) := by
 have e1 : s * (2 * k) = a := by rw [ha, ← Nat.mul_assoc, Nat.mul_comm s 2]
 have e2 : s * (2 * k + 1) = a + s := by rw [Nat.mul_succ, e1]
 refine ⟨by rw [ha]; exact flo_at (by omega) (by omega) (by omega), fun h => ?_, fun h => ?_⟩
 ·rw [← e1]; exact flo_at hs (by omega) (by omega)
 ·rw [← e2]; exact flo_at hs (by omega) (by omega)
theorem flo_zero {s q : Nat} (h : q < s) : flo s q = 0 := by rw [flo, Nat.div_eq_of_lt h, Nat.mul_zero]
def midQ (N s a q : Nat) : Nat := if q < N then (if q < a then flo (2 * s) q else flo s q) else q
theorem midQ_pre {N s a k q b : Nat} (hs : 0 < s) (ha : a = 2 * s * k) (hb : b ≤ a + 2 * s) (hbN : b ≤ N) (h1 : a ≤ midQ N s a q) (h2 : midQ N s a q < b) : midQ N s a q = a ∨ midQ N s a q = a + s := by
 have h2q := flo_le (2 * s) q
 have hfar : a + 2 * s ≤ q → a + 2 * s ≤ flo s q := fun h => by
  have e : a + 2 * s = s * (2 * (k + 1)) := by rw [ha, ← Nat.mul_assoc, Nat.mul_comm s 2, Nat.mul_succ]
  rw [e] at h ⊢
  exact Nat.mul_le_mul_left s ((Nat.le_div_iff_mul_le hs).2 (by rw [Nat.mul_comm]; exact h))
 unfold midQ at h1 h2 ⊢
 by_cases c1 : q < N
 ·rw [if_pos c1] at h1 h2 ⊢
  by_cases c2 : q < a
  ·rw [if_pos c2] at h1; omega
  ·rw [if_neg c2] at h1 h2 ⊢
   by_cases c3 : q < a + 2 * s
   ·have := flo_two hs ha (by omega) c3
    by_cases c4 : q < a + s
    ·exact .inl (this.2.1 c4)
    ·exact .inr (this.2.2 (by omega))
   ·have := hfar (by omega); omega
 ·rw [if_neg c1] at h2; omega
theorem midQ_post {N s a k q : Nat} (hs : 0 < s) (ha : a = 2 * s * k) (hN : a + s < N) : symQ a (a + s) (midQ N s a q) = midQ N s (a + 2 * s) q := by
 have h2q := flo_le (2 * s) q
 have hfar : a + 2 * s ≤ q → a + 2 * s ≤ flo s q := fun h => by
  have e : a + 2 * s = s * (2 * (k + 1)) := by rw [ha, ← Nat.mul_assoc, Nat.mul_comm s 2, Nat.mul_succ]
  rw [e] at h ⊢
  exact Nat.mul_le_mul_left s ((Nat.le_div_iff_mul_le hs).2 (by rw [Nat.mul_comm]; exact h))
 unfold midQ symQ
 by_cases c1 : q < N
 ·simp only [if_pos c1]
  by_cases c2 : q < a
  ·rw [if_pos c2, if_neg (by omega), if_pos (by omega)]
  ·rw [if_neg c2]
   by_cases c3 : q < a + 2 * s
   ·have := flo_two hs ha (by omega) c3
    rw [if_pos c3, this.1]
    by_cases c4 : q < a + s
    ·rw [this.2.1 c4, if_neg (by omega)]
    ·rw [this.2.2 (by omega), if_pos rfl]
   ·have := hfar (by omega)
    rw [if_neg c3, if_neg (by omega)]
 ·simp only [if_neg c1]
  rw [if_neg (by omega)]
theorem midQ_end {N s a k q : Nat} (hs : 0 < s) (ha : a = 2 * s * k) (hN : N ≤ a + s) : midQ N s a q = if q < N then flo (2 * s) q else q := by
 unfold midQ
 by_cases c1 : q < N
 ·rw [if_pos c1, if_pos c1]
  by_cases c2 : q < a
  ·rw [if_pos c2]
  ·rw [if_neg c2]
   have := flo_two (q := q) hs ha (by omega) (by omega)
   rw [this.1, this.2.1 (by omega)]
 ·rw [if_neg c1, if_neg c1]
theorem midQ_all {N s a q : Nat} (h : N ≤ a) : midQ N s a q = if q < N then flo (2 * s) q else q := by
 unfold midQ
 by_cases c1 : q < N
 ·rw [if_pos c1, if_pos c1, if_pos (by omega)]
 ·rw [if_neg c1, if_neg c1]
theorem midQ_none {N s q : Nat} : midQ N s 0 q = if q < N then flo s q else q := by
 unfold midQ
 rw [if_neg (Nat.not_lt_zero q)]
set_option maxHeartbeats 8000000 in
theorem p_stable {B : Nat} (v : Value) (x : Option Rec) (os : List Rec) (q : Nat) (w : World) (hS : Sx x os q) (ho : Own B 4 81 w v (rcells (stR x os q))) (hl : stN x os ≤ 1000000) :
 Calls Tryz.prog 193 #[v, .int .i64 (stN x os), cmpV] w fun e w' => e = .returned (.tuple #[]) ∧ Own B 4 81 w' v (rcells (stR x os (if q < stN x os then 0 else q))) ∧ Mv v.ownBlock w w' := by
 generalize hN : stN x os = N at *
 unfold cmpV
 go_enter Tryz.func193, Tryz.ntmps193
 (repeat' first | ((with_reducible refine nx0 ?_); go_step) | ((with_reducible refine o_s ?_); first | refine wk0 ?_ | (refine wg0 ?_ ?_ <;> intro hc)) | fail)
 go_loopw [7, 8] (fun i j wr => ∃ a k : Nat, a = 20 * k ∧ a ≤ N ∧ i = .int .i64 a ∧ j = .int .i64 ((a + 20 : Nat) : Int) ∧ Own B 4 81 wr v (rcells (stR x os (if q < a then flo 20 q else q))) ∧ Mv v.ownBlock w wr) (fun i _ _ => N - (intOf i).toNat)
 case atStart => exact ⟨0, 0, rfl, Nat.zero_le _, rfl, rfl, by rw [if_neg (by omega)]; exact ho, Mv.refl _ _⟩
 case round =>
  obtain ⟨a, k, ha, haN, rfl, rfl, ho1, m1⟩ := hrel
  have hflq := flo_le 20 q
  have hS1 : Sx x os (if q < a then flo 20 q else q) := by
   split
   ·exact hS.to (by omega) (by omega)
   ·exact hS
  by_cases hbn : a + 20 ≤ N
  ·(repeat' first | ((with_reducible refine nx0 ?_); go_step) | ((with_reducible refine o_s ?_); first | refine wk0 ?_ | (refine wg0 ?_ ?_ <;> intro hc)) | fail)
   refine wpl_callG (enters_of Tryz.func247 rfl rfl) rfl rfl (p_insertion v x os _ a (a + 20) wr hS1 ho1 (by omega) (by omega) (by omega)) ?_; rintro _ w5 ⟨rfl, o5, m5⟩; refine ⟨_, rfl, ?_⟩; refine gset ?_
   have e : insQ a (a + 20) (if q < a then flo 20 q else q) = if q < a + 20 then flo 20 q else q := by
    unfold insQ
    by_cases c1 : q < a
    ·rw [if_pos c1, if_neg (by omega), if_pos (by omega)]
    ·rw [if_neg c1]
     by_cases c2 : q < a + 20
     ·rw [if_pos ⟨by omega, c2⟩, if_pos c2, ha]
      exact (flo_at (by omega) (by omega) (by omega)).symm
     ·rw [if_neg (by omega), if_neg c2]
   rw [e] at o5
   (repeat' first | ((with_reducible refine nx0 ?_); go_step) | ((with_reducible refine o_s ?_); first | refine wk0 ?_ | (refine wg0 ?_ ?_ <;> intro hc)) | fail)
   exact ⟨⟨a + 20, k + 1, by omega, hbn, rfl, by go_num, o5, m1.trans m5⟩, by simp [intOf]; omega⟩
  ·(repeat' first | ((with_reducible refine nx0 ?_); go_step) | ((with_reducible refine o_s ?_); first | refine wk0 ?_ | (refine wg0 ?_ ?_ <;> intro hc)) | fail)
   refine wpl_callG (enters_of Tryz.func247 rfl rfl) rfl rfl (p_insertion v x os _ a N wr hS1 ho1 (by omega) (by omega) (by omega)) ?_; rintro _ w5 ⟨rfl, o5, m5⟩; refine ⟨_, rfl, ?_⟩; refine gset ?_
   have e : insQ a N (if q < a then flo 20 q else q) = if q < N then flo 20 q else q := by
    unfold insQ
    by_cases c1 : q < a
    ·rw [if_pos c1, if_neg (by omega), if_pos (by omega)]
    ·rw [if_neg c1]
     by_cases c2 : q < N
     ·rw [if_pos ⟨by omega, c2⟩, if_pos c2, ha]
      exact (flo_at (by omega) (by omega) (by omega)).symm
     ·rw [if_neg (by omega), if_neg c2]
   rw [e] at o5
   have m5 := m1.trans m5
   clear ho1 m1 e hS1 ha haN hbn
   (repeat' first | ((with_reducible refine nx0 ?_); go_step) | ((with_reducible refine o_s ?_); first | refine wk0 ?_ | (refine wg0 ?_ ?_ <;> intro hc)) | fail)
   go_loopw [6, 7, 8, 9] (fun z _ _ _ wr => ∃ s : Nat, 20 ≤ s ∧ s ≤ 2000000 ∧ z = .int .i64 s ∧ Own B 4 81 wr v (rcells (stR x os (if q < N then flo s q else q))) ∧ Mv v.ownBlock w wr) (fun z _ _ _ _ => N - (intOf z).toNat)
   case atStart => exact ⟨20, Nat.le_refl _, by omega, rfl, o5, m5⟩
   case round =>
    obtain ⟨s, hs, hs2, rfl, ho1, m1⟩ := hrel
    have hsq := flo_le s q
    by_cases hsN : s < N
    ·(repeat' first | ((with_reducible refine nx0 ?_); go_step) | ((with_reducible refine o_s ?_); first | refine wk0 ?_ | (refine wg0 ?_ ?_ <;> intro hc)) | fail)
     rw [show (2 : Int) * (s : Int) = ((2 * s : Nat) : Int) by omega]
     go_loopw [7, 8] (fun i j w2 => ∃ a k : Nat, a = 2 * s * k ∧ a ≤ N ∧ i = .int .i64 a ∧ j = .int .i64 ((a + 2 * s : Nat) : Int) ∧ Own B 4 81 w2 v (rcells (stR x os (midQ N s a q))) ∧ Mv v.ownBlock w w2) (fun i _ _ => N - (intOf i).toNat)
     case atStart => exact ⟨0, 0, rfl, Nat.zero_le _, rfl, by rw [Nat.zero_add], by rw [midQ_none]; exact ho1, m1⟩
     case round =>
      obtain ⟨a, k, ha, haN, rfl, rfl, ho2, m2⟩ := hrel
      have h2q := flo_le (2 * s) q
      have hS2 : Sx x os (midQ N s a q) := by
       unfold midQ
       split
       ·refine hS.to (by omega) ?_
        split <;> omega
       ·exact hS
      by_cases hbn : a + 2 * s ≤ N
      ·(repeat' first | ((with_reducible refine nx0 ?_); go_step) | ((with_reducible refine o_s ?_); first | refine wk0 ?_ | (refine wg0 ?_ ?_ <;> intro hc)) | fail)
       refine wpl_callG (enters_of Tryz.func248 rfl rfl) rfl rfl (p_sym v x os (by omega) _ a (a + s) (a + 2 * s) _ wr (by omega) (by omega) (by omega) (Nat.le_refl _) hS2 (midQ_pre (by omega) ha (Nat.le_refl _) hbn) ho2) ?_; rintro _ w6 ⟨rfl, o6, m6⟩; refine ⟨_, rfl, ?_⟩; refine gset ?_
       rw [midQ_post (by omega) ha (by omega)] at o6
       (repeat' first | ((with_reducible refine nx0 ?_); go_step) | ((with_reducible refine o_s ?_); first | refine wk0 ?_ | (refine wg0 ?_ ?_ <;> intro hc)) | fail)
       exact ⟨⟨a + 2 * s, k + 1, by rw [ha, Nat.mul_succ], hbn, rfl, by rw [show ((a + 2 * s : Nat) : Int) + 2 * (s : Int) = ((a + 2 * s + 2 * s : Nat) : Int) by omega], o6, m2.trans m6⟩, by simp [intOf]; omega⟩
      ·(repeat' first | ((with_reducible refine nx0 ?_); go_step) | ((with_reducible refine o_s ?_); first | refine wk0 ?_ | (refine wg0 ?_ ?_ <;> intro hc)) | fail)
       ·have hm : a + s < N := by
         have := ‹(a : Int) + (s : Int) < (N : Int)›
         omega
        refine wpl_callG (enters_of Tryz.func248 rfl rfl) rfl rfl (p_sym v x os (by omega) _ a (a + s) N _ wr (by omega) hm (by omega) (Nat.le_refl _) hS2 (midQ_pre (by omega) ha (by omega) (Nat.le_refl _)) ho2) ?_; rintro _ w6 ⟨rfl, o6, m6⟩; refine ⟨_, rfl, ?_⟩; refine gset ?_
        rw [midQ_post (by omega) ha hm, midQ_all (by omega)] at o6
        (repeat' first | ((with_reducible refine nx0 ?_); go_step) | ((with_reducible refine o_s ?_); first | refine wk0 ?_ | (refine wg0 ?_ ?_ <;> intro hc)) | fail)
        exact ⟨⟨2 * s, by omega, by omega, by rw [show (s : Int) * 2 = ((2 * s : Nat) : Int) by omega], o6, m2.trans m6⟩, by simp [intOf]; omega⟩
       ·have hm : N ≤ a + s := by
         have := ‹(N : Int) ≤ (a : Int) + (s : Int)›
         omega
        rw [midQ_end (by omega) ha hm] at ho2
        exact ⟨⟨2 * s, by omega, by omega, by rw [show (s : Int) * 2 = ((2 * s : Nat) : Int) by omega], ho2, m2⟩, by simp [intOf]; omega⟩
    ·(repeat' first | ((with_reducible refine nx0 ?_); go_step) | ((with_reducible refine o_s ?_); first | refine wk0 ?_ | (refine wg0 ?_ ?_ <;> intro hc)) | fail)
     go_end0
     have e : (if q < N then flo s q else q) = if q < N then 0 else q := by
      by_cases c : q < N
      ·rw [if_pos c, if_pos c, flo_zero (by omega)]
      ·rw [if_neg c, if_neg c]
     rw [e] at ho1
     exact ⟨rfl, ho1, m1⟩
set_option maxHeartbeats 4000000 in
theorem p_SortStable {B : Nat} (v : Value) (x : Option Rec) (os : List Rec) (q : Nat) (w : World) (hS : Sx x os q) (ho : Own B 4 81 w v (rcells (stR x os q))) (hl : stN x os ≤ 1000000) :
 Calls Tryz.prog 132 #[v, cmpV] w fun e w' => e = .returned (.tuple #[]) ∧ Own B 4 81 w' v (rcells (stR x os (if q < stN x os then 0 else q))) ∧ Mv v.ownBlock w w' := by
 have hsl := ho.sl
 have hrl := rcells_length (stR x os q)
 have hDl := stR_len hS
 have hst := p_stable v x os q w hS ho hl
 unfold cmpV at hst ⊢
 go_enter Tryz.func132, Tryz.ntmps132
 (repeat' first | ((with_reducible refine nx0 ?_); go_step) | ((with_reducible refine o_s ?_); first | refine wk0 ?_ | (refine wg0 ?_ ?_ <;> intro hc)) | fail)
 rw [hrl, hDl]
 refine wpl_callG (enters_of Tryz.func193 rfl rfl) rfl rfl (hst) ?_; rintro _ w5 ⟨rfl, o5, m5⟩; refine ⟨_, rfl, ?_⟩; refine gset ?_
 (repeat' first | ((with_reducible refine nx0 ?_); go_step) | ((with_reducible refine o_s ?_); first | refine wk0 ?_ | (refine wg0 ?_ ?_ <;> intro hc)) | fail)
 go_end0
 exact ⟨rfl, o5, m5⟩
theorem one_st {D : List Rec} (h : (D.filter isSoaR).length ≤ 1) : ∃ x os q, Sx x os q ∧ stR x os q = D ∧ stN x os = D.length ∧ stR x os (if q < stN x os then 0 else q) = headR D := by
 rcases one_soa D h with h1 | ⟨os, q, r, h1, h2, h3, h4⟩
 ·exact ⟨none, D, D.length, ⟨h1, fun r e => (by cases e), fun _ => Nat.le_refl _⟩, rfl, by simp [stN], (headR_none h1).symm⟩
 ·have e : stN (some r) os = os.length + 1 := rfl
  refine ⟨some r, os, q, ⟨h4, fun r' e => ⟨by cases e; exact h3, h1⟩, fun e => by cases e⟩, h2.symm, by rw [e, h2, insAt_length h1], ?_⟩
  rw [e, if_pos (by omega), h2, headR_one h4 h3]
  rfl
theorem headR_len {D : List Rec} (h : (D.filter isSoaR).length ≤ 1) : (headR D).length = D.length := (headR_perm h).length_eq
theorem p_headed (v : Value) (D : List Rec) (w : World) (hv : Sl 4 w v (rcells D)) (h1 : (D.filter isSoaR).length ≤ 1) (hl : D.length ≤ 1000000) :
 Calls Tryz.prog 70 #[v] w (Ret w fun r w' => Own w.heap.size 4 81 w' r (rcells (headR D))) := by
 obtain ⟨x, os, q, hS, hD, hN, hH⟩ := one_st h1
 go_enter Tryz.func70, Tryz.ntmps70
 (repeat' first | ((with_reducible refine nx0 ?_); go_step) | ((with_reducible refine o_s ?_); first | refine wk0 ?_ | (refine wg0 ?_ ?_ <;> intro hc)) | fail)
 refine wpl_callR (enters_of Tryz.func101 rfl rfl) rfl rfl (p_CloneR v D w hv hl) ?_
 intro r w2 x2 o2
 refine gset ?_
 (repeat' first | ((with_reducible refine nx0 ?_); go_step) | ((with_reducible refine o_s ?_); first | refine wk0 ?_ | (refine wg0 ?_ ?_ <;> intro hc)) | fail)
 rw [← hD] at o2
 refine wpl_callG (enters_of Tryz.func132 rfl rfl) rfl rfl (p_SortStable r x os q w2 hS o2 (by omega)) ?_; rintro _ w5 ⟨rfl, o5, m5⟩; refine ⟨_, rfl, ?_⟩; refine gset ?_
 rw [hH] at o5
 (repeat' first | ((with_reducible refine nx0 ?_); go_step) | ((with_reducible refine o_s ?_); first | refine wk0 ?_ | (refine wg0 ?_ ?_ <;> intro hc)) | fail)
 go_ret
 exact ⟨_, rfl, o2.mvx m5 x2 (Nat.le_refl _), o5⟩
set_option maxHeartbeats 4000000 in
theorem p_Whole (o : List UInt8) (v : Value) (l : List RSet) (w : World) (hv : SetsAt w v l) (hb : ∀ s ∈ l, s.data.length ≤ 1000000) :
 Calls Tryz.prog 23 #[.agg #[str o, v]] w (Ret w fun r w' => ∃ y, r = .tuple #[y, .int .i64 (zoneR o l)] ∧ Own w.heap.size 4 81 w' y (rcells (wholeR o l))) := by
 go_enter Tryz.func23, Tryz.ntmps23
 repeat' (first | ((with_reducible refine nx0 ?_); go_step) | fail)
 refine wpl_box (vs := [str o, v]) rfl rfl ?_
 intro p w1 x1 hp
 refine gset ?_
 (repeat' first | ((with_reducible refine nx0 ?_); go_step) | ((with_reducible refine o_s ?_); first | refine wk0 ?_ | (refine wg0 ?_ ?_ <;> intro hc)) | fail)
 refine wpl_callV (enters_of Tryz.func39 rfl rfl) rfl rfl (p_Check o v l _ (hv.ext x1) hb) ?_; intro w2 x2; refine gset ?_
 have hx2 := x1.trans x2
 by_cases hz : zoneR o l = 0
 ·have hz' : (!decide (zoneR o l = 0)) = false := by simp [hz]
  have hok := zone_ok hz
  obtain ⟨zl, zb, zd, zr⟩ := zoneJ hok
  obtain ⟨os, q, hr⟩ := hok.recs
  have hh := hr.head hok
  have h1 : ((recordsS l).filter isSoaR).length ≤ 1 := by
   have := filter_le hok (fun _ => true)
   have e : (recordsS l).filter (fun _ => true) = recordsS l := List.filter_eq_self.2 (by simp)
   rwa [e] at this
  have hhl := headR_len h1
  rw [hz]
  (repeat' first | ((with_reducible refine nx0 ?_); go_step) | ((with_reducible refine o_s ?_); first | refine wk0 ?_ | (refine wg0 ?_ ?_ <;> intro hc)) | fail)
  refine wpl_callR (enters_of Tryz.func71 rfl rfl) rfl rfl (t10 v l _ (hv.ext hx2) (by omega)) ?_
  intro r3 w3 x3 o3
  refine gset ?_
  (repeat' first | ((with_reducible refine nx0 ?_); go_step) | ((with_reducible refine o_s ?_); first | refine wk0 ?_ | (refine wg0 ?_ ?_ <;> intro hc)) | fail)
  refine wpl_callR (enters_of Tryz.func70 rfl rfl) rfl rfl (p_headed r3 _ w3 o3.sl h1 (by omega)) ?_
  intro r4 w4 x4 o4
  have hs4 := o4.sl
  have hhd : headOf (headR (recordsS l)) = soaRec o l := by rw [hh]; rfl
  have hr0 : (rcells (headR (recordsS l)))[0]? = some [str (soaRec o l).name, .int .i64 (soaRec o l).kind, .int .i64 (soaRec o l).ttl, str (soaRec o l).data] := by rw [hh]; rfl
  have hpe := hs4.elem hr0
  refine gset ?_
  (repeat' first | ((with_reducible refine nx0 ?_); go_step) | ((with_reducible refine o_s ?_); first | refine wk0 ?_ | (refine wg0 ?_ ?_ <;> intro hc)) | fail)
  refine wpl_run0 (Runs.idxW (n := 0) rfl hs4 (by rw [rcells_length, hh]; simp) (by decide +kernel)) ?_
  refine gset ?_
  (repeat' first | ((with_reducible refine nx0 ?_); go_step) | ((with_reducible refine o_s ?_); first | refine wk0 ?_ | (refine wg0 ?_ ?_ <;> intro hc)) | fail)
  have hB : w.heap.size ≤ w3.heap.size := (hx2.trans x3).size
  have hB4 := x4.size
  refine ap1 [str (soaRec o l).name, .int .i64 (soaRec o l).kind, .int .i64 (soaRec o l).ttl, str (soaRec o l).data] ((hx2.trans x3).trans x4) (o4.weaken hB) (by rw [rcells_length]; omega) ?_ (rec_elem rfl)
  intro s v' w5 w6 x5 m6 x6 o6
  refine gset ?_
  (repeat' first | ((with_reducible refine nx0 ?_); go_step) | ((with_reducible refine o_s ?_); first | refine wk0 ?_ | (refine wg0 ?_ ?_ <;> intro hc)) | fail)
  go_ret2
  refine ⟨_, rfl, x6, v', by rw [hz]; rfl, ?_⟩
  have e : rcells (wholeR o l) = rcells (headR (recordsS l)) ++ [[str (soaRec o l).name, .int .i64 (soaRec o l).kind, .int .i64 (soaRec o l).ttl, str (soaRec o l).data]] := by
   rw [wholeR, if_pos hz, hhd]
   simp [rcells, Rec.cells]
  rw [e]
  exact o6
 ·have hz' : (!decide (zoneR o l = 0)) = true := by simp [hz]
  (repeat' first | ((with_reducible refine nx0 ?_); go_step) | ((with_reducible refine o_s ?_); first | refine wk0 ?_ | (refine wg0 ?_ ?_ <;> intro hc)) | fail)
  all_goals first
   | (exfalso
      have hh := ‹(!decide (zoneR o l = 0)) = false›
      rw [hz'] at hh
      cases hh
      done)
   | skip
  go_ret2
  exact ⟨_, rfl, hx2, _, rfl, by rw [wholeR, if_neg hz]; exact Own.nil _ _ _ _⟩
def whL : List Rec := [⟨[1, 97], 6, 9, simS⟩, ⟨[1, 97], 2, 9, [2, 110, 115, 1, 97, 0]⟩, ⟨[2, 110, 115, 1, 97], 1, 9, [49, 49, 49, 49]⟩, ⟨[1, 97], 6, 9, simS⟩]
theorem sl_wh : wholeR [1, 97] simZ = whL := by decide +kernel
theorem sl_Z : zoneR [1, 97] simZ = 0 := by decide +kernel
theorem sl_n7 : secE [1, 97] 7 = 0 := by decide +kernel
theorem sl_n0 : secE [0] 7 = 1 := by decide +kernel
def sA : SecR := secNew [1, 97] 7
def sB : SecR := sA.heard 5 0
def sC : SecR := sB.got whL 1
def sD : SecR := sC.notify 6 2
theorem sl_f1 : sA.wants 0 = 1 := by decide +kernel
theorem sl_f2 : sB.wants 0 = 2 := by decide +kernel
theorem sl_f3 : sB.gotE whL 1 = 0 := by decide +kernel
theorem sl_f4 : sC.o = [1, 97] := by decide +kernel
theorem sl_f5 : sC.l = simZ := by decide +kernel
theorem sl_f6 : sC.z.isSome = true := by decide +kernel
theorem sl_f7 : sC.wants 10 = 0 := by decide +kernel
theorem sl_f8 : sC.wants 11 = 1 := by decide +kernel
theorem sl_f9 : sD.wants 2 = 1 := by decide +kernel
theorem sl_g1 : sD.up 100 = true := by decide +kernel
theorem sl_g2 : sD.up 101 = false := by decide +kernel
theorem sl_okA : SecOk sA := SecOk.new sl_n7
theorem sl_okB : SecOk sB := sl_okA.heard 5 0
theorem sl_okC : SecOk sC := sl_okB.got whL 1
theorem SAt.wantsV {B : Nat} {w : World} {b : Nat} {s : SecR} {v now : Int} (h : SAt B w b s) (e : s.wants now = v) : Calls Tryz.prog 17 #[.pointer (some ⟨b, 0, none⟩), .int .i64 now] w (RetV w (.int .i64 v)) := e ▸ p_Wants h now
theorem SAt.upV {B : Nat} {w : World} {b : Nat} {s : SecR} {v : Bool} {now : Int} (h : SAt B w b s) (e : s.up now = v) : Calls Tryz.prog 36 #[.pointer (some ⟨b, 0, none⟩), .int .i64 now] w (RetV w (.bool v)) := e ▸ p_Up h now
theorem wh_b : ∀ q ∈ whL, q.data.length ≤ 1000000 := by decide +kernel
set_option maxHeartbeats 8000000 in
theorem l17_live (w : World) : Calls Tryz.prog 15 #[] w (Yes w) := by
 go_enter Tryz.func15, Tryz.ntmps15
 (repeat' first | ((with_reducible refine nx0 ?_); go_step) | ((with_reducible refine o_s ?_); first | refine wk1 ?_ | (refine wg0 ?_ ?_ <;> intro hc)) | fail)
 refine wpl_callR (enters_of Tryz.func22 rfl rfl) rfl rfl (p_Simple _) ?_
 intro v1 w1 x1 hv1
 refine gset ?_
 (repeat' first | ((with_reducible refine nx0 ?_); go_step) | ((with_reducible refine o_s ?_); first | refine wk1 ?_ | (refine wg0 ?_ ?_ <;> intro hc)) | fail)
 refine wpl_callR (enters_of Tryz.func21 rfl rfl) rfl rfl (p_Load [1, 97] v1 simR _ hv1 (by decide) sim_r) ?_
 rintro _ w2 x2 ⟨z, rfl, hz⟩
 rw [jl_E2, jl_O2]
 rw [jl_L2] at hz
 have hz := hz.sets
 have hz1 : z.oneCell' = true := by obtain ⟨css, h, _⟩ := hz; exact h.one
 have hx2 := x1.trans x2
 refine gset ?_
 (repeat' first | ((with_reducible refine nx0 ?_); go_step) | ((with_reducible refine o_s ?_); first | refine wk1 ?_ | (refine wg0 ?_ ?_ <;> intro hc)) | fail)
 refine wpl_allocB (z := zzone) rfl (by decide +kernel) ?_
 intro w3 x3 s3 h3
 refine gset ?_
 refine wpl_storeB (v := .agg #[str [1, 97], z]) rfl rfl rfl h3 (show sizeTy Tryz.prog 34 2 = true by decide +kernel) rfl (zone_one hz1) ?_
 intro w4 p4
 have x4 : Ext w2 w4 := x3.move p4.mv (by rintro k ⟨⟩; exact Nat.le_refl _)
 have hp4 := pts_block (cs := [str [1, 97], z]) p4.this
 have hz4 := hz.ext x4
 have hx4 := hx2.trans x4
 clear p4 h3 x3
 (repeat' first | ((with_reducible refine nx0 ?_); go_step) | ((with_reducible refine o_s ?_); first | refine wk1 ?_ | (refine wg0 ?_ ?_ <;> intro hc)) | fail)
 refine wpl_callR (enters_of Tryz.func23 rfl rfl) rfl rfl (p_Whole [1, 97] z simZ _ hz4 sim_b) ?_
 rintro _ w5 x5 ⟨y, rfl, hy⟩
 rw [sl_Z]
 rw [sl_wh] at hy
 have hy := hy.sl
 have hy1 := hy.one
 have hx5 := hx4.trans x5
 have hz5 := hz4.ext x5
 have hp5 := hp4.ext x5
 refine gset ?_
 (repeat' first | ((with_reducible refine nx0 ?_); go_step) | ((with_reducible refine o_s ?_); first | refine wk1 ?_ | (refine wg0 ?_ ?_ <;> intro hc)) | fail)
 refine wpl_callR (enters_of Tryz.func16 rfl rfl) rfl rfl (p_SecNew [1, 97] 7 _) ?_
 rintro _ w6 x6 ⟨p, rfl, hp⟩
 unfold secPE at hp
 rw [if_pos sl_n7] at hp
 obtain ⟨b, rfl, hb, hB, hA⟩ := hp
 rw [sl_n7]
 have hx6 := hx5.trans x6
 refine gset ?_
 (repeat' first | ((with_reducible refine nx0 ?_); go_step) | ((with_reducible refine o_s ?_); first | refine wk1 ?_ | (refine wg0 ?_ ?_ <;> intro hc)) | fail)
 refine wpl_callR (enters_of Tryz.func16 rfl rfl) rfl rfl (p_SecNew [0] 7 _) ?_
 rintro _ w7 x7 ⟨p7, rfl, hp7⟩
 unfold secPE at hp7
 rw [sl_n0, if_neg (by decide)] at hp7
 subst hp7
 rw [sl_n0]
 have hx7 := hx6.trans x7
 have hA7 := hA.grow x7
 refine gset ?_
 have hs7 := x7.size
 have hxz7 := x6.trans x7
 clear hp4 hz4
 change SAt w6.heap.size w7 b sA at hA7
 generalize w6.heap.size = B at *
 (repeat' first | ((with_reducible refine nx0 ?_); go_step) | ((with_reducible refine o_s ?_); first | refine wk1 ?_ | (refine wg0 ?_ ?_ <;> intro hc)) | fail)
 refine wpl_callV (enters_of Tryz.func17 rfl rfl) rfl rfl (hA7.wantsV sl_f1) ?_; intro w8 x8; refine gset ?_
 have hA8 := hA7.grow x8
 (repeat' first | ((with_reducible refine nx0 ?_); go_step) | ((with_reducible refine o_s ?_); first | refine wk1 ?_ | (refine wg0 ?_ ?_ <;> intro hc)) | fail)
 refine wpl_callG (enters_of Tryz.func18 rfl rfl) rfl rfl (p_Heard hA8 sl_okA 5 0) ?_; rintro _ w9 ⟨rfl, o9, m9⟩; refine ⟨_, rfl, ?_⟩; refine gset ?_
 have hA9 : SAt B w9 b sB := o9
 have x59 := (hxz7.trans x8).move m9 (by rintro k ⟨⟩; exact hB)
 (repeat' first | ((with_reducible refine nx0 ?_); go_step) | ((with_reducible refine o_s ?_); first | refine wk1 ?_ | (refine wg0 ?_ ?_ <;> intro hc)) | fail)
 refine wpl_callV (enters_of Tryz.func17 rfl rfl) rfl rfl (hA9.wantsV sl_f2) ?_; intro w10 x10; refine gset ?_
 have hA10 := hA9.grow x10
 have hB10 : B ≤ w10.heap.size := by have h1 := m9.size; have h2 := x8.size; have h3 := x10.size; omega
 have x510 := x59.trans x10
 (repeat' first | ((with_reducible refine nx0 ?_); go_step) | ((with_reducible refine o_s ?_); first | refine wk1 ?_ | (refine wg0 ?_ ?_ <;> intro hc)) | fail)
 refine wpl_callG (enters_of Tryz.func24 rfl rfl) rfl rfl (p_Got hA10 sl_okB hB10 y whL 1 (hy.ext x510) (by decide) wh_b) ?_
 rintro _ w11 ⟨rfl, o11, m11⟩
 refine ⟨_, rfl, ?_⟩
 rw [sl_f3]
 have hA11 : SAt B w11 b sC := o11
 have x511 := x510.move m11 (by rintro k ⟨⟩; exact hB)
 refine gset ?_
 (repeat' first | ((with_reducible refine nx0 ?_); go_step) | ((with_reducible refine o_s ?_); first | refine wk1 ?_ | (refine wg0 ?_ ?_ <;> intro hc)) | fail)
 refine wpl_callR (enters_of Tryz.func34 rfl rfl) rfl rfl (p_SecZone hA11 sl_okC) ?_
 rintro _ w12 x12 ⟨y2, rfl, hy2⟩
 rw [sl_f4, sl_f6]
 have hy2 := hy2.toO (Nat.le_refl _)
 rw [sl_f5] at hy2
 have hy21 : y2.oneCell' = true := by obtain ⟨css, h, _⟩ := hy2.sets; exact h.one
 have hA12 := hA11.grow x12
 have x512 := x511.trans x12
 refine gset ?_
 (repeat' first | ((with_reducible refine nx0 ?_); go_step) | ((with_reducible refine o_s ?_); first | refine wk1 ?_ | (refine wg0 ?_ ?_ <;> intro hc)) | fail)
 refine wpl_allocB (z := zzone) rfl (by decide +kernel) ?_
 intro w13 x13 s13 h13
 refine gset ?_
 refine wpl_storeB (v := .agg #[str [1, 97], y2]) rfl rfl rfl h13 (show sizeTy Tryz.prog 34 2 = true by decide +kernel) rfl (zone_one hy21) ?_
 intro w14 p14
 have x14 : Ext w12 w14 := x13.move p14.mv (by rintro k ⟨⟩; exact Nat.le_refl _)
 have hy14 := hy2.ext x14
 have hA14 := hA12.grow x14
 have x514 := x512.trans x14
 have hk14 := p14.this
 have h1112 := x12.size
 have hb11 : b < w11.heap.size := by have h1 := hA11.lt; have h2 := m11.size; omega
 have hbz : b < w12.heap.size := by omega
 clear p14 h13
 generalize w12.heap.size = zk at *
 (repeat' first | ((with_reducible refine nx0 ?_); go_step) | ((with_reducible refine o_s ?_); first | refine wk1 ?_ | (refine wg0 ?_ ?_ <;> intro hc)) | fail)
 refine wpl_callV (enters_of Tryz.func17 rfl rfl) rfl rfl (hA14.wantsV sl_f7) ?_; intro w15 x15; refine gset ?_
 have hA15 := hA14.grow x15
 (repeat' first | ((with_reducible refine nx0 ?_); go_step) | ((with_reducible refine o_s ?_); first | refine wk1 ?_ | (refine wg0 ?_ ?_ <;> intro hc)) | fail)
 refine wpl_callV (enters_of Tryz.func17 rfl rfl) rfl rfl (hA15.wantsV sl_f8) ?_; intro w16 x16; refine gset ?_
 have hA16 := hA15.grow x16
 have x1416 := x15.trans x16
 (repeat' first | ((with_reducible refine nx0 ?_); go_step) | ((with_reducible refine o_s ?_); first | refine wk1 ?_ | (refine wg0 ?_ ?_ <;> intro hc)) | fail)
 refine wpl_callG (enters_of Tryz.func20 rfl rfl) rfl rfl (p_Notify hA16 sl_okC 6 2) ?_; rintro _ w17 ⟨rfl, o17, m17⟩; refine ⟨_, rfl, ?_⟩; refine gset ?_
 have hA17 : SAt B w17 b sD := o17
 have hk17 := m17.at (x1416.at hk14) (by intro e; have := Option.some.inj e; omega)
 have hq17 := pts_block (cs := [str [1, 97], y2]) hk17
 have hy17 := ((hy14.ext x1416).mvb m17 hb11).sets
 have x517 := (x514.trans x1416).move m17 (by rintro k ⟨⟩; exact hB)
 have hp17 := hp5.ext x517
 have hz17 := hz5.ext x517
 (repeat' first | ((with_reducible refine nx0 ?_); go_step) | ((with_reducible refine o_s ?_); first | refine wk1 ?_ | (refine wg0 ?_ ?_ <;> intro hc)) | fail)
 refine wpl_callV (enters_of Tryz.func17 rfl rfl) rfl rfl (hA17.wantsV sl_f9) ?_; intro w18 x18; refine gset ?_
 have hA18 := hA17.grow x18
 have hp18 := hp17.ext x18
 have hq18 := hq17.ext x18
 (repeat' first | ((with_reducible refine nx0 ?_); go_step) | ((with_reducible refine o_s ?_); first | refine wk1 ?_ | (refine wg0 ?_ ?_ <;> intro hc)) | fail)
 refine wpl_callV (enters_of Tryz.func38 rfl rfl) rfl rfl (same_true (hy17.ext x18) (hz17.ext x18) rfl rfl) ?_; intro w19 x19; refine gset ?_
 have hA19 := hA18.grow x19
 (repeat' first | ((with_reducible refine nx0 ?_); go_step) | ((with_reducible refine o_s ?_); first | refine wk1 ?_ | (refine wg0 ?_ ?_ <;> intro hc)) | fail)
 refine wpl_callV (enters_of Tryz.func36 rfl rfl) rfl rfl (hA19.upV sl_g1) ?_; intro w20 x20; refine gset ?_
 have hA20 := hA19.grow x20
 (repeat' first | ((with_reducible refine nx0 ?_); go_step) | ((with_reducible refine o_s ?_); first | refine wk1 ?_ | (refine wg0 ?_ ?_ <;> intro hc)) | fail)
 refine wpl_callV (enters_of Tryz.func36 rfl rfl) rfl rfl (hA20.upV sl_g2) ?_; intro w21 x21; refine gset ?_
 (repeat' first | ((with_reducible refine nx0 ?_); go_step) | ((with_reducible refine o_s ?_); first | refine wk1 ?_ | (refine wg0 ?_ ?_ <;> intro hc)) | fail)
 go_ret
 exact ⟨rfl, ((((hx5.trans x517).trans x18).trans x19).trans x20).trans x21⟩
theorem l17_liveV (w : World) : Calls Tryz.prog 15 #[] w (RetV w (.bool true)) := l17_live w
section
variable {retry n now : Int} (h1 : 1 ≤ retry) (h2 : retry ≤ 100000) (h3 : 0 ≤ n) (h4 : n ≤ 4294967295) (h5 : 0 ≤ now) (h6 : now ≤ 1000000)
include h5 h6
end
section
variable {now : Int} (h5 : 0 ≤ now) (h6 : now ≤ 1000000)
include h5 h6
end
section
variable {n now : Int} (h5 : 0 ≤ now) (h6 : now ≤ 1000000)
include h5 h6
end
structure OpsAt (w : World) (v : Value) (ps : List OpR) : Prop where
 out : ∃ css, Sl 4 w v css ∧ css.length = ps.length ∧ ∀ (i : Nat) (p : OpR), ps[i]? = some p → ∃ u, css[i]? = some [.int .i64 p.op, .int .i64 p.n, .int .i64 p.now, u] ∧ Sl 4 w u (rcells p.l)
theorem OpsAt.ext {w w' : World} {v : Value} {ps : List OpR} (h : OpsAt w v ps) (hx : Ext w w') : OpsAt w' v ps := by
 obtain ⟨css, h1, h2, h3⟩ := h
 exact ⟨css, h1.ext hx, h2, fun i z hi => let ⟨u, a, b⟩ := h3 i z hi; ⟨u, a, b.ext hx⟩⟩
section
variable {P : Program} {w : World} {ts : List Value} {df : List Deferred} {d : Option Nat} {ty : TypeId} {ps : String} {af : Array Edge} {g : Option (Nat × Bool)}
end
theorem r2_May (n : Int) (w : World) : Calls Tryz.prog 75 #[.int .i64 n] w (RetV w (.bool (okSer n))) := by
 go_enter Tryz.func75, Tryz.ntmps75
 (repeat' first | ((with_reducible refine nx0 ?_); go_step) | ((with_reducible refine o_s ?_); first | refine wk0 ?_ | (refine wg0 ?_ ?_ <;> intro hc)) | fail)
 all_goals
  go_ret
  refine ⟨?_, Ext.refl _⟩
  unfold okSer
  first
   | (rw [decide_eq_false (show ¬ (0 ≤ n) by omega)]; rfl)
   | (rw [decide_eq_true (show 0 ≤ n by omega)]
      by_cases h : n ≤ 4294967295
      ·rw [decide_eq_true h, decide_eq_true (show n < 4294967296 by omega)]; rfl
      ·rw [decide_eq_false h, decide_eq_false (show ¬ n < 4294967296 by omega)]; rfl)
theorem r2_Compare (a b : Int) (w : World) : Calls Tryz.prog 158 #[.int .i64 a, .int .i64 b] w (RetV w (.tuple #[.int .i64 (serCmp a b).1, .int .i64 (serCmp a b).2])) := by
 go_enter Tryz.func158, Tryz.ntmps158
 (repeat' first | ((with_reducible refine nx0 ?_); go_step) | ((with_reducible refine o_s ?_); first | refine wk0 ?_ | (refine wg0 ?_ ?_ <;> intro hc)) | fail)
 refine wpl_callV (enters_of Tryz.func75 rfl rfl) rfl rfl (r2_May a _) ?_; intro w1 x1; refine gset ?_
 cases ha : okSer a with
 | false =>
  (repeat' first | ((with_reducible refine nx0 ?_); go_step) | ((with_reducible refine o_s ?_); first | refine wk0 ?_ | (refine wg0 ?_ ?_ <;> intro hc)) | fail)
  go_ret2
  exact ⟨by rw [serCmp, if_pos (by simp [ha])]; rfl, x1⟩
 | true =>
  (repeat' first | ((with_reducible refine nx0 ?_); go_step) | ((with_reducible refine o_s ?_); first | refine wk0 ?_ | (refine wg0 ?_ ?_ <;> intro hc)) | fail)
  refine wpl_callV (enters_of Tryz.func75 rfl rfl) rfl rfl (r2_May b _) ?_; intro w2 x2; refine gset ?_
  have hx2 := x1.trans x2
  cases hb : okSer b with
  | false =>
   (repeat' first | ((with_reducible refine nx0 ?_); go_step) | ((with_reducible refine o_s ?_); first | refine wk0 ?_ | (refine wg0 ?_ ?_ <;> intro hc)) | fail)
   go_ret2
   exact ⟨by rw [serCmp, if_pos (by simp [hb])]; rfl, hx2⟩
  | true =>
   have hk : 0 ≤ a ∧ a ≤ 4294967295 ∧ 0 ≤ b ∧ b ≤ 4294967295 := by
    simp only [okSer, Bool.and_eq_true, decide_eq_true_eq] at ha hb
    omega
   obtain ⟨m, hm⟩ : ∃ m : Nat, b - a + 4294967296 = (m : Int) := ⟨(b - a + 4294967296).toNat, by omega⟩
   have hmod : ((m % 4294967296 : Nat) : Int) = (b - a) % 4294967296 := by
    rw [Int.natCast_emod, ← hm]
    omega
   (repeat' first | ((with_reducible refine nx0 ?_); go_step) | ((with_reducible refine o_s ?_); first | refine wk0 ?_ | (refine wg0 ?_ ?_ <;> intro hc)) | fail)
   refine wpl_run0 (Runs.remN (m := m) (n := 4294967296) (by rw [← hm]; rfl) rfl (by decide) (by omega)) ?_
   refine gset ?_
   rw [hmod]
   (repeat' first | ((with_reducible refine nx0 ?_); go_step) | ((with_reducible refine o_s ?_); first | refine wk0 ?_ | (refine wg0 ?_ ?_ <;> intro hc)) | fail)
   all_goals
    go_ret2
    refine ⟨?_, hx2⟩
    rw [serCmp, if_neg (by simp [ha, hb])]
    first
     | (rw [if_pos (by omega)]; rfl)
     | (rw [if_neg (by omega), if_pos (by omega)]; rfl)
     | (rw [if_neg (by omega), if_neg (by omega), if_pos (by omega)]; rfl)
     | (rw [if_neg (by omega), if_neg (by omega), if_neg (by omega)]; rfl)
theorem later_cmp (a b : Int) : serCmp a b = (0, 1) ∧ laterB a b = false ∨ serCmp a b = (0, 0) ∧ laterB a b = false ∨ serCmp a b = (-1, 0) ∧ laterB a b = false ∨ serCmp a b = (1, 0) ∧ laterB a b = true ∨ serCmp a b = (0, 5) ∧ laterB a b = false := by
 unfold serCmp laterB
 cases hok : (okSer a && okSer b) with
 | false => simp
 | true =>
  simp only [Bool.true_eq_false, if_false, Bool.true_and]
  generalize (b - a) % 4294967296 = d
  by_cases h1 : d = 0
  ·simp [h1]
  ·by_cases h2 : d < 2147483648
   ·have : ¬ 2147483648 < d := by omega
    simp [h1, h2, this]
   ·by_cases h3 : 2147483648 < d
    ·simp [h1, h2, h3]
    ·simp [h1, h2, h3]
theorem r2_Later (a b : Int) (w : World) : Calls Tryz.prog 97 #[.int .i64 a, .int .i64 b] w (RetV w (.bool (laterB a b))) := by
 go_enter Tryz.func97, Tryz.ntmps97
 (repeat' first | ((with_reducible refine nx0 ?_); go_step) | ((with_reducible refine o_s ?_); first | refine wk0 ?_ | (refine wg0 ?_ ?_ <;> intro hc)) | fail)
 refine wpl_callV (enters_of Tryz.func158 rfl rfl) rfl rfl (r2_Compare a b _) ?_; intro w1 x1; refine gset ?_
 rcases later_cmp a b with ⟨h1, h2⟩ | ⟨h1, h2⟩ | ⟨h1, h2⟩ | ⟨h1, h2⟩ | ⟨h1, h2⟩
 all_goals
  rw [h1]
  (repeat' first | ((with_reducible refine nx0 ?_); go_step) | ((with_reducible refine o_s ?_); first | refine wk0 ?_ | (refine wg0 ?_ ?_ <;> intro hc)) | fail)
  go_ret
  exact ⟨by rw [h2]; rfl, x1⟩
theorem r12_Time (n : Int) (w : World) : Calls Tryz.prog 74 #[.int .i64 n] w (RetV w (.bool (okTime n))) := by
 go_enter Tryz.func74, Tryz.ntmps74
 (repeat' first | ((with_reducible refine nx0 ?_); go_step) | ((with_reducible refine o_s ?_); first | refine wk1 ?_ | (refine wg0 ?_ ?_ <;> intro hc)) | fail)
 all_goals
  go_ret
  refine ⟨?_, Ext.refl _⟩
  simp [okTime]
  omega
theorem next_drop {l : List Rec} {j : Nat} (h : j < l.length) : nextSoa (l.drop j) = if isSoaR l[j] = true then 0 else nextSoa (l.drop (j + 1)) + 1 := by
 rw [List.drop_eq_getElem_cons h]
 rfl
set_option maxHeartbeats 1000000 in
theorem r16_until (v : Value) (l : List Rec) (k : Nat) (w : World) (hv : Sl 4 w v (rcells l)) (hk : k ≤ l.length) (hl : l.length ≤ 1000000) : Calls Tryz.prog 172 #[v, .int .i64 (k : Int)] w (RetV w (.int .i64 ((k + nextSoa (l.drop k) : Nat) : Int))) := by
 have hlen := rcells_length l
 go_enter Tryz.func172, Tryz.ntmps172
 (repeat' first | ((with_reducible refine nx0 ?_); go_step) | ((with_reducible refine o_s ?_); first | refine wk1 ?_ | (refine wg0 ?_ ?_ <;> intro hc)) | fail)
 go_loopw [1] (fun i wr => ∃ j : Nat, k ≤ j ∧ j ≤ l.length ∧ i = .int .i64 j ∧ Ext w wr ∧ k + nextSoa (l.drop k) = j + nextSoa (l.drop j)) (fun i _ => l.length - (intOf i).toNat)
 case atStart => exact ⟨k, Nat.le_refl _, hk, rfl, Ext.refl _, rfl⟩
 case round =>
  obtain ⟨j, hkj, hj, rfl, hx, he⟩ := hrel
  by_cases hlt : j < l.length
  ·have h1 := (hv.ext hx).elem (rcells_at hlt)
   have hn := next_drop hlt
   by_cases hs : l[j].kind = 6
   ·rw [if_pos (by simp [isSoaR, hs])] at hn
    (repeat' first | ((with_reducible refine nx0 ?_); go_step) | ((with_reducible refine o_s ?_); first | refine wk1 ?_ | (refine wg0 ?_ ?_ <;> intro hc)) | fail)
    all_goals first
     | (exfalso; omega)
     | (exfalso; have hh := ‹(!decide (l[j].kind = 6)) = true›; simp [hs] at hh; done)
     | skip
    go_ret
    refine ⟨?_, hx⟩
    rw [he, hn]
    rfl
   ·rw [if_neg (by simp [isSoaR, hs])] at hn
    (repeat' first | ((with_reducible refine nx0 ?_); go_step) | ((with_reducible refine o_s ?_); first | refine wk1 ?_ | (refine wg0 ?_ ?_ <;> intro hc)) | fail)
    all_goals first
     | (exfalso; omega)
     | (exfalso; have hh := ‹(!decide (l[j].kind = 6)) = false›; simp [hs] at hh; done)
     | skip
    exact ⟨⟨j + 1, by omega, by omega, rfl, hx, by omega⟩, by simp [intOf]; omega⟩
  ·have hj2 : j = l.length := by omega
   have hn : nextSoa (l.drop j) = 0 := by rw [hj2, List.drop_length]; rfl
   (repeat' first | ((with_reducible refine nx0 ?_); go_step) | ((with_reducible refine o_s ?_); first | refine wk1 ?_ | (refine wg0 ?_ ?_ <;> intro hc)) | fail)
   all_goals first
    | (exfalso; omega)
    | skip
   go_ret
   refine ⟨?_, hx⟩
   rw [he, hn]
   rfl
end Go.Proofs.X
