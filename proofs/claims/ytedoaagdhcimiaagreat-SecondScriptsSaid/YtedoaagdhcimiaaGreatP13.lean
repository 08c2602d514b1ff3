/- Laws and walks that the proof of the statement is made of (part 13). -/
import Derived.Test.YtedoaagdhcimiaaGreatProg
import Derived.OrdersIn
import Derived.LoopIn
import Derived.Test.YtedoaagdhcimiaaGreatShelf
import Derived.Shelf.RegionOpenPlain
import Derived.Lib.Strings
import Derived.Lib.Slices
import Derived.Lib.Walk
import Derived.Lib.Builder
import Derived.Lib.AppendStr
import Derived.Lib.UnsafeStr
import Derived.Lib.MakeNoZero
import Derived.WalkKit
import Derived.Laws.Externs
import Derived.Laws.IdiomCopy
import Derived.Laws.BitsLemmas
import GoSem.Claims
import Derived.Shelf.SlSortCmp.NoneTotal
import Derived.OwnWalk
import Derived.Laws.Pointers
import Derived.Lib.Hide
import Derived.WalkMore
import Derived.ScopeJumps
import Derived.Test.YtedoaagdhcimiaaGreatP1
import Derived.Test.YtedoaagdhcimiaaGreatP2
import Derived.Test.YtedoaagdhcimiaaGreatP3
import Derived.Test.YtedoaagdhcimiaaGreatP4
import Derived.Test.YtedoaagdhcimiaaGreatP5
import Derived.Test.YtedoaagdhcimiaaGreatP7
import Derived.Test.YtedoaagdhcimiaaGreatP8
import Derived.Test.YtedoaagdhcimiaaGreatP9
import Derived.Test.YtedoaagdhcimiaaGreatP10
import Derived.Test.YtedoaagdhcimiaaGreatP11
import Derived.Test.YtedoaagdhcimiaaGreatP12
set_option linter.unusedSimpArgs false
set_option linter.unusedVariables false
namespace Go.Proofs.X
open Go.RowKit
set_option maxRecDepth 100000
def soaTE (d : List UInt8) : Int := if (parseSoa d).isSome then 0 else 2
theorem p_ParseSoaT (d : List UInt8) (w : World) (hl : d.length ≤ 4611686018427387904) : Calls Tryz.prog 88 #[str d] w (RetV w (.tuple #[.agg (soaT d).cells.toArray, .int .i64 (soaTE d)])) := by
 have h := t38 d w hl
 unfold soaT soaTE
 cases hp : parseSoa d <;> (rw [hp] at h; exact h)
theorem r3_ParseSoaT (d : List UInt8) (w : World) (hl : d.length ≤ 4611686018427387904) : Calls Tryz.prog 157 #[str d] w (RetV w (.tuple #[.agg (soaT d).cells.toArray, .int .i64 (soaTE d)])) := by
 have h := r3_ParseSoa d w hl
 unfold soaT soaTE
 cases hp : parseSoa d <;> (rw [hp] at h; exact h)
set_option maxHeartbeats 2000000 in
theorem p_serialOf (r : Rec) (w : World) (hl : r.data.length ≤ 4611686018427387904) : Calls Tryz.prog 111 #[.agg #[str r.name, .int .i64 r.kind, .int .i64 r.ttl, str r.data]] w (RetV w (.int .i64 (serOf r))) := by
 go_enter Tryz.func111, Tryz.ntmps111
 repeat' (first | ((with_reducible refine nx0 ?_); go_step) | fail)
 refine wpl_box (vs := [str r.name, .int .i64 r.kind, .int .i64 r.ttl, str r.data]) rfl rfl ?_
 intro p w1 x1 hp
 refine gset ?_
 (repeat' first | ((with_reducible refine nx0 ?_); go_step) | ((with_reducible refine o_s ?_); first | refine wk0 ?_ | (refine wg0 ?_ ?_ <;> intro hc)) | fail)
 refine wpl_callV (enters_of Tryz.func88 rfl rfl) rfl rfl (p_ParseSoaT r.data w1 hl) ?_; intro w2 x2; refine gset ?_
 (repeat' first | ((with_reducible refine nx0 ?_); go_step) | ((with_reducible refine o_s ?_); first | refine wk0 ?_ | (refine wg0 ?_ ?_ <;> intro hc)) | fail)
 refine wpl_allocB (z := zeroSoa) rfl (by decide +kernel) ?_
 intro w3 x3 s3 h3
 refine gset ?_
 refine wpl_storeB (v := .agg (soaT r.data).cells.toArray) rfl rfl rfl h3 (show sizeTy Tryz.prog 61 7 = true by decide +kernel) rfl (soaR_one _) ?_
 intro w4 p4
 have x4 : Ext w2 w4 := x3.move p4.mv (by rintro k ⟨⟩; exact Nat.le_refl _)
 have hs4 := pts_block (cs := (soaT r.data).cells) p4.this
 have hs42 : Pts w4 (partPtr (.pointer (some ⟨w2.heap.size, 0, none⟩)) 2) [.int .i64 (soaT r.data).serial, .int .i64 (soaT r.data).refresh, .int .i64 (soaT r.data).retry, .int .i64 (soaT r.data).expire, .int .i64 (soaT r.data).minimum] := hs4.part 2
 (repeat' first | ((with_reducible refine nx0 ?_); go_step) | ((with_reducible refine o_s ?_); first | refine wk0 ?_ | (refine wg0 ?_ ?_ <;> intro hc)) | fail)
 go_ret
 exact ⟨rfl, (x1.trans x2).trans x4⟩
set_option maxHeartbeats 2000000 in
theorem r16_serial (r : Rec) (w : World) (hl : r.data.length ≤ 4611686018427387904) : Calls Tryz.prog 116 #[.agg #[str r.name, .int .i64 r.kind, .int .i64 r.ttl, str r.data]] w (RetV w (.int .i64 (serOf r))) := by
 go_enter Tryz.func116, Tryz.ntmps116
 repeat' (first | ((with_reducible refine nx0 ?_); go_step) | fail)
 refine wpl_box (vs := [str r.name, .int .i64 r.kind, .int .i64 r.ttl, str r.data]) rfl rfl ?_
 intro p w1 x1 hp
 refine gset ?_
 (repeat' first | ((with_reducible refine nx0 ?_); go_step) | ((with_reducible refine o_s ?_); first | refine wk0 ?_ | (refine wg0 ?_ ?_ <;> intro hc)) | fail)
 refine wpl_callV (enters_of Tryz.func157 rfl rfl) rfl rfl (r3_ParseSoaT r.data w1 hl) ?_; intro w2 x2; refine gset ?_
 (repeat' first | ((with_reducible refine nx0 ?_); go_step) | ((with_reducible refine o_s ?_); first | refine wk0 ?_ | (refine wg0 ?_ ?_ <;> intro hc)) | fail)
 refine wpl_allocB (z := zeroSoa) rfl (by decide +kernel) ?_
 intro w3 x3 s3 h3
 refine gset ?_
 refine wpl_storeB (v := .agg (soaT r.data).cells.toArray) rfl rfl rfl h3 (show sizeTy Tryz.prog 61 7 = true by decide +kernel) rfl (soaR_one _) ?_
 intro w4 p4
 have x4 : Ext w2 w4 := x3.move p4.mv (by rintro k ⟨⟩; exact Nat.le_refl _)
 have hs4 := pts_block (cs := (soaT r.data).cells) p4.this
 have hs42 : Pts w4 (partPtr (.pointer (some ⟨w2.heap.size, 0, none⟩)) 2) [.int .i64 (soaT r.data).serial, .int .i64 (soaT r.data).refresh, .int .i64 (soaT r.data).retry, .int .i64 (soaT r.data).expire, .int .i64 (soaT r.data).minimum] := hs4.part 2
 (repeat' first | ((with_reducible refine nx0 ?_); go_step) | ((with_reducible refine o_s ?_); first | refine wk0 ?_ | (refine wg0 ?_ ?_ <;> intro hc)) | fail)
 go_ret
 exact ⟨rfl, (x1.trans x2).trans x4⟩
def insAt {α : Type} (os : List α) (q : Nat) (x : α) : List α := os.take q ++ x :: os.drop q
section
variable {α : Type} {os : List α} {q : Nat} {x : α}
theorem insAt_length (h : q ≤ os.length) : (insAt os q x).length = os.length + 1 := by
 simp [insAt]; omega
theorem insAt_at (h : q ≤ os.length) : (insAt os q x)[q]? = some x := by
 unfold insAt
 rw [List.getElem?_append_right (by simp; omega)]
 simp [Nat.min_eq_left h]
theorem insAt_before {i : Nat} (hi : i < q) (h : q ≤ os.length) : (insAt os q x)[i]? = os[i]? := by
 unfold insAt
 rw [List.getElem?_append_left (by simp; omega), List.getElem?_take, if_pos hi]
theorem insAt_behind {i : Nat} (hi : q < i) (h : q ≤ os.length) : (insAt os q x)[i]? = os[i - 1]? := by
 unfold insAt
 rw [List.getElem?_append_right (by simp; omega)]
 have e : i - (os.take q).length = (i - 1 - q) + 1 := by simp; omega
 rw [e, List.getElem?_cons_succ, List.getElem?_drop]
 congr 1; omega
theorem insAt_swap (h : q < os.length) : ((insAt os (q + 1) x).set (q + 1) os[q]).set q x = insAt os q x := by
 apply List.ext_getElem?
 intro i
 by_cases h1 : i = q
 ·subst h1
  rw [List.getElem?_set_self (by rw [List.length_set, insAt_length (by omega)]; omega), insAt_at (by omega)]
 ·rw [List.getElem?_set_ne (fun e => h1 e.symm)]
  by_cases h2 : i = q + 1
  ·subst h2
   rw [List.getElem?_set_self (by rw [insAt_length (by omega)]; omega), insAt_behind (by omega) (by omega)]
   simp [List.getElem?_eq_getElem h]
  ·rw [List.getElem?_set_ne (fun e => h2 e.symm)]
   by_cases h3 : i < q
   ·rw [insAt_before (by omega) (by omega), insAt_before h3 (by omega)]
   ·rw [insAt_behind (by omega) (by omega), insAt_behind (by omega) (by omega)]
theorem insAt_swap' (h : q < os.length) : ((insAt os (q + 1) x).set q x).set (q + 1) os[q] = insAt os q x := by
 rw [List.set_comm _ _ (by omega)]
 exact insAt_swap h
end
def headR (l : List Rec) : List Rec := l.filter isSoaR ++ l.filter fun r => !isSoaR r
theorem headR_none {l : List Rec} (h : ∀ r ∈ l, isSoaR r = false) : headR l = l := by
 unfold headR
 rw [List.filter_eq_nil_iff.2 (by simpa using h), List.nil_append, List.filter_eq_self]
 simpa using h
theorem headR_one {os : List Rec} {q : Nat} {x : Rec} (h : ∀ r ∈ os, isSoaR r = false) (hx : isSoaR x = true) : headR (insAt os q x) = insAt os 0 x := by
 have h1 : ∀ r ∈ os.take q, isSoaR r = false := fun r hr => h r (List.mem_of_mem_take hr)
 have h2 : ∀ r ∈ os.drop q, isSoaR r = false := fun r hr => h r (List.mem_of_mem_drop hr)
 have e1 : (os.take q).filter isSoaR = [] := List.filter_eq_nil_iff.2 (by simpa using h1)
 have e2 : (os.drop q).filter isSoaR = [] := List.filter_eq_nil_iff.2 (by simpa using h2)
 have e3 : (os.take q).filter (fun r => !isSoaR r) = os.take q := List.filter_eq_self.2 (by simpa using h1)
 have e4 : (os.drop q).filter (fun r => !isSoaR r) = os.drop q := List.filter_eq_self.2 (by simpa using h2)
 unfold headR insAt
 simp only [List.filter_append, List.filter_cons, hx, e1, e2, e3, e4, if_true, Bool.not_true, Bool.false_eq_true, if_false]
 simp
theorem one_soa : ∀ (l : List Rec), (l.filter isSoaR).length ≤ 1 → (∀ r ∈ l, isSoaR r = false) ∨ ∃ os q x, q ≤ os.length ∧ l = insAt os q x ∧ isSoaR x = true ∧ ∀ r ∈ os, isSoaR r = false
 | [], _ => .inl (by simp)
 | r :: t, h => by
   by_cases hr : isSoaR r = true
   ·refine .inr ⟨t, 0, r, Nat.zero_le _, by simp [insAt], hr, fun s hs => ?_⟩
    rw [List.filter_cons, if_pos hr, List.length_cons] at h
    have h0 : t.filter isSoaR = [] := List.eq_nil_of_length_eq_zero (by omega)
    have := List.filter_eq_nil_iff.1 h0 s hs
    simpa using this
   ·rw [List.filter_cons, if_neg hr] at h
    have hrf : isSoaR r = false := by simpa using hr
    rcases one_soa t h with h1 | ⟨os, q, x, h1, h2, h3, h4⟩
    ·exact .inl (by simpa [hrf] using h1)
    ·refine .inr ⟨r :: os, q + 1, x, by simp; omega, by rw [h2]; simp [insAt], h3, ?_⟩
     intro s hs
     rcases List.mem_cons.1 hs with rfl | hs
     ·exact hrf
     ·exact h4 s hs
def wholeR (o : List UInt8) (l : List RSet) : List Rec := if zoneR o l = 0 then headR (recordsS l) ++ [headOf (headR (recordsS l))] else []
def stR (x : Option Rec) (os : List Rec) (q : Nat) : List Rec := match x with | some r => insAt os q r | none => os
def stN (x : Option Rec) (os : List Rec) : Nat := os.length + (match x with | some _ => 1 | none => 0)
structure Sx (x : Option Rec) (os : List Rec) (q : Nat) : Prop where
 non : ∀ r ∈ os, isSoaR r = false
 is : ∀ r, x = some r → isSoaR r = true ∧ q ≤ os.length
 no : x = none → os.length ≤ q
theorem stR_len {x : Option Rec} {os : List Rec} {q : Nat} (h : Sx x os q) : (stR x os q).length = stN x os := by
 unfold stR stN
 split
 ·rename_i r; exact insAt_length (h.is r rfl).2
 ·rfl
theorem stR_soa {x : Option Rec} {os : List Rec} {q i : Nat} (h : Sx x os q) (hi : i < stN x os) : ∃ r, (stR x os q)[i]? = some r ∧ isSoaR r = decide (i = q) := by
 cases x with
 | none =>
  have h1 : i < os.length := by simpa [stN] using hi
  have := h.no rfl
  refine ⟨os[i], by simp [stR, h1], ?_⟩
  rw [h.non _ (List.getElem_mem h1), decide_eq_false (by omega)]
 | some r =>
  obtain ⟨h1, h2⟩ := h.is r rfl
  have h3 : i < os.length + 1 := by simpa [stN] using hi
  by_cases e : i = q
  ·subst e
   exact ⟨r, insAt_at h2, by rw [h1, decide_eq_true rfl]⟩
  ·rw [decide_eq_false e]
   by_cases e2 : i < q
   ·refine ⟨os[i], ?_, h.non _ (List.getElem_mem (by omega))⟩
    rw [stR, insAt_before e2 h2, List.getElem?_eq_getElem (by omega)]
   ·refine ⟨os[i - 1], ?_, h.non _ (List.getElem_mem (by omega))⟩
    rw [stR, insAt_behind (by omega) h2, List.getElem?_eq_getElem (by omega)]
theorem Sx.to {x : Option Rec} {os : List Rec} {q q' : Nat} (h : Sx x os q) (hq : q < stN x os) (hq' : q' < stN x os) : Sx x os q' := by
 cases x with
 | none => have := h.no rfl; simp [stN] at hq; omega
 | some r => exact ⟨h.non, fun r' e => ⟨(h.is r' e).1, by simp [stN] at hq'; omega⟩, fun e => by cases e⟩
theorem stR_swap {x : Option Rec} {os : List Rec} {q : Nat} (h : Sx x os (q + 1)) (hq : q + 1 < stN x os) : ∃ a b, (stR x os (q + 1))[q]? = some a ∧ (stR x os (q + 1))[q + 1]? = some b ∧ ((stR x os (q + 1)).set (q + 1) a).set q b = stR x os q ∧ ((stR x os (q + 1)).set q b).set (q + 1) a = stR x os q := by
 cases x with
 | none => have := h.no rfl; simp [stN] at hq; omega
 | some r =>
  have h2 := (h.is r rfl).2
  refine ⟨os[q], r, ?_, insAt_at h2, insAt_swap (by omega), insAt_swap' (by omega)⟩
  rw [stR, insAt_before (by omega) h2, List.getElem?_eq_getElem (by omega)]
def cmpH (a b : Rec) : Int := if isSoaR a = isSoaR b then 0 else if isSoaR a = true then -1 else 1
theorem cmpH_lt (a b : Rec) : decide (cmpH a b < 0) = (isSoaR a && !isSoaR b) := by
 unfold cmpH
 cases isSoaR a <;> cases isSoaR b <;> rfl
def rotR (D : List Rec) (a m : Nat) : Nat → List Rec
 | 0 => D
 | k + 1 => ((rotR D a m k).set (a + k) ((rotR D a m k).getD m zeroRec)).set m ((rotR D a m k).getD (a + k) zeroRec)
theorem rotR_len (D : List Rec) (a m : Nat) : ∀ k, (rotR D a m k).length = D.length
 | 0 => rfl
 | k + 1 => by rw [rotR, List.length_set, List.length_set, rotR_len D a m k]
theorem rotR_at {D : List Rec} {a m : Nat} (hm : m < D.length) : ∀ k, a + k ≤ m → ∀ i, (rotR D a m k)[i]? = if k = 0 then D[i]? else if i < a ∨ m < i then D[i]? else if i = a then D[m]? else if i < a + k then D[i - 1]? else if i = m then D[a + k - 1]? else D[i]?
 | 0, _, i => by simp [rotR]
 | k + 1, h, i => by
   have ih := rotR_at (D := D) (a := a) hm k (by omega)
   have hl := rotR_len D a m k
   have e1 : (rotR D a m k)[m]? = if k = 0 then D[m]? else D[a + k - 1]? := by
    rw [ih m]
    by_cases hk : k = 0
    ·rw [if_pos hk, if_pos hk]
    ·rw [if_neg hk, if_neg hk, if_neg (by omega), if_neg (by omega), if_neg (by omega), if_pos rfl]
   have e2 : (rotR D a m k)[a + k]? = D[a + k]? := by
    rw [ih (a + k)]
    by_cases hk : k = 0
    ·rw [if_pos hk]
    ·rw [if_neg hk, if_neg (by omega), if_neg (by omega), if_neg (by omega), if_neg (by omega)]
   rw [if_neg (by omega), rotR]
   have g1 : (rotR D a m k).getD m zeroRec = (if k = 0 then D[m] else D[a + k - 1]) := by
    rw [List.getD_eq_getElem?_getD, e1]
    split <;> rw [List.getElem?_eq_getElem (by omega)] <;> rfl
   have g2 : (rotR D a m k).getD (a + k) zeroRec = D[a + k] := by
    rw [List.getD_eq_getElem?_getD, e2, List.getElem?_eq_getElem (by omega)]; rfl
   rw [g1, g2]
   by_cases im : i = m
   ·subst im
    rw [List.getElem?_set_self (by rw [List.length_set, hl]; exact hm), if_neg (by omega), if_neg (by omega), if_neg (by omega), if_pos rfl, show a + (k + 1) - 1 = a + k by omega, List.getElem?_eq_getElem (by omega)]
   ·rw [List.getElem?_set_ne (fun e => im e.symm)]
    by_cases ik : i = a + k
    ·subst ik
     rw [List.getElem?_set_self (by rw [hl]; omega)]
     by_cases hk : k = 0
     ·subst hk
      rw [if_pos rfl, if_neg (by omega), if_pos (by omega), List.getElem?_eq_getElem hm]
     ·rw [if_neg hk, if_neg (by omega), if_neg (by omega), if_pos (by omega), List.getElem?_eq_getElem (by omega)]
    ·rw [List.getElem?_set_ne (fun e => ik e.symm), ih i]
     by_cases hk : k = 0
     ·subst hk
      rw [if_pos rfl]
      by_cases c : i < a ∨ m < i
      ·rw [if_pos c]
      ·rw [if_neg c, if_neg (by omega), if_neg (by omega), if_neg im]
     ·rw [if_neg hk]
      by_cases c : i < a ∨ m < i
      ·rw [if_pos c, if_pos c]
      ·rw [if_neg c, if_neg c]
       by_cases c2 : i = a
       ·rw [if_pos c2, if_pos c2]
       ·rw [if_neg c2, if_neg c2]
        by_cases c3 : i < a + k
        ·rw [if_pos c3, if_pos (by omega)]
        ·rw [if_neg c3, if_neg im, if_neg (by omega), if_neg im]
theorem rotR_all {x : Option Rec} {os : List Rec} {a m : Nat} (h : Sx x os m) (hm : m < stN x os) (ha : a < m) : rotR (stR x os m) a m (m - a) = stR x os a := by
 cases x with
 | none => have := h.no rfl; simp [stN] at hm; omega
 | some r =>
  have h2 := (h.is r rfl).2
  have hl := stR_len h
  apply List.ext_getElem?
  intro i
  rw [rotR_at (by omega) _ (by omega), if_neg (by omega)]
  simp only [stR]
  by_cases c : i < a ∨ m < i
  ·rw [if_pos c]
   rcases c with c | c
   ·rw [insAt_before (by omega) h2, insAt_before c (by omega)]
   ·rw [insAt_behind c h2, insAt_behind (by omega) (by omega)]
  ·rw [if_neg c]
   by_cases c2 : i = a
   ·subst c2
    rw [if_pos rfl, insAt_at h2, insAt_at (by omega)]
   ·rw [if_neg c2]
    by_cases c3 : i < a + (m - a)
    ·rw [if_pos c3, insAt_before (by omega) h2, insAt_behind (by omega) (by omega)]
    ·rw [if_neg c3, if_pos (by omega), insAt_before (by omega) h2, insAt_behind (by omega) (by omega)]
     congr 1; omega
theorem p_isSoa (r : Rec) (w : World) : Calls Tryz.prog 109 #[.agg #[str r.name, .int .i64 r.kind, .int .i64 r.ttl, str r.data]] w (RetV w (.bool (isSoaR r))) := by
 go_enter Tryz.func109, Tryz.ntmps109
 repeat' (first | ((with_reducible refine nx0 ?_); go_step) | fail)
 refine wpl_box (vs := [str r.name, .int .i64 r.kind, .int .i64 r.ttl, str r.data]) rfl rfl ?_
 intro p w1 x1 hp
 refine gset ?_
 (repeat' first | ((with_reducible refine nx0 ?_); go_step) | ((with_reducible refine o_s ?_); first | refine wk0 ?_ | (refine wg0 ?_ ?_ <;> intro hc)) | fail)
 go_ret
 exact ⟨rfl, x1⟩
theorem p_cmpH (a b : Rec) (w : World) : Calls Tryz.prog 133 #[.agg #[str a.name, .int .i64 a.kind, .int .i64 a.ttl, str a.data], .agg #[str b.name, .int .i64 b.kind, .int .i64 b.ttl, str b.data]] w (RetV w (.int .i64 (cmpH a b))) := by
 go_enter Tryz.func133, Tryz.ntmps133
 repeat' (first | ((with_reducible refine nx0 ?_); go_step) | fail)
 refine wpl_box (vs := [str a.name, .int .i64 a.kind, .int .i64 a.ttl, str a.data]) rfl rfl ?_
 intro p w1 x1 hp
 refine gset ?_
 refine wpl_box (vs := [str b.name, .int .i64 b.kind, .int .i64 b.ttl, str b.data]) rfl rfl ?_
 intro q w2 x2 hq
 refine gset ?_
 (repeat' first | ((with_reducible refine nx0 ?_); go_step) | ((with_reducible refine o_s ?_); first | refine wk0 ?_ | (refine wg0 ?_ ?_ <;> intro hc)) | fail)
 have hp2 := hp.ext x2
 refine wpq_region (by decide +kernel) (by decide +kernel) ?_
 (try ((with_reducible refine qh0 ?_); refine qk0 ?_))
 refine wpq_call (enters_of Tryz.func109 rfl rfl) rfl rfl (fun w' _ => p_isSoa a w') ?_
 refine gset ?_
 (try ((with_reducible refine qh0 ?_); refine qk0 ?_))
 refine wpq_call (enters_of Tryz.func109 rfl rfl) rfl rfl (fun w' _ => p_isSoa b w') ?_
 refine gset ?_
 (try ((with_reducible refine qh0 ?_); refine qk0 ?_))
 refine wpq_run0 (fun w' _ => Runs.eqlB (a := isSoaR a) (b := isSoaR b) rfl rfl (by decide +kernel)) ?_
 refine gset ?_
 (try ((with_reducible refine qh0 ?_); refine qk0 ?_))
 intro w3 x3
 have hp3 := hp2.ext x3
 cases ha : isSoaR a <;> cases hb : isSoaR b
 ·have e : cmpH a b = 0 := by simp [cmpH, ha, hb]
  (repeat' first | ((with_reducible refine nx0 ?_); go_step) | ((with_reducible refine o_s ?_); first | refine wk0 ?_ | (refine wg0 ?_ ?_ <;> intro hc)) | fail)
  go_ret
  exact ⟨by rw [e]; rfl, (x1.trans x2).trans x3⟩
 ·have e : cmpH a b = 1 := by simp [cmpH, ha, hb]
  (repeat' first | ((with_reducible refine nx0 ?_); go_step) | ((with_reducible refine o_s ?_); first | refine wk0 ?_ | (refine wg0 ?_ ?_ <;> intro hc)) | fail)
  refine wpl_callV (enters_of Tryz.func109 rfl rfl) rfl rfl (p_isSoa a _) ?_; intro w4 x4; refine gset ?_
  rw [ha]
  (repeat' first | ((with_reducible refine nx0 ?_); go_step) | ((with_reducible refine o_s ?_); first | refine wk0 ?_ | (refine wg0 ?_ ?_ <;> intro hc)) | fail)
  go_ret
  exact ⟨by rw [e]; rfl, ((x1.trans x2).trans x3).trans x4⟩
 ·have e : cmpH a b = -1 := by simp [cmpH, ha, hb]
  (repeat' first | ((with_reducible refine nx0 ?_); go_step) | ((with_reducible refine o_s ?_); first | refine wk0 ?_ | (refine wg0 ?_ ?_ <;> intro hc)) | fail)
  refine wpl_callV (enters_of Tryz.func109 rfl rfl) rfl rfl (p_isSoa a _) ?_; intro w4 x4; refine gset ?_
  rw [ha]
  (repeat' first | ((with_reducible refine nx0 ?_); go_step) | ((with_reducible refine o_s ?_); first | refine wk0 ?_ | (refine wg0 ?_ ?_ <;> intro hc)) | fail)
  go_ret
  exact ⟨by rw [e]; rfl, ((x1.trans x2).trans x3).trans x4⟩
 ·have e : cmpH a b = 0 := by simp [cmpH, ha, hb]
  (repeat' first | ((with_reducible refine nx0 ?_); go_step) | ((with_reducible refine o_s ?_); first | refine wk0 ?_ | (refine wg0 ?_ ?_ <;> intro hc)) | fail)
  go_ret
  exact ⟨by rw [e]; rfl, (x1.trans x2).trans x3⟩
section
variable {P : Program} {w w' : World} {d : Option Nat} {ty : TypeId} {ps : String} {af : Array Edge} {g : Option (Nat × Bool)}
theorem Runs.pred {t u : TypeId} {x y : Operand} {a : Act} {m : Nat} (hx : a.eval x = .int .i64 ((m + 1 : Nat) : Int)) (hy : a.eval y = .int .i64 1) (h : m < 4611686018427387904) :
 Runs P (Oper.mk d (.binOp .sub t x y u) ty ps af g) a w (.int .i64 (m : Nat)) := by
 have h1 := Runs.sub (P := P) (w := w) (d := d) (ty := ty) (ps := ps) (af := af) (g := g) (t := t) (u := u) hx hy (by omega)
 rwa [show ((m + 1 : Nat) : Int) - 1 = (m : Nat) by omega] at h1
end
section
variable {P : Program} {w w' : World} {d : Option Nat} {ty : TypeId} {ps : String} {af : Array Edge} {g : Option (Nat × Bool)}
theorem Runs.addN {t u : TypeId} {x y : Operand} {a : Act} {m n : Nat} (hx : a.eval x = .int .i64 (m : Nat)) (hy : a.eval y = .int .i64 (n : Nat)) (h : m + n < 4611686018427387904) :
 Runs P (Oper.mk d (.binOp .add t x y u) ty ps af g) a w (.int .i64 ((m + n : Nat) : Int)) := by
 have h1 := Runs.add (P := P) (w := w) (d := d) (ty := ty) (ps := ps) (af := af) (g := g) (t := t) (u := u) hx hy (by omega)
 rwa [show (m : Int) + (n : Int) = ((m + n : Nat) : Int) by omega] at h1
theorem Runs.add0 {t u : TypeId} {x y : Operand} {a : Act} {m : Nat} (hx : a.eval x = .int .i64 (m : Nat)) (hy : a.eval y = .int .i64 ((0 : Nat) : Int)) (h : m < 4611686018427387904) :
 Runs P (Oper.mk d (.binOp .add t x y u) ty ps af g) a w (.int .i64 (m : Nat)) := Runs.addN (n := 0) hx hy h
end
section
variable {P : Program} {ops : Array Oper} {rest : List Oper} {ts : List Value} {df : List Deferred} {ty : TypeId} {ps : String} {af : Array Edge} {g : Option (Nat × Bool)} {tys : Array TypeId}
theorem wpq_callT {w0 : World} {QQ : Act → Prop} {f : FuncId} {m d : Nat} {caps : Array Value} {xs : List Operand} {vs : List Value} {v : Value} (he : Enters P f) (hw : Region.wanted (Oper.mk (some d) (.call ⟨.value (.tmp m), xs.toArray, tys⟩) ty ps af g) (yielded ops ts.toArray) = true)
 (hm : ts.getD m undef = .func (.func f) #[] caps) (hxs : xs.map (Act.mk ts.toArray df).eval = vs) (hc : ∀ w, Ext w0 w → Calls P f (vs.toArray ++ caps) w (RetV w v)) (h : wpQuiet P ops (Ext w0) QQ rest (Act.mk (ts.set d v).toArray df)) :
 wpQuiet P ops (Ext w0) QQ (Oper.mk (some d) (.call ⟨.value (.tmp m), xs.toArray, tys⟩) ty ps af g :: rest) (Act.mk ts.toArray df) := by
 subst hxs
 unfold wpQuiet
 rw [if_pos hw]
 refine ⟨v, fun w hx => ?_, by simpa [Act.put] using h⟩
 have e1 : (Act.mk ts.toArray df).eval (.tmp m) = .func (.func f) #[] caps := by rw [evalT]; exact hm
 have hr : (execOp (Act.mk ts.toArray df).eval (Oper.mk (some d) (.call ⟨.value (.tmp m), xs.toArray, tys⟩) ty ps af g)).run P w = .ok (.enter f ((xs.map (Act.mk ts.toArray df).eval).toArray ++ caps)) w := by
  have h1 := he ((xs.map (Act.mk ts.toArray df).eval).toArray ++ caps) w
  simpa [execOp, resolve, e1, Deferred.ofValue, invoke] using h1
 unfold Oper.quietAt
 rw [hr]
 exact ⟨rfl, (hc w hx).mono fun e w' ⟨h1, h2⟩ => ⟨h1, hx.trans h2⟩⟩
end
def swR (D : List Rec) (i j : Nat) : List Rec := (D.set i (D.getD j zeroRec)).set j (D.getD i zeroRec)
theorem rcells_set (D : List Rec) (i : Nat) (r : Rec) : (rcells D).set i r.cells = rcells (D.set i r) := by
 unfold rcells; rw [List.map_set]
theorem getD_at {D : List Rec} {i : Nat} (h : i < D.length) : (rcells D)[i]? = some (D.getD i zeroRec).cells := by
 rw [rcells, List.getElem?_map, List.getElem?_eq_getElem h, List.getD_eq_getElem?_getD, List.getElem?_eq_getElem h]
 rfl
theorem Rec.cells1 (r : Rec) : ∀ u ∈ r.cells, u.oneCell' = true := by
 intro u hu
 simp only [Rec.cells, List.mem_cons, List.not_mem_nil, or_false] at hu
 rcases hu with rfl | rfl | rfl | rfl <;> rfl
set_option maxHeartbeats 4000000 in
theorem p_swap1 {B : Nat} (v : Value) (D : List Rec) (i j : Nat) (f : Value) (w : World) (ho : Own B 4 81 w v (rcells D)) (hi : i < D.length) (hj : j < D.length) (hl : D.length ≤ 1000000) :
 Calls Tryz.prog 276 #[v, .int .i64 i, .int .i64 j, .int .i64 1, f] w fun e w' => e = .returned (.tuple #[]) ∧ Own B 4 81 w' v (rcells (swR D i j)) ∧ Mv v.ownBlock w w' := by
 go_enter Tryz.func276, Tryz.ntmps276
 (repeat' first | ((with_reducible refine nx0 ?_); go_step) | ((with_reducible refine o_s ?_); first | refine wk0 ?_ | (refine wg0 ?_ ?_ <;> intro hc)) | fail)
 go_loopw [10] (fun a wr => ∃ k : Nat, k ≤ 1 ∧ a = .int .i64 k ∧ Own B 4 81 wr v (rcells (if k = 0 then D else swR D i j)) ∧ Mv v.ownBlock w wr) (fun a _ => 1 - (intOf a).toNat)
 case atStart => exact ⟨0, Nat.zero_le _, rfl, ho, Mv.refl _ _⟩
 case round =>
  obtain ⟨k, hk, rfl, ho1, m1⟩ := hrel
  by_cases hk0 : k = 0
  ·subst hk0
   rw [if_pos rfl] at ho1
   have hs := ho1.sl
   have hlen := rcells_length D
   have hei : Pts wr (elemPtr v (i * 4)) [str (D.getD i zeroRec).name, .int .i64 (D.getD i zeroRec).kind, .int .i64 (D.getD i zeroRec).ttl, str (D.getD i zeroRec).data] := hs.elem (getD_at hi)
   have hej : Pts wr (elemPtr v (j * 4)) [str (D.getD j zeroRec).name, .int .i64 (D.getD j zeroRec).kind, .int .i64 (D.getD j zeroRec).ttl, str (D.getD j zeroRec).data] := hs.elem (getD_at hj)
   (repeat' first | ((with_reducible refine nx0 ?_); go_step) | ((with_reducible refine o_s ?_); first | refine wk0 ?_ | (refine wg0 ?_ ?_ <;> intro hc)) | fail)
   refine wpi_region 21 (Ext wr) (by decide +kernel) ?_
   intro w1 x1 _
   refine ⟨x1, ?_⟩
   refine ip0 0 ?_; refine ip0 1 ?_; refine ip0 2 ?_
   refine ipr0 3 rfl (fun _ => Runs.add0 (m := i) rfl rfl (by omega)) ?_; refine gset ?_
   refine ip0 4 ?_; refine ip0 5 ?_; refine ip0 6 ?_
   refine ipr0 7 rfl (fun _ => Runs.add0 (m := j) rfl rfl (by omega)) ?_; refine gset ?_
   refine ip0 8 ?_; refine ip0 9 ?_; refine ip0 10 ?_
   refine ipr0 11 rfl (fun _ => Runs.add0 (m := j) rfl rfl (by omega)) ?_; refine gset ?_
   refine it0 12 ?_; refine it0 13 ?_
   refine ip0 14 ?_; refine ip0 15 ?_; refine ip0 16 ?_
   refine ipr0 17 rfl (fun _ => Runs.add0 (m := i) rfl rfl (by omega)) ?_; refine gset ?_
   refine it0 18 ?_; refine it0 19 ?_
   refine ipr0 20 rfl (fun _ => Runs.idxW (n := i) rfl hs (by omega) (by decide +kernel)) ?_; refine gset ?_
   have ho2 := ho1.ext x1
   refine wpi_op (i := 21) (by decide +kernel) rfl rfl ?_
   refine wpl_storeEk (i := i) (f := (D.getD j zeroRec).cells) rfl rfl rfl ho2 (by omega) rfl rfl (Rec.cells1 _) (by decide +kernel) ?_
   intro w2 o2 m2
   refine wph_nil ⟨till_no rfl, ?_⟩
   refine ipr0 22 rfl (fun _ => Runs.idxW (n := j) rfl hs (by omega) (by decide +kernel)) ?_; refine gset ?_
   refine wpi_op (i := 23) (by decide +kernel) rfl rfl ?_
   refine wpl_storeEk (i := j) (f := (D.getD i zeroRec).cells) rfl rfl rfl o2 (by rw [List.length_set]; omega) rfl rfl (Rec.cells1 _) (by decide +kernel) ?_
   intro w3 o3 m3
   refine wph_nil ⟨till_no rfl, ?_⟩
   refine wpi_done (by decide +kernel) ?_
   rw [rcells_set, rcells_set] at o3
   (repeat' first | ((with_reducible refine nx0 ?_); go_step) | ((with_reducible refine o_s ?_); first | refine wk0 ?_ | (refine wg0 ?_ ?_ <;> intro hc)) | fail)
   exact ⟨⟨1, Nat.le_refl _, by go_num, by rw [if_neg (by omega)]; exact o3, ((m1.trans (x1.mv _)).trans m2).trans m3⟩, by simp [intOf]⟩
  ·have : k = 1 := by omega
   subst this
   rw [if_neg hk0] at ho1
   (repeat' first | ((with_reducible refine nx0 ?_); go_step) | ((with_reducible refine o_s ?_); first | refine wk0 ?_ | (refine wg0 ?_ ?_ <;> intro hc)) | fail)
   go_end0
   exact ⟨rfl, ho1, m1⟩
theorem stR_lt {x : Option Rec} {os : List Rec} {q i j : Nat} (h : Sx x os q) (hi : i < stN x os) (hj : j < stN x os) : decide (cmpH ((stR x os q).getD i zeroRec) ((stR x os q).getD j zeroRec) < 0) = (decide (i = q) && !decide (j = q)) := by
 obtain ⟨r, h1, h2⟩ := stR_soa h hi
 obtain ⟨s, h3, h4⟩ := stR_soa h hj
 rw [cmpH_lt, List.getD_eq_getElem?_getD, List.getD_eq_getElem?_getD, h1, h3]
 simp only [Option.getD_some, h2, h4]
theorem stR_sw {x : Option Rec} {os : List Rec} {q : Nat} (h : Sx x os (q + 1)) (hq : q + 1 < stN x os) : swR (stR x os (q + 1)) (q + 1) q = stR x os q ∧ swR (stR x os (q + 1)) q (q + 1) = stR x os q := by
 obtain ⟨a, b, h1, h2, h3, h4⟩ := stR_swap h hq
 unfold swR
 rw [List.getD_eq_getElem?_getD, List.getD_eq_getElem?_getD, h1, h2]
 exact ⟨h3, h4⟩
def insQ (a b q : Nat) : Nat := if a ≤ q ∧ q < b then a else q
set_option maxHeartbeats 4000000 in
theorem p_insertion {B : Nat} (v : Value) (x : Option Rec) (os : List Rec) (q a b : Nat) (w : World) (h : Sx x os q) (ho : Own B 4 81 w v (rcells (stR x os q))) (hab : a ≤ b) (hb : b ≤ stN x os) (hl : stN x os ≤ 1000000) :
 Calls Tryz.prog 247 #[v, .int .i64 a, .int .i64 b, .func (.func 133) #[] #[]] w fun e w' => e = .returned (.tuple #[]) ∧ Own B 4 81 w' v (rcells (stR x os (insQ a b q))) ∧ Mv v.ownBlock w w' := by
 go_enter Tryz.func247, Tryz.ntmps247
 (repeat' first | ((with_reducible refine nx0 ?_); go_step) | ((with_reducible refine o_s ?_); first | refine wk0 ?_ | (refine wg0 ?_ ?_ <;> intro hc)) | fail)
 go_loopw [8, 9] (fun i _ wr => ∃ k : Nat, a + 1 ≤ k ∧ (k ≤ b ∨ k = a + 1) ∧ i = .int .i64 k ∧ Own B 4 81 wr v (rcells (stR x os (insQ a k q))) ∧ Mv v.ownBlock w wr) (fun i _ _ => b - (intOf i).toNat)
 case atStart =>
  refine ⟨a + 1, Nat.le_refl _, .inr rfl, by go_num, ?_, Mv.refl _ _⟩
  have : insQ a (a + 1) q = q := by unfold insQ; split <;> omega
  rw [this]; exact ho
 case round =>
  obtain ⟨k, hk, hk2, rfl, ho1, m1⟩ := hrel
  by_cases hlt : k < b
  ·(repeat' first | ((with_reducible refine nx0 ?_); go_step) | ((with_reducible refine o_s ?_); first | refine wk0 ?_ | (refine wg0 ?_ ?_ <;> intro hc)) | fail)
   have hq : Sx x os (insQ a k q) := by
    unfold insQ; split
    ·exact h.to (by omega) (by omega)
    ·exact h
   have hqk : insQ a k q = q ∨ insQ a k q = a := by unfold insQ; split <;> simp
   obtain ⟨Q, hQe⟩ : ∃ Q, Q = insQ a k q := ⟨_, rfl⟩
   rw [← hQe] at ho1 hq hqk
   go_loopw [9] (fun j w2 => ∃ m : Nat, a ≤ m ∧ m ≤ k ∧ (Q ≠ k → m = k) ∧ j = .int .i64 m ∧ Own B 4 81 w2 v (rcells (stR x os (if Q = k then m else Q))) ∧ Mv v.ownBlock w w2) (fun j _ => (intOf j).toNat)
   case atStart =>
    have e : (if Q = k then k else Q) = Q := by split <;> omega
    exact ⟨k, by omega, Nat.le_refl _, fun _ => rfl, rfl, by rw [e]; exact ho1, m1⟩
   case round =>
    obtain ⟨m, hm1, hm2, hm3, rfl, ho2, m2⟩ := hrel
    repeat' (first | ((with_reducible refine nx0 ?_); go_step) | fail)
    refine wpq_region (by decide +kernel) (by decide +kernel) ?_
    (try ((with_reducible refine qh0 ?_); refine qk0 ?_))
    have hQk : Q = k → k < stN x os := fun _ => by omega
    obtain ⟨s, hs⟩ : ∃ s, s = (if Q = k then m else Q) := ⟨_, rfl⟩
    rw [← hs] at ho2
    have hS : Sx x os s := by
     rw [hs]; split
     ·rename_i e; exact hq.to (by omega) (by omega)
     ·exact hq
    have hDl := stR_len hS
    have hrl := rcells_length (stR x os s)
    have hsl := ho2.sl
    by_cases hma : a < m
    ·obtain ⟨n, rfl⟩ : ∃ n, m = n + 1 := ⟨m - 1, by omega⟩
     have hcm := stR_lt hS (i := n + 1) (j := n) (by omega) (by omega)
     have hl1 : n + 1 < (stR x os s).length := by omega
     have hl2 : n < (stR x os s).length := by omega
     have g1 := getD_at hl1
     have g2 := getD_at hl2
     generalize hA : (stR x os s).getD (n + 1) zeroRec = A at *
     generalize hC : (stR x os s).getD n zeroRec = C at *
     have he1 : Pts wr (elemPtr v ((n + 1) * 4)) [str A.name, .int .i64 A.kind, .int .i64 A.ttl, str A.data] := hsl.elem g1
     have he2 : Pts wr (elemPtr v (n * 4)) [str C.name, .int .i64 C.kind, .int .i64 C.ttl, str C.data] := hsl.elem g2
     rw [decide_eq_true (by omega : (a : Int) < ((n + 1 : Nat) : Int))]
     have he3 : Pts wr (elemPtr v ((((n + 1 : Nat) : Int) - 1).toNat * 4)) [str C.name, .int .i64 C.kind, .int .i64 C.ttl, str C.data] := by
      rw [show (((n + 1 : Nat) : Int) - 1).toNat = n by omega]; exact he2
     (try ((with_reducible refine qh0 ?_); refine qk0 ?_))
     refine wpq_callT (enters_of Tryz.func133 rfl rfl) rfl rfl rfl (fun w' _ => p_cmpH A C w') ?_
     refine gset ?_
     (try ((with_reducible refine qh0 ?_); refine qk0 ?_))
     rw [hcm]
     (try ((with_reducible refine qh0 ?_); refine qk0 ?_))
     intro w3 x3
     have ho3 := ho2.ext x3
     have hmv3 := (m2.trans (x3.mv _))
     by_cases hsm : n + 1 = s
     ·rw [decide_eq_true hsm, decide_eq_false (by omega : ¬ n = s)]
      simp only [Bool.not_false, Bool.and_true]
      (repeat' first | ((with_reducible refine nx0 ?_); go_step) | ((with_reducible refine o_s ?_); first | refine wk0 ?_ | (refine wg0 ?_ ?_ <;> intro hc)) | fail)
      refine wpi_region 15 (Ext w3) (by decide +kernel) ?_
      intro w4 x4 _
      refine ⟨x4, ?_⟩
      have hsl3 := ho3.sl
      refine ip0 0 ?_; refine ip0 1 ?_; refine ip0 2 ?_; refine ip0 3 ?_
      refine ipr0 4 rfl (fun _ => Runs.pred (m := n) rfl rfl (by omega)) ?_; refine gset ?_
      refine ip0 5 ?_; refine ip0 6 ?_
      refine ipr0 7 rfl (fun _ => Runs.pred (m := n) rfl rfl (by omega)) ?_; refine gset ?_
      refine it0 8 ?_; refine it0 9 ?_
      refine ip0 10 ?_; refine ip0 11 ?_
      refine it0 12 ?_; refine it0 13 ?_
      refine ipr0 14 rfl (fun _ => Runs.idxW (n := n + 1) rfl hsl3 (by omega) (by decide +kernel)) ?_; refine gset ?_
      refine wpi_op (i := 15) (by decide +kernel) rfl rfl ?_
      refine wpl_storeEk (i := n + 1) (f := C.cells) rfl rfl rfl (ho3.ext x4) (by omega) rfl rfl (Rec.cells1 _) (by decide +kernel) ?_
      intro w5 o5 m5
      refine wph_nil ⟨till_no rfl, ?_⟩
      refine ipr0 16 rfl (fun _ => Runs.idxW (n := n) rfl hsl3 (by omega) (by decide +kernel)) ?_; refine gset ?_
      refine wpi_op (i := 17) (by decide +kernel) rfl rfl ?_
      refine wpl_storeEk (i := n) (f := A.cells) rfl rfl rfl o5 (by rw [List.length_set]; omega) rfl rfl (Rec.cells1 _) (by decide +kernel) ?_
      intro w6 o6 m6
      refine wph_nil ⟨till_no rfl, ?_⟩
      refine wpi_done (by decide +kernel) ?_
      rw [rcells_set, rcells_set] at o6
      subst hsm
      have hsw := (stR_sw hS (by omega)).1
      unfold swR at hsw
      rw [hA, hC] at hsw
      rw [hsw] at o6
      have hQ : Q = k := by
       by_cases e : Q = k
       ·exact e
       ·rw [if_neg e] at hs; have := hm3 e; omega
      (repeat' first | ((with_reducible refine nx0 ?_); go_step) | ((with_reducible refine o_s ?_); first | refine wk0 ?_ | (refine wg0 ?_ ?_ <;> intro hc)) | fail)
      refine ⟨⟨n, by omega, by omega, fun e => absurd hQ e, by go_num, by rw [if_pos hQ]; exact o6, ((hmv3.trans (x4.mv _)).trans m5).trans m6⟩, by simp [intOf]⟩
     ·rw [decide_eq_false hsm]
      simp only [Bool.false_and]
      have hQ : Q ≠ k := by
       intro e
       rw [if_pos e] at hs
       exact hsm hs.symm
      rw [if_neg hQ] at hs
      have hm := hm3 hQ
      have e : insQ a (k + 1) q = s := by
       rw [hs, hQe]
       unfold insQ at hQe ⊢
       split at hQe <;> split <;> omega
      (repeat' first | ((with_reducible refine nx0 ?_); go_step) | ((with_reducible refine o_s ?_); first | refine wk0 ?_ | (refine wg0 ?_ ?_ <;> intro hc)) | fail)
      refine ⟨⟨k + 1, by omega, .inl (by omega), rfl, by rw [e]; exact ho3, hmv3⟩, by simp [intOf]; omega⟩
    ·have hma' : m = a := by omega
     subst hma'
     have hQ : Q = k := by
      by_cases e : Q = k
      ·exact e
      ·have := hm3 e; omega
     rw [if_pos hQ] at hs
     have e : insQ m (k + 1) q = s := by
      rw [hs]
      unfold insQ at hQe ⊢
      split at hQe <;> split <;> omega
     rw [decide_eq_false (by omega : ¬ ((m : Int) < (m : Int)))]
     (try ((with_reducible refine qh0 ?_); refine qk0 ?_))
     intro w3 x3
     have ho3 := ho2.ext x3
     have hmv3 := (m2.trans (x3.mv _))
     (repeat' first | ((with_reducible refine nx0 ?_); go_step) | ((with_reducible refine o_s ?_); first | refine wk0 ?_ | (refine wg0 ?_ ?_ <;> intro hc)) | fail)
     refine ⟨⟨k + 1, by omega, .inl (by omega), rfl, by rw [e]; exact ho3, hmv3⟩, by simp [intOf]; omega⟩
  ·(repeat' first | ((with_reducible refine nx0 ?_); go_step) | ((with_reducible refine o_s ?_); first | refine wk0 ?_ | (refine wg0 ?_ ?_ <;> intro hc)) | fail)
   go_end0
   have e : insQ a k q = insQ a b q := by
    rcases hk2 with hk2 | hk2
    ·rw [show k = b by omega]
    ·unfold insQ
     split <;> split <;> omega
   exact ⟨rfl, by rw [← e]; exact ho1, m1⟩
def RecFn (f : FuncId) (l : List Rec) (p : Rec → Bool) : Prop := ∀ r ∈ l, ∀ w', Calls Tryz.prog f #[.agg #[str r.name, .int .i64 r.kind, .int .i64 r.ttl, str r.data]] w' (RetV w' (.bool (p r)))
set_option maxHeartbeats 3000000 in
theorem p_IndexFuncR (v : Value) (l : List Rec) (f : FuncId) (p : Rec → Bool) (w : World) (hv : Sl 4 w v (rcells l)) (he : Enters Tryz.prog f) (hf : RecFn f l p) : Calls Tryz.prog 165 #[v, .func (.func f) #[] #[]] w (RetV w (.int .i64 (idxI p l))) := by
 have hle := hv.le
 have hlen := rcells_length l
 go_enter Tryz.func165, Tryz.ntmps165
 (repeat' first | ((with_reducible refine nx0 ?_); go_step) | ((with_reducible refine o_s ?_); first | refine wk0 ?_ | (refine wg0 ?_ ?_ <;> intro hc)) | fail)
 go_loopw [5, 8] (fun _ i wr => ∃ k : Nat, k ≤ l.length ∧ i = .int .i64 k ∧ Ext w wr ∧ (l.take k).any p = false) (fun _ i _ => l.length - (intOf i).toNat)
 case atStart => exact ⟨0, Nat.zero_le _, rfl, Ext.refl _, rfl⟩
 case round =>
  obtain ⟨k, hk, rfl, hx, hall⟩ := hrel
  have hv2 := hv.ext hx
  by_cases hlt : k < l.length
  ·have hpe := hv2.elem (rcells_at hlt)
   (repeat' first | ((with_reducible refine nx0 ?_); go_step) | ((with_reducible refine o_s ?_); first | refine wk0 ?_ | (refine wg0 ?_ ?_ <;> intro hc)) | fail)
   refine wpl_callT he rfl rfl rfl (hf _ (List.getElem_mem hlt) _) ?_
   rintro e w2 ⟨rfl, x2⟩
   refine ⟨_, rfl, ?_⟩
   refine gset ?_
   cases hp : p l[k] with
   | true =>
    (repeat' first | ((with_reducible refine nx0 ?_); go_step) | ((with_reducible refine o_s ?_); first | refine wk0 ?_ | (refine wg0 ?_ ?_ <;> intro hc)) | fail)
    go_ret
    exact ⟨by rw [idx_at hlt hall hp]; rfl, hx.trans x2⟩
   | false =>
    (repeat' first | ((with_reducible refine nx0 ?_); go_step) | ((with_reducible refine o_s ?_); first | refine wk0 ?_ | (refine wg0 ?_ ?_ <;> intro hc)) | fail)
    exact ⟨⟨k + 1, by omega, by go_num, hx.trans x2, any_take hlt hall hp⟩, by simp [intOf]; omega⟩
  ·have : k = l.length := by omega
   subst this
   rw [List.take_length] at hall
   (repeat' first | ((with_reducible refine nx0 ?_); go_step) | ((with_reducible refine o_s ?_); first | refine wk0 ?_ | (refine wg0 ?_ ?_ <;> intro hc)) | fail)
   go_ret
   exact ⟨by rw [idx_no hall]; rfl, hx⟩
theorem p_ContainsFuncR (v : Value) (l : List Rec) (f : FuncId) (p : Rec → Bool) (w : World) (hv : Sl 4 w v (rcells l)) (he : Enters Tryz.prog f) (hf : RecFn f l p) : Calls Tryz.prog 106 #[v, .func (.func f) #[] #[]] w (RetV w (.bool (l.any p))) := by
 go_enter Tryz.func106, Tryz.ntmps106
 (repeat' first | ((with_reducible refine nx0 ?_); go_step) | ((with_reducible refine o_s ?_); first | refine wk0 ?_ | (refine wg0 ?_ ?_ <;> intro hc)) | fail)
 refine wpl_callV (enters_of Tryz.func165 rfl rfl) rfl rfl (p_IndexFuncR v l f p _ hv he hf) ?_; intro w1 x1; refine gset ?_
 (repeat' first | ((with_reducible refine nx0 ?_); go_step) | ((with_reducible refine o_s ?_); first | refine wk0 ?_ | (refine wg0 ?_ ?_ <;> intro hc)) | fail)
 go_ret
 exact ⟨by rw [← idx_any]; rfl, x1⟩
theorem p_Install1 (r : Rec) (w : World) : Calls Tryz.prog 107 #[.agg #[str r.name, .int .i64 r.kind, .int .i64 r.ttl, str r.data]] w (RetV w (.bool (!decide (checkR r = 0)))) := by
 go_enter Tryz.func107, Tryz.ntmps107
 repeat' (first | ((with_reducible refine nx0 ?_); go_step) | fail)
 refine wpl_box (vs := [str r.name, .int .i64 r.kind, .int .i64 r.ttl, str r.data]) rfl rfl ?_
 intro p w1 x1 hp
 refine gset ?_
 (repeat' first | ((with_reducible refine nx0 ?_); go_step) | ((with_reducible refine o_s ?_); first | refine wk0 ?_ | (refine wg0 ?_ ?_ <;> intro hc)) | fail)
 refine wpl_callV (enters_of Tryz.func108 rfl rfl) rfl rfl (t16 r _) ?_; intro w2 x2; refine gset ?_
 (repeat' first | ((with_reducible refine nx0 ?_); go_step) | ((with_reducible refine o_s ?_); first | refine wk0 ?_ | (refine wg0 ?_ ?_ <;> intro hc)) | fail)
 go_ret
 exact ⟨rfl, x1.trans x2⟩
theorem next_idx : ∀ m : List Rec, idxI isSoaR m = -1 ∧ nextSoa m = m.length ∨ idxI isSoaR m = (nextSoa m : Int) ∧ nextSoa m < m.length
 | [] => .inl ⟨rfl, rfl⟩
 | r :: t => by
   unfold idxI nextSoa
   rw [List.findIdx?_cons]
   by_cases h : isSoaR r = true
   ·rw [if_pos h, if_pos h]
    exact .inr ⟨rfl, by simp⟩
   ·rw [if_neg h, if_neg h]
    have ih := next_idx t
    unfold idxI at ih
    cases hf : t.findIdx? isSoaR with
    | none =>
     rw [hf] at ih
     rcases ih with ⟨_, h2⟩ | ⟨h1, _⟩
     ·exact .inl ⟨rfl, by rw [h2, List.length_cons]⟩
     ·exfalso
      simp only at h1
      omega
    | some i =>
     rw [hf] at ih
     simp only at ih
     rcases ih with ⟨h1, _⟩ | ⟨h1, h2⟩
     ·omega
     ·refine .inr ⟨?_, by simp; omega⟩
      simp only [Option.map_some]
      omega
theorem parts {v : Value} {l : List Rec} {w : World} (hv : Sl 4 w v (rcells l)) {n : Nat} (hn : n ≤ l.length) : Sl 4 w (cutSl v 4 0 n) (rcells (l.take n)) ∧ Sl 4 w (cutSl v 4 n l.length) (rcells (l.drop n)) := by
 have hlen := rcells_length l
 have a := hv.cut (m := 0) (n := n) (by omega) (by omega)
 have b := hv.cut (m := n) (n := l.length) (by omega) (by omega)
 rw [← hlen, List.take_length, hlen] at b
 exact ⟨by simpa [rcells, List.map_take] using a, by simpa [rcells, List.map_drop] using b⟩
set_option maxHeartbeats 3000000 in
theorem p_part (v : Value) (l : List Rec) (w : World) (hv : Sl 4 w v (rcells l)) (hne : l ≠ []) (hl : l.length ≤ 1000000) : Calls Tryz.prog 214 #[v] w (RetV w (.tuple #[cutSl v 4 0 (partN l), cutSl v 4 (partN l) l.length])) := by
 have hlen := rcells_length l
 have hpos : 1 ≤ l.length := List.length_pos_iff.2 hne
 have hd1 := hv.cut (m := 1) (n := (rcells l).length) (by omega) (Nat.le_refl _)
 rw [List.take_length, show (rcells l).drop 1 = rcells (l.drop 1) by simp [rcells, List.map_drop]] at hd1
 go_enter Tryz.func214, Tryz.ntmps214
 (repeat' first | ((with_reducible refine nx0 ?_); go_step) | ((with_reducible refine o_s ?_); first | refine wk0 ?_ | (refine wg0 ?_ ?_ <;> intro hc)) | fail)
 refine wpl_callV (enters_of Tryz.func165 rfl rfl) rfl rfl (p_IndexFuncR _ (l.drop 1) _ isSoaR w hd1 (enters_of Tryz.func109 rfl rfl) (fun r _ w' => p_isSoa r w')) ?_; intro w2 x2; refine gset ?_
 have hv2 := hv.ext x2
 have hq := partN_le hne
 have hpn : partN l = 1 + nextSoa (l.drop 1) := rfl
 rcases next_idx (l.drop 1) with ⟨h1, h2⟩ | ⟨h1, h2⟩
 ·rw [h1]
  have e : partN l = l.length := by rw [hpn, h2, List.length_drop]; omega
  (repeat' first | ((with_reducible refine nx0 ?_); go_step) | ((with_reducible refine o_s ?_); first | refine wk0 ?_ | (refine wg0 ?_ ?_ <;> intro hc)) | fail)
  rw [show ((rcells l).length : Int) = ((partN l : Nat) : Int) by rw [hlen, e]]
  refine wpq_region (by decide +kernel) (by decide +kernel) ?_
  (try ((with_reducible refine qh0 ?_); refine qk0 ?_))
  intro w3 x3
  (repeat' first | ((with_reducible refine nx0 ?_); go_step) | ((with_reducible refine o_s ?_); first | refine wk0 ?_ | (refine wg0 ?_ ?_ <;> intro hc)) | fail)
  go_ret2
  exact ⟨by rw [hlen]; rfl, x2.trans x3⟩
 ·rw [h1]
  (repeat' first | ((with_reducible refine nx0 ?_); go_step) | ((with_reducible refine o_s ?_); first | refine wk0 ?_ | (refine wg0 ?_ ?_ <;> intro hc)) | fail)
  rw [show (1 : Int) + (nextSoa (l.drop 1) : Int) = ((partN l : Nat) : Int) by rw [hpn]; omega]
  refine wpq_region (by decide +kernel) (by decide +kernel) ?_
  (try ((with_reducible refine qh0 ?_); refine qk0 ?_))
  intro w3 x3
  (repeat' first | ((with_reducible refine nx0 ?_); go_step) | ((with_reducible refine o_s ?_); first | refine wk0 ?_ | (refine wg0 ?_ ?_ <;> intro hc)) | fail)
  go_ret2
  exact ⟨by rw [hlen]; rfl, x2.trans x3⟩
def slLen (v : Value) : Nat := match v with | .slice _ n _ => n | _ => 0
theorem Sl.slLen {k : Nat} {w : World} {v : Value} {es : List (List Value)} (h : Sl k w v es) : slLen v = es.length := by
 obtain ⟨a, cap, rfl, _⟩ := h
 rfl
def ZEU (B : Nat) (q : ZE) (r : Value) (w' : World) : Prop := ∃ y, r = .tuple #[.agg #[str q.o, y], .int .i64 q.e] ∧ SetsO B w' y q.l
theorem ZEU.bad {B : Nat} {e : Int} {w' : World} : ZEU B (ZE.bad e) (.tuple #[.agg zzone.toArray, .int .i64 e]) w' := ⟨.slice none 0 0, rfl, SetsO.nil _ _⟩
theorem headOf_at {l : List Rec} (h : l ≠ []) : (rcells l)[0]? = some [str (headOf l).name, .int .i64 (headOf l).kind, .int .i64 (headOf l).ttl, str (headOf l).data] := by
 cases l with
 | nil => exact absurd rfl h
 | cons r t => rfl
theorem headOf_mem {l : List Rec} (h : l ≠ []) : headOf l ∈ l := by
 cases l with
 | nil => exact absurd rfl h
 | cons r t => exact List.mem_cons_self
section
variable {P : Program} {a : Act} {w : World} {Q : Exit → Act → World → Prop}
theorem wp_scope_back {c body : Code} (l : Nat) (J : Act → World → Prop) (μ : Act → World → Nat) (hf : findLabel c l = some (Code.skip.seq body))
 (pass : ∀ a w, J a w → body.wp P (Exit.jump l (fun a' w' => J a' w' ∧ μ a' w' < μ a w) Q) a w)
 (first : (∀ a w, J a w → body.wp P (Exit.jump l J Q) a w) → c.wp P (Exit.jump l J Q) a w) : (Code.scope c).wp P Q a w :=
 wp_scope_jumps l J μ hf (first fun a w h => wp_mono (pass a w h) (by intro e a' w' hq; cases e <;> first | exact hq | exact ⟨hq.1, hq.2.1⟩)) (fun a w h => by
  have h' := pass a w h
  apply wp_seq_k
  intro K hK
  apply wp_skip
  exact hK _ _ h')
end
set_option maxHeartbeats 8000000 in
theorem p_changed (o : List UInt8) (v : Value) (l : List RSet) (rv : Value) (rs : List Rec) (w : World) (hv : SetsAt w v l) (hr : Sl 4 w rv (rcells rs)) (bl : ∀ s ∈ l, s.data.length ≤ 1000000) (dl : ∀ s ∈ l, ∀ d ∈ s.data, d.length ≤ 1000000) (h1 : (recordsS l).length ≤ 5000) (h2 : rs.length ≤ 5000) (dn : ∀ q ∈ rs, q.data.length ≤ 1000000) (hne : rs ≠ []) :
 Calls Tryz.prog 167 #[.agg #[str o, v], rv] w (Ret w (ZEU w.heap.size (chgZ o l rs))) := by
 go_enter Tryz.func167, Tryz.ntmps167
 repeat' (first | ((with_reducible refine nx0 ?_); go_step) | fail)
 refine wpl_boxB (vs := [str o, v]) rfl rfl ?_
 intro w1 x1 s1 hb1
 refine gset ?_
 refine wpl_allocB (z := zzone) rfl (by decide +kernel) ?_
 intro w2 x2 s2 hb2
 refine gset ?_
 (repeat' first | ((with_reducible refine nx0 ?_); go_step) | ((with_reducible refine o_s ?_); first | refine wk0 ?_ | (refine wg0 ?_ ?_ <;> intro hc)) | fail)
 generalize hb1e : w.heap.size = b1 at *
 generalize hb2e : w1.heap.size = b2 at *
 refine wp_scope_back 0 (fun a' wr => ∃ (rs' : List Rec) (l' : List RSet) (o' : List UInt8) (v' rv' u6 u7 u8 u9 u10 u11 u12 u13 u14 u15 u16 u17 u18 u19 u20 u21 u22 u23 u24 u25 u26 u27 u28 u29 u30 u31 u32 u33 u34 u35 u36 u37 u38 u39 u40 u41 u42 u43 u44 u45 u46 u47 u48 u49 u50 u51 : Value), a' = Act.mk [.agg #[str o, v], rv', .pointer (some ⟨b1, 0, none⟩), undef, .pointer (some ⟨b2, 0, none⟩), .int .i64 0, u6, u7, u8, u9, u10, u11, u12, u13, u14, u15, u16, u17, u18, u19, u20, u21, u22, u23, u24, u25, u26, u27, u28, u29, u30, u31, u32, u33, u34, u35, u36, u37, u38, u39, u40, u41, u42, u43, u44, u45, u46, u47, u48, u49, u50, u51].toArray [] ∧
  Sl 4 w rv' (rcells rs') ∧ wr.heap[b1]? = some (.cells [str o', v'].toArray 34 (0, 0)) ∧ wr.heap[b2]? = some (.cells zzone.toArray 34 (0, 0)) ∧ SetsAt wr v' l' ∧ (rs' ≠ [] ∨ SetsO w2.heap.size wr v' l') ∧ chgZ o l rs = chgZ o' l' rs' ∧ Ext w wr ∧ w2.heap.size ≤ wr.heap.size ∧ (∀ q ∈ rs', q ∈ rs) ∧ rs'.length ≤ 5000 ∧ (∀ s ∈ l', s.data.length ≤ 1000000) ∧ (∀ s ∈ l', ∀ d ∈ s.data, d.length ≤ 1000000) ∧ (recordsS l').length ≤ 5000)
  (fun a' _ => slLen (a'.tmps.getD 1 undef)) rfl ?_ ?_
 ·rintro a' wr ⟨rs', l', o', v', rv', u6, u7, u8, u9, u10, u11, u12, u13, u14, u15, u16, u17, u18, u19, u20, u21, u22, u23, u24, u25, u26, u27, u28, u29, u30, u31, u32, u33, u34, u35, u36, u37, u38, u39, u40, u41, u42, u43, u44, u45, u46, u47, u48, u49, u50, u51, rfl, hs0, hz, hy, hv', hown, hch, hx, hsz, hmem, hlen, bl', dl', h1'⟩
  have hpz := pts_block (cs := [str o', v']) hz
  have hrl := rcells_length rs'
  have hs := hs0.ext hx
  by_cases he : rs' = []
  ·subst he
   have hO : SetsO w2.heap.size wr v' l' := by
    rcases hown with h | h
    ·exact absurd rfl h
    ·exact h
   have hv1' : v'.oneCell' = true := by obtain ⟨_, hq, _⟩ := hv'.sl; exact hq.one
   (repeat' first | ((with_reducible refine nx0 ?_); go_step) | ((with_reducible refine o_s ?_); first | refine wk0 ?_ | (refine wg0 ?_ ?_ <;> intro hc)) | fail)
   refine wpl_storeB (v := .agg #[str o', v']) rfl rfl rfl hy (show sizeTy Tryz.prog 34 2 = true by decide +kernel) rfl (zone_one hv1') ?_
   intro w3 p3
   (repeat' first | ((with_reducible refine nx0 ?_); go_step) | ((with_reducible refine o_s ?_); first | refine wk0 ?_ | (refine wg0 ?_ ?_ <;> intro hc)) | fail)
   simp only [Exit.inBlock, Exit.then, Exit.jump]
   have hb2lt : b2 < w2.heap.size := by omega
   have x3 : Ext w w3 := hx.move p3.mv (by rintro k ⟨⟩; omega)
   have hO3 := hO.put p3 hb2lt
   refine bodyPost_ret (results_cellT (cs := [str o', v']) rfl rfl p3.this (show aggTy Tryz.prog 34 2 = true by decide +kernel)) rfl ⟨_, rfl, x3, ?_⟩
   rw [hch, chgZ_nil]
   exact ⟨v', rfl, hO3.weaken (by omega)⟩
  ·have he0 : ¬ ((rcells rs').length : Int) = 0 := by
    have := List.length_pos_iff.2 he
    omega
   (repeat' first | ((with_reducible refine nx0 ?_); go_step) | ((with_reducible refine o_s ?_); first | refine wk0 ?_ | (refine wg0 ?_ ?_ <;> intro hc)) | fail)
   all_goals first
    | (exact absurd ‹((rcells rs').length : Int) = 0› he0)
    | skip
   have hpn := partN_le he
   obtain ⟨hg0, hsv0⟩ := parts hs0 hpn.2
   refine wpl_callV (enters_of Tryz.func214 rfl rfl) rfl rfl (p_part rv' rs' _ hs he (by omega)) ?_; intro w3 x3; refine gset ?_
   generalize cutSl rv' 4 0 (partN rs') = gv at *
   generalize cutSl rv' 4 (partN rs') rs'.length = sv at *
   have hg := hg0.ext (hx.trans x3)
   have hsv := hsv0.ext (hx.trans x3)
   (repeat' first | ((with_reducible refine nx0 ?_); go_step) | ((with_reducible refine o_s ?_); first | refine wk0 ?_ | (refine wg0 ?_ ?_ <;> intro hc)) | fail)
   ·have hre : rs'.drop (partN rs') = [] := by
     have h0 : ((rcells (rs'.drop (partN rs'))).length : Int) = 0 := by assumption
     rw [rcells_length] at h0
     exact List.eq_nil_of_length_eq_zero (by omega)
    refine wpl_run (v := .agg zzone.toArray) rfl (Runs.build0 (by kernel_rfl)) ?_
    refine gset ?_
    refine wpl_storeB (v := .agg zzone.toArray) rfl rfl rfl (x3.at hy) (show sizeTy Tryz.prog 34 2 = true by decide +kernel) rfl (by decide +kernel) ?_
    intro w4 p4
    (repeat' first | ((with_reducible refine nx0 ?_); go_step) | ((with_reducible refine o_s ?_); first | refine wk0 ?_ | (refine wg0 ?_ ?_ <;> intro hc)) | fail)
    simp only [Exit.inBlock, Exit.then, Exit.jump]
    have x4 : Ext w w4 := (hx.trans x3).move p4.mv (by rintro k ⟨⟩; omega)
    refine bodyPost_ret (results_cellT (cs := zzone) rfl rfl p4.this (by decide +kernel)) rfl ⟨_, rfl, x4, ?_⟩
    rw [hch, chgZ_cons _ _ he, if_pos hre]
    exact ZEU.bad
   ·have hre : rs'.drop (partN rs') ≠ [] := by
     intro e
     have h0 : ¬ ((rcells (rs'.drop (partN rs'))).length : Int) = 0 := by assumption
     rw [e] at h0
     exact h0 rfl
    obtain ⟨hc0, htv0⟩ := parts hsv0 (partN_le hre).2
    refine wpl_callV (enters_of Tryz.func214 rfl rfl) rfl rfl (p_part sv _ _ hsv hre (by rw [List.length_drop]; omega)) ?_; intro w4 x4; refine gset ?_
    generalize cutSl sv 4 0 (partN (rs'.drop (partN rs'))) = cv at *
    generalize cutSl sv 4 (partN (rs'.drop (partN rs'))) (rs'.drop (partN rs')).length = tv at *
    have hc := hc0.ext (hx.trans (x3.trans x4))
    have htv := htv0
    (repeat' first | ((with_reducible refine nx0 ?_); go_step) | ((with_reducible refine o_s ?_); first | refine wk0 ?_ | (refine wg0 ?_ ?_ <;> intro hc)) | fail)
    have hy4 := (x3.trans x4).at hy
    have hz4 := (x3.trans x4).at hz
    have hv4 := hv'.ext (x3.trans x4)
    have hg4 := hg.ext x4
    have hx4 := hx.trans (x3.trans x4)
    have hpz4 := pts_block (cs := [str o', v']) hz4
    obtain ⟨gone, hgone⟩ : ∃ gone, gone = rs'.take (partN rs') := ⟨_, rfl⟩
    obtain ⟨rest, hrest⟩ : ∃ rest, rest = rs'.drop (partN rs') := ⟨_, rfl⟩
    obtain ⟨come, hcome⟩ : ∃ come, come = rest.take (partN rest) := ⟨_, rfl⟩
    obtain ⟨tail, htail⟩ : ∃ tail, tail = rest.drop (partN rest) := ⟨_, rfl⟩
    have hstep := chgZ_cons o' l' he
    rw [← hgone, ← hrest] at hstep
    rw [← hcome, ← htail] at hstep
    rw [← hgone] at hg4
    rw [← hrest, ← hcome] at hc
    rw [← hrest, ← htail] at htv
    rw [← hrest] at hre
    have hgne : gone ≠ [] := by
     intro e
     have h0 := congrArg List.length e
     have := partN_le he
     rw [hgone, List.length_take, List.length_nil] at h0
     omega
    have hcne : come ≠ [] := by
     intro e
     have h0 := congrArg List.length e
     have := partN_le hre
     rw [hcome, List.length_take, List.length_nil] at h0
     omega
    have hmg : ∀ q ∈ gone, q ∈ rs := fun q hq => hmem q (List.mem_of_mem_take (hgone ▸ hq))
    have hmr : ∀ q ∈ rest, q ∈ rs := fun q hq => hmem q (List.mem_of_mem_drop (hrest ▸ hq))
    have hmc : ∀ q ∈ come, q ∈ rs := fun q hq => hmr q (List.mem_of_mem_take (hcome ▸ hq))
    have hmt : ∀ q ∈ tail, q ∈ rs := fun q hq => hmr q (List.mem_of_mem_drop (htail ▸ hq))
    have hln : rest.length ≤ rs'.length ∧ come.length ≤ rest.length ∧ tail.length < rest.length := by
     have h3 := partN_le hre
     rw [hcome, htail, List.length_take, List.length_drop]
     refine ⟨?_, by omega, by omega⟩
     rw [hrest, List.length_drop]; omega
    have hgd := dn _ (hmg _ (headOf_mem hgne))
    have hcd := dn _ (hmc _ (headOf_mem hcne))
    have pg : Pts w4 (elemPtr gv (0 * 4)) _ := hg4.elem (headOf_at hgne)
    have pc : Pts w4 (elemPtr cv (0 * 4)) _ := hc.elem (headOf_at hcne)
    have hgl : 0 < (rcells gone).length := by rw [rcells_length]; exact List.length_pos_iff.2 hgne
    have hcl : 0 < (rcells come).length := by rw [rcells_length]; exact List.length_pos_iff.2 hcne
    refine wpi_region 16 (Ext w4) (by decide +kernel) ?_
    intro w5 x5 _
    refine ⟨x5, ?_⟩
    refine it0 0 ?_
    refine ip0 1 ?_
    refine ipr0 2 rfl (fun _ => Runs.idxW (n := 0) rfl hg4 hgl (by decide +kernel)) ?_; refine gset ?_
    refine it0 3 ?_
    refine ip0 5 ?_
    refine ipr0 6 rfl (fun _ => Runs.idxW (n := 0) rfl hc hcl (by decide +kernel)) ?_; refine gset ?_
    refine it0 7 ?_
    refine ip0 9 ?_; refine ip0 10 ?_
    refine wpi_op (i := 4) (by decide +kernel) rfl rfl ?_
    refine wpl_callV (enters_of Tryz.func111 rfl rfl) rfl rfl (p_serialOf (headOf gone) _ (by omega)) ?_; intro w6 x6; refine gset ?_
    have x56 := x5.trans x6
    refine wph_nil ⟨till_yes x56, ?_⟩
    refine wpi_op (i := 8) (by decide +kernel) rfl rfl ?_
    refine wpl_callV (enters_of Tryz.func111 rfl rfl) rfl rfl (p_serialOf (headOf come) _ (by omega)) ?_; intro w7 x7; refine gset ?_
    have x7 := x56.trans x7
    refine wph_nil ⟨till_yes x7, ?_⟩
    refine ipr0 11 (v := .agg #[.int .i64 (serOf (headOf gone)), .int .i64 (serOf (headOf come)), gv, cv]) rfl (fun _ => Runs.build rfl (by obtain ⟨_, _, _, rfl⟩ := hg4.slf; obtain ⟨_, _, _, rfl⟩ := hc.slf; kernel_rfl)) ?_; refine gset ?_
    refine wpi_op (i := 12) (by decide +kernel) rfl rfl ?_
    have hD : DelA (dltOf gone come) (.agg #[.int .i64 (serOf (headOf gone)), .int .i64 (serOf (headOf come)), gv, cv]) w7 := ⟨gv, cv, rfl, hg4.ext x7, hc.ext x7⟩
    refine wpl_callR (enters_of Tryz.func215 rfl rfl) rfl rfl (p_Apply o' v' l' w7 (hv4.ext x7) hD bl' dl' h1' (by show come.length ≤ 5000; omega) (fun q hq => dn q (hmc q hq))) ?_
    rintro _ w8 x8 ⟨y, rfl, hO⟩
    refine gset ?_
    refine wph_nil ⟨till_yes (x7.trans x8), ?_⟩
    refine ip0 13 ?_; refine ip0 14 ?_; refine ip0 15 ?_
    refine wpi_op (i := 16) (by decide +kernel) rfl rfl ?_
    have hy1 : y.oneCell' = true := by obtain ⟨_, hq, _⟩ := hO.sets.sl; exact hq.one
    have hx8 := hx4.trans (x7.trans x8)
    have hz8 := (x7.trans x8).at hz4
    have hy8 := (x7.trans x8).at hy4
    have hsz8 := hx8.size
    have hsz7 := (hx4.trans x7).size
    have hw7 : w2.heap.size ≤ w7.heap.size := Nat.le_trans hsz ((x3.trans x4).trans x7).size
    refine wpl_storeB (v := .agg #[str (appO o' l' (dltOf gone come)), y]) rfl rfl rfl hz8 (show sizeTy Tryz.prog 34 2 = true by decide +kernel) rfl (zone_one hy1) ?_
    intro w9 p9
    refine wph_nil ⟨till_no rfl, ?_⟩
    refine ip0 17 ?_
    refine wpi_done (by decide +kernel) ?_
    have x9 : Ext w w9 := hx8.move p9.mv (by rintro k ⟨⟩; omega)
    have hO9 := hO.put p9 (by omega)
    have hy9 := p9.mv.at hy8 (by rintro ⟨⟩; omega)
    by_cases e0 : appE o' l' (dltOf gone come) = 0
    ·rw [if_neg hre, if_pos e0] at hstep
     obtain ⟨z1, z2⟩ := app_zone e0
     obtain ⟨j1, j2, j3, j4⟩ := zoneJ z1
     (repeat' first | ((with_reducible refine nx0 ?_); go_step) | ((with_reducible refine o_s ?_); first | refine wk0 ?_ | (refine wg0 ?_ ?_ <;> intro hc)) | fail)
     go_step3
     simp only [Exit.inBlock, Exit.then, Exit.jump]
     refine ⟨rfl, ⟨tail, _, _, y, tv, _, _, _, _, _, _, _, _, _, _, _, _, _, _, _, _, _, _, _, _, _, _, _, _, _, _, _, _, _, _, _, _, _, _, _, _, _, _, _, _, _, _, _, _, _, _, rfl, htv, p9.this, hy9, hO9.sets, .inr (hO9.weaken hw7), hch.trans hstep, x9, by have := p9.size; have := x8.size; omega, hmt, by omega, fun s hs => by have := j2 s hs; omega, fun s hs d hd => by have := j3 s hs d hd; omega, by omega⟩, ?_⟩
     show slLen tv < slLen rv'
     rw [htv.slLen, hs0.slLen, rcells_length, rcells_length]
     omega
    ·rw [if_neg hre, if_neg e0] at hstep
     (repeat' first | ((with_reducible refine nx0 ?_); go_step) | ((with_reducible refine o_s ?_); first | refine wk0 ?_ | (refine wg0 ?_ ?_ <;> intro hc)) | fail)
     all_goals
      refine wpl_run (v := .agg zzone.toArray) rfl (Runs.build0 (by kernel_rfl)) ?_
      refine gset ?_
      (repeat' first | ((with_reducible refine nx0 ?_); go_step) | ((with_reducible refine o_s ?_); first | refine wk0 ?_ | (refine wg0 ?_ ?_ <;> intro hc)) | fail)
      refine wpl_storeB (v := .agg zzone.toArray) rfl rfl rfl hy9 (show sizeTy Tryz.prog 34 2 = true by decide +kernel) rfl (by decide +kernel) ?_
      intro w10 p10
      (repeat' first | ((with_reducible refine nx0 ?_); go_step) | ((with_reducible refine o_s ?_); first | refine wk0 ?_ | (refine wg0 ?_ ?_ <;> intro hc)) | fail)
      simp only [Exit.inBlock, Exit.then, Exit.jump]
      have x10 : Ext w w10 := x9.move p10.mv (by rintro k ⟨⟩; omega)
      refine bodyPost_ret (results_cellT (cs := zzone) rfl rfl p10.this (by decide +kernel)) rfl ⟨_, rfl, x10, ?_⟩
      rw [hch, hstep]
     ·rw [if_pos (by assumption)]; exact ZEU.bad
     ·rw [if_neg (by assumption)]; exact ZEU.bad
 ·intro hp
  (repeat' first | ((with_reducible refine nx0 ?_); go_step) | ((with_reducible refine o_s ?_); first | refine wk0 ?_ | (refine wg0 ?_ ?_ <;> intro hc)) | fail)
  go_step3
  (first | ((with_reducible refine nx0 ?_); go_step) | fail)
  (first | ((with_reducible refine nx0 ?_); go_step) | fail)
  refine hp _ _ ?_
  exact ⟨rs, l, o, v, rv, _, _, _, _, _, _, _, _, _, _, _, _, _, _, _, _, _, _, _, _, _, _, _, _, _, _, _, _, _, _, _, _, _, _, _, _, _, _, _, _, _, _, _, _, _, _, rfl, hr, x2.at hb1, hb2, hv.ext (x1.trans x2), .inl hne, rfl, x1.trans x2, Nat.le_refl _, fun q hq => hq, h2, bl, dl, h1⟩
section
variable {P : Program} {w w' : World} {d : Option Nat} {ty : TypeId} {ps : String} {af : Array Edge} {g : Option (Nat × Bool)} {a : Act}
theorem Runs.toU {s t : TypeId} {x : Operand} {n : Nat} (hx : a.eval x = .int .i64 (n : Nat)) (hu : intTy P s .i64 = true) (ht : intTy P t .u64 = true) (h : n < 4611686018427387904) :
 Runs P (Oper.mk d (.convert s t x) ty ps af g) a w (.int .u64 (n : Nat)) := Runs.convI hx hu ht (IntWalk.u64_in _ (by omega))
theorem Runs.ofU {s t : TypeId} {x : Operand} {n : Nat} (hx : a.eval x = .int .u64 (n : Nat)) (hu : intTy P s .u64 = true) (ht : intTy P t .i64 = true) (h : n < 4611686018427387904) :
 Runs P (Oper.mk d (.convert s t x) ty ps af g) a w (.int .i64 (n : Nat)) := Runs.convI hx hu ht (IntWalk.i64_in _ (by omega))
theorem Runs.shrU {t u : TypeId} {x y : Operand} {m : Nat} (hx : a.eval x = .int .u64 (m : Nat)) (hy : a.eval y = .int .u64 1) :
 Runs P (Oper.mk d (.binOp .shr t x y u) ty ps af g) a w (.int .u64 ((m / 2 : Nat) : Int)) := by
 have e : min (1 : Int).toNat IntKind.u64.bits = 1 := by decide
 constructor; simp only [execOp, hx, hy, eqGuard, binOp, shift_shr_any _ _ _ _ (by decide : (0 : Int) ≤ 1), e, Int.pow_one]; simp
theorem Runs.subE {t u : TypeId} {x y : Operand} {m n : Nat} (k : Nat) (hx : a.eval x = .int .i64 (m : Nat)) (hy : a.eval y = .int .i64 (n : Nat)) (h : m = n + k) (hm : m < 4611686018427387904) :
 Runs P (Oper.mk d (.binOp .sub t x y u) ty ps af g) a w (.int .i64 (k : Nat)) := by
 have h1 := Runs.sub (P := P) (w := w) (d := d) (ty := ty) (ps := ps) (af := af) (g := g) (t := t) (u := u) hx hy (by omega)
 rwa [show (m : Int) - (n : Int) = (k : Int) by omega] at h1
end
set_option maxHeartbeats 4000000 in
theorem p_rotate {B : Nat} (v : Value) (x : Option Rec) (os : List Rec) (s m : Nat) (f : Value) (w : World) (h : Sx x os m) (ho : Own B 4 81 w v (rcells (stR x os m))) (hs : s < m) (hm : m < stN x os) (hl : stN x os ≤ 1000000) :
 Calls Tryz.prog 271 #[v, .int .i64 s, .int .i64 m, .int .i64 (m + 1 : Nat), f] w fun e w' => e = .returned (.tuple #[]) ∧ Own B 4 81 w' v (rcells (stR x os s)) ∧ Mv v.ownBlock w w' := by
 have hD := stR_len h
 have hrot := rotR_all h hm hs
 generalize hDe : stR x os m = D at *
 go_enter Tryz.func271, Tryz.ntmps271
 repeat' (first | ((with_reducible refine nx0 ?_); go_step) | fail)
 ((with_reducible refine o_s ?_); (first | (refine o_1 ?_; refine o_2 ?_) | (refine o_g ?_; refine o_u ?_; (with_reducible refine o_s ?_); refine o_1 ?_; refine o_2 ?_)))
 ((with_reducible refine o_s ?_); (first | (refine o_1 ?_; refine o_2 ?_) | (refine o_g ?_; refine o_u ?_; (with_reducible refine o_s ?_); refine o_1 ?_; refine o_2 ?_)))
 refine wpl_run0 (Runs.subE (m - s) rfl rfl (by omega) (by omega)) ?_
 refine gset ?_
 ((with_reducible refine o_s ?_); (first | (refine o_1 ?_; refine o_2 ?_) | (refine o_g ?_; refine o_u ?_; (with_reducible refine o_s ?_); refine o_1 ?_; refine o_2 ?_)))
 repeat' (first | ((with_reducible refine nx0 ?_); go_step) | fail)
 ((with_reducible refine o_s ?_); (first | (refine o_1 ?_; refine o_2 ?_) | (refine o_g ?_; refine o_u ?_; (with_reducible refine o_s ?_); refine o_1 ?_; refine o_2 ?_)))
 ((with_reducible refine o_s ?_); (first | (refine o_1 ?_; refine o_2 ?_) | (refine o_g ?_; refine o_u ?_; (with_reducible refine o_s ?_); refine o_1 ?_; refine o_2 ?_)))
 refine wpl_run0 (Runs.subE 1 rfl rfl (by omega) (by omega)) ?_
 refine gset ?_
 (repeat' first | ((with_reducible refine nx0 ?_); go_step) | ((with_reducible refine o_s ?_); refine wk0 ?_) | fail)
 go_loopw [10, 11] (fun i j wr => ∃ t : Nat, t < m - s ∧ i = .int .i64 ((m - s - t : Nat) : Int) ∧ j = .int .i64 ((1 : Nat) : Int) ∧ Own B 4 81 wr v (rcells (rotR D s m t)) ∧ Mv v.ownBlock w wr) (fun i _ _ => (intOf i).toNat)
 case atStart => exact ⟨0, by omega, rfl, rfl, ho, Mv.refl _ _⟩
 case round =>
  obtain ⟨t, ht, rfl, rfl, ho1, m1⟩ := hrel
  have hrl := rotR_len D s m t
  obtain ⟨i, hi⟩ : ∃ i, i = m - s - t := ⟨_, rfl⟩
  rw [← hi]
  by_cases h1 : i = 1
  ·subst h1
   (repeat' first | ((with_reducible refine nx0 ?_); go_step) | ((with_reducible refine o_s ?_); first | refine wk0 ?_ | (refine wg0 ?_ ?_ <;> intro hc)) | fail)
   rw [show (m : Int) - ((1 : Nat) : Int) = ((s + t : Nat) : Int) by omega]
   refine wpl_callG (enters_of Tryz.func276 rfl rfl) rfl rfl (p_swap1 v _ (s + t) m f wr ho1 (by omega) (by omega) (by omega)) ?_
   rintro e w4 ⟨rfl, o4, m4⟩
   refine ⟨_, rfl, ?_⟩
   refine gset ?_
   (repeat' first | ((with_reducible refine nx0 ?_); go_step) | ((with_reducible refine o_s ?_); first | refine wk0 ?_ | (refine wg0 ?_ ?_ <;> intro hc)) | fail)
   go_end0
   have e : swR (rotR D s m t) (s + t) m = rotR D s m (m - s) := by
    rw [show m - s = t + 1 by omega]; rfl
   rw [e, hrot] at o4
   exact ⟨rfl, o4, m1.trans m4⟩
  ·have e1 : (!decide ((i : Int) = ((1 : Nat) : Int))) = true := by simp; omega
   (repeat' first | ((with_reducible refine nx0 ?_); go_step) | ((with_reducible refine o_s ?_); first | refine wk0 ?_ | (refine wg0 ?_ ?_ <;> intro hc)) | fail)
   all_goals first
    | (exfalso
       have hh := ‹(!decide ((i : Int) = ((1 : Nat) : Int))) = false›
       rw [e1] at hh
       cases hh
       done)
    | skip
   rw [show (m : Int) - (i : Int) = ((s + t : Nat) : Int) by omega]
   refine wpl_callG (enters_of Tryz.func276 rfl rfl) rfl rfl (p_swap1 v _ (s + t) m f wr ho1 (by omega) (by omega) (by omega)) ?_
   rintro e w4 ⟨rfl, o4, m4⟩
   refine ⟨_, rfl, ?_⟩
   refine gset ?_
   (repeat' first | ((with_reducible refine nx0 ?_); go_step) | ((with_reducible refine o_s ?_); first | refine wk0 ?_ | (refine wg0 ?_ ?_ <;> intro hc)) | fail)
   refine ⟨⟨t + 1, by omega, by rw [show ((m - s - (t + 1) : Nat) : Int) = (i : Int) - 1 by omega]; rfl, rfl, o4, m1.trans m4⟩, by simp [intOf]; omega⟩
theorem mem_dropLast' {α : Type} {l : List α} {x : α} (h : x ∈ l.dropLast) : x ∈ l := by rw [List.dropLast_eq_take] at h; exact List.mem_of_mem_take h
theorem ZEU.cell {B : Nat} {q : ZE} {r : Value} {w : World} (h : ZEU B q r w) : ∃ y, r = .tuple #[.agg #[str q.o, y], .int .i64 q.e] ∧ SetsO B w y q.l ∧ y.oneCell' = true := by
 obtain ⟨y, rfl, hy⟩ := h
 obtain ⟨_, hq, _⟩ := hy.sets.sl
 exact ⟨y, rfl, hy, hq.one⟩
theorem rc_at {l : List Rec} {i : Nat} (h : i < l.length) : (rcells l)[i]? = some [str (l.getD i zeroRec).name, .int .i64 (l.getD i zeroRec).kind, .int .i64 (l.getD i zeroRec).ttl, str (l.getD i zeroRec).data] := getD_at h
set_option maxHeartbeats 8000000 in
theorem p_told (oo : List UInt8) (v : Value) (lo : List RSet) (og : List UInt8) (lv : Value) (l : List Rec) (w : World) (hv : SetsAt w v lo) (hl : Sl 4 w lv (rcells l)) (bl : ∀ s ∈ lo, s.data.length ≤ 1000000) (dl : ∀ s ∈ lo, ∀ d ∈ s.data, d.length ≤ 1000000) (h1 : (recordsS lo).length ≤ 5000) (h2 : l.length ≤ 5000) (h3 : 3 ≤ l.length) (dn : ∀ q ∈ l, q.data.length ≤ 1000000) :
 Calls Tryz.prog 110 #[.agg #[str oo, v], str og, lv] w (Ret w (ZEU w.heap.size (toldZ oo lo og l))) := by
 have hrl := rcells_length l
 have hpe : Pts w (elemPtr lv (1 * 4)) _ := hl.elem (rc_at (i := 1) (by omega))
 go_enter Tryz.func110, Tryz.ntmps110
 repeat' (first | ((with_reducible refine nx0 ?_); go_step) | fail)
 refine wpl_box (vs := [str oo, v]) rfl rfl ?_
 intro p w1 x1 hp
 refine gset ?_
 refine wpl_allocB (z := zzone) rfl (by decide +kernel) ?_
 intro w2 x2 s2 hb2
 have hx2 := x1.trans x2
 have hsz2 := x1.size
 generalize hbe : w1.heap.size = b at *
 refine gset ?_
 ((with_reducible refine o_s ?_); (first | (refine o_1 ?_; refine o_2 ?_) | (refine o_g ?_; refine o_u ?_; (with_reducible refine o_s ?_); refine o_1 ?_; refine o_2 ?_)))
 repeat' (first | ((with_reducible refine nx0 ?_); go_step) | fail)
 ((with_reducible refine o_s ?_); (first | (refine o_1 ?_; refine o_2 ?_) | (refine o_g ?_; refine o_u ?_; (with_reducible refine o_s ?_); refine o_1 ?_; refine o_2 ?_)))
 ((with_reducible refine o_s ?_); (first | (refine o_1 ?_; refine o_2 ?_) | (refine o_g ?_; refine o_u ?_; (with_reducible refine o_s ?_); refine o_1 ?_; refine o_2 ?_)))
 rw [hrl]
 refine wpl_run0 (Runs.subE (m := l.length) (n := 1) (l.length - 1) rfl rfl (by omega) (by omega)) ?_
 refine gset ?_
 (repeat' first | ((with_reducible refine nx0 ?_); go_step) | ((with_reducible refine o_s ?_); first | refine wk0 ?_ | (refine wg0 ?_ ?_ <;> intro hc)) | fail)
 refine wpl_callV (enters_of Tryz.func109 rfl rfl) rfl rfl (p_isSoa (l.getD 1 zeroRec) _) ?_; intro w3 x3; refine gset ?_
 have hx3 := hx2.trans x3
 have hp3 := hp.ext (x2.trans x3)
 obtain ⟨hq1, hq2⟩ := parts hl (n := l.length - 1) (by omega)
 have hdl : l.take (l.length - 1) = l.dropLast := (List.dropLast_eq_take ..).symm
 cases hs : isSoaR (l.getD 1 zeroRec) with
 | false =>
  have ht : toldZ oo lo og l = ⟨loadE og l.dropLast, loadO og l.dropLast, loadL og l.dropLast⟩ := by rw [toldZ, if_pos hs]
  have hl3 := hl.ext hx3
  (repeat' first | ((with_reducible refine nx0 ?_); go_step) | ((with_reducible refine o_s ?_); first | refine wk0 ?_ | (refine wg0 ?_ ?_ <;> intro hc)) | fail)
  rw [hdl] at hq1
  refine wpl_callR (enters_of Tryz.func21 rfl rfl) rfl rfl (p_Load og _ l.dropLast _ (hq1.ext hx3) (by rw [List.length_dropLast]; omega) (fun r hr => by have := dn r (mem_dropLast' hr); omega)) ?_
  rintro _ w4 x4 hU
  obtain ⟨y, rfl, hO, hy1⟩ := ZEU.cell (q := ⟨loadE og l.dropLast, loadO og l.dropLast, loadL og l.dropLast⟩) hU
  refine gset ?_
  (repeat' first | ((with_reducible refine nx0 ?_); go_step) | ((with_reducible refine o_s ?_); first | refine wk0 ?_ | (refine wg0 ?_ ?_ <;> intro hc)) | fail)
  refine wpl_storeB (v := .agg #[str (loadO og l.dropLast), y]) rfl rfl rfl ((x3.trans x4).at hb2) (show sizeTy Tryz.prog 34 2 = true by decide +kernel) rfl (zone_one hy1) ?_
  intro w5 p5
  have hx4 := hx3.trans x4
  have x5 : Ext w w5 := hx4.move p5.mv (by rintro k ⟨⟩; omega)
  have hs3 := x3.size
  have hO5 := hO.put p5 (by omega)
  (repeat' first | ((with_reducible refine nx0 ?_); go_step) | ((with_reducible refine o_s ?_); first | refine wk0 ?_ | (refine wg0 ?_ ?_ <;> intro hc)) | fail)
  refine bodyPost_ret (results_cellT (cs := [str (loadO og l.dropLast), y]) rfl rfl p5.this (show aggTy Tryz.prog 34 2 = true by decide +kernel)) rfl ⟨_, rfl, x5, ?_⟩
  rw [ht]
  exact ⟨y, rfl, hO5.weaken (by have := hx3.size; omega)⟩
 | true =>
  have ht : toldZ oo lo og l = if lo = [] then ZE.bad 5 else chgZ oo lo (l.dropLast.drop 1) := by rw [toldZ, if_neg (by rw [hs]; exact fun e => Bool.noConfusion e)]
  obtain ⟨cv, hcv, hcl⟩ := (hv.ext hx3).sl
  have hb3 := x3.at hb2
  have hs3 := x3.size
  (repeat' first | ((with_reducible refine nx0 ?_); go_step) | ((with_reducible refine o_s ?_); first | refine wk0 ?_ | (refine wg0 ?_ ?_ <;> intro hc)) | fail)
  ·have hlo : lo = [] := by
    have h0 : (cv.length : Int) = 0 := by assumption
    exact List.eq_nil_of_length_eq_zero (by omega)
   refine wpl_run (v := .agg zzone.toArray) rfl (Runs.build0 (by kernel_rfl)) ?_
   refine gset ?_
   refine wpl_storeB (v := .agg zzone.toArray) rfl rfl rfl hb3 (show sizeTy Tryz.prog 34 2 = true by decide +kernel) rfl (by decide +kernel) ?_
   intro w4 p4
   (repeat' first | ((with_reducible refine nx0 ?_); go_step) | ((with_reducible refine o_s ?_); first | refine wk0 ?_ | (refine wg0 ?_ ?_ <;> intro hc)) | fail)
   have x4 : Ext w w4 := hx3.move p4.mv (by rintro k ⟨⟩; omega)
   refine bodyPost_ret (results_cellT (cs := zzone) rfl rfl p4.this (by decide +kernel)) rfl ⟨_, rfl, x4, ?_⟩
   rw [ht, if_pos hlo]
   exact ZEU.bad
  ·have hlo : lo ≠ [] := by
    rintro rfl
    have h0 : ¬ (cv.length : Int) = 0 := by assumption
    exact h0 (by rw [hcl]; rfl)
   have hcut := hl.cut (m := 1) (n := l.length - 1) (by omega) (by omega)
   have e1 : ((rcells l).take (l.length - 1)).drop 1 = rcells (l.dropLast.drop 1) := by rw [← hdl]; simp [rcells, List.map_take, List.map_drop]
   rw [e1] at hcut
   refine wpi_region 7 (Ext w3) (by decide +kernel) ?_
   intro w4 x4 _
   refine ⟨x4, ?_⟩
   have hl3 := hl.ext hx3
   refine it0 0 ?_
   refine ip0 1 ?_; refine ip0 2 ?_
   refine it0 3 ?_
   refine wpi_op (i := 4) (by decide +kernel) rfl rfl ?_
   refine wpl_callR (enters_of Tryz.func167 rfl rfl) rfl rfl (p_changed oo v lo _ (l.dropLast.drop 1) w4 (hv.ext (hx3.trans x4)) (hcut.ext (hx3.trans x4)) bl dl h1 (by rw [List.length_drop, List.length_dropLast]; omega) (fun q hq => dn q (mem_dropLast' (List.mem_of_mem_drop hq))) (by
    intro e
    have := congrArg List.length e
    rw [List.length_drop, List.length_dropLast, List.length_nil] at this
    omega)) ?_
   rintro _ w5 x5 hU
   obtain ⟨y, rfl, hO, hy1⟩ := hU.cell
   refine gset ?_
   refine wph_nil ⟨till_yes (x4.trans x5), ?_⟩
   refine ip0 5 ?_; refine ip0 6 ?_
   refine wpi_op (i := 7) (by decide +kernel) rfl rfl ?_
   have hx5 := hx3.trans (x4.trans x5)
   have hs5 := hx3.size
   have hs6 := x4.size
   refine wpl_storeB (v := .agg #[str (chgZ oo lo (l.dropLast.drop 1)).o, y]) rfl rfl rfl ((x4.trans x5).at hb3) (show sizeTy Tryz.prog 34 2 = true by decide +kernel) rfl (zone_one hy1) ?_
   intro w6 p6
   refine wph_nil ⟨till_no rfl, ?_⟩
   refine ip0 8 ?_
   refine wpi_done (by decide +kernel) ?_
   have x6 : Ext w w6 := hx5.move p6.mv (by rintro k ⟨⟩; omega)
   have hO6 := hO.put p6 (by omega)
   (repeat' first | ((with_reducible refine nx0 ?_); go_step) | ((with_reducible refine o_s ?_); first | refine wk0 ?_ | (refine wg0 ?_ ?_ <;> intro hc)) | fail)
   refine bodyPost_ret (results_cellT (cs := [str (chgZ oo lo (l.dropLast.drop 1)).o, y]) rfl rfl p6.this (show aggTy Tryz.prog 34 2 = true by decide +kernel)) rfl ⟨_, rfl, x6, ?_⟩
   rw [ht, if_neg hlo]
   exact ⟨y, rfl, hO6.weaken (by omega)⟩
end Go.Proofs.X
